/- ref14.Part. -/
import Derived.Test.YtmlbdblnmbmnpaaGreatDoorProg
import Derived.WalkKit
import Derived.WalkSpells
import Derived.WalkLawsBesides
import Derived.Lib.Hide
import Derived.Deep.RegionWith
import Derived.Deep.Cut
import Derived.IntWalk
import Derived.Test.YtmlbdblnmbmnpaaGreatDoorDefU
import Derived.Test.YtmlbdblnmbmnpaaGreatDoorROffA
import Derived.Test.YtmlbdblnmbmnpaaGreatDoorRFH5
set_option linter.unusedVariables false
set_option linter.unusedSimpArgs false
namespace Go.Proofs.YtmlbdblnmbmnpaaGreatDoor
open Go.RowKit Tryst
set_option maxHeartbeats 4000000
set_option maxRecDepth 20000
/-- a definition's box and an event's -/
structure DE2 (w v : World) (g0 g1 : Nat) (nm : ByteArray) (G U : Value) (ky kd : ByteArray) (n0 n1 n2 : Int) (t p : ByteArray) (q : Int) (u : Value) : Prop where
 d : DX v g0 nm G U ky kd n0 n1 n2
 e : EX v g1 t p q u
 l : Below w.heap.size w v
theorem DE2.grow {w v v' : World} {g0 g1 : Nat} {nm : ByteArray} {G U : Value} {ky kd : ByteArray} {n0 n1 n2 : Int} {t p : ByteArray} {q : Int} {u : Value} (h : DE2 w v g0 g1 nm G U ky kd n0 n1 n2 t p q u) (hb : Below v.heap.size v v') : DE2 w v' g0 g1 nm G U ky kd n0 n1 n2 t p q u := ⟨h.d.grow hb, h.e.grow hb, bstep hb h.l⟩
theorem DE2.new (w : World) (nm : ByteArray) (G U : Value) (ky kd : ByteArray) (n0 n1 n2 : Int) (t p : ByteArray) (q : Int) (u : Value) :
  DE2 w ((w.alloc (.cells #[.string nm, G, U, .string ky, .string kd, .int .i64 n0, .int .i64 n1, .int .i64 n2] 27)).alloc (.cells #[.string t, .string p, .int .u64 q, u] 63)) w.heap.size (w.heap.size + 1) nm G U ky kd n0 n1 n2 t p q u := by
 have e1 := EX.new (w.alloc (.cells #[.string nm, G, U, .string ky, .string kd, .int .i64 n0, .int .i64 n1, .int .i64 n2] 27)) t p q u
 rw [show (w.alloc (.cells #[.string nm, G, U, .string ky, .string kd, .int .i64 n0, .int .i64 n1, .int .i64 n2] 27)).heap.size = w.heap.size + 1 by simp] at e1
 exact ⟨(DX.new _ _ _ _ _ _ _ _ _).grow (balloc _ (.refl _ _)), e1, balloc _ (balloc _ (.refl _ _))⟩
theorem mayD_all {d : DB} (h : mayD d = true) : ∀ p ∈ d.wl, mayP p.pr = true := by
 unfold mayD at h
 simp only [Bool.and_eq_true, List.all_eq_true] at h
 exact h.2.2.2.2.2.2.2
def RPrt (w1 : World) (l : List PB) (f : PB → Bool) (i : Value) (wr : World) : Prop := ∃ k : Nat, k ≤ l.length ∧ i = .int .i64 k ∧ Hid (∀ (j : Nat) (h : j < l.length), j < k → f l[j] = false) ∧ Hid (Below w1.heap.size w1 wr)
set_option maxHeartbeats 8000000 in
theorem rdPart_c (d : DB) (t p : ByteArray) (q : Int) (ea : Option Addr) (fl : List FB) (ec : Nat) (ht : t.size ≤ 100000) (hfl : fl.length ≤ 1000000000) (w : World) (hD : DO w d) (hF : Flds w ea fl) :
  Calls Tryz.prog 37 #[d.agg, .agg #[.string t, .string p, .int .u64 q, .slice ea fl.length ec]] w fun e w' => e = .returned (.int .i64 (partD d t fl)) ∧ Below w.heap.size w w' := by
 have CM := Lib.hid (fun W (hb : Below w.heap.size w W) => rdmay_c d W (hD.grow hb))
 have HU := Lib.hid (fun W (hb : Below w.heap.size w W) => hD.wR.grow hb)
 have cH := (fun (hm : mayD d = true) (k : Nat) (hk : k < d.wl.length) W (hb : Below w.heap.size w W) => rholds5_c t p q ea fl ec ht hfl 8 d.wl[k] (by
  have := mayD_all hm _ (List.getElem_mem hk)
  rw [mayP_eq, Bool.and_eq_true] at this
  exact this.1) W ((hD.wR.po _ (List.getElem_mem hk)).1.grow hb) (hF.grow hb))
 have hma := fun (hm : mayD d = true) => mayD_all hm
 have hlw := hD.hw
 unfold PB.agg at cH
 have CH := Lib.hid cH
 obtain ⟨R, hR⟩ : ∃ R, partD d t fl = R := ⟨_, rfl⟩
 rw [hR]
 unfold partD at hR
 clear hD cH hF
 obtain ⟨mb, hmb⟩ : ∃ b, mayD d = b := ⟨_, rfl⟩
 rw [hmb] at CM hR CH hma
 obtain ⟨nm, ga, gl, gc, wa, wl, wc, ky, ⟨kd, pp, n, x⟩⟩ := d
 unfold DB.agg at CM ⊢
 simp only at CM CH HU hR hma hlw ⊢
 clear hmb
 have HR := Lib.hid hR
 have HMA := Lib.hid hma
 clear hR hma
 go_enter Tryz.func37, Tryz.ntmps37
 go_upto_region 1 with fail
 refine wp_genC (fun v => Hid (DE2 w v w.heap.size (w.heap.size + 1) nm (.slice ga gl.length gc) (.slice wa wl.length wc) ky kd pp n x t p q (.slice ea fl.length ec))) (DE2.new _ _ _ _ _ _ _ _ _ _ _ _ _) ?_
 rintro Y HY
 generalize w.heap.size + 1 = g1 at HY ⊢
 have HB0 := Lib.hid HY.out.l
 generalize w.heap.size = g0 at HY ⊢
 cases mb with
 | false =>
  have HN : Hid (R = -1) := Lib.hid (by rw [← HR.out]; rfl)
  clear HR
  obtain ⟨x0, x1, x2, x3, x4, x5, x6, x7, x8⟩ := HY.out.d.box
  go_wp2_with fail
  go_loopw [5] (fun i wr => i = .int .i64 0 ∧ Hid (Below Y.heap.size Y wr)) (fun _ _ => 0)
  case atStart => exact ⟨rfl, Lib.hid (.refl _ _)⟩
  case round =>
   clear x0 x1 x2 x3 x4 x5 x6 x7 x8
   obtain ⟨rfl, HW⟩ := hrel
   obtain ⟨wo, rfl⟩ : ∃ wo, wo = wr := ⟨_, rfl⟩
   have HYo := Lib.hid (HY.out.grow HW.out)
   have HBo := Lib.hid HYo.out.l
   obtain ⟨x0, x1, x2, x3, x4, x5, x6, x7, x8⟩ := HYo.out.d.box
   by_cases h0 : (0 : Int) < wl.length
   ·
    go_wp2_with fail
    refine (CM.out _ HBo.out).mono ?_
    rintro e w2 ⟨rfl, hb2⟩
    have HB2 := Lib.hid (bstep hb2 HBo.out)
    clear hb2
    go_wp2_with fail
    go_ret
    exact ⟨ret_int HN.out.symm, HB2.out⟩
   ·
    go_wp2_with fail
    go_ret
    exact ⟨ret_int HN.out.symm, HBo.out⟩
 | true =>
  have HR2 : Hid (idxG (fun x : PB => mayP x.pr && holdsP t fl x.pr) wl = R) := Lib.hid (by rw [← HR.out]; rfl)
  clear HR
  obtain ⟨x0, x1, x2, x3, x4, x5, x6, x7, x8⟩ := HY.out.d.box
  go_wp2_with fail
  go_loopw [5] (fun i wr => RPrt Y wl (fun x : PB => mayP x.pr && holdsP t fl x.pr) i wr) (fun i _ => wl.length - (intOf i).toNat)
  case atStart => exact ⟨0, by omega, rfl, Lib.hid (fun _ _ h => by omega), Lib.hid (.refl _ _)⟩
  case round =>
   clear x0 x1 x2 x3 x4 x5 x6 x7 x8
   obtain ⟨k, hk, rfl, HA, HW⟩ := hrel
   obtain ⟨wo, rfl⟩ : ∃ wo, wo = wr := ⟨_, rfl⟩
   have HYo := Lib.hid (HY.out.grow HW.out)
   have HBo := Lib.hid HYo.out.l
   obtain ⟨x0, x1, x2, x3, x4, x5, x6, x7, x8⟩ := HYo.out.d.box
   by_cases hlt : k < wl.length
   ·
    have hm1 := HMA.out (by trivial) wl[k] (List.getElem_mem hlt)
    have HCH := Lib.hid (CH.out (by trivial) k hlt)
    obtain ⟨hp, hhp⟩ : ∃ b, holdsP t fl wl[k].pr = b := ⟨_, rfl⟩
    rw [hhp] at HCH
    have HPK : Hid ((mayP wl[k].pr && holdsP t fl wl[k].pr) = hp) := Lib.hid (by rw [hm1, hhp]; rfl)
    clear hm1 hhp
    have s1 : (k : Int) < wl.length := by omega
    go_wp2_with fail
    refine (CM.out _ HBo.out).mono ?_
    rintro e w2 ⟨rfl, hb2⟩
    have HY2 := Lib.hid (HYo.out.grow hb2)
    have HW2 := Lib.hid (bstep hb2 HW.out)
    have HB2 := Lib.hid HY2.out.l
    clear hb2 HYo HBo HW x0 x1 x2 x3 x4 x5 x6 x7 x8
    obtain ⟨x0, x1, x2, x3, x4, x5, x6, x7, x8⟩ := HY2.out.d.box
    obtain ⟨e0, e1, e2, e3, e4⟩ := HY2.out.e.box
    obtain ⟨b, o, ha, hb⟩ := (HU.out w2 HB2.out).head hlt
    subst ha
    obtain ⟨_, f0, f1, f2, f3, f4, f5⟩ := Row.pat (HU.out w2 HB2.out).row hlt
    go_upto_region 4 with fail
    refine Tryst2.wp_region_grows [.is (.pointer (some ⟨g0, 2, none⟩)), .is (.slice (some ⟨b, o, none⟩) wl.length wc), .is (.int .i64 (k : Int)), .is (.pointer (some ⟨b, o + k * 6, none⟩)), .is (.agg #[.string wl[k].op, .string wl[k].s, .bool wl[k].num, .int .i64 wl[k].n, .string wl[k].vs, .slice wl[k].a wl[k].l.length wl[k].c]), .is (.agg #[.string t, .string p, .int .u64 q, .slice ea fl.length ec]), .is (.bool hp)] (by kernel_rfl) (by kernel_rfl) ?obl ?fin
    case obl =>
     simp only [YA, YL, YO, YR, Op.operands, Call.operands]
     repeat' apply And.intro
     any_goals trivial
     all_goals (intro tv w' hg hold hd; (try simp at hold); obtain ⟨hcg, hfg, hsg⟩ := YG hg)
     all_goals first | (go_simp; done) | (go_simp; rw [if_neg (by omega)]; exact ⟨.refl _, rfl⟩) | (obtain ⟨⟨g, hvg, hgg, hcell⟩, _⟩ := hd; have hcell0 := hcell 0 (by decide); simp at hcell0; go_simp; done) | (go_simp; go_at_call 33; (with_reducible refine (HCH.out _ ?_).mono ?_); (exact bstep (Tryst2.Grow.below hg (.refl _ _)) HB2.out); rintro e w5 ⟨rfl, hb5⟩; exact ⟨hb5, rfl⟩)
    case fin =>
     intro tv w' hg hR
     simp only [YF, YL, YR] at hR
     obtain ⟨hcg, hfg, hsg⟩ := YG hg
     simp only [YP, YL, Act.put, hR]
     have HW9 := Lib.hid (bstep (Tryst2.Grow.below hg (.refl _ _)) HW2.out)
     have HB9 := Lib.hid (bstep (Tryst2.Grow.below hg (.refl _ _)) HB2.out)
     clear hg hR hcg hfg hsg
     cases hp with
     | true =>
      have HN := Lib.hid ((idxG_yes (p := fun x : PB => mayP x.pr && holdsP t fl x.pr) hlt HA.out HPK.out).symm.trans HR2.out)
      go_wp2_with fail
      go_ret
      exact ⟨ret_int HN.out, HB9.out⟩
     | false =>
      have HA2 := Lib.hid (idxG_next (p := fun x : PB => mayP x.pr && holdsP t fl x.pr) hlt HA.out HPK.out)
      go_wp2_with fail
      go_roundw
      case rel => exact ⟨k + 1, by omega, by go_num, HA2, HW9⟩
      case measure => simp [intOf] <;> omega
   ·
    have HN := Lib.hid ((idxG_no (p := fun x : PB => mayP x.pr && holdsP t fl x.pr) (by omega : wl.length ≤ k) HA.out).symm.trans HR2.out)
    go_wp2_with fail
    go_ret
    exact ⟨ret_int HN.out, HBo.out⟩
end Go.Proofs.YtmlbdblnmbmnpaaGreatDoor
