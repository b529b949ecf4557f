/- the law OffsKeys. -/
import Derived.Test.YtmlbdblnmbmnpaaGreatDoorProg
import Derived.WalkKit
import Derived.WalkSpells
import Derived.WalkLawsBesides
import Derived.Lib.Hide
import Derived.Deep.RegionWith
import Derived.Deep.Cut
import Derived.IntWalk
import Derived.Test.YtmlbdblnmbmnpaaGreatDoorKeyP14
import Derived.Test.YtmlbdblnmbmnpaaGreatDoorRPartP14
import Derived.Test.YtmlbdblnmbmnpaaGreatDoorFewDB14
import Derived.Test.YtmlbdblnmbmnpaaGreatDoorAw14
import Derived.Test.YtmlbdblnmbmnpaaGreatDoorOpen14
set_option linter.unusedVariables false
set_option linter.unusedSimpArgs false
namespace Go.Proofs.YtmlbdblnmbmnpaaGreatDoor
open Go.RowKit Tryst
set_option maxHeartbeats 16000000
set_option maxRecDepth 20000
/-- a definition of the call's own -/
def DbP (base : Nat) (v : Value) (w : World) : Prop := ∃ d : DB, v = d.agg ∧ DOB base w d
theorem DbP.at {base : Nat} {v : Value} {w' : World} (h : ∃ w0, Tryst2.Grow w0 w' ∧ DbP base v w0) : DbP base v w' := by
 obtain ⟨w0, hg, d, h1, h2⟩ := h
 exact ⟨d, h1, h2.grow hg⟩
theorem DOB.lower {base base' : Nat} {w : World} {d : DB} (h : DOB base w d) (hb : base' ≤ base) : DOB base' w d :=
 ⟨h.o, fun b o e => Nat.le_trans hb (h.ga b o e), fun b o e => Nat.le_trans hb (h.wa b o e), fun p hp => ⟨(h.ps p hp).1.grow (.refl _ _) (fun b h => Nat.le_trans hb h), (h.ps p hp).2⟩⟩
theorem DbP.of {base : Nat} {w w' : World} {d : DB} (h : DOB w.heap.size w' d) (hb : Below w.heap.size w w') (hz : base ≤ w.heap.size) : Tryst2.Grow w w' ∧ ∃ w0, Tryst2.Grow w0 w' ∧ DbP base d.agg w0 :=
 ⟨hb, w', Tryst2.Grow.refl _, d, rfl, h.lower hz⟩
/-- the stores into an event's box -/
def ES4 (w : World) (g : Nat) (t p : ByteArray) (q : Int) (u : Value) : World := (((w.setCell ⟨g, 0, none⟩ (.string t)).setCell ⟨g, 1, none⟩ (.string p)).setCell ⟨g, 2, none⟩ (.int .u64 q)).setCell ⟨g, 3, none⟩ u
section
variable {w : World} {g : Nat} {t p : ByteArray} {q : Int} {u : Value}
theorem ES4.away {k : Nat} (h : k ≠ g) : (ES4 w g t p q u).heap[k]? = w.heap[k]? := by
 unfold ES4
 repeat rw [Below.heap_setCell _ _ _ _ (show k ≠ _ from h)]
theorem ES4.size : (ES4 w g t p q u).heap.size = w.heap.size := by unfold ES4; simp
theorem ES4.below {B : Nat} {v : World} (hg : B ≤ g) (h : Below B v w) : Below B v (ES4 w g t p q u) := by
 unfold ES4
 exact (((h.setCell (p := ⟨g, 0, none⟩) hg _).setCell (p := ⟨g, 1, none⟩) hg _).setCell (p := ⟨g, 2, none⟩) hg _).setCell (p := ⟨g, 3, none⟩) hg _
theorem ES4.box {t' p' : ByteArray} {q' : Int} {u' : Value} (h : EX w g t' p' q' u') : EX (ES4 w g t p q u) g t p q u := by
 unfold EX at h ⊢
 unfold ES4
 simp [World.setCell, Array.getElem?_modify, h]
theorem EX.fz {t' p' : ByteArray} {q' : Int} {u' : Value} (h : EX w g t' p' q' u') (j : Nat) : w.frozen? ⟨g, j, none⟩ = false := by
 unfold EX at h
 simp [World.frozen?, h]
end
theorem idxG_cases {α : Type} (p : α → Bool) (l : List α) : (idxG p l = -1 ∧ ∀ (k : Nat) (h : k < l.length), p l[k] = false) ∨ ∃ i, ∃ hi : i < l.length, idxG p l = i ∧ p l[i] = true ∧ ∀ (j : Nat) (h : j < i), p (l[j]'(by omega)) = false := by
 unfold idxG
 cases h : l.findIdx? p with
 | none =>
  rw [List.findIdx?_eq_none_iff] at h
  exact .inl ⟨rfl, fun k hk => h _ (List.getElem_mem hk)⟩
 | some i =>
  rw [List.findIdx?_eq_some_iff_getElem] at h
  obtain ⟨hi, h1, h2⟩ := h
  exact .inr ⟨i, hi, rfl, h1, fun j hj => by simpa using h2 j hj⟩
/-- a part is the first of which Where holds -/
theorem part_spec {d : DB} {t : ByteArray} {l : List FB} (hm : mayD d = true) : -1 ≤ partD d t l ∧ partD d t l < d.j.parts ∧ partD d t l < d.wl.length ∧ ∀ (k : Nat) (h : k < d.wl.length), (partD d t l < 0 ∨ (k : Int) ≤ partD d t l) → holdsP t l d.wl[k].pr = decide ((k : Int) = partD d t l) := by
 have hp : (d.wl.length : Int) = d.j.parts ∧ 1 ≤ d.j.parts := by
  unfold mayD mayJ at hm
  simp only [Bool.and_eq_true, decide_eq_true_eq] at hm
  exact ⟨hm.2.2.2.2.1, hm.2.2.2.1.1⟩
 have hma := mayD_all hm
 have hpd : partD d t l = idxG (fun x : PB => mayP x.pr && holdsP t l x.pr) d.wl := by unfold partD; rw [if_pos hm]
 rw [hpd]
 rcases idxG_cases (fun x : PB => mayP x.pr && holdsP t l x.pr) d.wl with ⟨h1, h2⟩ | ⟨i, hi, h1, h2, h3⟩
 ·
  rw [h1]
  refine ⟨by omega, by omega, by omega, fun k hk _ => ?_⟩
  have h4 : (mayP d.wl[k].pr && holdsP t l d.wl[k].pr) = false := h2 k hk
  rw [hma _ (List.getElem_mem hk), Bool.true_and] at h4
  rw [h4, decide_eq_false (by omega)]
 ·
  rw [h1]
  refine ⟨by omega, by omega, by omega, fun k hk hc => ?_⟩
  by_cases e : k = i
  ·
   subst e
   have h4 : (mayP d.wl[k].pr && holdsP t l d.wl[k].pr) = true := h2
   rw [hma _ (List.getElem_mem hk), Bool.true_and] at h4
   rw [h4, decide_eq_true rfl]
  ·
   have h4 : (mayP d.wl[k].pr && holdsP t l d.wl[k].pr) = false := h3 k (by omega)
   rw [hma _ (List.getElem_mem hk), Bool.true_and] at h4
   rw [h4, decide_eq_false (by omega)]
/-- in the law's loop -/
def KysR (w1 : World) (n : Nat) (pt : Int) (i : Value) (wr : World) : Prop := ∃ k : Nat, k ≤ n ∧ Hid (pt < 0 ∨ (k : Int) ≤ pt + 1) ∧ i = .int .i64 k ∧ Hid (Below w1.heap.size w1 wr)
theorem offsKeys_c (d : DB) (t p : ByteArray) (q : Int) (a : Option Addr) (l : List FB) (c : Nat) (ht : t.size ≤ 9223372036854775807) (hp : p.size ≤ 9223372036854775807) (h0 : 0 ≤ q) (h4 : q ≤ 18446744073709551615) (hI : FIn l) (hl : l.length ≤ 9223372036854775807) (w : World) (hM : MaxW w) (hD : DArg w d) (hF : Flds w a l) :
  Calls Tryz.prog 7 #[d.agg, .agg #[.string t, .string p, .int .u64 q, .slice a l.length c]] w fun e w' => e = .returned (.bool true) ∧ Below w.heap.size w w' := by
 obtain ⟨hO, hO2, hlen⟩ := few_ok hI
 have CD := Lib.hid (fun W (hb : Below w.heap.size w W) => fewDB_c d W (hD.grow hb))
 have CE := Lib.hid (fun W (hb : Below w.heap.size w W) => efewO_c t p q a c l hl ht hp (few_in hI) W (hF.grow hb))
 have HM := Lib.hid (fun W (hb : Below w.heap.size w W) => hM.grow hb)
 have u1 := few60_le t
 have u2 := few60_le p
 clear hF hM hI hO hO2 hl ht hp hD
 revert CE hlen u1 u2
 generalize few60 t = t1
 generalize few60 p = p1
 generalize fewL l = L
 intro hlen CE u1 u2
 obtain ⟨nm, ga, gl, gc, wa, wl, wc, ky, ⟨kd, n0, n1, n2⟩⟩ := d
 unfold DB.agg at CD ⊢
 simp only at CD ⊢
 go_enter Tryz.func7, Tryz.ntmps7
 go_upto_region 1 with fail
 refine wp_genC (fun v => Hid (DE2 w v w.heap.size (w.heap.size + 1) nm (.slice ga gl.length gc) (.slice wa wl.length wc) ky kd n0 n1 n2 t p q (.slice a l.length c))) (DE2.new _ _ _ _ _ _ _ _ _ _ _ _ _) ?_
 rintro Y HY
 have hB2 : w.heap.size + 2 ≤ Y.heap.size := by have := HY.out.e.box.lt; omega
 obtain ⟨x0, x1, x2, x3, x4, x5, x6, x7, x8⟩ := HY.out.d.box
 obtain ⟨e0, e1, e2, e3, e4⟩ := HY.out.e.box
 refine Tryst2.wp_region_grows [.is (.agg #[.string nm, .slice ga gl.length gc, .slice wa wl.length wc, .string ky, .string kd, .int .i64 n0, .int .i64 n1, .int .i64 n2]), .any (DbP (w.heap.size + 2)), .is (.agg #[.string t, .string p, .int .u64 q, .slice a l.length c]), .any (EvO (w.heap.size + 2) t1 p1 q L)] (by kernel_rfl) (by kernel_rfl) ?obl ?fin
 case obl =>
  simp only [Tryst2.AllObl, Tryst2.dstL, Tryst2.Obl, Tryst2.depsOf, Y00, Y01, Y02, Y03, Y04, Y05, Y06, Y07, Y08, Y09, Tryst2.depsR, Tryst2.holdR, Tryst2.tmpsOf, Op.operands, Call.operands, Tryst2.Rsp.pred, Y10, Y11, Y12, Y13, Y14, Y15, Y16, Y17, Y18, Y19, Y20, Y21, Y22, id, Y23, Y24, Tryst2.isDst, Y25, Y26, Y33]
  repeat' apply And.intro
  any_goals trivial
  all_goals (intro tv w' hg hold hd; (try simp at hold); obtain ⟨hcg, hfg⟩ := Tryst2.Grow.cells hg; have hsg := Tryst2.Grow.le hg)
  all_goals first | (go_simp; done) | (go_simp; rw [if_neg (by omega)]; exact ⟨.refl _, rfl⟩) | (obtain ⟨⟨g, hvg, hgg, hcell⟩, _⟩ := hd; have hcell0 := hcell 0 (by decide); simp at hcell0; go_simp; done) | (go_simp; go_at_call 9; (with_reducible refine (CD.out _ ?_).mono ?_); (exact bstep (Tryst2.Grow.below hg (.refl Y.heap.size Y)) HY.out.l); rintro e w2 ⟨d', rfl, ho, hb2⟩; exact DbP.of ho hb2 (by have := hg.size; omega)) | (go_simp; go_at_call 26; (with_reducible refine (CE.out _ ?_).mono ?_); (exact bstep (Tryst2.Grow.below hg (.refl Y.heap.size Y)) HY.out.l); rintro e w2 ⟨a', c', rfl, ho, hb2⟩; exact EvO.of ho hb2 (by have := hg.size; omega))
 case fin =>
  intro tv w' hg hR
  simp only [Tryst2.allR, Tryst2.dstL, Tryst2.Rsp.pred, Y13, Y14, Y16, Y17, Y18, Y19, Y27, Y33] at hR
  obtain ⟨hcg, hfg⟩ := Tryst2.Grow.cells hg
  have hsg := Tryst2.Grow.le hg
  simp only [Tryst2.putAll, Tryst2.dstL, Y13, Y14, Y16, Y17, Y18, Y19, Y33, Y28, Y29, Act.put, Y30, Y31, Y32, hR]
  obtain ⟨d, eX, hX1⟩ := DbP.at hR.2.1
  obtain ⟨aA, cA, eA, fA, sA, bA⟩ := EvO.at hR.2.2.2.1
  simp only [eX, eA]
  have HYw := Lib.hid (HY.out.grow (Tryst2.Grow.below hg (.refl Y.heap.size Y)))
  have HX1 := Lib.hid hX1
  have HFA := Lib.hid fA
  have HBA := Lib.hid bA
  clear hg hR hcg hfg hsg x0 x1 x2 x3 x4 x5 x6 x7 x8 e0 e1 e2 e3 e4 eX eA fA bA sA HY CD CE hX1 hB2
  obtain ⟨nm, ga, gl, gc, wa, wl, wc, ky, ⟨kd, n0, n1, n2⟩⟩ := d
  unfold DB.agg
  simp only
  obtain ⟨x0, x1, x2, x3, x4, x5, x6, x7, x8⟩ := HYw.out.d.box
  obtain ⟨e0, e1, e2, e3, e4⟩ := HYw.out.e.box
  have z0 := HYw.out.d.fz 0
  have z1 := HYw.out.d.fz 1
  have z2 := HYw.out.d.fz 2
  have z3 := HYw.out.d.fz 3
  have z4 := HYw.out.d.fz 4
  have z5 := HYw.out.d.fz 5
  have z6 := HYw.out.d.fz 6
  have z7 := HYw.out.d.fz 7
  have k0 := HYw.out.e.fz 0
  have k1 := HYw.out.e.fz 1
  have k2 := HYw.out.e.fz 2
  have k3 := HYw.out.e.fz 3
  go_upto_region 2 with fail
  refine wp_genC (fun v => Hid (DE2 w v w.heap.size (w.heap.size + 1) nm (.slice ga gl.length gc) (.slice wa wl.length wc) ky kd n0 n1 n2 t1 p1 q (.slice aA L.length cA)) ∧ Hid (DO v ⟨nm, ga, gl, gc, wa, wl, wc, ky, ⟨kd, n0, n1, n2⟩⟩) ∧ Hid (Flds v aA L)) ?_ ?_
  ·
   show Hid (DE2 w (ES4 (DS8 w' w.heap.size nm (.slice ga gl.length gc) (.slice wa wl.length wc) ky kd n0 n1 n2) (w.heap.size + 1) t1 p1 q (.slice aA L.length cA)) w.heap.size (w.heap.size + 1) nm (.slice ga gl.length gc) (.slice wa wl.length wc) ky kd n0 n1 n2 t1 p1 q (.slice aA L.length cA)) ∧ _ ∧ _
   have hk : ∀ b, w.heap.size + 2 ≤ b → (ES4 (DS8 w' w.heap.size nm (.slice ga gl.length gc) (.slice wa wl.length wc) ky kd n0 n1 n2) (w.heap.size + 1) t1 p1 q (.slice aA L.length cA)).heap[b]? = w'.heap[b]? := fun b hb => (ES4.away (by omega)).trans (DS8.away (by omega))
   have hz : w'.heap.size ≤ (ES4 (DS8 w' w.heap.size nm (.slice ga gl.length gc) (.slice wa wl.length wc) ky kd n0 n1 n2) (w.heap.size + 1) t1 p1 q (.slice aA L.length cA)).heap.size := by rw [ES4.size, DS8.size]; exact Nat.le_refl _
   have hex : EX (DS8 w' w.heap.size nm (.slice ga gl.length gc) (.slice wa wl.length wc) ky kd n0 n1 n2) (w.heap.size + 1) t p q (.slice a l.length c) := (DS8.away (by omega)).trans HYw.out.e
   exact ⟨⟨(ES4.away (by omega)).trans (DS8.box HYw.out.d), ES4.box hex, ES4.below (by omega) (DS8.below (by omega) HYw.out.l)⟩, (HX1.out.keep hk hz).o, Flds.keep HFA.out (fun b o e => hk b (HBA.out b o e)) hz⟩
  rintro Z ⟨HZ, HD, HF⟩
  clear x0 x1 x2 x3 x4 x5 x6 x7 x8 e0 e1 e2 e3 e4 z0 z1 z2 z3 z4 z5 z6 z7 k0 k1 k2 k3 HYw HX1 HFA HBA
  have HZB := Lib.hid HZ.out.l
  have CA := Lib.hid (fun W (hb : Below w.heap.size w W) => awake14_c W (HM.out _ hb))
  have CK := Lib.hid (fun W (hb : Below Z.heap.size Z W) => dKey_c ⟨nm, ga, gl, gc, wa, wl, wc, ky, ⟨kd, n0, n1, n2⟩⟩ t1 p1 q aA L cA (by omega) W (HM.out _ (bstep hb HZB.out)) (HD.out.grow hb) (HF.out.grow hb))
  have CP := Lib.hid (fun W (hb : Below Z.heap.size Z W) => dPart_c ⟨nm, ga, gl, gc, wa, wl, wc, ky, ⟨kd, n0, n1, n2⟩⟩ t1 p1 q aA L cA (by omega) (by omega) W (HM.out _ (bstep hb HZB.out)) (HD.out.grow hb) (HF.out.grow hb))
  have CR := Lib.hid (fun W (hb : Below Z.heap.size Z W) => rdmay_c ⟨nm, ga, gl, gc, wa, wl, wc, ky, ⟨kd, n0, n1, n2⟩⟩ W (HD.out.grow hb))
  have CG := Lib.hid (fun W (hb : Below Z.heap.size Z W) => rget_c t1 p1 q aA cA L (by omega) ky W (HF.out.grow hb))
  have HU := Lib.hid (fun W (hb : Below Z.heap.size Z W) => HD.out.wR.grow hb)
  have hlw : wl.length ≤ 100 := HD.out.hw
  have cH := (fun (hm : mayD ⟨nm, ga, gl, gc, wa, wl, wc, ky, ⟨kd, n0, n1, n2⟩⟩ = true) (k : Nat) (hk : k < wl.length) W (hb : Below Z.heap.size Z W) => rholds5_c t1 p1 q aA L cA (by omega) (by omega) 8 wl[k] (by
   have := mayD_all hm wl[k] (List.getElem_mem hk)
   rw [mayP_eq, Bool.and_eq_true] at this
   exact this.1) W ((HD.out.wR.po wl[k] (List.getElem_mem hk)).1.grow hb) (HF.out.grow hb))
  have hps := fun (hm : mayD ⟨nm, ga, gl, gc, wa, wl, wc, ky, ⟨kd, n0, n1, n2⟩⟩ = true) => part_spec (t := t1) (l := L) hm
  unfold PB.agg at cH
  unfold DB.agg at CK CP CR
  simp only at CK CP CR hps
  obtain ⟨mb, hmb⟩ : ∃ b, mayD ⟨nm, ga, gl, gc, wa, wl, wc, ky, ⟨kd, n0, n1, n2⟩⟩ = b := ⟨_, rfl⟩
  obtain ⟨K, hK⟩ : ∃ K, keyD ⟨nm, ga, gl, gc, wa, wl, wc, ky, ⟨kd, n0, n1, n2⟩⟩ L = K := ⟨_, rfl⟩
  obtain ⟨pt, hpt⟩ : ∃ x, partD ⟨nm, ga, gl, gc, wa, wl, wc, ky, ⟨kd, n0, n1, n2⟩⟩ t1 L = x := ⟨_, rfl⟩
  have HKN : Hid (mb = false → K = (FB.zero, false) ∧ pt = -1) := Lib.hid (fun h => ⟨hK.symm.trans (keyD_no (hmb.trans h)), hpt.symm.trans (by unfold partD; rw [if_neg (by rw [hmb, h]; simp)])⟩)
  have HK0 : Hid (mb = true → ky = ⟨#[]⟩ → K = (FB.zero, true)) := Lib.hid (fun h h2 => hK.symm.trans (keyD_nil (hmb.trans h) h2))
  have HK1 : Hid (mb = true → ¬ ky = ⟨#[]⟩ → K = ((findB L ky).getD FB.zero, (findB L ky).isSome)) := Lib.hid (fun h h2 => hK.symm.trans (keyD_get (hmb.trans h) h2))
  rw [hK] at CK
  rw [hpt] at CP hps
  rw [hmb] at CR cH hps
  have CH0 := Lib.hid cH
  have HPS := Lib.hid hps
  clear hK hpt hmb cH hps HD
  obtain ⟨kf, kb⟩ := K
  unfold vV at CK CG
  simp only at CK
  generalize findB L ky = fo at CG HK1
  obtain ⟨gf, hgf⟩ : ∃ gf, fo.getD FB.zero = gf := ⟨_, rfl⟩
  obtain ⟨gb, hgb⟩ : ∃ gb, fo.isSome = gb := ⟨_, rfl⟩
  rw [hgf, hgb] at CG HK1
  clear hgf hgb
  have HX := Lib.hid HZ.out.d
  generalize w.heap.size + 1 = Q at HZ ⊢
  generalize w.heap.size = P at HZ ⊢
  obtain ⟨x0, x1, x2, x3, x4, x5, x6, x7, x8⟩ := HZ.out.d.box
  obtain ⟨e0, e1, e2, e3, e4⟩ := HZ.out.e.box
  clear HX
  go_wp2_with fail
  refine (CK.out _ (.refl _ _)).mono ?_
  rintro e w1 ⟨rfl, hb1⟩
  have HZ1 := Lib.hid hb1
  have HE1 := Lib.hid (HZ.out.grow hb1)
  clear hb1 CK x0 x1 x2 x3 x4 x5 x6 x7 x8 e0 e1 e2 e3 e4
  go_upto_region 3 with fail
  refine wp_genC (fun v => Hid (DE2 w v P Q nm (.slice ga gl.length gc) (.slice wa wl.length wc) ky kd n0 n1 n2 t1 p1 q (.slice aA L.length cA)) ∧ Hid (Below Z.heap.size Z v) ∧ Hid (VX v w1.heap.size kf)) ⟨HE1.out.grow (balloc _ (.refl _ _)), balloc _ HZ1.out, VX.new _ _⟩ ?_
  rintro w2 ⟨HE2, HZ2, HV2⟩
  generalize w1.heap.size = G5 at HV2 ⊢
  clear HZ1 HE1
  obtain ⟨x0, x1, x2, x3, x4, x5, x6, x7, x8⟩ := HE2.out.d.box
  obtain ⟨e0, e1, e2, e3, e4⟩ := HE2.out.e.box
  go_wp2_with fail
  refine (CP.out _ HZ2.out).mono ?_
  rintro e w3 ⟨rfl, hb3⟩
  have HE3 := Lib.hid (HE2.out.grow hb3)
  have HZ3 := Lib.hid (bstep hb3 HZ2.out)
  have HV3 := Lib.hid (HV2.out.grow hb3)
  clear hb3 CP HE2 HZ2 HV2 x0 x1 x2 x3 x4 x5 x6 x7 x8 e0 e1 e2 e3 e4
  obtain ⟨x0, x1, x2, x3, x4, x5, x6, x7, x8⟩ := HE3.out.d.box
  go_wp2_with fail
  refine (CR.out _ HZ3.out).mono ?_
  rintro e w4 ⟨rfl, hb4⟩
  have HE4 := Lib.hid (HE3.out.grow hb4)
  have HZ4 := Lib.hid (bstep hb4 HZ3.out)
  have HV4 := Lib.hid (HV3.out.grow hb4)
  have HB4 := Lib.hid HE4.out.l
  clear hb4 CR HE3 HZ3 HV3 x0 x1 x2 x3 x4 x5 x6 x7 x8
  obtain ⟨x0, x1, x2, x3, x4, x5, x6, x7, x8⟩ := HE4.out.d.box
  obtain ⟨e0, e1, e2, e3, e4⟩ := HE4.out.e.box
  cases mb with
  | false =>
   obtain ⟨h1, h2⟩ := HKN.out rfl
   obtain ⟨rfl, rfl⟩ := Prod.mk.inj h1
   subst h2
   go_wp2_with fail
   refine (CA.out _ HB4.out).mono ?_
   rintro e w8 ⟨rfl, hb8⟩
   have HB8 := Lib.hid (bstep hb8 HB4.out)
   clear hb8
   go_wp2_with fail
   go_ret
   exact ⟨rfl, HB8.out⟩
  | true =>
   obtain ⟨hp1, hp2, hp3, hp4⟩ := HPS.out rfl
   have HHO := Lib.hid hp4
   have HQQ := Lib.hid (And.intro hp1 (And.intro hp2 hp3))
   have CH := Lib.hid (CH0.out rfl)
   clear hp1 hp2 hp3 hp4 HPS CH0 HKN
   go_wp2_with fail
   refine (CG.out _ HZ4.out).mono ?_
   rintro e w5 ⟨rfl, hb5⟩
   have HE5 := Lib.hid (HE4.out.grow hb5)
   have HZ5 := Lib.hid (bstep hb5 HZ4.out)
   have HV5 := Lib.hid (HV4.out.grow hb5)
   clear hb5 CG HE4 HZ4 HV4 HB4 x0 x1 x2 x3 x4 x5 x6 x7 x8 e0 e1 e2 e3 e4
   go_upto_region 7 with fail
   refine wp_genC (fun v => Hid (DE2 w v P Q nm (.slice ga gl.length gc) (.slice wa wl.length wc) ky kd n0 n1 n2 t1 p1 q (.slice aA L.length cA)) ∧ Hid (Below Z.heap.size Z v) ∧ Hid (VX v G5 kf) ∧ Hid (VX v w5.heap.size gf)) ⟨HE5.out.grow (balloc _ (.refl _ _)), balloc _ HZ5.out, HV5.out.grow (balloc _ (.refl _ _)), VX.new _ _⟩ ?_
   rintro w7 ⟨HE7, HZ7, HV7, HG7⟩
   generalize w5.heap.size = G8 at HG7 ⊢
   clear HE5 HZ5 HV5
   have HB7 := Lib.hid HE7.out.l
   obtain ⟨x0, x1, x2, x3, x4, x5, x6, x7, x8⟩ := HE7.out.d.box
   obtain ⟨v0, v1, v2, v3, v4, v5, v6⟩ := HV7.out.box
   obtain ⟨s0, s1, s2, s3, s4, s5, s6⟩ := HG7.out.box
   by_cases hk : ky = ⟨#[]⟩
   ·
    obtain ⟨rfl, rfl⟩ := Prod.mk.inj (HK0.out (by trivial) hk)
    subst hk
    simp only [FB.zero] at v1 v2 v3
    have hp1 : ¬ pt < -1 := by have := HQQ.out; omega
    have hp2 : ¬ (n0 ≤ pt) := by have := HQQ.out; omega
    have hp3 : ¬ ((wl.length : Int) ≤ pt) := by have := HQQ.out; omega
    go_wp2_with fail
    clear hp1 hp2 hp3 HQQ
    go_loopw [10] (fun i wr => KysR w7 wl.length pt i wr) (fun i _ => wl.length - (intOf i).toNat)
    case atStart => exact ⟨0, by omega, Lib.hid (by omega), rfl, Lib.hid (.refl _ _)⟩
    case round =>
     clear x0 x1 x2 x3 x4 x5 x6 x7 x8 v0 v1 v2 v3 v4 v5 v6 s0 s1 s2 s3 s4 s5 s6
     obtain ⟨k, hk, hkp0, rfl, HW⟩ := hrel
     obtain ⟨wo, rfl⟩ : ∃ wo, wo = wr := ⟨_, rfl⟩
     have HEo := Lib.hid (HE7.out.grow HW.out)
     have HZo := Lib.hid (bstep HW.out HZ7.out)
     have HBo := Lib.hid HEo.out.l
     obtain ⟨x0, x1, x2, x3, x4, x5, x6, x7, x8⟩ := HEo.out.d.box
     obtain ⟨e0, e1, e2, e3, e4⟩ := HEo.out.e.box
     by_cases hlt : k < wl.length
     ·
      by_cases hn : pt < 0
      ·
       obtain ⟨b, o, ha, hb⟩ := (HU.out wo HZo.out).head hlt
       subst ha
       obtain ⟨_, f0, f1, f2, f3, f4, f5⟩ := Row.pat (HU.out wo HZo.out).row hlt
       have HCH := Lib.hid (CH.out k hlt)
       have HHK := Lib.hid (HHO.out k hlt (by omega))
       clear h0 h4 hlen u1 u2 hk
       have HLQ : Hid (∃ z, wl.length = k + 1 + z) := Lib.hid ⟨wl.length - (k + 1), by omega⟩
       have HKQ : Hid (pt < 0 ∨ (k : Int) ≤ pt) := Lib.hid (by omega)
       go_upto_region 14 with fail
       by_cases hkp : (k : Int) = pt
       ·
        have hq1 : ((k : Int) == pt) = true := by simpa using hkp
        have HH1 : Hid (holdsP t1 L wl[k].pr = true) := Lib.hid (by rw [HHK.out, decide_eq_true hkp])
        clear hkp
        refine Tryst2.wp_region_grows [.is (.pointer (some ⟨P, 2, none⟩)), .is (.slice (some ⟨b, o, none⟩) wl.length wc), .is (.int .i64 (k : Int)), .is (.pointer (some ⟨b, o + k * 6, none⟩)), .is (.agg #[.string wl[k].op, .string wl[k].s, .bool wl[k].num, .int .i64 wl[k].n, .string wl[k].vs, .slice wl[k].a wl[k].l.length wl[k].c]), .is (.agg #[.string t1, .string p1, .int .u64 q, .slice aA L.length cA]), .is (.bool true), .is (.int .i64 (k : Int)), .is (.int .i64 pt), .is (.bool true), .is (.bool false)] (by kernel_rfl) (by kernel_rfl) ?obl ?fin
        case obl =>
         simp only [Tryst2.AllObl, Tryst2.dstL, Tryst2.Obl, Tryst2.depsOf, Y00, Y01, Y02, Y03, Y04, Y05, Y06, Y07, Y08, Y09, Tryst2.depsR, Tryst2.holdR, Tryst2.tmpsOf, Op.operands, Call.operands, Tryst2.Rsp.pred, Y10, Y11, Y12, Y13, Y14, Y15, Y16, Y17, Y18, Y19, Y20, Y21, Y22, id, Y23, Y24, Tryst2.isDst, Y25, Y26, Y33]
         repeat' apply And.intro
         any_goals trivial
         all_goals (intro tv w' hg hold hd; (try simp at hold); obtain ⟨hcg, hfg⟩ := Tryst2.Grow.cells hg; have hsg := Tryst2.Grow.le hg)
         all_goals first | (go_simp; done) | (go_simp; rw [if_neg (by omega)]; exact ⟨.refl _, rfl⟩) | (obtain ⟨⟨g, hvg, hgg, hcell⟩, _⟩ := hd; have hcell0 := hcell 0 (by decide); simp at hcell0; go_simp; done) | (go_simp; go_at_call 33; (refine (HCH.out _ ?_).mono ?_); (exact bstep (Tryst2.Grow.below hg (.refl _ _)) HZo.out); rintro e w5 ⟨rfl, hb5⟩; exact ⟨hb5, by rw [HH1.out]⟩)
        case fin =>
         intro tv w' hg hR
         simp only [Tryst2.allR, Tryst2.dstL, Tryst2.Rsp.pred, Y13, Y14, Y16, Y17, Y18, Y19, Y27, Y33] at hR
         obtain ⟨hcg, hfg⟩ := Tryst2.Grow.cells hg
         have hsg := Tryst2.Grow.le hg
         simp only [Tryst2.putAll, Tryst2.dstL, Y13, Y14, Y16, Y17, Y18, Y19, Y33, Y28, Y29, Act.put, Y30, Y31, Y32, hR]
         have HW9 := Lib.hid (bstep (Tryst2.Grow.below hg (.refl _ _)) HW.out)
         clear hg hR hcg hfg hsg
         go_wp2_with fail
         go_roundw
         case rel => exact ⟨k + 1, by (obtain ⟨z, hz⟩ := HLQ.out); omega, Lib.hid (by have := HKQ.out; omega), by go_num, HW9⟩
         case measure => obtain ⟨z, hz⟩ := HLQ.out; simp [intOf] <;> omega
       ·
        have hq1 : ((k : Int) == pt) = false := by simpa using hkp
        have HH1 : Hid (holdsP t1 L wl[k].pr = false) := Lib.hid (by rw [HHK.out, decide_eq_false hkp])
        clear hkp
        refine Tryst2.wp_region_grows [.is (.pointer (some ⟨P, 2, none⟩)), .is (.slice (some ⟨b, o, none⟩) wl.length wc), .is (.int .i64 (k : Int)), .is (.pointer (some ⟨b, o + k * 6, none⟩)), .is (.agg #[.string wl[k].op, .string wl[k].s, .bool wl[k].num, .int .i64 wl[k].n, .string wl[k].vs, .slice wl[k].a wl[k].l.length wl[k].c]), .is (.agg #[.string t1, .string p1, .int .u64 q, .slice aA L.length cA]), .is (.bool false), .is (.int .i64 (k : Int)), .is (.int .i64 pt), .is (.bool false), .is (.bool false)] (by kernel_rfl) (by kernel_rfl) ?obl ?fin
        case obl =>
         simp only [Tryst2.AllObl, Tryst2.dstL, Tryst2.Obl, Tryst2.depsOf, Y00, Y01, Y02, Y03, Y04, Y05, Y06, Y07, Y08, Y09, Tryst2.depsR, Tryst2.holdR, Tryst2.tmpsOf, Op.operands, Call.operands, Tryst2.Rsp.pred, Y10, Y11, Y12, Y13, Y14, Y15, Y16, Y17, Y18, Y19, Y20, Y21, Y22, id, Y23, Y24, Tryst2.isDst, Y25, Y26, Y33]
         repeat' apply And.intro
         any_goals trivial
         all_goals (intro tv w' hg hold hd; (try simp at hold); obtain ⟨hcg, hfg⟩ := Tryst2.Grow.cells hg; have hsg := Tryst2.Grow.le hg)
         all_goals first | (go_simp; done) | (go_simp; rw [if_neg (by omega)]; exact ⟨.refl _, rfl⟩) | (obtain ⟨⟨g, hvg, hgg, hcell⟩, _⟩ := hd; have hcell0 := hcell 0 (by decide); simp at hcell0; go_simp; done) | (go_simp; go_at_call 33; (refine (HCH.out _ ?_).mono ?_); (exact bstep (Tryst2.Grow.below hg (.refl _ _)) HZo.out); rintro e w5 ⟨rfl, hb5⟩; exact ⟨hb5, by rw [HH1.out]⟩)
        case fin =>
         intro tv w' hg hR
         simp only [Tryst2.allR, Tryst2.dstL, Tryst2.Rsp.pred, Y13, Y14, Y16, Y17, Y18, Y19, Y27, Y33] at hR
         obtain ⟨hcg, hfg⟩ := Tryst2.Grow.cells hg
         have hsg := Tryst2.Grow.le hg
         simp only [Tryst2.putAll, Tryst2.dstL, Y13, Y14, Y16, Y17, Y18, Y19, Y33, Y28, Y29, Act.put, Y30, Y31, Y32, hR]
         have HW9 := Lib.hid (bstep (Tryst2.Grow.below hg (.refl _ _)) HW.out)
         clear hg hR hcg hfg hsg
         go_wp2_with fail
         go_roundw
         case rel => exact ⟨k + 1, by (obtain ⟨z, hz⟩ := HLQ.out); omega, Lib.hid (by have := HKQ.out; omega), by go_num, HW9⟩
         case measure => obtain ⟨z, hz⟩ := HLQ.out; simp [intOf] <;> omega
      ·
       by_cases hkq : (k : Int) ≤ pt
       ·
        obtain ⟨b, o, ha, hb⟩ := (HU.out wo HZo.out).head hlt
        subst ha
        obtain ⟨_, f0, f1, f2, f3, f4, f5⟩ := Row.pat (HU.out wo HZo.out).row hlt
        have HCH := Lib.hid (CH.out k hlt)
        have HHK := Lib.hid (HHO.out k hlt (by omega))
        clear h0 h4 hlen u1 u2 hk
        have HLQ : Hid (∃ z, wl.length = k + 1 + z) := Lib.hid ⟨wl.length - (k + 1), by omega⟩
        have HKQ : Hid (pt < 0 ∨ (k : Int) ≤ pt) := Lib.hid (by omega)
        go_upto_region 14 with fail
        by_cases hkp : (k : Int) = pt
        ·
         have hq1 : ((k : Int) == pt) = true := by simpa using hkp
         have HH1 : Hid (holdsP t1 L wl[k].pr = true) := Lib.hid (by rw [HHK.out, decide_eq_true hkp])
         clear hkp
         refine Tryst2.wp_region_grows [.is (.pointer (some ⟨P, 2, none⟩)), .is (.slice (some ⟨b, o, none⟩) wl.length wc), .is (.int .i64 (k : Int)), .is (.pointer (some ⟨b, o + k * 6, none⟩)), .is (.agg #[.string wl[k].op, .string wl[k].s, .bool wl[k].num, .int .i64 wl[k].n, .string wl[k].vs, .slice wl[k].a wl[k].l.length wl[k].c]), .is (.agg #[.string t1, .string p1, .int .u64 q, .slice aA L.length cA]), .is (.bool true), .is (.int .i64 (k : Int)), .is (.int .i64 pt), .is (.bool true), .is (.bool false)] (by kernel_rfl) (by kernel_rfl) ?obl ?fin
         case obl =>
          simp only [Tryst2.AllObl, Tryst2.dstL, Tryst2.Obl, Tryst2.depsOf, Y00, Y01, Y02, Y03, Y04, Y05, Y06, Y07, Y08, Y09, Tryst2.depsR, Tryst2.holdR, Tryst2.tmpsOf, Op.operands, Call.operands, Tryst2.Rsp.pred, Y10, Y11, Y12, Y13, Y14, Y15, Y16, Y17, Y18, Y19, Y20, Y21, Y22, id, Y23, Y24, Tryst2.isDst, Y25, Y26, Y33]
          repeat' apply And.intro
          any_goals trivial
          all_goals (intro tv w' hg hold hd; (try simp at hold); obtain ⟨hcg, hfg⟩ := Tryst2.Grow.cells hg; have hsg := Tryst2.Grow.le hg)
          all_goals first | (go_simp; done) | (go_simp; rw [if_neg (by omega)]; exact ⟨.refl _, rfl⟩) | (obtain ⟨⟨g, hvg, hgg, hcell⟩, _⟩ := hd; have hcell0 := hcell 0 (by decide); simp at hcell0; go_simp; done) | (go_simp; go_at_call 33; (refine (HCH.out _ ?_).mono ?_); (exact bstep (Tryst2.Grow.below hg (.refl _ _)) HZo.out); rintro e w5 ⟨rfl, hb5⟩; exact ⟨hb5, by rw [HH1.out]⟩)
         case fin =>
          intro tv w' hg hR
          simp only [Tryst2.allR, Tryst2.dstL, Tryst2.Rsp.pred, Y13, Y14, Y16, Y17, Y18, Y19, Y27, Y33] at hR
          obtain ⟨hcg, hfg⟩ := Tryst2.Grow.cells hg
          have hsg := Tryst2.Grow.le hg
          simp only [Tryst2.putAll, Tryst2.dstL, Y13, Y14, Y16, Y17, Y18, Y19, Y33, Y28, Y29, Act.put, Y30, Y31, Y32, hR]
          have HW9 := Lib.hid (bstep (Tryst2.Grow.below hg (.refl _ _)) HW.out)
          clear hg hR hcg hfg hsg
          go_wp2_with fail
          go_roundw
          case rel => exact ⟨k + 1, by (obtain ⟨z, hz⟩ := HLQ.out); omega, Lib.hid (by have := HKQ.out; omega), by go_num, HW9⟩
          case measure => obtain ⟨z, hz⟩ := HLQ.out; simp [intOf] <;> omega
        ·
         have hq1 : ((k : Int) == pt) = false := by simpa using hkp
         have HH1 : Hid (holdsP t1 L wl[k].pr = false) := Lib.hid (by rw [HHK.out, decide_eq_false hkp])
         clear hkp
         refine Tryst2.wp_region_grows [.is (.pointer (some ⟨P, 2, none⟩)), .is (.slice (some ⟨b, o, none⟩) wl.length wc), .is (.int .i64 (k : Int)), .is (.pointer (some ⟨b, o + k * 6, none⟩)), .is (.agg #[.string wl[k].op, .string wl[k].s, .bool wl[k].num, .int .i64 wl[k].n, .string wl[k].vs, .slice wl[k].a wl[k].l.length wl[k].c]), .is (.agg #[.string t1, .string p1, .int .u64 q, .slice aA L.length cA]), .is (.bool false), .is (.int .i64 (k : Int)), .is (.int .i64 pt), .is (.bool false), .is (.bool false)] (by kernel_rfl) (by kernel_rfl) ?obl ?fin
         case obl =>
          simp only [Tryst2.AllObl, Tryst2.dstL, Tryst2.Obl, Tryst2.depsOf, Y00, Y01, Y02, Y03, Y04, Y05, Y06, Y07, Y08, Y09, Tryst2.depsR, Tryst2.holdR, Tryst2.tmpsOf, Op.operands, Call.operands, Tryst2.Rsp.pred, Y10, Y11, Y12, Y13, Y14, Y15, Y16, Y17, Y18, Y19, Y20, Y21, Y22, id, Y23, Y24, Tryst2.isDst, Y25, Y26, Y33]
          repeat' apply And.intro
          any_goals trivial
          all_goals (intro tv w' hg hold hd; (try simp at hold); obtain ⟨hcg, hfg⟩ := Tryst2.Grow.cells hg; have hsg := Tryst2.Grow.le hg)
          all_goals first | (go_simp; done) | (go_simp; rw [if_neg (by omega)]; exact ⟨.refl _, rfl⟩) | (obtain ⟨⟨g, hvg, hgg, hcell⟩, _⟩ := hd; have hcell0 := hcell 0 (by decide); simp at hcell0; go_simp; done) | (go_simp; go_at_call 33; (refine (HCH.out _ ?_).mono ?_); (exact bstep (Tryst2.Grow.below hg (.refl _ _)) HZo.out); rintro e w5 ⟨rfl, hb5⟩; exact ⟨hb5, by rw [HH1.out]⟩)
         case fin =>
          intro tv w' hg hR
          simp only [Tryst2.allR, Tryst2.dstL, Tryst2.Rsp.pred, Y13, Y14, Y16, Y17, Y18, Y19, Y27, Y33] at hR
          obtain ⟨hcg, hfg⟩ := Tryst2.Grow.cells hg
          have hsg := Tryst2.Grow.le hg
          simp only [Tryst2.putAll, Tryst2.dstL, Y13, Y14, Y16, Y17, Y18, Y19, Y33, Y28, Y29, Act.put, Y30, Y31, Y32, hR]
          have HW9 := Lib.hid (bstep (Tryst2.Grow.below hg (.refl _ _)) HW.out)
          clear hg hR hcg hfg hsg
          go_wp2_with fail
          go_roundw
          case rel => exact ⟨k + 1, by (obtain ⟨z, hz⟩ := HLQ.out); omega, Lib.hid (by have := HKQ.out; omega), by go_num, HW9⟩
          case measure => obtain ⟨z, hz⟩ := HLQ.out; simp [intOf] <;> omega
       ·
        go_wp2_with fail
        refine (CA.out _ HBo.out).mono ?_
        rintro e w8 ⟨rfl, hb8⟩
        have HB8 := Lib.hid (bstep hb8 HBo.out)
        clear hb8
        go_wp2_with fail
        go_ret
        exact ⟨rfl, HB8.out⟩
     ·
      go_wp2_with fail
      refine (CA.out _ HBo.out).mono ?_
      rintro e w8 ⟨rfl, hb8⟩
      have HB8 := Lib.hid (bstep hb8 HBo.out)
      clear hb8
      go_wp2_with fail
      go_ret
      exact ⟨rfl, HB8.out⟩
   ·
    have hky : (ky.toList == []) = false := by rw [beq_eq_false_iff_ne]; exact fun e => hk (str_ext (by rw [← str_toList, e]))
    obtain ⟨rfl, rfl⟩ := Prod.mk.inj (HK1.out (by trivial) hk)
    clear hk
    have hp1 : ¬ pt < -1 := by have := HQQ.out; omega
    have hp2 : ¬ (n0 ≤ pt) := by have := HQQ.out; omega
    have hp3 : ¬ ((wl.length : Int) ≤ pt) := by have := HQQ.out; omega
    go_wp2_with fail
    clear hp1 hp2 hp3 HQQ
    go_loopw [10] (fun i wr => KysR w7 wl.length pt i wr) (fun i _ => wl.length - (intOf i).toNat)
    case atStart => exact ⟨0, by omega, Lib.hid (by omega), rfl, Lib.hid (.refl _ _)⟩
    case round =>
     clear x0 x1 x2 x3 x4 x5 x6 x7 x8 v0 v1 v2 v3 v4 v5 v6 s0 s1 s2 s3 s4 s5 s6
     obtain ⟨k, hk, hkp0, rfl, HW⟩ := hrel
     obtain ⟨wo, rfl⟩ : ∃ wo, wo = wr := ⟨_, rfl⟩
     have HEo := Lib.hid (HE7.out.grow HW.out)
     have HZo := Lib.hid (bstep HW.out HZ7.out)
     have HBo := Lib.hid HEo.out.l
     obtain ⟨x0, x1, x2, x3, x4, x5, x6, x7, x8⟩ := HEo.out.d.box
     obtain ⟨e0, e1, e2, e3, e4⟩ := HEo.out.e.box
     by_cases hlt : k < wl.length
     ·
      by_cases hn : pt < 0
      ·
       obtain ⟨b, o, ha, hb⟩ := (HU.out wo HZo.out).head hlt
       subst ha
       obtain ⟨_, f0, f1, f2, f3, f4, f5⟩ := Row.pat (HU.out wo HZo.out).row hlt
       have HCH := Lib.hid (CH.out k hlt)
       have HHK := Lib.hid (HHO.out k hlt (by omega))
       clear h0 h4 hlen u1 u2 hk
       have HLQ : Hid (∃ z, wl.length = k + 1 + z) := Lib.hid ⟨wl.length - (k + 1), by omega⟩
       have HKQ : Hid (pt < 0 ∨ (k : Int) ≤ pt) := Lib.hid (by omega)
       go_upto_region 14 with fail
       by_cases hkp : (k : Int) = pt
       ·
        have hq1 : ((k : Int) == pt) = true := by simpa using hkp
        have HH1 : Hid (holdsP t1 L wl[k].pr = true) := Lib.hid (by rw [HHK.out, decide_eq_true hkp])
        clear hkp
        refine Tryst2.wp_region_grows [.is (.pointer (some ⟨P, 2, none⟩)), .is (.slice (some ⟨b, o, none⟩) wl.length wc), .is (.int .i64 (k : Int)), .is (.pointer (some ⟨b, o + k * 6, none⟩)), .is (.agg #[.string wl[k].op, .string wl[k].s, .bool wl[k].num, .int .i64 wl[k].n, .string wl[k].vs, .slice wl[k].a wl[k].l.length wl[k].c]), .is (.agg #[.string t1, .string p1, .int .u64 q, .slice aA L.length cA]), .is (.bool true), .is (.int .i64 (k : Int)), .is (.int .i64 pt), .is (.bool true), .is (.bool false)] (by kernel_rfl) (by kernel_rfl) ?obl ?fin
        case obl =>
         simp only [Tryst2.AllObl, Tryst2.dstL, Tryst2.Obl, Tryst2.depsOf, Y00, Y01, Y02, Y03, Y04, Y05, Y06, Y07, Y08, Y09, Tryst2.depsR, Tryst2.holdR, Tryst2.tmpsOf, Op.operands, Call.operands, Tryst2.Rsp.pred, Y10, Y11, Y12, Y13, Y14, Y15, Y16, Y17, Y18, Y19, Y20, Y21, Y22, id, Y23, Y24, Tryst2.isDst, Y25, Y26, Y33]
         repeat' apply And.intro
         any_goals trivial
         all_goals (intro tv w' hg hold hd; (try simp at hold); obtain ⟨hcg, hfg⟩ := Tryst2.Grow.cells hg; have hsg := Tryst2.Grow.le hg)
         all_goals first | (go_simp; done) | (go_simp; rw [if_neg (by omega)]; exact ⟨.refl _, rfl⟩) | (obtain ⟨⟨g, hvg, hgg, hcell⟩, _⟩ := hd; have hcell0 := hcell 0 (by decide); simp at hcell0; go_simp; done) | (go_simp; go_at_call 33; (refine (HCH.out _ ?_).mono ?_); (exact bstep (Tryst2.Grow.below hg (.refl _ _)) HZo.out); rintro e w5 ⟨rfl, hb5⟩; exact ⟨hb5, by rw [HH1.out]⟩)
        case fin =>
         intro tv w' hg hR
         simp only [Tryst2.allR, Tryst2.dstL, Tryst2.Rsp.pred, Y13, Y14, Y16, Y17, Y18, Y19, Y27, Y33] at hR
         obtain ⟨hcg, hfg⟩ := Tryst2.Grow.cells hg
         have hsg := Tryst2.Grow.le hg
         simp only [Tryst2.putAll, Tryst2.dstL, Y13, Y14, Y16, Y17, Y18, Y19, Y33, Y28, Y29, Act.put, Y30, Y31, Y32, hR]
         have HW9 := Lib.hid (bstep (Tryst2.Grow.below hg (.refl _ _)) HW.out)
         clear hg hR hcg hfg hsg
         go_wp2_with fail
         go_roundw
         case rel => exact ⟨k + 1, by (obtain ⟨z, hz⟩ := HLQ.out); omega, Lib.hid (by have := HKQ.out; omega), by go_num, HW9⟩
         case measure => obtain ⟨z, hz⟩ := HLQ.out; simp [intOf] <;> omega
       ·
        have hq1 : ((k : Int) == pt) = false := by simpa using hkp
        have HH1 : Hid (holdsP t1 L wl[k].pr = false) := Lib.hid (by rw [HHK.out, decide_eq_false hkp])
        clear hkp
        refine Tryst2.wp_region_grows [.is (.pointer (some ⟨P, 2, none⟩)), .is (.slice (some ⟨b, o, none⟩) wl.length wc), .is (.int .i64 (k : Int)), .is (.pointer (some ⟨b, o + k * 6, none⟩)), .is (.agg #[.string wl[k].op, .string wl[k].s, .bool wl[k].num, .int .i64 wl[k].n, .string wl[k].vs, .slice wl[k].a wl[k].l.length wl[k].c]), .is (.agg #[.string t1, .string p1, .int .u64 q, .slice aA L.length cA]), .is (.bool false), .is (.int .i64 (k : Int)), .is (.int .i64 pt), .is (.bool false), .is (.bool false)] (by kernel_rfl) (by kernel_rfl) ?obl ?fin
        case obl =>
         simp only [Tryst2.AllObl, Tryst2.dstL, Tryst2.Obl, Tryst2.depsOf, Y00, Y01, Y02, Y03, Y04, Y05, Y06, Y07, Y08, Y09, Tryst2.depsR, Tryst2.holdR, Tryst2.tmpsOf, Op.operands, Call.operands, Tryst2.Rsp.pred, Y10, Y11, Y12, Y13, Y14, Y15, Y16, Y17, Y18, Y19, Y20, Y21, Y22, id, Y23, Y24, Tryst2.isDst, Y25, Y26, Y33]
         repeat' apply And.intro
         any_goals trivial
         all_goals (intro tv w' hg hold hd; (try simp at hold); obtain ⟨hcg, hfg⟩ := Tryst2.Grow.cells hg; have hsg := Tryst2.Grow.le hg)
         all_goals first | (go_simp; done) | (go_simp; rw [if_neg (by omega)]; exact ⟨.refl _, rfl⟩) | (obtain ⟨⟨g, hvg, hgg, hcell⟩, _⟩ := hd; have hcell0 := hcell 0 (by decide); simp at hcell0; go_simp; done) | (go_simp; go_at_call 33; (refine (HCH.out _ ?_).mono ?_); (exact bstep (Tryst2.Grow.below hg (.refl _ _)) HZo.out); rintro e w5 ⟨rfl, hb5⟩; exact ⟨hb5, by rw [HH1.out]⟩)
        case fin =>
         intro tv w' hg hR
         simp only [Tryst2.allR, Tryst2.dstL, Tryst2.Rsp.pred, Y13, Y14, Y16, Y17, Y18, Y19, Y27, Y33] at hR
         obtain ⟨hcg, hfg⟩ := Tryst2.Grow.cells hg
         have hsg := Tryst2.Grow.le hg
         simp only [Tryst2.putAll, Tryst2.dstL, Y13, Y14, Y16, Y17, Y18, Y19, Y33, Y28, Y29, Act.put, Y30, Y31, Y32, hR]
         have HW9 := Lib.hid (bstep (Tryst2.Grow.below hg (.refl _ _)) HW.out)
         clear hg hR hcg hfg hsg
         go_wp2_with fail
         go_roundw
         case rel => exact ⟨k + 1, by (obtain ⟨z, hz⟩ := HLQ.out); omega, Lib.hid (by have := HKQ.out; omega), by go_num, HW9⟩
         case measure => obtain ⟨z, hz⟩ := HLQ.out; simp [intOf] <;> omega
      ·
       by_cases hkq : (k : Int) ≤ pt
       ·
        obtain ⟨b, o, ha, hb⟩ := (HU.out wo HZo.out).head hlt
        subst ha
        obtain ⟨_, f0, f1, f2, f3, f4, f5⟩ := Row.pat (HU.out wo HZo.out).row hlt
        have HCH := Lib.hid (CH.out k hlt)
        have HHK := Lib.hid (HHO.out k hlt (by omega))
        clear h0 h4 hlen u1 u2 hk
        have HLQ : Hid (∃ z, wl.length = k + 1 + z) := Lib.hid ⟨wl.length - (k + 1), by omega⟩
        have HKQ : Hid (pt < 0 ∨ (k : Int) ≤ pt) := Lib.hid (by omega)
        go_upto_region 14 with fail
        by_cases hkp : (k : Int) = pt
        ·
         have hq1 : ((k : Int) == pt) = true := by simpa using hkp
         have HH1 : Hid (holdsP t1 L wl[k].pr = true) := Lib.hid (by rw [HHK.out, decide_eq_true hkp])
         clear hkp
         refine Tryst2.wp_region_grows [.is (.pointer (some ⟨P, 2, none⟩)), .is (.slice (some ⟨b, o, none⟩) wl.length wc), .is (.int .i64 (k : Int)), .is (.pointer (some ⟨b, o + k * 6, none⟩)), .is (.agg #[.string wl[k].op, .string wl[k].s, .bool wl[k].num, .int .i64 wl[k].n, .string wl[k].vs, .slice wl[k].a wl[k].l.length wl[k].c]), .is (.agg #[.string t1, .string p1, .int .u64 q, .slice aA L.length cA]), .is (.bool true), .is (.int .i64 (k : Int)), .is (.int .i64 pt), .is (.bool true), .is (.bool false)] (by kernel_rfl) (by kernel_rfl) ?obl ?fin
         case obl =>
          simp only [Tryst2.AllObl, Tryst2.dstL, Tryst2.Obl, Tryst2.depsOf, Y00, Y01, Y02, Y03, Y04, Y05, Y06, Y07, Y08, Y09, Tryst2.depsR, Tryst2.holdR, Tryst2.tmpsOf, Op.operands, Call.operands, Tryst2.Rsp.pred, Y10, Y11, Y12, Y13, Y14, Y15, Y16, Y17, Y18, Y19, Y20, Y21, Y22, id, Y23, Y24, Tryst2.isDst, Y25, Y26, Y33]
          repeat' apply And.intro
          any_goals trivial
          all_goals (intro tv w' hg hold hd; (try simp at hold); obtain ⟨hcg, hfg⟩ := Tryst2.Grow.cells hg; have hsg := Tryst2.Grow.le hg)
          all_goals first | (go_simp; done) | (go_simp; rw [if_neg (by omega)]; exact ⟨.refl _, rfl⟩) | (obtain ⟨⟨g, hvg, hgg, hcell⟩, _⟩ := hd; have hcell0 := hcell 0 (by decide); simp at hcell0; go_simp; done) | (go_simp; go_at_call 33; (refine (HCH.out _ ?_).mono ?_); (exact bstep (Tryst2.Grow.below hg (.refl _ _)) HZo.out); rintro e w5 ⟨rfl, hb5⟩; exact ⟨hb5, by rw [HH1.out]⟩)
         case fin =>
          intro tv w' hg hR
          simp only [Tryst2.allR, Tryst2.dstL, Tryst2.Rsp.pred, Y13, Y14, Y16, Y17, Y18, Y19, Y27, Y33] at hR
          obtain ⟨hcg, hfg⟩ := Tryst2.Grow.cells hg
          have hsg := Tryst2.Grow.le hg
          simp only [Tryst2.putAll, Tryst2.dstL, Y13, Y14, Y16, Y17, Y18, Y19, Y33, Y28, Y29, Act.put, Y30, Y31, Y32, hR]
          have HW9 := Lib.hid (bstep (Tryst2.Grow.below hg (.refl _ _)) HW.out)
          clear hg hR hcg hfg hsg
          go_wp2_with fail
          go_roundw
          case rel => exact ⟨k + 1, by (obtain ⟨z, hz⟩ := HLQ.out); omega, Lib.hid (by have := HKQ.out; omega), by go_num, HW9⟩
          case measure => obtain ⟨z, hz⟩ := HLQ.out; simp [intOf] <;> omega
        ·
         have hq1 : ((k : Int) == pt) = false := by simpa using hkp
         have HH1 : Hid (holdsP t1 L wl[k].pr = false) := Lib.hid (by rw [HHK.out, decide_eq_false hkp])
         clear hkp
         refine Tryst2.wp_region_grows [.is (.pointer (some ⟨P, 2, none⟩)), .is (.slice (some ⟨b, o, none⟩) wl.length wc), .is (.int .i64 (k : Int)), .is (.pointer (some ⟨b, o + k * 6, none⟩)), .is (.agg #[.string wl[k].op, .string wl[k].s, .bool wl[k].num, .int .i64 wl[k].n, .string wl[k].vs, .slice wl[k].a wl[k].l.length wl[k].c]), .is (.agg #[.string t1, .string p1, .int .u64 q, .slice aA L.length cA]), .is (.bool false), .is (.int .i64 (k : Int)), .is (.int .i64 pt), .is (.bool false), .is (.bool false)] (by kernel_rfl) (by kernel_rfl) ?obl ?fin
         case obl =>
          simp only [Tryst2.AllObl, Tryst2.dstL, Tryst2.Obl, Tryst2.depsOf, Y00, Y01, Y02, Y03, Y04, Y05, Y06, Y07, Y08, Y09, Tryst2.depsR, Tryst2.holdR, Tryst2.tmpsOf, Op.operands, Call.operands, Tryst2.Rsp.pred, Y10, Y11, Y12, Y13, Y14, Y15, Y16, Y17, Y18, Y19, Y20, Y21, Y22, id, Y23, Y24, Tryst2.isDst, Y25, Y26, Y33]
          repeat' apply And.intro
          any_goals trivial
          all_goals (intro tv w' hg hold hd; (try simp at hold); obtain ⟨hcg, hfg⟩ := Tryst2.Grow.cells hg; have hsg := Tryst2.Grow.le hg)
          all_goals first | (go_simp; done) | (go_simp; rw [if_neg (by omega)]; exact ⟨.refl _, rfl⟩) | (obtain ⟨⟨g, hvg, hgg, hcell⟩, _⟩ := hd; have hcell0 := hcell 0 (by decide); simp at hcell0; go_simp; done) | (go_simp; go_at_call 33; (refine (HCH.out _ ?_).mono ?_); (exact bstep (Tryst2.Grow.below hg (.refl _ _)) HZo.out); rintro e w5 ⟨rfl, hb5⟩; exact ⟨hb5, by rw [HH1.out]⟩)
         case fin =>
          intro tv w' hg hR
          simp only [Tryst2.allR, Tryst2.dstL, Tryst2.Rsp.pred, Y13, Y14, Y16, Y17, Y18, Y19, Y27, Y33] at hR
          obtain ⟨hcg, hfg⟩ := Tryst2.Grow.cells hg
          have hsg := Tryst2.Grow.le hg
          simp only [Tryst2.putAll, Tryst2.dstL, Y13, Y14, Y16, Y17, Y18, Y19, Y33, Y28, Y29, Act.put, Y30, Y31, Y32, hR]
          have HW9 := Lib.hid (bstep (Tryst2.Grow.below hg (.refl _ _)) HW.out)
          clear hg hR hcg hfg hsg
          go_wp2_with fail
          go_roundw
          case rel => exact ⟨k + 1, by (obtain ⟨z, hz⟩ := HLQ.out); omega, Lib.hid (by have := HKQ.out; omega), by go_num, HW9⟩
          case measure => obtain ⟨z, hz⟩ := HLQ.out; simp [intOf] <;> omega
       ·
        go_wp2_with fail
        refine (CA.out _ HBo.out).mono ?_
        rintro e w8 ⟨rfl, hb8⟩
        have HB8 := Lib.hid (bstep hb8 HBo.out)
        clear hb8
        go_wp2_with fail
        go_ret
        exact ⟨rfl, HB8.out⟩
     ·
      go_wp2_with fail
      refine (CA.out _ HBo.out).mono ?_
      rintro e w8 ⟨rfl, hb8⟩
      have HB8 := Lib.hid (bstep hb8 HBo.out)
      clear hb8
      go_wp2_with fail
      go_ret
      exact ⟨rfl, HB8.out⟩
end Go.Proofs.YtmlbdblnmbmnpaaGreatDoor
