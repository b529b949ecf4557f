/- offs.Next. -/
import Derived.Test.YtmlbdblnmbmnpaaGreatDoorProg
import Derived.WalkKit
import Derived.WalkSpells
import Derived.WalkLawsBesides
import Derived.Lib.Hide
import Derived.Deep.RegionWith
import Derived.Deep.Cut
import Derived.IntWalk
import Derived.Test.YtmlbdblnmbmnpaaGreatDoorDefU
import Derived.Test.YtmlbdblnmbmnpaaGreatDoorOffU
import Derived.Test.YtmlbdblnmbmnpaaGreatDoorTopAD
import Derived.Test.YtmlbdblnmbmnpaaGreatDoorTopOC
set_option linter.unusedVariables false
set_option linter.unusedSimpArgs false
namespace Go.Proofs.YtmlbdblnmbmnpaaGreatDoor
open Go.RowKit Tryst
set_option maxHeartbeats 4000000
set_option maxRecDepth 20000
def nextE : Option (ByteArray × Int) → ByteArray × Int × Int
 | some x => (x.1, x.2, 0)
 | none => (⟨#[]⟩, 0, 4)
/-- what is unread first: the topic, the number, the error's number -/
def nextV (d : DB) (l : List OB) (T : List Tp) : ByteArray × Int × Int :=
 if mayD d = true ∧ checkO l = true ∧ topsMay T = true then nextE (nextP (wantsD d) l T) else (⟨#[]⟩, 0, 1)
def NxRel (Y : World) (N : Option (ByteArray × Int)) (want : ByteArray → Bool) (l : List OB) (T : List Tp) (i : Value) (wr : World) : Prop := ∃ k : Nat, k ≤ T.length ∧ i = .int .i64 k ∧ Hid (N = nextP want l (T.drop k)) ∧ Hid (Below Y.heap.size Y wr)
theorem onext_c (d : DB) (la : Option Addr) (lc : Nat) (l : List OB) (ta : Option Addr) (tc : Nat) (tl : List TB) (hl : l.length ≤ 1000000) (hs : ∀ x ∈ l, x.topic.size ≤ 1000000000) (htl : tl.length ≤ 1000000) (hI : TIn tl) (hN : ∀ t ∈ tl, t.name.size ≤ 100000)
  (w : World) (hM : MaxW w) (hD : DO w d) (hO : Offs w la l) (hT : TopsA w ta tl) :
  Calls Tryz.prog 15 #[d.agg, .slice la l.length lc, .slice ta tl.length tc] w fun e w' => e = .returned (.tuple #[.string (nextV d l (tl.map TB.tp)).1, .int .i64 (nextV d l (tl.map TB.tp)).2.1, .int .i64 (nextV d l (tl.map TB.tp)).2.2]) ∧ Below w.heap.size w w' := by
 have CM := Lib.hid (fun W (hb : Below w.heap.size w W) => dmay_c d W (hM.grow hb) (hD.grow hb))
 have CW := Lib.hid (fun (t : ByteArray) (ht : t.size ≤ 100000) W (hb : Below w.heap.size w W) => dwants_c d t ht W (hM.grow hb) (hD.grow hb))
 have CC := Lib.hid (fun W (hb : Below w.heap.size w W) => ocheck_c la lc l hl hs W (hM.grow hb) (Row.grow hO hb))
 have CT := Lib.hid (fun W (hb : Below w.heap.size w W) => tcheckA_c ta tc tl (by omega) hI W (hM.grow hb) (hT.grow hb))
 have CG := Lib.hid (fun (n : ByteArray) W (hb : Below w.heap.size w W) => oget_c n la lc l hl W (Row.grow hO hb))
 have HF := Lib.hid (fun W (hb : Below w.heap.size w W) => hT.grow hb)
 have HNS := Lib.hid hN
 obtain ⟨v, hv⟩ : ∃ v, nextV d l (tl.map TB.tp) = v := ⟨_, rfl⟩
 rw [hv]
 unfold nextV at hv
 clear hM hD hO hT hI hN hs
 obtain ⟨mb, hmb⟩ : ∃ b, mayD d = b := ⟨_, rfl⟩
 obtain ⟨cb, hcb⟩ : ∃ b, checkO l = b := ⟨_, rfl⟩
 obtain ⟨tb, htb⟩ : ∃ b, topsMay (tl.map TB.tp) = b := ⟨_, rfl⟩
 rw [hmb, hcb, htb] at hv
 rw [hmb] at CM
 rw [hcb] at CC
 rw [htb] at CT
 have HTB := Lib.hid htb
 clear hmb hcb htb
 obtain ⟨want, hwant⟩ : ∃ f, wantsD d = f := ⟨_, rfl⟩
 rw [hwant] at hv CW
 clear hwant
 have HV := Lib.hid hv
 clear hv
 obtain ⟨nm, ga, gl, gc, wa, wl, wc, ky, ⟨kd, p, n, x⟩⟩ := d
 unfold DB.agg at CM CW ⊢
 simp only at CM CW ⊢
 go_enter Tryz.func15, Tryz.ntmps15
 go_upto_region 1 with fail
 refine wp_genC (fun v => Hid (DX v w.heap.size nm (.slice ga gl.length gc) (.slice wa wl.length wc) ky kd p n x) ∧ Hid (Below w.heap.size w v)) ⟨DX.new _ _ _ _ _ _ _ _ _, balloc _ (.refl _ _)⟩ ?_
 rintro Y ⟨HX, HY⟩
 generalize w.heap.size = g at HX ⊢
 obtain ⟨x0, x1, x2, x3, x4, x5, x6, x7, x8⟩ := HX.out.box
 go_wp2_with fail
 refine (CM.out _ HY.out).mono ?_
 rintro e w1 ⟨rfl, hb1⟩
 have HX1 := Lib.hid (HX.out.grow hb1)
 have HB1 := Lib.hid (bstep hb1 HY.out)
 clear hb1 HX HY CM x0 x1 x2 x3 x4 x5 x6 x7 x8
 cases mb with
 | false =>
  obtain rfl : v = (⟨#[]⟩, 0, 1) := HV.out.symm.trans (if_neg (by simp))
  go_wp2_with fail
  go_ret3
  exact ⟨rfl, HB1.out⟩
 | true =>
  go_wp2_with fail
  refine (CC.out _ HB1.out).mono ?_
  rintro e w2 ⟨rfl, hb2⟩
  have HX2 := Lib.hid (HX1.out.grow hb2)
  have HB2 := Lib.hid (bstep hb2 HB1.out)
  clear hb2 HX1 HB1 CC
  cases cb with
  | false =>
   obtain rfl : v = (⟨#[]⟩, 0, 1) := HV.out.symm.trans (if_neg (by simp))
   rw [show errO false = 1 from rfl]
   go_wp2_with fail
   go_ret3
   exact ⟨rfl, HB2.out⟩
  | true =>
   rw [show errO true = 0 from rfl]
   go_wp2_with fail
   refine (CT.out _ HB2.out).mono ?_
   rintro e w3 ⟨rfl, hb3⟩
   have HX3 := Lib.hid (HX2.out.grow hb3)
   have HB3 := Lib.hid (bstep hb3 HB2.out)
   clear hb3 HX2 HB2 CT
   cases tb with
   | false =>
    obtain rfl : v = (⟨#[]⟩, 0, 1) := HV.out.symm.trans (if_neg (by simp))
    rw [show errV false = 1 from rfl]
    go_wp2_with fail
    go_ret3
    exact ⟨rfl, HB3.out⟩
   | true =>
    rw [show errV true = 0 from rfl]
    obtain ⟨N, hN⟩ : ∃ N, nextP want l (tl.map TB.tp) = N := ⟨_, rfl⟩
    have hN0 : N = nextP want l ((tl.map TB.tp).drop 0) := by rw [List.drop_zero]; exact hN.symm
    have HV2 : Hid (nextE N = v) := Lib.hid (by rw [← HV.out, ← hN]; exact (if_pos (by simp)).symm)
    have HN0 := Lib.hid hN0
    clear hN hN0 HV
    go_wp2_with fail
    go_loopw [27] (fun i wr => NxRel w3 N want l (tl.map TB.tp) i wr) (fun i _ => tl.length - (intOf i).toNat)
    case atStart => exact ⟨0, by omega, rfl, HN0, .refl _ _⟩
    case round =>
     obtain ⟨k, hk, rfl, HP, HW⟩ := hrel
     obtain ⟨wo, rfl⟩ : ∃ wo, wo = wr := ⟨_, rfl⟩
     rw [List.length_map] at hk
     have HXo := Lib.hid (HX3.out.grow HW.out)
     have HBo := Lib.hid (bstep HW.out HB3.out)
     clear HN0
     by_cases hlt : k < tl.length
     ·
      obtain ⟨b, o, ha, hb⟩ := (HF.out wo HBo.out).head hlt
      subst ha
      obtain ⟨_, ⟨f0, f1, f2⟩, _⟩ := (HF.out wo HBo.out).at hlt
      have hnx := nextP_step (want := want) (l := l) (T := tl.map TB.tp) (k := k) (by simpa using hlt)
      rw [← HP.out, List.getElem_map] at hnx
      have hmt := okT_mem (topsMay_ok HTB.out).1 ((tl.map TB.tp)[k]'(by simpa using hlt)) (List.getElem_mem (by simpa using hlt))
      rw [List.getElem_map] at hmt
      obtain ⟨q1, q2, q3, _⟩ := tmay_parts hmt
      have hnz := HNS.out tl[k] (List.getElem_mem hlt)
      have hdu : dueO want l tl[k].tp = (decide (max (getO l tl[k].name) tl[k].first < tl[k].first + (tl[k].log.length : Int)) && want tl[k].name) := rfl
      have htn : tl[k].tp.name = tl[k].name := rfl
      have htf : tl[k].tp.first = tl[k].first := rfl
      rw [hdu, htn, htf] at hnx
      clear hdu htn htf hmt HP
      have HCG := Lib.hid (CG.out tl[k].name)
      have HCW := Lib.hid (CW.out tl[k].name hnz)
      generalize getO l tl[k].name = G at hnx HCG
      generalize want tl[k].name = wb at hnx HCW
      have HNX := Lib.hid hnx
      clear hnx hnz
      generalize tl[k].name = tn at f0 HNX HCG HCW
      generalize tl[k].first = tf at f1 HNX q1 q3
      generalize tl[k].log.length = tll at f2 HNX q2 q3
      generalize tl[k].la = tla at f2
      generalize tl[k].lc = tlc at f2
      go_upto_region 6 with fail
      clear f0 f1 f2
      refine wp_genC (fun u => Hid (TBox u wo.heap.size tn tf (.slice tla tll tlc)) ∧ Hid (DX u g nm (.slice ga gl.length gc) (.slice wa wl.length wc) ky kd p n x) ∧ Hid (Below w3.heap.size w3 u) ∧ Hid (Below w.heap.size w u)) ⟨TBox.new _ _ _ _ _, HXo.out.grow (balloc _ (.refl _ _)), balloc _ HW.out, balloc _ HBo.out⟩ ?_
      rintro U ⟨HTU, HXU, HWU, HBU⟩
      generalize wo.heap.size = B at HTU ⊢
      obtain ⟨t0, t1, t2, t3, t4, t5, t6⟩ := HTU.out
      obtain ⟨mx, hmx⟩ : ∃ mx, max G tf = mx := ⟨_, rfl⟩
      rw [hmx] at HNX
      have HMX := Lib.hid hmx
      clear hmx HXo HW HBo
      refine Tryst2.wp_region_grows [.is (.slice la l.length lc), .is (.pointer (some ⟨B, 0, none⟩)), .is (.string tn), .is (.int .i64 G), .is (.pointer (some ⟨B, 1, none⟩)), .is (.int .i64 tf), .is (.int .i64 mx)] (by kernel_rfl) (by kernel_rfl) ?obl ?fin
      case obl =>
       simp only [YA, YL, YO, YR, Op.operands, Call.operands]
       repeat' apply And.intro
       any_goals trivial
       all_goals (intro tv w' hg hold hd; (try simp at hold); obtain ⟨hcg, hfg, hsg⟩ := YG hg)
       all_goals first | (go_simp; done) | (go_simp; rw [if_neg (by omega)]; exact ⟨.refl _, rfl⟩) | (obtain ⟨⟨g, hvg, hgg, hcell⟩, _⟩ := hd; have hcell0 := hcell 0 (by decide); simp at hcell0; go_simp; done) | (go_simp; go_at_call 18; (with_reducible refine (HCG.out _ ?_).mono ?_); (exact bstep (Tryst2.Grow.below hg (.refl _ _)) HBU.out); rintro e w5 ⟨rfl, hb5⟩; exact ⟨hb5, rfl⟩) | (go_simp; exact HMX.out)
      case fin =>
       intro tv w' hg hR
       simp only [YF, YL, YR] at hR
       obtain ⟨hcg, hfg, hsg⟩ := YG hg
       simp only [YP, YL, Act.put, hR]
       have hbu := Tryst2.Grow.below hg (.refl U.heap.size U)
       have HT2 := Lib.hid (HTU.out.grow hbu)
       have HX2 := Lib.hid (HXU.out.grow hbu)
       have HW2 := Lib.hid (bstep hbu HWU.out)
       have HB2 := Lib.hid (bstep hbu HBU.out)
       clear hg hR hcg hfg hsg hbu HTU HXU HWU HBU HCG t0 t1 t2 t3 t4 t5 t6
       obtain ⟨t0, t1, t2, t3, t4, t5, t6⟩ := HT2.out
       obtain ⟨x0, x1, x2, x3, x4, x5, x6, x7, x8⟩ := HX2.out.box
       by_cases hlt2 : mx < tf + (tll : Int)
       ·
        have HNX2 : Hid (N = if wb = true then some (tn, mx) else nextP want l ((tl.map TB.tp).drop (k + 1))) := Lib.hid (by
         have := HNX.out
         rwa [decide_eq_true hlt2, Bool.true_and] at this)
        clear HNX
        go_wp2_with fail
        refine (HCW.out _ HB2.out).mono ?_
        rintro e w5 ⟨rfl, hb5⟩
        have HT3 := Lib.hid (HT2.out.grow hb5)
        have HW3 := Lib.hid (bstep hb5 HW2.out)
        have HB3 := Lib.hid (bstep hb5 HB2.out)
        clear hb5 HT2 HX2 HW2 HB2 HCW t0 t1 t2 t3 t4 t5 t6 x0 x1 x2 x3 x4 x5 x6 x7 x8
        obtain ⟨t0, t1, t2, t3, t4, t5, t6⟩ := HT3.out
        cases wb with
        | true =>
         obtain rfl : v = (tn, mx, 0) := HV2.out.symm.trans (by rw [HNX2.out, if_pos rfl]; rfl)
         go_wp2_with fail
         go_ret3
         exact ⟨rfl, HB3.out⟩
        | false =>
         have HN2 : Hid (N = nextP want l ((tl.map TB.tp).drop (k + 1))) := Lib.hid (by rw [HNX2.out, if_neg (by simp)])
         go_wp2_with fail
         go_roundw
         case rel => exact ⟨k + 1, by rw [List.length_map]; omega, by go_num, HN2, HW3⟩
         case measure => simp [intOf] <;> omega
       ·
        have HN2 : Hid (N = nextP want l ((tl.map TB.tp).drop (k + 1))) := Lib.hid (by
         have := HNX.out
         rwa [decide_eq_false hlt2, Bool.false_and, if_neg (by simp)] at this)
        clear HNX
        go_wp2_with fail
        go_roundw
        case rel => exact ⟨k + 1, by rw [List.length_map]; omega, by go_num, HN2, HW2⟩
        case measure => simp [intOf] <;> omega
     ·
      have HNX : Hid (N = none) := Lib.hid (HP.out.trans (by rw [List.drop_eq_nil_of_le (by rw [List.length_map]; omega)]; rfl))
      obtain rfl : v = (⟨#[]⟩, 0, 4) := HV2.out.symm.trans (by rw [HNX.out]; rfl)
      go_wp2_with fail
      go_ret3
      exact ⟨rfl, HBo.out⟩
end Go.Proofs.YtmlbdblnmbmnpaaGreatDoor
