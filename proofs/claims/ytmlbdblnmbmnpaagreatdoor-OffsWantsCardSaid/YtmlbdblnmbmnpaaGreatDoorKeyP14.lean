/- offs.Key and ref14.Key. -/
import Derived.Test.YtmlbdblnmbmnpaaGreatDoorProg
import Derived.WalkKit
import Derived.WalkSpells
import Derived.WalkLawsBesides
import Derived.Lib.Hide
import Derived.Deep.RegionWith
import Derived.Deep.Cut
import Derived.IntWalk
import Derived.Laws.ResultCell
import Derived.Test.YtmlbdblnmbmnpaaGreatDoorDefU
import Derived.Test.YtmlbdblnmbmnpaaGreatDoorROffA
set_option linter.unusedVariables false
set_option linter.unusedSimpArgs false
namespace Go.Proofs.YtmlbdblnmbmnpaaGreatDoor
open Go.RowKit Tryst
set_option maxHeartbeats 4000000
set_option maxRecDepth 20000
/-- block g is a value's box -/
def VX (w : World) (g : Nat) (f : FB) : Prop := w.heap[g]? = some (.cells #[.bool f.num, .int .i64 f.n, .string f.s] 67 (0, 0))
theorem VX.grow {w w' : World} {g : Nat} {f : FB} (h : VX w g f) (hb : Below w.heap.size w w') : VX w' g f := (hb.block g (Array.getElem?_eq_some_iff.1 h).1).trans h
theorem VX.new (w : World) (f : FB) : VX (w.alloc (.cells #[.bool f.num, .int .i64 f.n, .string f.s] 67)) w.heap.size f := by
 show (w.heap.push _)[w.heap.size]? = _
 simp
structure VC (w : World) (g : Nat) (f : FB) : Prop where
 lt : g < w.heap.size
 c0 : w.cell? ⟨g, 0, none⟩ = some (.bool f.num)
 c1 : w.cell? ⟨g, 1, none⟩ = some (.int .i64 f.n)
 c2 : w.cell? ⟨g, 2, none⟩ = some (.string f.s)
 f0 : w.frozen? ⟨g, 0, none⟩ = false
 f1 : w.frozen? ⟨g, 1, none⟩ = false
 f2 : w.frozen? ⟨g, 2, none⟩ = false
theorem VX.box {w : World} {g : Nat} {f : FB} (h : VX w g f) : VC w g f := by
 have hz := (Array.getElem?_eq_some_iff.1 h).1
 unfold VX at h
 constructor <;> first | exact hz | simp [World.cell?, h] | simp [World.frozen?, h]
/-- the three boxes of a call of Key -/
structure KB (w v : World) (nm : ByteArray) (G U : Value) (ky kd : ByteArray) (n0 n1 n2 : Int) (t p : ByteArray) (q : Int) (u : Value) : Prop where
 d : DX v w.heap.size nm G U ky kd n0 n1 n2
 e : EX v (w.heap.size + 1) t p q u
 r : VX v (w.heap.size + 2) FB.zero
 b : Below w.heap.size w v
theorem KB.new (w : World) (nm : ByteArray) (G U : Value) (ky kd : ByteArray) (n0 n1 n2 : Int) (t p : ByteArray) (q : Int) (u : Value) :
  KB w (((w.alloc (.cells #[.string nm, G, U, .string ky, .string kd, .int .i64 n0, .int .i64 n1, .int .i64 n2] 27)).alloc (.cells #[.string t, .string p, .int .u64 q, u] 63)).alloc (.cells #[.bool false, .int .i64 0, .string ⟨#[]⟩] 67)) nm G U ky kd n0 n1 n2 t p q u := by
 have e1 := EX.new (w.alloc (.cells #[.string nm, G, U, .string ky, .string kd, .int .i64 n0, .int .i64 n1, .int .i64 n2] 27)) t p q u
 have e2 := VX.new ((w.alloc (.cells #[.string nm, G, U, .string ky, .string kd, .int .i64 n0, .int .i64 n1, .int .i64 n2] 27)).alloc (.cells #[.string t, .string p, .int .u64 q, u] 63)) FB.zero
 rw [show (w.alloc (.cells #[.string nm, G, U, .string ky, .string kd, .int .i64 n0, .int .i64 n1, .int .i64 n2] 27)).heap.size = w.heap.size + 1 by simp] at e1
 rw [show ((w.alloc (.cells #[.string nm, G, U, .string ky, .string kd, .int .i64 n0, .int .i64 n1, .int .i64 n2] 27)).alloc (.cells #[.string t, .string p, .int .u64 q, u] 63)).heap.size = w.heap.size + 2 by simp] at e2
 exact ⟨(DX.new _ _ _ _ _ _ _ _ _).grow (balloc _ (balloc _ (.refl _ _))), e1.grow (balloc _ (.refl _ _)), e2, balloc _ (balloc _ (balloc _ (.refl _ _)))⟩
theorem KB.grow {w v v' : World} {nm : ByteArray} {G U : Value} {ky kd : ByteArray} {n0 n1 n2 : Int} {t p : ByteArray} {q : Int} {u : Value} (h : KB w v nm G U ky kd n0 n1 n2 t p q u) (hb : Below v.heap.size v v') : KB w v' nm G U ky kd n0 n1 n2 t p q u :=
 ⟨h.d.grow hb, h.e.grow hb, h.r.grow hb, bstep hb h.b⟩
theorem keyD_no {d : DB} {l : List FB} (h : mayD d = false) : keyD d l = (FB.zero, false) := by unfold keyD; rw [h]; rfl
theorem keyD_nil {d : DB} {l : List FB} (h : mayD d = true) (hk : d.key = ⟨#[]⟩) : keyD d l = (FB.zero, true) := by unfold keyD; rw [if_pos h, if_pos hk]
theorem keyD_get {d : DB} {l : List FB} (h : mayD d = true) (hk : ¬ d.key = ⟨#[]⟩) : keyD d l = ((findB l d.key).getD FB.zero, (findB l d.key).isSome) := by unfold keyD; rw [if_pos h, if_neg hk]
theorem dKey_c (d : DB) (t p : ByteArray) (q : Int) (ea : Option Addr) (fl : List FB) (ec : Nat) (hfl : fl.length ≤ 1000000000) (w : World) (hM : MaxW w) (hD : DO w d) (hF : Flds w ea fl) :
  Calls Tryz.prog 31 #[d.agg, .agg #[.string t, .string p, .int .u64 q, .slice ea fl.length ec]] w fun e w' => e = .returned (.tuple #[vV (keyD d fl).1, .bool (keyD d fl).2]) ∧ Below w.heap.size w w' := by
 have CM := Lib.hid (fun W (hb : Below w.heap.size w W) => dmay_c d W (hM.grow hb) (hD.grow hb))
 have CG := Lib.hid (fun W (hb : Below w.heap.size w W) => get_c t p q ea ec fl hfl d.key W (hF.grow hb))
 obtain ⟨K, hK⟩ : ∃ K, keyD d fl = K := ⟨_, rfl⟩
 rw [hK]
 have HK := Lib.hid hK
 clear hK hD hM hF
 obtain ⟨mb, hmb⟩ : ∃ b, mayD d = b := ⟨_, rfl⟩
 rw [hmb] at CM
 have HMB := Lib.hid hmb
 clear hmb
 obtain ⟨nm, ga, gl, gc, wa, wl, wc, ky, ⟨kd, pp, n, x⟩⟩ := d
 unfold DB.agg at CM ⊢
 simp only at CM CG ⊢
 go_enter Tryz.func31, Tryz.ntmps31
 go_upto_region 1 with fail
 refine wp_genC (fun v => Hid (KB w v nm (.slice ga gl.length gc) (.slice wa wl.length wc) ky kd pp n x t p q (.slice ea fl.length ec))) (KB.new _ _ _ _ _ _ _ _ _ _ _ _ _) ?_
 rintro Y HY
 obtain ⟨HX0, HE0, HV0, HW0⟩ := HY.out
 have HXa := Lib.hid HX0
 have HEa := Lib.hid HE0
 have HVa := Lib.hid HV0
 have HWa := Lib.hid HW0
 clear HX0 HE0 HV0 HW0 HY
 have hg2 : w.heap.size ≤ w.heap.size + 2 := by omega
 generalize w.heap.size + 2 = g2 at HVa hg2 ⊢
 generalize w.heap.size + 1 = g1 at HEa ⊢
 obtain ⟨g, hg⟩ : ∃ g, w.heap.size = g := ⟨_, rfl⟩
 rw [hg] at HXa
 simp only [hg]
 obtain ⟨x0, x1, x2, x3, x4, x5, x6, x7, x8⟩ := HXa.out.box
 go_wp2_with fail
 refine (CM.out _ HWa.out).mono ?_
 rintro e w1 ⟨rfl, hb1⟩
 have HX := Lib.hid (HXa.out.grow hb1)
 have HE := Lib.hid (HEa.out.grow hb1)
 have HV := Lib.hid (HVa.out.grow hb1)
 have HW := Lib.hid (bstep hb1 HWa.out)
 clear hb1 HXa HEa HVa HWa CM x0 x1 x2 x3 x4 x5 x6 x7 x8
 obtain ⟨x0, x1, x2, x3, x4, x5, x6, x7, x8⟩ := HX.out.box
 obtain ⟨e0, e1, e2, e3, e4⟩ := HE.out.box
 obtain ⟨v0, v1, v2, v3, v4, v5, v6⟩ := HV.out.box
 cases mb with
 | false =>
  obtain rfl : K = (FB.zero, false) := HK.out.symm.trans (keyD_no HMB.out)
  go_wp2_with fail
  exact bodyPost_ret (v := .tuple #[.agg #[.bool false, .int .i64 0, .string ⟨#[]⟩], .bool false]) (by simp [results, Tryz.results31, go_sem, *]) rfl ⟨rfl, by first | exact bset (p := ⟨g2, 2, none⟩) _ hg2 (bset (p := ⟨g2, 1, none⟩) _ hg2 (bset (p := ⟨g2, 0, none⟩) _ hg2 HW.out)) | (rw [← hg]; exact bset (p := ⟨g2, 2, none⟩) _ hg2 (bset (p := ⟨g2, 1, none⟩) _ hg2 (bset (p := ⟨g2, 0, none⟩) _ hg2 HW.out)))⟩
 | true =>
  by_cases hk : ky = ⟨#[]⟩
  ·
   subst hk
   obtain rfl : K = (FB.zero, true) := HK.out.symm.trans (keyD_nil HMB.out rfl)
   go_wp2_with fail
   exact bodyPost_ret (v := .tuple #[.agg #[.bool false, .int .i64 0, .string ⟨#[]⟩], .bool true]) (by simp [results, Tryz.results31, go_sem, *]) rfl ⟨rfl, by first | exact bset (p := ⟨g2, 2, none⟩) _ hg2 (bset (p := ⟨g2, 1, none⟩) _ hg2 (bset (p := ⟨g2, 0, none⟩) _ hg2 HW.out)) | (rw [← hg]; exact bset (p := ⟨g2, 2, none⟩) _ hg2 (bset (p := ⟨g2, 1, none⟩) _ hg2 (bset (p := ⟨g2, 0, none⟩) _ hg2 HW.out)))⟩
  ·
   have hky : (ky.toList == []) = false := by rw [beq_eq_false_iff_ne]; exact fun e => hk (str_ext (by rw [← str_toList, e]))
   have HK2 := Lib.hid (HK.out.symm.trans (keyD_get HMB.out hk))
   clear hk
   go_wp2_with fail
   refine (CG.out _ HW.out).mono ?_
   rintro e w2 ⟨rfl, hb2⟩
   try simp only at HK2
   have HX2 := Lib.hid (HX.out.grow hb2)
   have HE2 := Lib.hid (HE.out.grow hb2)
   have HV2 := Lib.hid (HV.out.grow hb2)
   have HW2 := Lib.hid (bstep hb2 HW.out)
   clear hb2 HX HE HV HW CG x0 x1 x2 x3 x4 x5 x6 x7 x8 e0 e1 e2 e3 e4 v0 v1 v2 v3 v4 v5 v6
   obtain ⟨v0, v1, v2, v3, v4, v5, v6⟩ := HV2.out.box
   cases hf : findB fl ky with
   | none =>
    obtain rfl : K = (FB.zero, false) := HK2.out.trans (by rw [hf]; rfl)
    clear hf
    unfold vV
    simp only [Option.getD_none, Option.isSome_none, FB.zero]
    go_wp2_with fail
    exact bodyPost_ret (v := .tuple #[.agg #[.bool false, .int .i64 0, .string ⟨#[]⟩], .bool false]) (by simp [results, Tryz.results31, go_sem, *]) rfl ⟨rfl, by first | exact balloc _ (bset (p := ⟨g2, 2, none⟩) _ hg2 (bset (p := ⟨g2, 1, none⟩) _ hg2 (bset (p := ⟨g2, 0, none⟩) _ hg2 HW2.out))) | (rw [← hg]; exact balloc _ (bset (p := ⟨g2, 2, none⟩) _ hg2 (bset (p := ⟨g2, 1, none⟩) _ hg2 (bset (p := ⟨g2, 0, none⟩) _ hg2 HW2.out))))⟩
   | some f =>
    obtain rfl : K = (f, true) := HK2.out.trans (by rw [hf]; rfl)
    clear hf
    unfold vV
    simp only [Option.getD_some, Option.isSome_some]
    go_wp2_with fail
    exact bodyPost_ret (v := .tuple #[.agg #[.bool f.num, .int .i64 f.n, .string f.s], .bool true]) (by simp [results, Tryz.results31, go_sem, *]) rfl ⟨rfl, by first | exact balloc _ (bset (p := ⟨g2, 2, none⟩) _ hg2 (bset (p := ⟨g2, 1, none⟩) _ hg2 (bset (p := ⟨g2, 0, none⟩) _ hg2 HW2.out))) | (rw [← hg]; exact balloc _ (bset (p := ⟨g2, 2, none⟩) _ hg2 (bset (p := ⟨g2, 1, none⟩) _ hg2 (bset (p := ⟨g2, 0, none⟩) _ hg2 HW2.out))))⟩
theorem rdKey_c (d : DB) (t p : ByteArray) (q : Int) (ea : Option Addr) (fl : List FB) (ec : Nat) (hfl : fl.length ≤ 1000000000) (w : World) (hD : DO w d) (hF : Flds w ea fl) :
  Calls Tryz.prog 34 #[d.agg, .agg #[.string t, .string p, .int .u64 q, .slice ea fl.length ec]] w fun e w' => e = .returned (.tuple #[vV (keyD d fl).1, .bool (keyD d fl).2]) ∧ Below w.heap.size w w' := by
 have CM := Lib.hid (fun W (hb : Below w.heap.size w W) => rdmay_c d W (hD.grow hb))
 have CG := Lib.hid (fun W (hb : Below w.heap.size w W) => rget_c t p q ea ec fl hfl d.key W (hF.grow hb))
 obtain ⟨K, hK⟩ : ∃ K, keyD d fl = K := ⟨_, rfl⟩
 rw [hK]
 have HK := Lib.hid hK
 clear hK hD hF
 obtain ⟨mb, hmb⟩ : ∃ b, mayD d = b := ⟨_, rfl⟩
 rw [hmb] at CM
 have HMB := Lib.hid hmb
 clear hmb
 obtain ⟨nm, ga, gl, gc, wa, wl, wc, ky, ⟨kd, pp, n, x⟩⟩ := d
 unfold DB.agg at CM ⊢
 simp only at CM CG ⊢
 go_enter Tryz.func34, Tryz.ntmps34
 go_upto_region 1 with fail
 refine wp_genC (fun v => Hid (KB w v nm (.slice ga gl.length gc) (.slice wa wl.length wc) ky kd pp n x t p q (.slice ea fl.length ec))) (KB.new _ _ _ _ _ _ _ _ _ _ _ _ _) ?_
 rintro Y HY
 obtain ⟨HX0, HE0, HV0, HW0⟩ := HY.out
 have HXa := Lib.hid HX0
 have HEa := Lib.hid HE0
 have HVa := Lib.hid HV0
 have HWa := Lib.hid HW0
 clear HX0 HE0 HV0 HW0 HY
 have hg2 : w.heap.size ≤ w.heap.size + 2 := by omega
 generalize w.heap.size + 2 = g2 at HVa hg2 ⊢
 generalize w.heap.size + 1 = g1 at HEa ⊢
 obtain ⟨g, hg⟩ : ∃ g, w.heap.size = g := ⟨_, rfl⟩
 rw [hg] at HXa
 simp only [hg]
 obtain ⟨x0, x1, x2, x3, x4, x5, x6, x7, x8⟩ := HXa.out.box
 go_wp2_with fail
 refine (CM.out _ HWa.out).mono ?_
 rintro e w1 ⟨rfl, hb1⟩
 have HX := Lib.hid (HXa.out.grow hb1)
 have HE := Lib.hid (HEa.out.grow hb1)
 have HV := Lib.hid (HVa.out.grow hb1)
 have HW := Lib.hid (bstep hb1 HWa.out)
 clear hb1 HXa HEa HVa HWa CM x0 x1 x2 x3 x4 x5 x6 x7 x8
 obtain ⟨x0, x1, x2, x3, x4, x5, x6, x7, x8⟩ := HX.out.box
 obtain ⟨e0, e1, e2, e3, e4⟩ := HE.out.box
 obtain ⟨v0, v1, v2, v3, v4, v5, v6⟩ := HV.out.box
 cases mb with
 | false =>
  obtain rfl : K = (FB.zero, false) := HK.out.symm.trans (keyD_no HMB.out)
  go_wp2_with fail
  exact bodyPost_ret (v := .tuple #[.agg #[.bool false, .int .i64 0, .string ⟨#[]⟩], .bool false]) (by simp [results, Tryz.results34, go_sem, *]) rfl ⟨rfl, by first | exact bset (p := ⟨g2, 2, none⟩) _ hg2 (bset (p := ⟨g2, 1, none⟩) _ hg2 (bset (p := ⟨g2, 0, none⟩) _ hg2 HW.out)) | (rw [← hg]; exact bset (p := ⟨g2, 2, none⟩) _ hg2 (bset (p := ⟨g2, 1, none⟩) _ hg2 (bset (p := ⟨g2, 0, none⟩) _ hg2 HW.out)))⟩
 | true =>
  by_cases hk : ky = ⟨#[]⟩
  ·
   subst hk
   obtain rfl : K = (FB.zero, true) := HK.out.symm.trans (keyD_nil HMB.out rfl)
   go_wp2_with fail
   exact bodyPost_ret (v := .tuple #[.agg #[.bool false, .int .i64 0, .string ⟨#[]⟩], .bool true]) (by simp [results, Tryz.results34, go_sem, *]) rfl ⟨rfl, by first | exact bset (p := ⟨g2, 2, none⟩) _ hg2 (bset (p := ⟨g2, 1, none⟩) _ hg2 (bset (p := ⟨g2, 0, none⟩) _ hg2 HW.out)) | (rw [← hg]; exact bset (p := ⟨g2, 2, none⟩) _ hg2 (bset (p := ⟨g2, 1, none⟩) _ hg2 (bset (p := ⟨g2, 0, none⟩) _ hg2 HW.out)))⟩
  ·
   have hky : (ky.toList == []) = false := by rw [beq_eq_false_iff_ne]; exact fun e => hk (str_ext (by rw [← str_toList, e]))
   have HK2 := Lib.hid (HK.out.symm.trans (keyD_get HMB.out hk))
   clear hk
   go_wp2_with fail
   refine (CG.out _ HW.out).mono ?_
   rintro e w2 ⟨rfl, hb2⟩
   try simp only at HK2
   have HV2 := Lib.hid (HV.out.grow hb2)
   have HW2 := Lib.hid (bstep hb2 HW.out)
   clear hb2 HX HE HV HW CG HK x0 x1 x2 x3 x4 x5 x6 x7 x8 e0 e1 e2 e3 e4 v0 v1 v2 v3 v4 v5 v6
   obtain ⟨v0, v1, v2, v3, v4, v5, v6⟩ := HV2.out.box
   obtain ⟨f, ib⟩ := K
   obtain ⟨k1, k2⟩ := Prod.mk.inj HK2.out
   rw [← k1, ← k2]
   clear k1 k2 HK2
   unfold vV
   simp only
   go_wp2_with fail
   exact bodyPost_ret (v := .tuple #[.agg #[.bool f.num, .int .i64 f.n, .string f.s], .bool ib]) (by simp [results, Tryz.results34, go_sem, *]) rfl ⟨rfl, by first | exact id (bset (p := ⟨g2, 2, none⟩) _ hg2 (bset (p := ⟨g2, 1, none⟩) _ hg2 (bset (p := ⟨g2, 0, none⟩) _ hg2 HW2.out))) | (rw [← hg]; exact id (bset (p := ⟨g2, 2, none⟩) _ hg2 (bset (p := ⟨g2, 1, none⟩) _ hg2 (bset (p := ⟨g2, 0, none⟩) _ hg2 HW2.out))))⟩
end Go.Proofs.YtmlbdblnmbmnpaaGreatDoor
