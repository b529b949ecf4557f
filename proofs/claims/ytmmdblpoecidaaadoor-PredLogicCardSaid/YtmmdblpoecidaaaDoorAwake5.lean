/- awake of chapter 05. -/
import Derived.Test.YtmmdblpoecidaaaDoorProg
import Derived.WalkKit
import Derived.WalkSpells
import Derived.WalkLawsBesides
import Derived.Lib.Hide
import Derived.Deep.RegionWith
import Derived.Deep.Cut
import Derived.IntWalk
import Derived.Test.YtmmdblpoecidaaaDoorHold5
set_option linter.unusedVariables false
set_option linter.unusedSimpArgs false
namespace Go.Proofs.YtmmdblpoecidaaaDoor
open Go.RowKit Tryst
set_option maxHeartbeats 2000000
set_option maxRecDepth 20000
theorem flds_one (w : World) (B : Nat) (hB : w.heap.size = B) (f : FB) (T : TypeId) : Flds (w.alloc (.cells #[.string f.name, .bool f.num, .int .i64 f.n, .string f.s] T)) (some ⟨B, 0, none⟩) [f] := by
  subst hB
  intro i hi
  obtain rfl : i = 0 := by simpa using hi
  refine ⟨w.heap.size, 0, rfl, by simp, ?_⟩
  constructor <;> simp [go_sem]
theorem ebox_new (w : World) (B : Nat) (hB : w.heap.size = B) (t p : ByteArray) (q : Int) (u : Value) (T : TypeId) : EBox (w.alloc (.cells #[.string t, .string p, .int .u64 q, u] T)) B t p q u := by
  subst hB
  constructor <;> simp [go_sem]
theorem EBox.grow {v w : World} {b : Nat} {t p : ByteArray} {q : Int} {u : Value} (h : EBox v b t p q u) (hb : Below v.heap.size v w) : EBox w b t p q u := by
  obtain ⟨h0, h1, h2, h3, hz⟩ := h
  exact ⟨by rw [hb.cell (p := ⟨b, 0, none⟩) hz]; exact h0, by rw [hb.cell (p := ⟨b, 1, none⟩) hz]; exact h1, by rw [hb.cell (p := ⟨b, 2, none⟩) hz]; exact h2, by rw [hb.cell (p := ⟨b, 3, none⟩) hz]; exact h3, Nat.lt_of_lt_of_le hz hb.size⟩
def fb5 : FB := ⟨⟨#[120]⟩, true, 5, ⟨#[]⟩⟩
def fbA : FB := ⟨⟨#[120]⟩, false, 0, ⟨#[97]⟩⟩
theorem eq_x : (mayP (leafB ⟨#[101, 113]⟩ ⟨#[120]⟩ ⟨true, 5, []⟩).pr && eqB [fb5] ⟨#[120]⟩ true 5 ⟨([] : List UInt8).toArray⟩) = true := by
  rw [may_x _ (.inl rfl)]
  simp [eqB, findB, fb5, str_toList]
theorem lt_x : (mayP (leafB ⟨#[108, 116]⟩ ⟨#[120]⟩ ⟨true, 5, []⟩).pr && ltB [fbA] ⟨#[120]⟩ true 5 ⟨([] : List UInt8).toArray⟩) = false := by
  simp [ltB, findB, fbA]
theorem awake5_c (w : World) (hM : MaxW w) : Calls Tryd.prog 13 #[] w fun e w' => e = .returned (.bool true) ∧ Below w.heap.size w w' := by
  have HM := Lib.hid hM
  clear hM
  go_enter Tryd.func13, Tryd.ntmps13
  go_wp2_with fail
  refine (parse_eq_c w HM.out).mono ?_
  rintro e w1 ⟨rfl, hb1⟩
  have KB1 := Lib.hid hb1
  clear hb1
  unfold leafB PB.agg
  simp only [PB.op, PB.s, PB.num, PB.n, PB.vs, PB.a, PB.c, PB.l, List.length_nil]
  go_wp2_with fail
  obtain ⟨b1, hb1⟩ : ∃ b, w1.heap.size = b := ⟨_, rfl⟩
  have hx1 := PBox.new w1 ⟨#[101, 113]⟩ ⟨#[120]⟩ true 5 ⟨#[]⟩ (.slice none 0 0) 26
  have K1 := Lib.hid (balloc (.cells #[.string ⟨#[101, 113]⟩, .string ⟨#[120]⟩, .bool true, .int .i64 5, .string ⟨#[]⟩, .slice none 0 0] 26) KB1.out)
  rw [hb1] at hx1 ⊢
  have HX1 := Lib.hid hx1
  clear hx1 hb1 KB1
  revert HX1 K1
  generalize w1.alloc (.cells #[.string ⟨#[101, 113]⟩, .string ⟨#[120]⟩, .bool true, .int .i64 5, .string ⟨#[]⟩, .slice none 0 0] 26) = X1
  intro K1 HX1
  refine (parse_lt_c X1 (HM.out.grow K1.out)).mono ?_
  rintro e w2 ⟨rfl, hb2⟩
  have HX2 := Lib.hid (HX1.out.grow hb2)
  have K2 := Lib.hid (bstep hb2 K1.out)
  clear hb2 HX1 K1
  unfold leafB PB.agg
  simp only [PB.op, PB.s, PB.num, PB.n, PB.vs, PB.a, PB.c, PB.l, List.length_nil]
  go_wp2_with fail
  obtain ⟨b2, hb2⟩ : ∃ b, w2.heap.size = b := ⟨_, rfl⟩
  have hx2 := PBox.new w2 ⟨#[108, 116]⟩ ⟨#[120]⟩ true 5 ⟨#[]⟩ (.slice none 0 0) 26
  have HX3 := Lib.hid (HX2.out.grow (balloc (.cells #[.string ⟨#[108, 116]⟩, .string ⟨#[120]⟩, .bool true, .int .i64 5, .string ⟨#[]⟩, .slice none 0 0] 26) (.refl _ _)))
  have K3 := Lib.hid (balloc (.cells #[.string ⟨#[108, 116]⟩, .string ⟨#[120]⟩, .bool true, .int .i64 5, .string ⟨#[]⟩, .slice none 0 0] 26) K2.out)
  rw [hb2] at hx2 ⊢
  have HY3 := Lib.hid hx2
  clear hx2 hb2 HX2 K2
  revert HX3 K3 HY3
  generalize w2.alloc (.cells #[.string ⟨#[108, 116]⟩, .string ⟨#[120]⟩, .bool true, .int .i64 5, .string ⟨#[]⟩, .slice none 0 0] 26) = X3
  intro HX3 K3 HY3
  refine (parse_bad_c X3 (HM.out.grow K3.out)).mono ?_
  rintro e w4 ⟨rfl, hb4⟩
  have HX4 := Lib.hid (HX3.out.grow hb4)
  have HY4 := Lib.hid (HY3.out.grow hb4)
  have K4 := Lib.hid (bstep hb4 K3.out)
  clear hb4 HX3 HY3 K3
  unfold leafB PB.agg
  simp only [PB.op, PB.s, PB.num, PB.n, PB.vs, PB.a, PB.c, PB.l, List.length_nil]
  go_upto_region 6 with fail
  obtain ⟨z, hz⟩ : ∃ z, w4.heap.size = z := ⟨_, rfl⟩
  refine wp_genC (fun v => Hid (PBox v b1 ⟨#[101, 113]⟩ ⟨#[120]⟩ true 5 ⟨#[]⟩ (.slice none 0 0)) ∧ Hid (PBox v b2 ⟨#[108, 116]⟩ ⟨#[120]⟩ true 5 ⟨#[]⟩ (.slice none 0 0)) ∧ Hid (EBox v (w4.heap.size + 1 + 1) ⟨#[97]⟩ ⟨#[112]⟩ 1 (.slice (some ⟨w4.heap.size + 1, 0, none⟩) 1 1)) ∧ Hid (Flds v (some ⟨w4.heap.size + 1, 0, none⟩) [fb5]) ∧
    Hid (EBox v (w4.heap.size + 1 + 1 + 1 + 1) ⟨#[97]⟩ ⟨#[112]⟩ 1 (.slice (some ⟨w4.heap.size + 1 + 1 + 1, 0, none⟩) 1 1)) ∧ Hid (Flds v (some ⟨w4.heap.size + 1 + 1 + 1, 0, none⟩) [fbA]) ∧ Hid (Below w.heap.size w v))
    ⟨HX4.out.grow (balloc _ (balloc _ (balloc _ (balloc _ (balloc _ (.refl _ _)))))), HY4.out.grow (balloc _ (balloc _ (balloc _ (balloc _ (balloc _ (.refl _ _)))))), (ebox_new _ _ (by simp) _ _ _ _ _).grow (balloc _ (balloc _ (.refl _ _))), (flds_one _ _ (by simp) fb5 _).grow (balloc _ (balloc _ (balloc _ (.refl _ _)))), ebox_new _ _ (by simp) _ _ _ _ _, (flds_one _ _ (by simp) fbA _).grow (balloc _ (.refl _ _)), balloc _ (balloc _ (balloc _ (balloc _ (balloc _ K4.out))))⟩ ?_
  rintro Z ⟨HX5, HY5, HE5, HF5, HE6, HF6, K5⟩
  generalize w4.heap.size + 1 + 1 + 1 + 1 = e2 at HE6 ⊢
  generalize w4.heap.size + 1 + 1 + 1 = f2 at HE6 HF6
  generalize w4.heap.size + 1 + 1 = e1 at HE5 ⊢
  generalize w4.heap.size + 1 = f1 at HE5 HF5
  clear hz HX4 HY4 K4
  obtain ⟨x0, x1, x2, x3, x4, x5, x6⟩ := HX5.out
  obtain ⟨y0, y1, y2, y3, y6⟩ := HE5.out
  have HE := holds_eq_c ⟨#[120]⟩ ⟨true, 5, []⟩ (by decide) (by decide) ⟨#[97]⟩ ⟨#[112]⟩ 1 (some ⟨f1, 0, none⟩) [fb5] 1 (by decide) Z (HM.out.grow K5.out) HF5.out
  rw [eq_x] at HE
  unfold leafB PB.agg at HE
  simp only [PB.op, PB.s, PB.num, PB.n, PB.vs, PB.a, PB.c, PB.l, List.length_nil, List.length_singleton] at HE
  go_wp2_with fail
  refine HE.mono ?_
  rintro e w6 ⟨rfl, hb6⟩
  have HY6 := Lib.hid (HY5.out.grow hb6)
  have HE7 := Lib.hid (HE6.out.grow hb6)
  have HF7 := Lib.hid (HF6.out.grow hb6)
  have K6 := Lib.hid (bstep hb6 K5.out)
  clear x0 x1 x2 x3 x4 x5 x6 y0 y1 y2 y3 y6 HE HX5 HY5 HE5 HF5 HE6 HF6 K5 hb6
  obtain ⟨x0, x1, x2, x3, x4, x5, x6⟩ := HY6.out
  obtain ⟨y0, y1, y2, y3, y6⟩ := HE7.out
  have HE := holds_lt_c ⟨#[120]⟩ ⟨true, 5, []⟩ (by decide) (by decide) ⟨#[97]⟩ ⟨#[112]⟩ 1 (some ⟨f2, 0, none⟩) [fbA] 1 (by decide) w6 (HM.out.grow K6.out) HF7.out
  rw [lt_x] at HE
  unfold leafB PB.agg at HE
  simp only [PB.op, PB.s, PB.num, PB.n, PB.vs, PB.a, PB.c, PB.l, List.length_nil, List.length_singleton] at HE
  go_wp2_with fail
  refine HE.mono ?_
  rintro e w7 ⟨rfl, hb7⟩
  have K7 := bstep hb7 K6.out
  clear x0 x1 x2 x3 x4 x5 x6 y0 y1 y2 y3 y6 HE
  go_wp2_with fail
  go_ret
  exact ⟨rfl, K7⟩
end Go.Proofs.YtmmdblpoecidaaaDoor
