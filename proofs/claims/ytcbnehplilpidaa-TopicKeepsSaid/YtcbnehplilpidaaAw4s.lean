/- The walks of awake and EventShort. -/
import Derived.Test.YtcbnehplilpidaaProg
import Derived.WalkKit
import Derived.WalkSpells
import Derived.WalkLawsBesides
import Derived.Lib.Hide
import Derived.Deep.RegionWith
import Derived.Deep.Cut
import Derived.Test.YtcbnehplilpidaaRdB
import Derived.Test.YtcbnehplilpidaaEvB
import Derived.Test.YtcbnehplilpidaaEvC
import Derived.Test.YtcbnehplilpidaaOpen4
set_option linter.unusedVariables false
set_option linter.unusedSimpArgs false
namespace Go.Proofs.Ytcbnehplilpidaa
open Go.RowKit Tryst
set_option maxHeartbeats 400000
set_option maxRecDepth 20000
def f0 : FB := ⟨⟨#[120]⟩, true, 7, ⟨#[]⟩⟩
def fx : FB := ⟨⟨#[120]⟩, false, 0, ⟨#[]⟩⟩
theorem aw_may : (evE ⟨#[97, 46, 98]⟩ ⟨#[112]⟩ 1 [f0]).may = true := by decide
theorem aw_bad : evMay ⟨#[97]⟩ ⟨#[112]⟩ 1 [fx, fx] = false := by decide
theorem aw_lay : (evE ⟨#[97, 46, 98]⟩ ⟨#[112]⟩ 1 [f0]).lay.length = 12 := by decide
theorem aw_take : takeE (⟨#[]⟩ : ByteArray).data.toList = (Ev.zero, 0, 3) := by rfl
theorem aw_find : findB [f0] ⟨#[120]⟩ = some f0 := by rfl
theorem take_none (w : World) (hM : MaxW w) : Calls Try.prog 22 #[.string ⟨#[]⟩] w fun e w' => (∃ a c, e = .returned (.tuple #[.agg #[.string ⟨#[]⟩, .string ⟨#[]⟩, .int .u64 0, .slice a 0 c], .int .i64 0, .int .i64 3])) ∧ Below w.heap.size w w' := by
  have t1 := etake_c ⟨#[]⟩ (by decide) w hM
  rw [aw_take] at t1
  refine t1.mono ?_
  rintro e w4 ⟨a4, c4, rfl, _, _, hb4⟩
  exact ⟨⟨a4, c4, rfl⟩, hb4⟩
theorem lay_f0 (a : Option Addr) (c : Nat) (w : World) (hM : MaxW w) (hF : Flds w a [f0]) : Calls Try.prog 21 #[.agg #[.string ⟨#[97, 46, 98]⟩, .string ⟨#[112]⟩, .int .u64 1, .slice a 1 c]] w fun e w' => (∃ s : ByteArray, s.size = 12 ∧ e = .returned (.tuple #[.string s, .int .i64 0])) ∧ Below w.heap.size w w' := by
  refine (elay_yes ⟨#[97, 46, 98]⟩ ⟨#[112]⟩ 1 a c [f0] (by decide) (by decide) (by decide) (fun f hf => by rw [List.mem_singleton] at hf; subst hf; decide) w hM hF (by decide) (by decide) aw_may).mono ?_
  rintro e w' ⟨rfl, hb⟩
  exact ⟨⟨⟨(evE ⟨#[97, 46, 98]⟩ ⟨#[112]⟩ 1 [f0]).lay.toArray⟩, (mk_size _).trans aw_lay, rfl⟩, hb⟩
theorem two_fx (w : World) (T : TypeId) : Flds (w.alloc (.cells #[.string ⟨#[120]⟩, .bool false, .int .i64 0, .string ⟨#[]⟩, .string ⟨#[120]⟩, .bool false, .int .i64 0, .string ⟨#[]⟩] T)) (some ⟨w.heap.size, 0, none⟩) [fx, fx] := by
  intro i hi
  refine ⟨w.heap.size, 0, rfl, by simp, ?_⟩
  match i, hi with
  | 0, _ => constructor <;> simp [go_sem, fx]
  | 1, _ => constructor <;> simp [go_sem, fx]
theorem may_fx (w : World) (hM : MaxW w) {a : Option Addr} (hF : Flds w a [fx, fx]) : Calls Try.prog 14 #[.agg #[.string ⟨#[97]⟩, .string ⟨#[112]⟩, .int .u64 1, .slice a 2 2]] w fun e w' => e = .returned (.bool false) ∧ Below w.heap.size w w' := by
  have h := evmay_c ⟨#[97]⟩ ⟨#[112]⟩ 1 a 2 [fx, fx] (by decide) (by decide) (by decide) (fun f hf => by simp at hf; subst hf; decide) w hM hF (by decide) (by decide)
  rw [aw_bad] at h
  exact h
set_option maxHeartbeats 2000000 in
theorem awake4_c (w : World) (hM : MaxW w) : Calls Try.prog 17 #[] w fun e w' => e = .returned (.bool true) ∧ Below w.heap.size w w' := by
  have HM := Lib.hid hM
  clear hM
  go_enter Try.func17, Try.ntmps17
  go_wp2_with fail
  refine (put_c ⟨#[97, 46, 98]⟩ ⟨#[112]⟩ 1 none 0 [] (by simp) ⟨Nat.le_refl _, fun A h => (by cases h), fun _ => rfl⟩ f0 w (Flds.nil _ _)).mono ?_
  rintro e w1 ⟨a, c, rfl, hF, hS, hb1⟩
  rw [show putB [] f0 = [f0] from rfl] at hF hS
  have hl0 : ((putB [] f0).length) = 1 := rfl
  rw [hl0]
  have HF1 := Lib.hid hF
  have KB1 := Lib.hid hb1
  clear hF hS hb1 hl0
  go_wp2_with fail
  obtain ⟨X, hX⟩ : ∃ X, w1.alloc (.cells #[.string ⟨#[97, 46, 98]⟩, .string ⟨#[112]⟩, .int .u64 1, .slice a 1 c] 25) = X := ⟨_, rfl⟩
  have hEX : EAt X w1.heap.size ⟨#[97, 46, 98]⟩ ⟨#[112]⟩ 1 (.slice a 1 c) := by rw [← hX]; constructor <;> simp [go_sem]
  have hbX : Below w1.heap.size w1 X := by rw [← hX]; exact balloc _ (.refl _ _)
  have hzX : w1.heap.size < X.heap.size := by rw [← hX]; simp
  have FX := Lib.hid (HF1.out.grow hbX)
  have EX := Lib.hid hEX
  have KX := Lib.hid (bstep hbX KB1.out)
  rw [hX]
  obtain ⟨b1, hb1⟩ : ∃ b, w1.heap.size = b := ⟨_, rfl⟩
  rw [hb1] at EX hzX
  have hbw1 : w.heap.size ≤ b1 := by rw [← hb1]; exact KB1.out.size
  rw [hb1]
  clear hX hEX hbX HF1 KB1 hb1
  have g1 := get_c ⟨#[97, 46, 98]⟩ ⟨#[112]⟩ 1 a c [f0] (by simp) ⟨#[120]⟩ X FX.out
  rw [aw_find] at g1
  refine g1.mono ?_
  rintro e w2 ⟨rfl, hb2⟩
  have E2 := Lib.hid (EX.out.grow hzX hb2)
  have F2 := Lib.hid (FX.out.grow hb2)
  have K2 := Lib.hid (bstep hb2 KX.out)
  have z2 : b1 < w2.heap.size := Nat.lt_of_lt_of_le hzX hb2.size
  clear hb2 g1 EX FX KX hzX
  unfold vV f0
  simp only [Option.getD_some, Option.isSome_some]
  obtain ⟨d0, d1, d2, d3, d4, d5, d6, d7⟩ := E2.out
  go_wp2_with fail
  obtain ⟨b2, hb2⟩ : ∃ b, w2.heap.size = b := ⟨_, rfl⟩
  have V3 : Hid (VBox (w2.alloc (.cells #[.bool true, .int .i64 7, .string ⟨#[]⟩] 27)) b2 ⟨true, 7, []⟩) := by
    rw [← hb2]; exact VBox.new w2 ⟨true, 7, []⟩ _
  have E3 := Lib.hid (E2.out.grow z2 (balloc (.cells #[.bool true, .int .i64 7, .string ⟨#[]⟩] 27) (.refl _ w2)))
  have F3 := Lib.hid (F2.out.grow (balloc (.cells #[.bool true, .int .i64 7, .string ⟨#[]⟩] 27) (.refl _ w2)))
  have K3 := Lib.hid (balloc (.cells #[.bool true, .int .i64 7, .string ⟨#[]⟩] 27) K2.out)
  have z3 : b1 < (w2.alloc (.cells #[.bool true, .int .i64 7, .string ⟨#[]⟩] 27)).heap.size := by simp; omega
  have z3' : b2 < (w2.alloc (.cells #[.bool true, .int .i64 7, .string ⟨#[]⟩] 27)).heap.size := by simp; omega
  rw [hb2]
  clear d0 d1 d2 d3 d4 d5 d6 d7 E2 F2 K2 z2 hb2
  revert E3 F3 K3 z3 z3' V3
  generalize w2.alloc (.cells #[.bool true, .int .i64 7, .string ⟨#[]⟩] 27) = X3
  intro V3 E3 F3 K3 z3 z3'
  refine (take_none X3 (HM.out.grow K3.out)).mono ?_
  rintro e w4 ⟨⟨a4, c4, rfl⟩, hb4⟩
  have E4 := Lib.hid (E3.out.grow z3 hb4)
  have F4 := Lib.hid (F3.out.grow hb4)
  have V4 := Lib.hid (V3.out.grow hb4)
  have K4 := Lib.hid (bstep hb4 K3.out)
  have z4 : b1 < w4.heap.size := Nat.lt_of_lt_of_le z3 hb4.size
  have z4' : b2 < w4.heap.size := Nat.lt_of_lt_of_le z3' hb4.size
  clear hb4 E3 F3 K3 V3 z3 z3'
  obtain ⟨d0, d1, d2, d3, d4, d5, d6, d7⟩ := E4.out
  go_wp2_with fail
  have hbA := balloc (.cells #[.string ⟨#[]⟩, .string ⟨#[]⟩, .int .u64 0, .slice a4 0 c4] 25) (.refl w4.heap.size w4)
  have V5 := Lib.hid (V4.out.grow hbA)
  have F5 := Lib.hid (F4.out.grow hbA)
  have K5 := Lib.hid (bstep hbA K4.out)
  have z5 : b2 < (w4.alloc (.cells #[.string ⟨#[]⟩, .string ⟨#[]⟩, .int .u64 0, .slice a4 0 c4] 25)).heap.size := by simp; omega
  clear hbA V4 F4 K4 z4 z4' d0 d1 d2 d3 d4 d5 d6 d7 E4
  revert V5 F5 K5 z5
  generalize w4.alloc (.cells #[.string ⟨#[]⟩, .string ⟨#[]⟩, .int .u64 0, .slice a4 0 c4] 25) = X5
  intro V5 F5 K5 z5
  refine (lay_f0 a c X5 (HM.out.grow K5.out) F5.out).mono ?_
  rintro e w6 ⟨⟨s, hs, rfl⟩, hb6⟩
  have V6 := Lib.hid (V5.out.grow hb6)
  have K6 := Lib.hid (bstep hb6 K5.out)
  have z6 : b2 < w6.heap.size := Nat.lt_of_lt_of_le z5 hb6.size
  clear hb6 V5 F5 K5 z5
  obtain ⟨d0, d1, d2, d3, d4, d5, d6⟩ := V6.out
  have y1 : (8 : Int) < s.size := by omega
  go_wp2_with fail
  have hb7 := balloc (.cells #[.string ⟨#[120]⟩, .bool false, .int .i64 0, .string ⟨#[]⟩, .string ⟨#[120]⟩, .bool false, .int .i64 0, .string ⟨#[]⟩] 39) (.refl w6.heap.size w6)
  have K7 := Lib.hid (bstep hb7 K6.out)
  clear hb7 d0 d1 d2 d3 d4 d5 d6
  refine (may_fx _ (HM.out.grow K7.out) (two_fx w6 39)).mono ?_
  rintro e w8 ⟨rfl, hb8⟩
  have K8 := Lib.hid (bstep hb8 K7.out)
  clear hb8 K7 K6 V6
  go_wp2_with fail
  go_ret
  exact ⟨rfl, K8.out⟩
end Go.Proofs.Ytcbnehplilpidaa
namespace Go.Proofs.Ytcbnehplilpidaa
open Go.RowKit Tryst
set_option maxHeartbeats 400000
set_option maxRecDepth 20000
theorem few_ok {l : List FB} (h : FIn l) : FOk (fewL l) ∧ (∀ f ∈ fewL l, f.name.size ≤ 60 ∧ f.s.size ≤ 70) ∧ (fewL l).length ≤ 10 := by
  refine ⟨fun f hf => ?_, fun f hf => ?_, by unfold fewL; rw [List.length_map, List.length_take]; omega⟩
  · obtain ⟨g, hg, rfl⟩ := List.mem_map.1 hf
    have h1 := h g (List.mem_of_mem_take hg)
    have h2 := few60_le g.name
    have h3 := few_le g.s
    exact ⟨by show (few60 g.name).size ≤ _; omega, by show (few g.s).size ≤ _; omega, h1.2.2.1, h1.2.2.2⟩
  · obtain ⟨g, hg, rfl⟩ := List.mem_map.1 hf
    exact ⟨few60_le g.name, few_le g.s⟩
theorem few_in {l : List FB} (h : FIn l) : ∀ f ∈ l, f.name.size ≤ 9223372036854775807 ∧ f.s.size ≤ 9223372036854775807 := fun f hf => ⟨(h f hf).1, (h f hf).2.1⟩
theorem maxW_of {w : World} (h : w.ShapedOpen Try.prog) : MaxW w := by
  obtain ⟨m, hm⟩ := Go.Proofs.cell_of_shapedOpen_int (zero := #[.int .i64 0]) (t := 3) (g := 0) h (of_decide_eq_true (by kernel_rfl)) (by kernel_rfl) rfl (by kernel_rfl) (by kernel_rfl) Try.underlying3
  exact ⟨⟨m, hm⟩, (cell_lt hm).1⟩
theorem elay_bad {t p : ByteArray} {q : Int} {a : Option Addr} {c : Nat} {l : List FB} (hl : l.length ≤ 1000000000) (ht : t.size ≤ 1000000000) (hp : p.size ≤ 1000000000) (hs : FOk l) (h0 : 0 ≤ q) (h4 : q ≤ 18446744073709551615) :
    ∀ (w : World), MaxW w → Flds w a l → Calls Try.prog 21 #[.agg #[.string t, .string p, .int .u64 q, .slice a l.length c]] w fun e w' => e = .returned (.tuple (if (evE t p q l).may = true then #[.string ⟨(evE t p q l).lay.toArray⟩, .int .i64 0] else #[.string ⟨#[]⟩, .int .i64 1])) ∧ Below w.heap.size w w' := by
  intro w hM hF
  cases hm : (evE t p q l).may with
  | true => rw [if_pos rfl]; exact elay_yes t p q a c l hl ht hp hs w hM hF h0 h4 hm
  | false => rw [if_neg (by simp)]; exact elay_no t p q a c l hl ht hp hs w hM hF h0 h4 hm
theorem flds_box {w : World} {B : Nat} {t p : ByteArray} {q : Int} {a0 : Option Addr} {m c0 : Nat} {T : TypeId} {a : Option Addr} {l : List FB} (hB : w.heap[B]? = some (.cells #[.string t, .string p, .int .u64 q, .slice a0 m c0] T (0, 0))) (hF : Flds w a l) (v0 v1 v2 v3 : Value) :
    Flds ((((w.setCell ⟨B, 0, none⟩ v0).setCell ⟨B, 1, none⟩ v1).setCell ⟨B, 2, none⟩ v2).setCell ⟨B, 3, none⟩ v3) a l := by
  intro i hi
  obtain ⟨b, o, h1, h2, h3⟩ := hF i hi
  have hne : B ≠ b := fun e => by
    subst e
    have h := h3.c1
    rw [Lib.cell_of_heap hB] at h
    have : ∀ j, (#[.string t, .string p, .int .u64 q, .slice a0 m c0] : Array Value)[j]? ≠ some (Value.bool l[i].num) := fun j => by
      match j with
      | 0 => simp
      | 1 => simp
      | 2 => simp
      | 3 => simp
      | j + 4 => rw [Array.getElem?_eq_none (by simp)]; simp
    exact this _ h
  obtain ⟨k0, k1, k2, k3⟩ := h3
  exact ⟨b, o, h1, by simpa using h2, ⟨by simp [cell_setCell, hne, k0], by simp [cell_setCell, hne, k1], by simp [cell_setCell, hne, k2], by simp [cell_setCell, hne, k3]⟩⟩
theorem new_box (w : World) (cs : Array Value) (T : TypeId) : (w.alloc (.cells cs T)).heap[w.heap.size]? = some (.cells cs T (0, 0)) := by show (w.heap.push _)[_]? = _; simp
theorem take_short_c (s : ByteArray) (hs : s.size ≤ 1000000000) (h : takeE s.data.toList = (Ev.zero, 0, 3)) : ∀ (w : World), MaxW w → Calls Try.prog 22 #[.string s] w fun e w' => (∃ a c, e = .returned (.tuple #[.agg #[.string ⟨#[]⟩, .string ⟨#[]⟩, .int .u64 0, .slice a 0 c], .int .i64 0, .int .i64 3])) ∧ Below w.heap.size w w' := by
  intro w hM
  have t1 := etake_c s hs w hM
  rw [h] at t1
  refine t1.mono ?_
  rintro e w4 ⟨a4, c4, rfl, _, _, hb4⟩
  exact ⟨⟨a4, c4, rfl⟩, hb4⟩
theorem same_zero (a : Option Addr) (c : Nat) (w : World) : Calls Try.prog 19 #[.agg #[.string ⟨#[]⟩, .string ⟨#[]⟩, .int .u64 0, .slice a 0 c], .agg #[.string ⟨#[]⟩, .string ⟨#[]⟩, .int .u64 0, .slice none 0 0]] w fun e w' => e = .returned (.bool true) ∧ Below w.heap.size w w' := by
  refine (rsame_c ⟨#[]⟩ ⟨#[]⟩ ⟨#[]⟩ ⟨#[]⟩ 0 0 a none c 0 [] [] (by simp) (by simp) w (Flds.nil _ _) (Flds.nil _ _)).mono ?_
  rintro e w' ⟨r, rfl, hr, hb⟩
  rw [hr.2 ⟨rfl, rfl, rfl, rfl⟩]
  exact ⟨rfl, hb⟩
end Go.Proofs.Ytcbnehplilpidaa
