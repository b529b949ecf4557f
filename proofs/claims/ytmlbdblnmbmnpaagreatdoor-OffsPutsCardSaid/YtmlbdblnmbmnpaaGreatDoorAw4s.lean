/- The walks of awake and EventShort. -/
import Derived.Test.YtmlbdblnmbmnpaaGreatDoorProg
import Derived.WalkKit
import Derived.WalkSpells
import Derived.WalkLawsBesides
import Derived.Lib.Hide
import Derived.Deep.RegionWith
import Derived.Deep.Cut
import Derived.Test.YtmlbdblnmbmnpaaGreatDoorRdAB
import Derived.Test.YtmlbdblnmbmnpaaGreatDoorEvAC
import Derived.Test.YtmlbdblnmbmnpaaGreatDoorOpen4
set_option linter.unusedVariables false
set_option linter.unusedSimpArgs false
namespace Go.Proofs.YtmlbdblnmbmnpaaGreatDoor
open Go.RowKit Tryst
set_option maxHeartbeats 400000
set_option maxRecDepth 20000
def f0 : FB := ⟨⟨#[120]⟩, true, 7, ⟨#[]⟩⟩
def fx : FB := ⟨⟨#[120]⟩, false, 0, ⟨#[]⟩⟩
theorem aw_may : (evE ⟨#[97, 46, 98]⟩ ⟨#[112]⟩ 1 [f0]).may = true := by decide
theorem aw_bad : evMay ⟨#[97]⟩ ⟨#[112]⟩ 1 [fx, fx] = false := by decide
theorem aw_lay : (evE ⟨#[97, 46, 98]⟩ ⟨#[112]⟩ 1 [f0]).lay.length = 12 := by decide
theorem aw_take : takeE (⟨#[]⟩ : ByteArray).data.toList = (Ev.zero, 0, 3) := by rfl
theorem aw_find : findB [f0] ⟨#[120]⟩ = some f0 := by rfl
theorem take_none (w : World) (hM : MaxW w) : Calls Tryz.prog 129 #[.string ⟨#[]⟩] w fun e w' => (∃ a c, e = .returned (.tuple #[.agg #[.string ⟨#[]⟩, .string ⟨#[]⟩, .int .u64 0, .slice a 0 c], .int .i64 0, .int .i64 3])) ∧ Below w.heap.size w w' := by
 have t1 := etake_c ⟨#[]⟩ (by decide) w hM
 rw [aw_take] at t1
 refine t1.mono ?_
 rintro e w4 ⟨a4, c4, rfl, _, _, hb4⟩
 exact ⟨⟨a4, c4, rfl⟩, hb4⟩
theorem two_fx (w : World) (T : TypeId) : Flds (w.alloc (.cells #[.string ⟨#[120]⟩, .bool false, .int .i64 0, .string ⟨#[]⟩, .string ⟨#[120]⟩, .bool false, .int .i64 0, .string ⟨#[]⟩] T)) (some ⟨w.heap.size, 0, none⟩) [fx, fx] := by
 intro i hi
 refine ⟨w.heap.size, 0, rfl, by simp, ?_⟩
 match i, hi with
 | 0, _ => constructor <;> simp [go_sem, fx]
 | 1, _ => constructor <;> simp [go_sem, fx]
theorem may_fx (w : World) (hM : MaxW w) {a : Option Addr} (hF : Flds w a [fx, fx]) : Calls Tryz.prog 139 #[.agg #[.string ⟨#[97]⟩, .string ⟨#[112]⟩, .int .u64 1, .slice a 2 2]] w fun e w' => e = .returned (.bool false) ∧ Below w.heap.size w w' := by
 have h := evmay_c ⟨#[97]⟩ ⟨#[112]⟩ 1 a 2 [fx, fx] (by decide) (by decide) (by decide) (fun f hf => by simp at hf; subst hf; decide) w hM hF (by decide) (by decide)
 rw [aw_bad] at h
 exact h
end Go.Proofs.YtmlbdblnmbmnpaaGreatDoor
namespace Go.Proofs.YtmlbdblnmbmnpaaGreatDoor
open Go.RowKit Tryst
set_option maxHeartbeats 400000
set_option maxRecDepth 20000
theorem few_ok {l : List FB} (h : FIn l) : FOk (fewL l) ∧ (∀ f ∈ fewL l, f.name.size ≤ 60 ∧ f.s.size ≤ 70) ∧ (fewL l).length ≤ 10 := by
 refine ⟨fun f hf => ?_, fun f hf => ?_, by unfold fewL; rw [List.length_map, List.length_take]; omega⟩
 ·
  obtain ⟨g, hg, rfl⟩ := List.mem_map.1 hf
  have h1 := h g (List.mem_of_mem_take hg)
  have h2 := few60_le g.name
  have h3 := few_le g.s
  exact ⟨by show (few60 g.name).size ≤ _; omega, by show (few g.s).size ≤ _; omega, h1.2.2.1, h1.2.2.2⟩
 ·
  obtain ⟨g, hg, rfl⟩ := List.mem_map.1 hf
  exact ⟨few60_le g.name, few_le g.s⟩
theorem few_in {l : List FB} (h : FIn l) : ∀ f ∈ l, f.name.size ≤ 9223372036854775807 ∧ f.s.size ≤ 9223372036854775807 := fun f hf => ⟨(h f hf).1, (h f hf).2.1⟩
theorem maxW_of {w : World} (h : w.ShapedOpen Tryz.prog) : MaxW w := by
 obtain ⟨m, hm⟩ := Go.Proofs.cell_of_shapedOpen_int (zero := #[.int .i64 0]) (t := 3) (g := 0) h (of_decide_eq_true (by kernel_rfl)) (by kernel_rfl) rfl (by kernel_rfl) (by kernel_rfl) Tryz.underlying3
 exact ⟨⟨m, hm⟩, (cell_lt hm).1⟩
theorem flds_box {w : World} {B : Nat} {t p : ByteArray} {q : Int} {a0 : Option Addr} {m c0 : Nat} {T : TypeId} {a : Option Addr} {l : List FB} (hB : w.heap[B]? = some (.cells #[.string t, .string p, .int .u64 q, .slice a0 m c0] T (0, 0))) (hF : Flds w a l) (v0 v1 v2 v3 : Value) :
  Flds ((((w.setCell ⟨B, 0, none⟩ v0).setCell ⟨B, 1, none⟩ v1).setCell ⟨B, 2, none⟩ v2).setCell ⟨B, 3, none⟩ v3) a l := by
 intro i hi
 obtain ⟨b, o, h1, h2, h3⟩ := hF i hi
 have hne : B ≠ b := fun e => by
  subst e
  have h := h3.c1
  rw [Lib.cell_of_heap hB] at h
  have : ∀ j, (#[.string t, .string p, .int .u64 q, .slice a0 m c0] : Array Value)[j]? ≠ some (Value.bool l[i].num) := fun j => by
   match j with
   | 0 => simp
   | 1 => simp
   | 2 => simp
   | 3 => simp
   | j + 4 => rw [Array.getElem?_eq_none (by simp)]; simp
  exact this _ h
 obtain ⟨k0, k1, k2, k3⟩ := h3
 exact ⟨b, o, h1, by simpa using h2, ⟨by simp [cell_setCell, hne, k0], by simp [cell_setCell, hne, k1], by simp [cell_setCell, hne, k2], by simp [cell_setCell, hne, k3]⟩⟩
theorem new_box (w : World) (cs : Array Value) (T : TypeId) : (w.alloc (.cells cs T)).heap[w.heap.size]? = some (.cells cs T (0, 0)) := by show (w.heap.push _)[_]? = _; simp
theorem take_short_c (s : ByteArray) (hs : s.size ≤ 1000000000) (h : takeE s.data.toList = (Ev.zero, 0, 3)) : ∀ (w : World), MaxW w → Calls Tryz.prog 129 #[.string s] w fun e w' => (∃ a c, e = .returned (.tuple #[.agg #[.string ⟨#[]⟩, .string ⟨#[]⟩, .int .u64 0, .slice a 0 c], .int .i64 0, .int .i64 3])) ∧ Below w.heap.size w w' := by
 intro w hM
 have t1 := etake_c s hs w hM
 rw [h] at t1
 refine t1.mono ?_
 rintro e w4 ⟨a4, c4, rfl, _, _, hb4⟩
 exact ⟨⟨a4, c4, rfl⟩, hb4⟩
end Go.Proofs.YtmlbdblnmbmnpaaGreatDoor
