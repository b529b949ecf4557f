/- The walk of val.Read. -/
import Derived.Test.YtmmdblpoecidaaaDoorProg
import Derived.WalkKit
import Derived.WalkSpells
import Derived.WalkLawsBesides
import Derived.Lib.Hide
import Derived.Deep.RegionWith
import Derived.Test.YtmmdblpoecidaaaDoorFacts
import Derived.Test.YtmmdblpoecidaaaDoorNumV
import Derived.Test.YtmmdblpoecidaaaDoorVal4
import Derived.Test.YtmmdblpoecidaaaDoorVal5
import Derived.Test.YtmmdblpoecidaaaDoorVal6
import Derived.Test.YtmmdblpoecidaaaDoorVal7
import Derived.Test.YtmmdblpoecidaaaDoorVal8
import Derived.Test.YtmmdblpoecidaaaDoorDraws
import Derived.Test.YtmmdblpoecidaaaDoorShelf
set_option linter.unusedVariables false
set_option linter.unusedSimpArgs false
namespace Go.Proofs.YtmmdblpoecidaaaDoor
open Go.RowKit Tryst
set_option maxHeartbeats 400000
set_option maxRecDepth 20000
theorem read_ways (s : ByteArray) :
    (Hid (Lib.hasPrefix s.data.toList [34] = true) ∧ ∃ t, Hid (textP s.data.toList = (t, 0)) ∧ Hid (readV s.data.toList = (V.zero, 0))) ∨
    (Hid (Lib.hasPrefix s.data.toList [34] = true) ∧ ∃ t k, Hid (textP s.data.toList = (t, k)) ∧ ((k : Int) == 0) = false ∧ Hid (readV s.data.toList = (⟨false, 0, t⟩, k)) ∧ Hid (k ≠ 0)) ∨
    (Hid (Lib.hasPrefix s.data.toList [34] = false) ∧ ∃ n, Hid (numberL s.data.toList = (n, 0)) ∧ Hid (readV s.data.toList = (V.zero, 0))) ∨
    (Hid (Lib.hasPrefix s.data.toList [34] = false) ∧ ∃ n k, Hid (numberL s.data.toList = (n, k)) ∧ ((k : Int) == 0) = false ∧ Hid (readV s.data.toList = (⟨true, n, []⟩, k)) ∧ Hid (k ≠ 0)) := by
  generalize s.data.toList = l
  cases l with
  | nil => exact .inr (.inr (.inl ⟨rfl, 0, rfl, rfl⟩))
  | cons c r =>
    by_cases h : c = 34
    · have hp : Lib.hasPrefix (c :: r) [34] = true := by rw [h]; rfl
      have hr : readV (c :: r) = (match txtF r 0 with | some p => (⟨false, 0, p.1⟩, p.2 + 1) | none => (V.zero, 0)) := by
        unfold readV; simp only; rw [if_pos h]; rfl
      have ht : textP (c :: r) = (match txtF r 0 with | some p => (p.1, p.2 + 1) | none => ([], 0)) := rfl
      cases hx : txtF r 0 with
      | none =>
        rw [hx] at hr ht
        exact .inl ⟨hp, [], ht, hr⟩
      | some p =>
        rw [hx] at hr ht
        exact .inr (.inl ⟨hp, p.1, p.2 + 1, ht, by simp; omega, hr, by unfold Hid; omega⟩)
    · have hp : Lib.hasPrefix (c :: r) [34] = false := by
        have : (34 : UInt8) ≠ c := fun e => h e.symm
        simp [Lib.hasPrefix, List.isPrefixOf, this]
      have hr : readV (c :: r) = if (numberL (c :: r)).2 = 0 then (V.zero, 0) else (⟨true, (numberL (c :: r)).1, []⟩, (numberL (c :: r)).2) := by
        unfold readV; simp only; rw [if_neg h]
      by_cases hk : (numberL (c :: r)).2 = 0
      · rw [if_pos hk] at hr
        exact .inr (.inr (.inl ⟨hp, (numberL (c :: r)).1, Prod.ext rfl hk, hr⟩))
      · rw [if_neg hk] at hr
        exact .inr (.inr (.inr ⟨hp, _, _, rfl, by rw [beq_eq_false_iff_ne]; exact fun e => hk (Int.natCast_eq_zero.1 e), hr, hk⟩))
/-- what val.Read answers -/
def readE (k : Nat) : Int := if k = 0 then 2 else 0
theorem readE_zero : readE 0 = 2 := rfl
theorem readE_pos {k : Nat} (h : k ≠ 0) : readE k = 0 := by unfold readE; rw [if_neg h]
theorem read_c (s : ByteArray) (hs : s.size ≤ 1000000) (w : World) :
    Calls Tryd.prog 91 #[.string s] w fun e w' => e = .returned (.tuple #[.agg #[.bool (readV s.data.toList).1.num, .int .i64 (readV s.data.toList).1.n, .string ⟨(readV s.data.toList).1.s.toArray⟩], .int .i64 (readV s.data.toList).2, .int .i64 (readE (readV s.data.toList).2)]) ∧ Below w.heap.size w w' := by
  rcases read_ways s with ⟨HP, t, T, R⟩ | ⟨HP, t, k, T, b1, R, hk⟩ | ⟨HP, n, T, R⟩ | ⟨HP, n, k, T, b1, R, hk⟩
  · skip
    go_enter Tryd.func91, Tryd.ntmps91
    go_wp2_with (first | (go_at_call 77; refine (Tryd.strings_HasPrefix _ _ _).mono ?_; rintro e w1 ⟨rfl, rfl⟩; rw [mk_str, HP.out]) | (go_at_call 100; refine (text_c s hs _).mono ?_; rintro e w1 ⟨rfl, hb1⟩; rw [T.out]; obtain ⟨hc1, hf1⟩ := bcell hb1; have hz1 : w.heap.size + 1 < w1.heap.size := (by have := hb1.size; simp at this; omega); have hz2 : w.heap.size < w1.heap.size := (by omega)))
    rw [R.out]
    refine bodyPost_ret (v := .tuple #[.agg #[.bool false, .int .i64 0, .string ⟨#[]⟩], .int .i64 0, .int .i64 2]) (by simp [results, Tryd.results91, go_sem, cell_setCell, *]) rfl ⟨rfl, ?_⟩
    (repeat (first | exact Below.refl _ _ | assumption | refine bdrew ?_ | refine balloc _ ?_ | refine bset _ (by simp) ?_ | refine bstep (by assumption) ?_ | refine Grow.below (by assumption) ?_ | refine Tryst2.Grow.below (by assumption) ?_))
  · have he := readE_pos hk.out
    go_enter Tryd.func91, Tryd.ntmps91
    go_wp2_with (first | (go_at_call 77; refine (Tryd.strings_HasPrefix _ _ _).mono ?_; rintro e w1 ⟨rfl, rfl⟩; rw [mk_str, HP.out]) | (go_at_call 100; refine (text_c s hs _).mono ?_; rintro e w1 ⟨rfl, hb1⟩; rw [T.out]; obtain ⟨hc1, hf1⟩ := bcell hb1; have hz1 : w.heap.size + 1 < w1.heap.size := (by have := hb1.size; simp at this; omega); have hz2 : w.heap.size < w1.heap.size := (by omega)))
    rw [R.out]
    refine bodyPost_ret (v := .tuple #[.agg #[.bool false, .int .i64 0, .string ⟨t.toArray⟩], .int .i64 k, .int .i64 (readE k)]) (by simp [results, Tryd.results91, go_sem, cell_setCell, *]) rfl ⟨rfl, ?_⟩
    (repeat (first | exact Below.refl _ _ | assumption | refine bdrew ?_ | refine balloc _ ?_ | refine bset _ (by simp) ?_ | refine bstep (by assumption) ?_ | refine Grow.below (by assumption) ?_ | refine Tryst2.Grow.below (by assumption) ?_))
  · skip
    go_enter Tryd.func91, Tryd.ntmps91
    go_wp2_with (first | (go_at_call 77; refine (Tryd.strings_HasPrefix _ _ _).mono ?_; rintro e w1 ⟨rfl, rfl⟩; rw [mk_str, HP.out]) | (go_at_call 101; refine (number_c s hs _).mono ?_; rintro e w1 ⟨rfl, hb1⟩; rw [T.out]; obtain ⟨hc1, hf1⟩ := bcell hb1; have hz1 : w.heap.size + 1 < w1.heap.size := (by have := hb1.size; simp at this; omega); have hz2 : w.heap.size < w1.heap.size := (by omega)))
    rw [R.out]
    refine bodyPost_ret (v := .tuple #[.agg #[.bool false, .int .i64 0, .string ⟨#[]⟩], .int .i64 0, .int .i64 2]) (by simp [results, Tryd.results91, go_sem, cell_setCell, *]) rfl ⟨rfl, ?_⟩
    (repeat (first | exact Below.refl _ _ | assumption | refine bdrew ?_ | refine balloc _ ?_ | refine bset _ (by simp) ?_ | refine bstep (by assumption) ?_ | refine Grow.below (by assumption) ?_ | refine Tryst2.Grow.below (by assumption) ?_))
  · have he := readE_pos hk.out
    go_enter Tryd.func91, Tryd.ntmps91
    go_wp2_with (first | (go_at_call 77; refine (Tryd.strings_HasPrefix _ _ _).mono ?_; rintro e w1 ⟨rfl, rfl⟩; rw [mk_str, HP.out]) | (go_at_call 101; refine (number_c s hs _).mono ?_; rintro e w1 ⟨rfl, hb1⟩; rw [T.out]; obtain ⟨hc1, hf1⟩ := bcell hb1; have hz1 : w.heap.size + 1 < w1.heap.size := (by have := hb1.size; simp at this; omega); have hz2 : w.heap.size < w1.heap.size := (by omega)))
    rw [R.out]
    refine bodyPost_ret (v := .tuple #[.agg #[.bool true, .int .i64 n, .string ⟨#[]⟩], .int .i64 k, .int .i64 (readE k)]) (by simp [results, Tryd.results91, go_sem, cell_setCell, *]) rfl ⟨rfl, ?_⟩
    (repeat (first | exact Below.refl _ _ | assumption | refine bdrew ?_ | refine balloc _ ?_ | refine bset _ (by simp) ?_ | refine bstep (by assumption) ?_ | refine Grow.below (by assumption) ?_ | refine Tryst2.Grow.below (by assumption) ?_))
end Go.Proofs.YtmmdblpoecidaaaDoor
