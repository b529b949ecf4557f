/- The walk of the reference Take of values. -/
import Derived.Test.YtmagghfegikidaaDoorProg
import Derived.WalkKit
import Derived.WalkSpells
import Derived.WalkLawsBesides
import Derived.Lib.Hide
import Derived.Deep.RegionWith
import Derived.Test.YtmagghfegikidaaDoorValT
import Derived.Test.YtmagghfegikidaaDoorVal1
import Derived.Test.YtmagghfegikidaaDoorVal2
import Derived.Test.YtmagghfegikidaaDoorNum
import Derived.Test.YtmagghfegikidaaDoorShelf
set_option linter.unusedVariables false
set_option linter.unusedSimpArgs false
namespace Go.Proofs.YtmagghfegikidaaDoor
open Go.RowKit Tryst
set_option maxHeartbeats 400000
set_option maxRecDepth 20000
theorem rtake_c (s : ByteArray) (hs : s.size ≤ 1000000000) (w : World) :
    Calls Tryd.prog 19 #[.string s] w fun e w' => e = .returned (.tuple #[.agg #[.bool (takeV s.data.toList).1.num, .int .i64 (takeV s.data.toList).1.n, .string ⟨(takeV s.data.toList).1.s.toArray⟩], .int .i64 (takeV s.data.toList).2.1, .int .i64 (takeV s.data.toList).2.2]) ∧ Below w.heap.size w w' := by
  by_cases h0 : s.size = 0
  · have hz : s.toList.isEmpty = true := by rw [str_toList, List.isEmpty_iff, str_nil_iff]; exact h0
    have hl : s.data.toList = [] := (str_nil_iff s).2 h0
    rw [hl]
    clear h0 hl
    go_enter Tryd.func19, Tryd.ntmps19
    go_wp2_with fail
    exact bodyPost_ret (v := .tuple #[.agg #[.bool false, .int .i64 0, .string ⟨#[]⟩], .int .i64 0, .int .i64 3]) (by simp [results, Tryd.results19, go_sem]) rfl ⟨rfl, balloc _ (.refl _ _)⟩
  · have hz : s.toList.isEmpty = false := by
      rw [str_toList, Bool.eq_false_iff, ne_eq, List.isEmpty_iff, str_nil_iff]; exact h0
    have h1 : 1 ≤ s.size := by omega
    have hx : (s.extract 1 s.size).size ≤ 1000000000 := by simp; omega
    clear h0
    obtain ⟨c, hc8, hc, hways⟩ := takeV_cases s h1
    rcases hways with ⟨⟨b1, b2⟩, T⟩ | ⟨b1 | ⟨b1, b2⟩, U, T⟩ | ⟨b1 | ⟨b1, b2⟩, U, T⟩ | ⟨n, k, g1, g2, g3, b1, U, T⟩ | ⟨n, k, g1, g2, g3, b1, b2, g4, U, T⟩ | ⟨n, k, g1, g2, g3, b1, b2, g4, U, T⟩ | ⟨n, k, g1, g2, g3, b1, b2, g4, U, T⟩
    · have n1 := bne_f b1
      have n2 := bne_f b2
      go_enter Tryd.func19, Tryd.ntmps19
      go_wp2_with fail
      rw [T.out]
      exact bodyPost_ret (v := .tuple #[.agg #[.bool false, .int .i64 0, .string ⟨#[]⟩], .int .i64 0, .int .i64 2]) (by simp [results, Tryd.results19, go_sem, *]) rfl ⟨rfl, by repeat (first | exact Below.refl _ _ | refine bdrew ?_ | refine balloc _ ?_ | refine bset _ (by simp) ?_ | refine bstep (by assumption) ?_)⟩
    · have n1 := bne_t b1
      go_enter Tryd.func19, Tryd.ntmps19
      go_wp2_with (go_at_call 35; refine (runpack_form hx U.out _).mono ?_; rintro e w1 ⟨rfl, hb1⟩; obtain ⟨hc1, hf1⟩ := bcell hb1; have hz1 : w.heap.size + 1 ≤ w1.heap.size := by have := hb1.size; simp at this; omega)
      rw [T.out]
      exact bodyPost_ret (v := .tuple #[.agg #[.bool false, .int .i64 0, .string ⟨#[]⟩], .int .i64 0, .int .i64 2]) (by simp [results, Tryd.results19, go_sem, *]) rfl ⟨rfl, by repeat (first | exact Below.refl _ _ | refine bdrew ?_ | refine balloc _ ?_ | refine bset _ (by simp) ?_ | refine bstep (by assumption) ?_)⟩
    · have n1 := bne_f b1
      have n2 := bne_t b2
      go_enter Tryd.func19, Tryd.ntmps19
      go_wp2_with (go_at_call 35; refine (runpack_form hx U.out _).mono ?_; rintro e w1 ⟨rfl, hb1⟩; obtain ⟨hc1, hf1⟩ := bcell hb1; have hz1 : w.heap.size + 1 ≤ w1.heap.size := by have := hb1.size; simp at this; omega)
      rw [T.out]
      exact bodyPost_ret (v := .tuple #[.agg #[.bool false, .int .i64 0, .string ⟨#[]⟩], .int .i64 0, .int .i64 2]) (by simp [results, Tryd.results19, go_sem, *]) rfl ⟨rfl, by repeat (first | exact Below.refl _ _ | refine bdrew ?_ | refine balloc _ ?_ | refine bset _ (by simp) ?_ | refine bstep (by assumption) ?_)⟩
    · have n1 := bne_t b1
      go_enter Tryd.func19, Tryd.ntmps19
      go_wp2_with (go_at_call 35; refine (runpack_short hx U.out _).mono ?_; rintro e w1 ⟨rfl, hb1⟩; obtain ⟨hc1, hf1⟩ := bcell hb1; have hz1 : w.heap.size + 1 ≤ w1.heap.size := by have := hb1.size; simp at this; omega)
      rw [T.out]
      exact bodyPost_ret (v := .tuple #[.agg #[.bool false, .int .i64 0, .string ⟨#[]⟩], .int .i64 0, .int .i64 3]) (by simp [results, Tryd.results19, go_sem, *]) rfl ⟨rfl, by repeat (first | exact Below.refl _ _ | refine bdrew ?_ | refine balloc _ ?_ | refine bset _ (by simp) ?_ | refine bstep (by assumption) ?_)⟩
    · have n1 := bne_f b1
      have n2 := bne_t b2
      go_enter Tryd.func19, Tryd.ntmps19
      go_wp2_with (go_at_call 35; refine (runpack_short hx U.out _).mono ?_; rintro e w1 ⟨rfl, hb1⟩; obtain ⟨hc1, hf1⟩ := bcell hb1; have hz1 : w.heap.size + 1 ≤ w1.heap.size := by have := hb1.size; simp at this; omega)
      rw [T.out]
      exact bodyPost_ret (v := .tuple #[.agg #[.bool false, .int .i64 0, .string ⟨#[]⟩], .int .i64 0, .int .i64 3]) (by simp [results, Tryd.results19, go_sem, *]) rfl ⟨rfl, by repeat (first | exact Below.refl _ _ | refine bdrew ?_ | refine balloc _ ?_ | refine bset _ (by simp) ?_ | refine bstep (by assumption) ?_)⟩
    · have n1 := bne_t b1
      go_enter Tryd.func19, Tryd.ntmps19
      go_wp2_with (first | (go_at_call 35; refine (runpack_ok hx U.out _).mono ?_; rintro e w1 ⟨rfl, hb1⟩; obtain ⟨hc1, hf1⟩ := bcell hb1; have hz1 : w.heap.size + 1 ≤ w1.heap.size := by have := hb1.size; simp at this; omega) | (go_at_call 36; refine (runfold_c _ (by omega) (by omega) _).mono ?_; rintro e w1 ⟨rfl, rfl⟩))
      rw [T.out, show k + 1 = 1 + k by omega]
      exact bodyPost_ret (v := .tuple #[.agg #[.bool true, .int .i64 (unfold_ n), .string ⟨#[]⟩], .int .i64 (1 + (k : Int)), .int .i64 0]) (by simp [results, Tryd.results19, go_sem, *]) rfl ⟨rfl, by repeat (first | exact Below.refl _ _ | refine bdrew ?_ | refine balloc _ ?_ | refine bset _ (by simp) ?_ | refine bstep (by assumption) ?_)⟩
    · have n1 := bne_f b1
      have n2 := bne_t b2
      go_enter Tryd.func19, Tryd.ntmps19
      go_wp2_with (go_at_call 35; refine (runpack_ok hx U.out _).mono ?_; rintro e w1 ⟨rfl, hb1⟩; obtain ⟨hc1, hf1⟩ := bcell hb1; have hz1 : w.heap.size + 1 ≤ w1.heap.size := by have := hb1.size; simp at this; omega)
      rw [T.out]
      exact bodyPost_ret (v := .tuple #[.agg #[.bool false, .int .i64 0, .string ⟨#[]⟩], .int .i64 0, .int .i64 2]) (by simp [results, Tryd.results19, go_sem, *]) rfl ⟨rfl, by repeat (first | exact Below.refl _ _ | refine bdrew ?_ | refine balloc _ ?_ | refine bset _ (by simp) ?_ | refine bstep (by assumption) ?_)⟩
    · have n1 := bne_f b1
      have n2 := bne_t b2
      go_enter Tryd.func19, Tryd.ntmps19
      go_wp2_with (go_at_call 35; refine (runpack_ok hx U.out _).mono ?_; rintro e w1 ⟨rfl, hb1⟩; obtain ⟨hc1, hf1⟩ := bcell hb1; have hz1 : w.heap.size + 1 ≤ w1.heap.size := by have := hb1.size; simp at this; omega)
      rw [T.out]
      exact bodyPost_ret (v := .tuple #[.agg #[.bool false, .int .i64 0, .string ⟨#[]⟩], .int .i64 0, .int .i64 3]) (by simp [results, Tryd.results19, go_sem, *]) rfl ⟨rfl, by repeat (first | exact Below.refl _ _ | refine bdrew ?_ | refine balloc _ ?_ | refine bset _ (by simp) ?_ | refine bstep (by assumption) ?_)⟩
    · have n1 := bne_f b1
      have n2 := bne_t b2
      go_enter Tryd.func19, Tryd.ntmps19
      go_wp2_with (go_at_call 35; refine (runpack_ok hx U.out _).mono ?_; rintro e w1 ⟨rfl, hb1⟩; obtain ⟨hc1, hf1⟩ := bcell hb1; have hz1 : w.heap.size + 1 ≤ w1.heap.size := by have := hb1.size; simp at this; omega)
      rw [T.out, show k + 1 = 1 + k by omega]

      exact bodyPost_ret (v := .tuple #[.agg #[.bool false, .int .i64 0, .string (s.extract (1 + k) (1 + k + n))], .int .i64 (1 + (k : Int) + n), .int .i64 0]) (by simp [results, Tryd.results19, go_sem, *]) rfl ⟨rfl, by repeat (first | exact Below.refl _ _ | refine bdrew ?_ | refine balloc _ ?_ | refine bset _ (by simp) ?_ | refine bstep (by assumption) ?_)⟩
end Go.Proofs.YtmagghfegikidaaDoor
