/- What slices.Insert grows. -/
import Derived.Test.YtcbnehplilpidaaProg
import Derived.WalkKit
import Derived.WalkSpells
import Derived.WalkLawsBesides
import Derived.Lib.Hide
import Derived.Deep.RegionWith
import Derived.Deep.Cut
import Derived.IntWalk
import Derived.Test.YtcbnehplilpidaaTopJ
set_option linter.unusedVariables false
set_option linter.unusedSimpArgs false
namespace Go.Proofs.Ytcbnehplilpidaa
open Go.RowKit Tryst
set_option maxHeartbeats 400000
set_option maxRecDepth 20000
theorem grow_run (g n i : Nat) (hi : i < n) (hn : n ≤ 1000000) (F : List Value) (hF : F.length = n * 3) (w : World) (hc : ∀ (j : Nat) u, F[j]? = some u → w.cell? ⟨g, j, none⟩ = some u) :
    ∃ (A : List Value) (C : Nat), A.length = C * 3 ∧ n + 1 ≤ C ∧ C ≤ maxLen ∧ A.take (i * 3) = F.take (i * 3) ∧ ∀ ty, (Builtin.append_ #[50, 3] ty #[.slice (some ⟨g, 0, none⟩) i n, .int .i64 ((n : Int) + 1 - i)]).run Try.prog w = .ok (.slice (some ⟨w.heap.size, 0, none⟩) (n + 1) C) (w.drew.alloc (.cells A.toArray 74)) := by
  obtain ⟨ii, z, hii, hz, h2, h3, h4⟩ := topT.info
  have hk : i + (n + 1 - i) = n + 1 := by omega
  have hol : (F.take (i * 3)).length = i * ii.size := by rw [h2, List.length_take]; omega
  have hold : (Builtin.firstCells ii.size i (.slice (some ⟨g, 0, none⟩) i n)).run Try.prog w.drew = .ok (F.take (i * 3)).toArray w.drew :=
    run_firstCells_some (P := Try.prog) (w := w.drew) ii.size i ⟨g, 0, none⟩ i n (F.take (i * 3)) hol (fun j v hj => by
      rw [List.getElem?_take] at hj
      split at hj
      · rw [Addr.add_lit, Nat.zero_add]
        exact hc j v hj
      · cases hj)
  have hfit : Builtin.nextslicecap (i + (n + 1 - i)) n * ii.bytes ≤ 281474976710656 := by
    rw [hk]
    exact growslice_fits (by omega) (by rw [h3]; omega)
  have hr := fun ty => Lib.run_append_grow_zeros (P := Try.prog) w 50 3 ty 74 ii z .i64 .i64 Try.underlying50 Try.underlying3 hii hz (some ⟨g, 0, none⟩) i n (F.take (i * 3)) hold (n + 1 - i) (by omega) (by rw [h2]; decide) (by omega) (by omega) (by rw [h3]; omega) hfit
  have hcge := grownCap_ge w (i + (n + 1 - i)) n 74
  have hcle := grownCap_le_maxLen w (i + (n + 1 - i)) n 74 (by unfold maxLen; omega)
  rw [hk] at hr hcge hcle
  have hcast : ((n + 1 - i : Nat) : Int) = (n : Int) + 1 - i := by omega
  rw [hcast] at hr
  refine ⟨((F.take (i * 3)).toArray ++ Builtin.zeroCells z.cells (n + 1 - i) ++ Builtin.zeroCells z.cells (grownCap w (n + 1) n 74 - (n + 1))).toList, grownCap w (n + 1) n 74, ?_, hcge, hcle, ?_, fun ty => ?_⟩
  · simp [Builtin.zeroCells, h4]
    rw [Nat.min_eq_left (by rw [hF]; omega)]
    omega
  · rw [Array.toList_append, Array.toList_append, List.append_assoc, List.take_append_of_le_length (by simp; omega)]
    exact List.take_of_length_le (by rw [List.toList_toArray, List.length_take]; omega)
  · rw [hr ty]
end Go.Proofs.Ytcbnehplilpidaa
