/- The walks that lay a value. -/
import Derived.Test.YtmmdblpoecidaaaGreatDoorProg
import Derived.WalkKit
import Derived.WalkSpells
import Derived.WalkLawsBesides
import Derived.Lib.Hide
import Derived.Deep.RegionWith
import Derived.Test.YtmmdblpoecidaaaGreatDoorFacts
import Derived.Test.YtmmdblpoecidaaaGreatDoorNumV
import Derived.Test.YtmmdblpoecidaaaGreatDoorShelf
import Derived.Test.YtmmdblpoecidaaaGreatDoorDraws
set_option linter.unusedVariables false
set_option linter.unusedSimpArgs false
namespace Go.Proofs.YtmmdblpoecidaaaGreatDoor
open Go.RowKit Tryst
set_option maxHeartbeats 400000
set_option maxRecDepth 20000
def few (s : ByteArray) : ByteArray := if 70 < s.size then s.extract 0 70 else s
theorem few_le (s : ByteArray) : (few s).size ≤ 70 := by
  unfold few; split
  · simp; omega
  · omega
theorem few_c (x : Bool) (n : Int) (s : ByteArray) (hs : s.size ≤ 1000000000) (w : World) :
    Calls Tryz.prog 24 #[.agg #[.bool x, .int .i64 n, .string s]] w fun e w' => e = .returned (.agg #[.bool x, .int .i64 n, .string (few s)]) ∧ Below w.heap.size w w' := by
  by_cases h : 70 < s.size
  all_goals
    go_enter Tryz.func24, Tryz.ntmps24
    go_wp2
    first | rw [show few s = s.extract 0 70 by unfold few; rw [if_pos (by omega)]] | rw [show few s = s by unfold few; rw [if_neg (by omega)]]
    exact bodyPost_ret (v := .agg #[.bool x, .int .i64 n, .string _]) (by simp [results, Tryz.results24, go_sem, *]) rfl ⟨rfl, by repeat (first | exact Below.refl _ _ | refine bdrew ?_ | refine balloc _ ?_ | refine bset _ (by simp) ?_ | refine bstep (by assumption) ?_)⟩
theorem may_yes {x : Bool} {n : Int} {s : ByteArray} (hs : s.size ≤ 1000000000) (h : V.May ⟨x, n, s.data.toList⟩) (w : World) :
    Calls Tryz.prog 42 #[.agg #[.bool x, .int .i64 n, .string s]] w fun e w' => e = .returned (.bool true) ∧ Below w.heap.size w w' :=
  (may_c x n s hs w).mono fun _ _ ⟨h1, h2⟩ => ⟨h1.trans (ret_bool (by unfold V.mayB; simp [h])), h2⟩
theorem may_no {x : Bool} {n : Int} {s : ByteArray} (hs : s.size ≤ 1000000000) (h : ¬ V.May ⟨x, n, s.data.toList⟩) (w : World) :
    Calls Tryz.prog 42 #[.agg #[.bool x, .int .i64 n, .string s]] w fun e w' => e = .returned (.bool false) ∧ Below w.heap.size w w' :=
  (may_c x n s hs w).mono fun _ _ ⟨h1, h2⟩ => ⟨h1.trans (ret_bool (by unfold V.mayB; simp [h])), h2⟩
end Go.Proofs.YtmmdblpoecidaaaGreatDoor
