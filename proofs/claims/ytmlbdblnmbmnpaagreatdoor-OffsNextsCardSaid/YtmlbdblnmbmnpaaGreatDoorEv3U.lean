/- joined: law04.Few. -/
import Derived.Test.YtmlbdblnmbmnpaaGreatDoorProg
import Derived.WalkKit
import Derived.WalkSpells
import Derived.WalkLawsBesides
import Derived.Lib.Hide
import Derived.Deep.RegionWith
import Derived.Deep.Cut
import Derived.Test.YtmlbdblnmbmnpaaGreatDoorFldG
import Derived.Test.YtmlbdblnmbmnpaaGreatDoorVal47
set_option linter.unusedVariables false
set_option linter.unusedSimpArgs false
namespace Go.Proofs.YtmlbdblnmbmnpaaGreatDoor
open Go.RowKit Tryst
set_option maxHeartbeats 400000
set_option maxRecDepth 20000
theorem fldT : SliceOf Tryz.prog 61 96 4 48 := .mk' Tryz.underlying61 (z := .agg #[.string ⟨#[]⟩, .bool false, .int .i64 0, .string ⟨#[]⟩]) (by kernel_rfl) rfl (by decide) (by decide)
def few60 (s : ByteArray) : ByteArray := if 60 < s.size then s.extract 0 60 else s
theorem few60_le (s : ByteArray) : (few60 s).size ≤ 60 := by
 unfold few60; split
 ·
  simp; omega
 ·
  omega
theorem few60_c (s : ByteArray) (hs : s.size ≤ 9223372036854775807) (w : World) :
  Calls Tryz.prog 12 #[.string s] w fun e w' => e = .returned (.string (few60 s)) ∧ w = w' := by
 by_cases h : 60 < s.size
 all_goals
  go_enter Tryz.func12, Tryz.ntmps12
  go_wp2
  first | rw [show few60 s = s.extract 0 60 by unfold few60; rw [if_pos (by omega)]] | rw [show few60 s = s by unfold few60; rw [if_neg (by omega)]]
  go_ret
  exact ⟨rfl, rfl⟩
theorem fewV_c (x : Bool) (n : Int) (s : ByteArray) (hs : s.size ≤ 9223372036854775807) (w : World) :
  Calls Tryz.prog 56 #[.agg #[.bool x, .int .i64 n, .string s]] w fun e w' => e = .returned (.agg #[.bool x, .int .i64 n, .string (few s)]) ∧ Below w.heap.size w w' := by
 by_cases h : 70 < s.size
 all_goals
  go_enter Tryz.func56, Tryz.ntmps56
  go_wp2
  first | rw [show few s = s.extract 0 70 by unfold few; rw [if_pos (by omega)]] | rw [show few s = s by unfold few; rw [if_neg (by omega)]]
  exact bodyPost_ret (v := .agg #[.bool x, .int .i64 n, .string _]) (by simp [results, Tryz.results56, go_sem, *]) rfl ⟨rfl, by repeat (first | exact Below.refl _ _ | refine bdrew ?_ | refine balloc _ ?_ | refine bset _ (by simp) ?_ | refine bstep (by assumption) ?_)⟩
end Go.Proofs.YtmlbdblnmbmnpaaGreatDoor
namespace Go.Proofs.YtmlbdblnmbmnpaaGreatDoor
open Go.RowKit Tryst
set_option maxHeartbeats 400000
set_option maxRecDepth 20000
end Go.Proofs.YtmlbdblnmbmnpaaGreatDoor
