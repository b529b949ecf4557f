/- The walk of the reference digits. -/
import Derived.Test.YtmmdblpoecidaaaDoorProg
import Derived.WalkKit
import Derived.WalkSpells
import Derived.WalkLawsBesides
import Derived.Lib.Hide
import Derived.Deep.RegionWith
import Derived.Test.YtmmdblpoecidaaaDoorFacts
import Derived.Test.YtmmdblpoecidaaaDoorNumV
import Derived.Test.YtmmdblpoecidaaaDoorShelf
import Derived.Test.YtmmdblpoecidaaaDoorDraws
set_option linter.unusedVariables false
set_option linter.unusedSimpArgs false
namespace Go.Proofs.YtmmdblpoecidaaaDoor
open Go.RowKit Tryst
set_option maxHeartbeats 400000
set_option maxRecDepth 20000
def digMeas : Value → Value → Nat
  | .string b, .int _ q => q.natAbs * 2 + (if b.size = 0 then 1 else 0)
  | _, _ => 0
theorem digMeas_cons (c : UInt8) (l : List UInt8) (k : IntKind) (q : Int) : digMeas (.string ((⟨#[c]⟩ : ByteArray) ++ ⟨l.toArray⟩)) (.int k q) = q.natAbs * 2 := by
  have : ((⟨#[c]⟩ : ByteArray) ++ ⟨l.toArray⟩).size ≠ 0 := by rw [← len_str, app_str]; simp
  simp only [digMeas, this, if_false, Nat.add_zero]
theorem digMeas_le (b : ByteArray) (k : IntKind) (q : Int) : q.natAbs * 2 ≤ digMeas (.string b) (.int k q) := by
  simp only [digMeas]; omega
end Go.Proofs.YtmmdblpoecidaaaDoor
