/- The walk of the reference Take of values. -/
import Derived.Test.YtfohdjgalmodbaaProg
import Derived.WalkKit
import Derived.WalkSpells
import Derived.WalkLawsBesides
import Derived.Lib.Hide
import Derived.Deep.RegionWith
import Derived.Test.YtfohdjgalmodbaaFacts
import Derived.Test.YtfohdjgalmodbaaVal1
import Derived.Test.YtfohdjgalmodbaaVal2
import Derived.Test.YtfohdjgalmodbaaNum
import Derived.Test.YtfohdjgalmodbaaShelf
set_option linter.unusedVariables false
set_option linter.unusedSimpArgs false
namespace Go.Proofs.Ytfohdjgalmodbaa
open Go.RowKit Tryst
set_option maxHeartbeats 400000
set_option maxRecDepth 20000
end Go.Proofs.Ytfohdjgalmodbaa
