/- The rotations. -/
import Derived.Test.YtomplpdeeomehaaChecked
import Derived.Test.YtomplpdeeomehaaHTyp
namespace Go.Proofs.Ytomplpdeeomehaa
set_option linter.unusedVariables false
set_option linter.unusedSimpArgs false
open Go.RowKit
namespace rot
--FACTS
def rotl (x : UInt32) (n : Nat) : UInt32 := shl32 x n ||| shr32 x (32 - n)
end rot
end Go.Proofs.Ytomplpdeeomehaa
