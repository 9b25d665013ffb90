/- Walks: ranges. -/
import Derived.Test.YteliahajeokciaaMoveM
import Derived.Test.YteliahajeokciaaBaseW
set_option linter.unusedVariables false
set_option linter.unusedSimpArgs false
set_option maxRecDepth 100000
namespace Go.Proofs.Yteliahajeokciaa
open Go Go.AV Go.M
attribute [local irreducible] OpW OpA OpS AWP FSpec ESpec RetOk RvDen Le Ev GuardIs
end Go.Proofs.Yteliahajeokciaa
