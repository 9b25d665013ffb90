/- Walks: the functions of the laws that count, copy and compare. -/
import Derived.Test.YteliahajeokciaaTypesM
import Derived.Test.YteliahajeokciaaRows
set_option linter.unusedVariables false
set_option linter.unusedSimpArgs false
set_option maxRecDepth 100000
namespace Go.Proofs.Yteliahajeokciaa
open Go Go.AV Go.M
attribute [local irreducible] OpW OpA OpS AWP FSpec ESpec RetOk RvDen Le Ev GuardIs
end Go.Proofs.Yteliahajeokciaa
