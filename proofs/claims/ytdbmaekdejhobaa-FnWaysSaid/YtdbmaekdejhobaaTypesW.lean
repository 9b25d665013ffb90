/- Walks: the functions of the laws that count, copy and compare. -/
import Derived.Test.YtdbmaekdejhobaaTypesM
import Derived.Test.YtdbmaekdejhobaaRows
set_option linter.unusedVariables false
set_option linter.unusedSimpArgs false
set_option maxRecDepth 100000
namespace Go.Proofs.Ytdbmaekdejhobaa
open Go Go.AV Go.M
attribute [local irreducible] OpW OpA OpS AWP FSpec ESpec RetOk RvDen Le Ev GuardIs
end Go.Proofs.Ytdbmaekdejhobaa
