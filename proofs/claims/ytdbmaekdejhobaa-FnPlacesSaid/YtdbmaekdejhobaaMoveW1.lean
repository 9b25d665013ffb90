/- Walks: ranges. -/
import Derived.Test.YtdbmaekdejhobaaMoveM
import Derived.Test.YtdbmaekdejhobaaBaseW
set_option linter.unusedVariables false
set_option linter.unusedSimpArgs false
set_option maxRecDepth 100000
namespace Go.Proofs.Ytdbmaekdejhobaa
open Go Go.AV Go.M
attribute [local irreducible] OpW OpA OpS AWP FSpec ESpec RetOk RvDen Le Ev GuardIs
end Go.Proofs.Ytdbmaekdejhobaa
