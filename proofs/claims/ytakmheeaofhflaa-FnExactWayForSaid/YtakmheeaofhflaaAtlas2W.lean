/- Walks: atlases, results of the call's own. -/
import Derived.Test.YtakmheeaofhflaaAtlasW
import Derived.Test.YtakmheeaofhflaaNestW
set_option linter.unusedVariables false
set_option linter.unusedSimpArgs false
set_option maxRecDepth 100000
namespace Go.Proofs.Ytakmheeaofhflaa
open Go Go.AV Go.M
attribute [local irreducible] OpW OpA OpS AWP FSpec ESpec GSpec OpE RetOk RetOkG RvDen Le Ev GuardIs SrcIs
end Go.Proofs.Ytakmheeaofhflaa
