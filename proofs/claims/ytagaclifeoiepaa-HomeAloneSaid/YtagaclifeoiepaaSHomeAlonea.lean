/- Summaries of functions that HomeAlone comes to, held against their runs. No condition. -/
import Derived.Test.YtagaclifeoiepaaFHomeAlone
namespace Go.Proofs.Ytagaclifeoiepaa.homeAlone
open Go.Sx
set_option linter.unusedVariables false
set_option linter.unusedSimpArgs false
set_option maxRecDepth 1000000
def TL : List (Nat × List Sm) := []
theorem VTL : AllV Try.prog G doorH TL := trivial
noncomputable def CL : Cfg := cfgT F G doorH TL
end Go.Proofs.Ytagaclifeoiepaa.homeAlone
