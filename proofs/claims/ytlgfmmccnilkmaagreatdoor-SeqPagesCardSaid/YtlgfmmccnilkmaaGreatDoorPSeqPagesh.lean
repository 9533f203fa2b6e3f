/- Checks for SeqPages. No condition. -/
import Derived.Test.YtlgfmmccnilkmaaGreatDoorQSeqPages
namespace Go.Proofs.YtlgfmmccnilkmaaGreatDoor.seqPages
open Go.Sx Go.ChangeShapes Go.WideShapes Go.ChangeAt Go.RowKit
set_option linter.unusedVariables false
set_option linter.unusedSimpArgs false
set_option maxRecDepth 1000000
theorem ck60_1 : chkL Out.pc (accO G 6 64 af4.res Ns60_1) M60_1 N60_1.T.pc = true := by kernel_rfl
end Go.Proofs.YtlgfmmccnilkmaaGreatDoor.seqPages
