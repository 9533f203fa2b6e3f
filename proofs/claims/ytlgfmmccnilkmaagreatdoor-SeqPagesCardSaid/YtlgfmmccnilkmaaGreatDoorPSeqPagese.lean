/- Checks for SeqPages. No condition. -/
import Derived.Test.YtlgfmmccnilkmaaGreatDoorQSeqPages
namespace Go.Proofs.YtlgfmmccnilkmaaGreatDoor.seqPages
open Go.Sx Go.ChangeShapes Go.WideShapes Go.ChangeAt Go.RowKit
set_option linter.unusedVariables false
set_option linter.unusedSimpArgs false
set_option maxRecDepth 1000000
theorem ck35_0 : chkL Out.pc (accO G 6 64 af4.res Ns35_0) M35_0 N35_0.T.pc = true := by kernel_rfl
theorem ck35_1 : chkL Out.pc (accO G 6 64 af4.res Ns35_1) M35_1 N35_1.T.pc = true := by kernel_rfl
theorem ck36_0 : chkL Out.pc (accO G 6 64 af4.res Ns36_0) M36_0 N36_0.T.pc = true := by kernel_rfl
theorem ck36_1 : chkL Out.pc (accO G 6 64 af4.res Ns36_1) M36_1 N36_1.T.pc = true := by kernel_rfl
theorem ck37_0 : chkL Out.pc (accO G 6 64 af4.res Ns37_0) M37_0 N37_0.T.pc = true := by kernel_rfl
theorem ck37_1 : chkL Out.pc (accO G 6 64 af4.res Ns37_1) M37_1 N37_1.T.pc = true := by kernel_rfl
theorem ck38_0 : chkL Out.pc (accO G 6 64 af4.res Ns38_0) M38_0 N38_0.T.pc = true := by kernel_rfl
theorem ck38_1 : chkL Out.pc (accO G 6 64 af4.res Ns38_1) M38_1 N38_1.T.pc = true := by kernel_rfl
theorem ck39_0 : chkL Out.pc (accO G 6 64 af4.res Ns39_0) M39_0 N39_0.T.pc = true := by kernel_rfl
theorem ck39_1 : chkL Out.pc (accO G 6 64 af4.res Ns39_1) M39_1 N39_1.T.pc = true := by kernel_rfl
theorem ck40_0 : chkL Out.pc (accO G 6 64 af4.res Ns40_0) M40_0 N40_0.T.pc = true := by kernel_rfl
theorem ck40_1 : chkL Out.pc (accO G 6 64 af4.res Ns40_1) M40_1 N40_1.T.pc = true := by kernel_rfl
theorem ck41_0 : chkL Out.pc (accO G 6 64 af4.res Ns41_0) M41_0 N41_0.T.pc = true := by kernel_rfl
theorem ck41_1 : chkL Out.pc (accO G 6 64 af4.res Ns41_1) M41_1 N41_1.T.pc = true := by kernel_rfl
theorem ck42_0 : chkL Out.pc (accO G 6 64 af4.res Ns42_0) M42_0 N42_0.T.pc = true := by kernel_rfl
theorem ck42_1 : chkL Out.pc (accO G 6 64 af4.res Ns42_1) M42_1 N42_1.T.pc = true := by kernel_rfl
theorem ck43_0 : chkL Out.pc (accO G 6 64 af4.res Ns43_0) M43_0 N43_0.T.pc = true := by kernel_rfl
end Go.Proofs.YtlgfmmccnilkmaaGreatDoor.seqPages
