/- Checks for SeqPages. No condition. -/
import Derived.Test.YtlgfmmccnilkmaaGreatDoorQSeqPages
namespace Go.Proofs.YtlgfmmccnilkmaaGreatDoor.seqPages
open Go.Sx Go.ChangeShapes Go.WideShapes Go.ChangeAt Go.RowKit
set_option linter.unusedVariables false
set_option linter.unusedSimpArgs false
set_option maxRecDepth 1000000
theorem ck26_1 : chkL Out.pc (accO G 6 64 af4.res Ns26_1) M26_1 N26_1.T.pc = true := by kernel_rfl
theorem ck27_0 : chkL Out.pc (accO G 6 64 af4.res Ns27_0) M27_0 N27_0.T.pc = true := by kernel_rfl
theorem ck27_1 : chkL Out.pc (accO G 6 64 af4.res Ns27_1) M27_1 N27_1.T.pc = true := by kernel_rfl
theorem ck28_0 : chkL Out.pc (accO G 6 64 af4.res Ns28_0) M28_0 N28_0.T.pc = true := by kernel_rfl
theorem ck28_1 : chkL Out.pc (accO G 6 64 af4.res Ns28_1) M28_1 N28_1.T.pc = true := by kernel_rfl
theorem ck29_0 : chkL Out.pc (accO G 6 64 af4.res Ns29_0) M29_0 N29_0.T.pc = true := by kernel_rfl
theorem ck29_1 : chkL Out.pc (accO G 6 64 af4.res Ns29_1) M29_1 N29_1.T.pc = true := by kernel_rfl
theorem ck30_0 : chkL Out.pc (accO G 6 64 af4.res Ns30_0) M30_0 N30_0.T.pc = true := by kernel_rfl
theorem ck30_1 : chkL Out.pc (accO G 6 64 af4.res Ns30_1) M30_1 N30_1.T.pc = true := by kernel_rfl
theorem ck31_0 : chkL Out.pc (accO G 6 64 af4.res Ns31_0) M31_0 N31_0.T.pc = true := by kernel_rfl
theorem ck31_1 : chkL Out.pc (accO G 6 64 af4.res Ns31_1) M31_1 N31_1.T.pc = true := by kernel_rfl
theorem ck32_0 : chkL Out.pc (accO G 6 64 af4.res Ns32_0) M32_0 N32_0.T.pc = true := by kernel_rfl
theorem ck32_1 : chkL Out.pc (accO G 6 64 af4.res Ns32_1) M32_1 N32_1.T.pc = true := by kernel_rfl
theorem ck33_0 : chkL Out.pc (accO G 6 64 af4.res Ns33_0) M33_0 N33_0.T.pc = true := by kernel_rfl
theorem ck33_1 : chkL Out.pc (accO G 6 64 af4.res Ns33_1) M33_1 N33_1.T.pc = true := by kernel_rfl
theorem ck34_0 : chkL Out.pc (accO G 6 64 af4.res Ns34_0) M34_0 N34_0.T.pc = true := by kernel_rfl
theorem ck34_1 : chkL Out.pc (accO G 6 64 af4.res Ns34_1) M34_1 N34_1.T.pc = true := by kernel_rfl
end Go.Proofs.YtlgfmmccnilkmaaGreatDoor.seqPages
