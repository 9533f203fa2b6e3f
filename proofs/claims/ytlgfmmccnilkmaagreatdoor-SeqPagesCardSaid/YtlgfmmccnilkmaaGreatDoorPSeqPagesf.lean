/- Checks for SeqPages. No condition. -/
import Derived.Test.YtlgfmmccnilkmaaGreatDoorQSeqPages
namespace Go.Proofs.YtlgfmmccnilkmaaGreatDoor.seqPages
open Go.Sx Go.ChangeShapes Go.WideShapes Go.ChangeAt Go.RowKit
set_option linter.unusedVariables false
set_option linter.unusedSimpArgs false
set_option maxRecDepth 1000000
theorem ck43_1 : chkL Out.pc (accO G 6 64 af4.res Ns43_1) M43_1 N43_1.T.pc = true := by kernel_rfl
theorem ck44_0 : chkL Out.pc (accO G 6 64 af4.res Ns44_0) M44_0 N44_0.T.pc = true := by kernel_rfl
theorem ck44_1 : chkL Out.pc (accO G 6 64 af4.res Ns44_1) M44_1 N44_1.T.pc = true := by kernel_rfl
theorem ck45_0 : chkL Out.pc (accO G 6 64 af4.res Ns45_0) M45_0 N45_0.T.pc = true := by kernel_rfl
theorem ck45_1 : chkL Out.pc (accO G 6 64 af4.res Ns45_1) M45_1 N45_1.T.pc = true := by kernel_rfl
theorem ck46_0 : chkL Out.pc (accO G 6 64 af4.res Ns46_0) M46_0 N46_0.T.pc = true := by kernel_rfl
theorem ck46_1 : chkL Out.pc (accO G 6 64 af4.res Ns46_1) M46_1 N46_1.T.pc = true := by kernel_rfl
theorem ck47_0 : chkL Out.pc (accO G 6 64 af4.res Ns47_0) M47_0 N47_0.T.pc = true := by kernel_rfl
theorem ck47_1 : chkL Out.pc (accO G 6 64 af4.res Ns47_1) M47_1 N47_1.T.pc = true := by kernel_rfl
theorem ck48_0 : chkL Out.pc (accO G 6 64 af4.res Ns48_0) M48_0 N48_0.T.pc = true := by kernel_rfl
theorem ck48_1 : chkL Out.pc (accO G 6 64 af4.res Ns48_1) M48_1 N48_1.T.pc = true := by kernel_rfl
theorem ck49_0 : chkL Out.pc (accO G 6 64 af4.res Ns49_0) M49_0 N49_0.T.pc = true := by kernel_rfl
theorem ck49_1 : chkL Out.pc (accO G 6 64 af4.res Ns49_1) M49_1 N49_1.T.pc = true := by kernel_rfl
theorem ck50_0 : chkL Out.pc (accO G 6 64 af4.res Ns50_0) M50_0 N50_0.T.pc = true := by kernel_rfl
theorem ck50_1 : chkL Out.pc (accO G 6 64 af4.res Ns50_1) M50_1 N50_1.T.pc = true := by kernel_rfl
theorem ck51_0 : chkL Out.pc (accO G 6 64 af4.res Ns51_0) M51_0 N51_0.T.pc = true := by kernel_rfl
theorem ck51_1 : chkL Out.pc (accO G 6 64 af4.res Ns51_1) M51_1 N51_1.T.pc = true := by kernel_rfl
end Go.Proofs.YtlgfmmccnilkmaaGreatDoor.seqPages
