/- Checks for SeqPages. No condition. -/
import Derived.Test.YtlgfmmccnilkmaaGreatDoorQSeqPages
namespace Go.Proofs.YtlgfmmccnilkmaaGreatDoor.seqPages
open Go.Sx Go.ChangeShapes Go.WideShapes Go.ChangeAt Go.RowKit
set_option linter.unusedVariables false
set_option linter.unusedSimpArgs false
set_option maxRecDepth 1000000
theorem ck18_0 : chkL Out.pc (accO G 6 64 af4.res Ns18_0) M18_0 N18_0.T.pc = true := by kernel_rfl
theorem ck18_1 : chkL Out.pc (accO G 6 64 af4.res Ns18_1) M18_1 N18_1.T.pc = true := by kernel_rfl
theorem ck19_0 : chkL Out.pc (accO G 6 64 af4.res Ns19_0) M19_0 N19_0.T.pc = true := by kernel_rfl
theorem ck19_1 : chkL Out.pc (accO G 6 64 af4.res Ns19_1) M19_1 N19_1.T.pc = true := by kernel_rfl
theorem ck20_0 : chkL Out.pc (accO G 6 64 af4.res Ns20_0) M20_0 N20_0.T.pc = true := by kernel_rfl
theorem ck20_1 : chkL Out.pc (accO G 6 64 af4.res Ns20_1) M20_1 N20_1.T.pc = true := by kernel_rfl
theorem ck21_0 : chkL Out.pc (accO G 6 64 af4.res Ns21_0) M21_0 N21_0.T.pc = true := by kernel_rfl
theorem ck21_1 : chkL Out.pc (accO G 6 64 af4.res Ns21_1) M21_1 N21_1.T.pc = true := by kernel_rfl
theorem ck22_0 : chkL Out.pc (accO G 6 64 af4.res Ns22_0) M22_0 N22_0.T.pc = true := by kernel_rfl
theorem ck22_1 : chkL Out.pc (accO G 6 64 af4.res Ns22_1) M22_1 N22_1.T.pc = true := by kernel_rfl
theorem ck23_0 : chkL Out.pc (accO G 6 64 af4.res Ns23_0) M23_0 N23_0.T.pc = true := by kernel_rfl
theorem ck23_1 : chkL Out.pc (accO G 6 64 af4.res Ns23_1) M23_1 N23_1.T.pc = true := by kernel_rfl
theorem ck24_0 : chkL Out.pc (accO G 6 64 af4.res Ns24_0) M24_0 N24_0.T.pc = true := by kernel_rfl
theorem ck24_1 : chkL Out.pc (accO G 6 64 af4.res Ns24_1) M24_1 N24_1.T.pc = true := by kernel_rfl
theorem ck25_0 : chkL Out.pc (accO G 6 64 af4.res Ns25_0) M25_0 N25_0.T.pc = true := by kernel_rfl
theorem ck25_1 : chkL Out.pc (accO G 6 64 af4.res Ns25_1) M25_1 N25_1.T.pc = true := by kernel_rfl
theorem ck26_0 : chkL Out.pc (accO G 6 64 af4.res Ns26_0) M26_0 N26_0.T.pc = true := by kernel_rfl
end Go.Proofs.YtlgfmmccnilkmaaGreatDoor.seqPages
