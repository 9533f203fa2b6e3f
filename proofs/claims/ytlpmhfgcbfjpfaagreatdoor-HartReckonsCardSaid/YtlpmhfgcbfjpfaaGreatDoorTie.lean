/-
  DERIVED. GIVEN WITH THE SEED: THE PROGRAM's TIES (one call each: nine closed facts by the kernel) AND EACH ROW's TIE, after the 31st guide's Derived/Test/Toyas{Tie, Card}.lean. No idea stands in it: it is a product of the set-up. Laid BY PROGRAM, IN A SANDBOX (cutbox-door.mjs). By AI agents, Wed Nov 11 2026. No macro, syntax, notation, axiom, sorry.
-/
import Derived.Test.YtlpmhfgcbfjpfaaGreatDoorRows
import Derived.LaidByTextLater
import Derived.SevenTiedAt
import Derived.LaidSub
import Derived.LaidOnce
namespace Go.Proofs.YtlpmhfgcbfjpfaaGreatDoor
open Go
set_option maxRecDepth 100000
theorem seatTie1 : Tryz.prog.laidByTextLater [("corral/api.ErrMany", Rows.laid_corral_api_ErrMany), ("corral/api.ErrKind", Rows.laid_corral_api_ErrKind), ("corral/api.ErrPlace", Rows.laid_corral_api_ErrPlace), ("corral/api.ErrShape", Rows.laid_corral_api_ErrShape), ("corral/api.ErrWord", Rows.laid_corral_api_ErrWord), ("corral/api.ErrRange", Rows.laid_corral_api_ErrRange), ("corral/api.ErrFull", Rows.laid_corral_api_ErrFull), ("corral/api.ErrNone", Rows.laid_corral_api_ErrNone), ("corral/api.ErrTrace", Rows.laid_corral_api_ErrTrace), ("corral/api.ErrOrder", Rows.laid_corral_api_ErrOrder), ("corral/api.ErrValue", Rows.laid_corral_api_ErrValue)] [.sentinel, .sentinel, .sentinel, .sentinel, .sentinel, .sentinel, .sentinel, .sentinel, .sentinel, .sentinel, .sentinel] true :=
  Program.laidByTextLater_by_one 218 8 2 (by kernel_rfl) (by kernel_rfl) (by kernel_rfl) (by kernel_rfl) (by kernel_rfl) (by kernel_rfl) (fun _ _ => by kernel_rfl)
theorem noOwnUnsafe : Tryz.pinned.checked.prog.headLifts.contains "ownunsafe" = false := by kernel_rfl
theorem tie : Tryz.prog.laidByTextLater [("corral/api.ErrTrace", Rows.laid_corral_api_ErrTrace)] [.sentinel] true :=
  Program.laidByTextLater.sub seatTie1 ["corral/api.ErrTrace"] (by kernel_rfl) (by kernel_rfl)
theorem hartZero_row_tie : Rows.hartZeroRow.laidByTextAt .later Tryz.pinned [.sentinel] true :=
  OpenClaim.laidByTextAt_later rfl rfl tie noOwnUnsafe
theorem hartReckons_row_tie : Rows.hartReckonsRow.laidByTextAt .later Tryz.pinned [.sentinel] true :=
  OpenClaim.laidByTextAt_later rfl rfl tie noOwnUnsafe
theorem hartBranches_row_tie : Rows.hartBranchesRow.laidByTextAt .later Tryz.pinned [.sentinel] true :=
  OpenClaim.laidByTextAt_later rfl rfl tie noOwnUnsafe
theorem hartLoads_row_tie : Rows.hartLoadsRow.laidByTextAt .later Tryz.pinned [.sentinel] true :=
  OpenClaim.laidByTextAt_later rfl rfl tie noOwnUnsafe
theorem tie2 : Tryz.prog.laidByTextLater [("corral/api.ErrMany", Rows.laid_corral_api_ErrMany), ("corral/api.ErrKind", Rows.laid_corral_api_ErrKind), ("corral/api.ErrPlace", Rows.laid_corral_api_ErrPlace), ("corral/api.ErrShape", Rows.laid_corral_api_ErrShape), ("corral/api.ErrWord", Rows.laid_corral_api_ErrWord), ("corral/api.ErrRange", Rows.laid_corral_api_ErrRange), ("corral/api.ErrFull", Rows.laid_corral_api_ErrFull), ("corral/api.ErrNone", Rows.laid_corral_api_ErrNone), ("corral/api.ErrTrace", Rows.laid_corral_api_ErrTrace), ("corral/api.ErrOrder", Rows.laid_corral_api_ErrOrder), ("corral/api.ErrValue", Rows.laid_corral_api_ErrValue)] [.sentinel, .sentinel, .sentinel, .sentinel, .sentinel, .sentinel, .sentinel, .sentinel, .sentinel, .sentinel, .sentinel] true :=
  Program.laidByTextLater.sub seatTie1 ["corral/api.ErrMany", "corral/api.ErrKind", "corral/api.ErrPlace", "corral/api.ErrShape", "corral/api.ErrWord", "corral/api.ErrRange", "corral/api.ErrFull", "corral/api.ErrNone", "corral/api.ErrTrace", "corral/api.ErrOrder", "corral/api.ErrValue"] (by kernel_rfl) (by kernel_rfl)
theorem hartWrong_row_tie : Rows.hartWrongRow.laidByTextAt .later Tryz.pinned [.sentinel, .sentinel, .sentinel, .sentinel, .sentinel, .sentinel, .sentinel, .sentinel, .sentinel, .sentinel, .sentinel] true :=
  OpenClaim.laidByTextAt_later rfl rfl tie2 noOwnUnsafe
theorem hartReplays_row_tie : Rows.hartReplaysRow.laidByTextAt .later Tryz.pinned [.sentinel, .sentinel, .sentinel, .sentinel, .sentinel, .sentinel, .sentinel, .sentinel, .sentinel, .sentinel, .sentinel] true :=
  OpenClaim.laidByTextAt_later rfl rfl tie2 noOwnUnsafe
theorem hartZeroUpto_row_tie : Rows.hartZeroUptoRow.laidByTextAt .later Tryz.pinned [.sentinel] true :=
  OpenClaim.laidByTextAt_later rfl rfl tie noOwnUnsafe
theorem hartReckonsUpto_row_tie : Rows.hartReckonsUptoRow.laidByTextAt .later Tryz.pinned [.sentinel] true :=
  OpenClaim.laidByTextAt_later rfl rfl tie noOwnUnsafe
theorem hartBranchesUpto_row_tie : Rows.hartBranchesUptoRow.laidByTextAt .later Tryz.pinned [.sentinel] true :=
  OpenClaim.laidByTextAt_later rfl rfl tie noOwnUnsafe
theorem hartLoadsUpto_row_tie : Rows.hartLoadsUptoRow.laidByTextAt .later Tryz.pinned [.sentinel] true :=
  OpenClaim.laidByTextAt_later rfl rfl tie noOwnUnsafe
theorem hartWrongUpto_row_tie : Rows.hartWrongUptoRow.laidByTextAt .later Tryz.pinned [.sentinel, .sentinel, .sentinel, .sentinel, .sentinel, .sentinel, .sentinel, .sentinel, .sentinel, .sentinel, .sentinel] true :=
  OpenClaim.laidByTextAt_later rfl rfl tie2 noOwnUnsafe
theorem hartReplaysUpto_row_tie : Rows.hartReplaysUptoRow.laidByTextAt .later Tryz.pinned [.sentinel, .sentinel, .sentinel, .sentinel, .sentinel, .sentinel, .sentinel, .sentinel, .sentinel, .sentinel, .sentinel] true :=
  OpenClaim.laidByTextAt_later rfl rfl tie2 noOwnUnsafe
end Go.Proofs.YtlpmhfgcbfjpfaaGreatDoor
