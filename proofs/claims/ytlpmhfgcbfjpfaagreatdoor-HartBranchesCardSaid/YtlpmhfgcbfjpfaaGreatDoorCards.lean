/-
  DERIVED. GIVEN WITH THE SEED: THE CARDS: each row of YtlpmhfgcbfjpfaaGreatDoorRows.lean that lists a variable, with what it lists TIED to the program's text (the seventh form; the later family's looks); each row that meets fmt, with fmt's text TOLD by the authors' own Lean function (tested against real Go, not proved from fmt's source: count such statements apart). THE CARD IS WHAT COUNTS. Prove the row's statement (the work); the ties are given (YtlpmhfgcbfjpfaaGreatDoorTie.lean); close each card by the builder's one call (the guide's Derived/Test/ToyasCard.lean, 'card_holds'). Laid BY PROGRAM, IN A SANDBOX (cutbox-door.mjs). By AI agents, Wed Nov 11 2026. No macro, syntax, notation, axiom, sorry.
-/
import Derived.Test.YtlpmhfgcbfjpfaaGreatDoorRows
import GoSem.ClaimSeven
namespace Go.Proofs.YtlpmhfgcbfjpfaaGreatDoor
namespace Rows

/-- THE TIED CARD OF 'corrallaw10.HartZero'. -/
def hartZeroCard : Claim7 := { stood := { row := hartZeroRow, standIns := [], harness := (true, "0ba36d95a03b9579a1d5ba4b4fd82659981c0e4cb7266cccfcee37d622a7beeb"), looks := true }, kinds := [], alts := [], laidByText := true, laidKinds := [.sentinel], laidTests := true, laidLooks := .later }
def HartZeroCardSaid : Prop := Claim7.holds Tryz.pinned (.plain (OpenSpec.ofChange hartZeroSpec)) hartZeroCard

/-- THE TIED CARD OF 'corrallaw10.HartReckons'. -/
def hartReckonsCard : Claim7 := { stood := { row := hartReckonsRow, standIns := [], harness := (true, "0ba36d95a03b9579a1d5ba4b4fd82659981c0e4cb7266cccfcee37d622a7beeb"), looks := true }, kinds := [], alts := [], laidByText := true, laidKinds := [.sentinel], laidTests := true, laidLooks := .later }
def HartReckonsCardSaid : Prop := Claim7.holds Tryz.pinned (.plain (OpenSpec.ofChange hartReckonsSpec)) hartReckonsCard

/-- THE TIED CARD OF 'corrallaw10.HartBranches'. -/
def hartBranchesCard : Claim7 := { stood := { row := hartBranchesRow, standIns := [], harness := (true, "0ba36d95a03b9579a1d5ba4b4fd82659981c0e4cb7266cccfcee37d622a7beeb"), looks := true }, kinds := [], alts := [], laidByText := true, laidKinds := [.sentinel], laidTests := true, laidLooks := .later }
def HartBranchesCardSaid : Prop := Claim7.holds Tryz.pinned (.plain (OpenSpec.ofChange hartBranchesSpec)) hartBranchesCard

/-- THE TIED CARD OF 'corrallaw10.HartLoads'. -/
def hartLoadsCard : Claim7 := { stood := { row := hartLoadsRow, standIns := [], harness := (true, "0ba36d95a03b9579a1d5ba4b4fd82659981c0e4cb7266cccfcee37d622a7beeb"), looks := true }, kinds := [], alts := [], laidByText := true, laidKinds := [.sentinel], laidTests := true, laidLooks := .later }
def HartLoadsCardSaid : Prop := Claim7.holds Tryz.pinned (.plain (OpenSpec.ofChange hartLoadsSpec)) hartLoadsCard

/-- THE TIED CARD OF 'corrallaw10.HartWrong'. -/
def hartWrongCard : Claim7 := { stood := { row := hartWrongRow, standIns := [], harness := (true, "0ba36d95a03b9579a1d5ba4b4fd82659981c0e4cb7266cccfcee37d622a7beeb"), looks := true }, kinds := [], alts := [], laidByText := true, laidKinds := [.sentinel, .sentinel, .sentinel, .sentinel, .sentinel, .sentinel, .sentinel, .sentinel, .sentinel, .sentinel, .sentinel], laidTests := true, laidLooks := .later }
def HartWrongCardSaid : Prop := Claim7.holds Tryz.pinned (.plain (OpenSpec.ofChange hartWrongSpec)) hartWrongCard

/-- THE TIED CARD OF 'corrallaw10.HartReplays'. -/
def hartReplaysCard : Claim7 := { stood := { row := hartReplaysRow, standIns := [], harness := (true, "0ba36d95a03b9579a1d5ba4b4fd82659981c0e4cb7266cccfcee37d622a7beeb"), looks := true }, kinds := [], alts := [], laidByText := true, laidKinds := [.sentinel, .sentinel, .sentinel, .sentinel, .sentinel, .sentinel, .sentinel, .sentinel, .sentinel, .sentinel, .sentinel], laidTests := true, laidLooks := .later }
def HartReplaysCardSaid : Prop := Claim7.holds Tryz.pinned (.plain (OpenSpec.ofChange hartReplaysSpec)) hartReplaysCard

/-- THE SECOND FORM's CARD OF 'corrallaw10.HartZero'. -/
def hartZeroUptoCard : Claim7 := { stood := { row := hartZeroUptoRow, standIns := [], harness := (true, "0ba36d95a03b9579a1d5ba4b4fd82659981c0e4cb7266cccfcee37d622a7beeb"), looks := true }, kinds := [], alts := [], laidByText := true, laidKinds := [.sentinel], laidTests := true, laidLooks := .later }
def HartZeroUptoCardSaid : Prop := Claim7.holds Tryz.pinned (.plain (OpenSpec.upto hartZeroSpec)) hartZeroUptoCard

/-- THE SECOND FORM's CARD OF 'corrallaw10.HartReckons'. -/
def hartReckonsUptoCard : Claim7 := { stood := { row := hartReckonsUptoRow, standIns := [], harness := (true, "0ba36d95a03b9579a1d5ba4b4fd82659981c0e4cb7266cccfcee37d622a7beeb"), looks := true }, kinds := [], alts := [], laidByText := true, laidKinds := [.sentinel], laidTests := true, laidLooks := .later }
def HartReckonsUptoCardSaid : Prop := Claim7.holds Tryz.pinned (.plain (OpenSpec.upto hartReckonsSpec)) hartReckonsUptoCard

/-- THE SECOND FORM's CARD OF 'corrallaw10.HartBranches'. -/
def hartBranchesUptoCard : Claim7 := { stood := { row := hartBranchesUptoRow, standIns := [], harness := (true, "0ba36d95a03b9579a1d5ba4b4fd82659981c0e4cb7266cccfcee37d622a7beeb"), looks := true }, kinds := [], alts := [], laidByText := true, laidKinds := [.sentinel], laidTests := true, laidLooks := .later }
def HartBranchesUptoCardSaid : Prop := Claim7.holds Tryz.pinned (.plain (OpenSpec.upto hartBranchesSpec)) hartBranchesUptoCard

/-- THE SECOND FORM's CARD OF 'corrallaw10.HartLoads'. -/
def hartLoadsUptoCard : Claim7 := { stood := { row := hartLoadsUptoRow, standIns := [], harness := (true, "0ba36d95a03b9579a1d5ba4b4fd82659981c0e4cb7266cccfcee37d622a7beeb"), looks := true }, kinds := [], alts := [], laidByText := true, laidKinds := [.sentinel], laidTests := true, laidLooks := .later }
def HartLoadsUptoCardSaid : Prop := Claim7.holds Tryz.pinned (.plain (OpenSpec.upto hartLoadsSpec)) hartLoadsUptoCard

/-- THE SECOND FORM's CARD OF 'corrallaw10.HartWrong'. -/
def hartWrongUptoCard : Claim7 := { stood := { row := hartWrongUptoRow, standIns := [], harness := (true, "0ba36d95a03b9579a1d5ba4b4fd82659981c0e4cb7266cccfcee37d622a7beeb"), looks := true }, kinds := [], alts := [], laidByText := true, laidKinds := [.sentinel, .sentinel, .sentinel, .sentinel, .sentinel, .sentinel, .sentinel, .sentinel, .sentinel, .sentinel, .sentinel], laidTests := true, laidLooks := .later }
def HartWrongUptoCardSaid : Prop := Claim7.holds Tryz.pinned (.plain (OpenSpec.upto hartWrongSpec)) hartWrongUptoCard

/-- THE SECOND FORM's CARD OF 'corrallaw10.HartReplays'. -/
def hartReplaysUptoCard : Claim7 := { stood := { row := hartReplaysUptoRow, standIns := [], harness := (true, "0ba36d95a03b9579a1d5ba4b4fd82659981c0e4cb7266cccfcee37d622a7beeb"), looks := true }, kinds := [], alts := [], laidByText := true, laidKinds := [.sentinel, .sentinel, .sentinel, .sentinel, .sentinel, .sentinel, .sentinel, .sentinel, .sentinel, .sentinel, .sentinel], laidTests := true, laidLooks := .later }
def HartReplaysUptoCardSaid : Prop := Claim7.holds Tryz.pinned (.plain (OpenSpec.upto hartReplaysSpec)) hartReplaysUptoCard
end Rows
end Go.Proofs.YtlpmhfgcbfjpfaaGreatDoor
