/-
  DERIVED. GIVEN WITH THE SEED: THE CARDS: each row of YtagaclifeoiepabDoorRows.lean that lists a variable, with what it lists TIED to the program's text (the seventh form; the later family's looks); each row that meets fmt, with fmt's text TOLD by the authors' own Lean function (tested against real Go, not proved from fmt's source: count such statements apart). THE CARD IS WHAT COUNTS. Prove the row's statement (the work); the ties are given (YtagaclifeoiepabDoorTie.lean); close each card by the builder's one call (the guide's Derived/Test/ToyasCard.lean, 'card_holds'). Laid BY PROGRAM, IN A SANDBOX (cutbox-door.mjs). By AI agents, Wed Nov 11 2026. No macro, syntax, notation, axiom, sorry.
-/
import Derived.Test.YtagaclifeoiepabDoorRows
import GoSem.ClaimSeven
namespace Go.Proofs.YtagaclifeoiepabDoor
namespace Rows

/-- THE TIED CARD OF 'corrallaw3.IsaRegs'. -/
def isaRegsCard : Claim7 := { stood := { row := isaRegsRow, standIns := [], harness := (true, "95613d5f9336c5ff66ff2bb8eefa277b027caa30e7b067d1c593d108637f2053"), looks := true }, kinds := [], alts := [], laidByText := true, laidKinds := [.sentinel, .sentinel, .sentinel, .sentinel, .sentinel, .sentinel, .sentinel, .sentinel, .sentinel, .sentinel, .sentinel], laidTests := true, laidLooks := .later }
def IsaRegsCardSaid : Prop := Claim7.holds Tryd.pinned (.plain (OpenSpec.ofChange isaRegsSpec)) isaRegsCard

/-- THE TIED CARD OF 'corrallaw3.IsaAll'. -/
def isaAllCard : Claim7 := { stood := { row := isaAllRow, standIns := [], harness := (true, "95613d5f9336c5ff66ff2bb8eefa277b027caa30e7b067d1c593d108637f2053"), looks := true }, kinds := [], alts := [], laidByText := true, laidKinds := [.sentinel, .sentinel, .sentinel, .sentinel, .sentinel, .sentinel, .sentinel, .sentinel, .sentinel, .sentinel, .sentinel], laidTests := true, laidLooks := .later }
def IsaAllCardSaid : Prop := Claim7.holds Tryd.pinned (.plain (OpenSpec.ofChange isaAllSpec)) isaAllCard

/-- THE TIED CARD OF 'corrallaw3.IsaOpcodes'. -/
def isaOpcodesCard : Claim7 := { stood := { row := isaOpcodesRow, standIns := [], harness := (true, "95613d5f9336c5ff66ff2bb8eefa277b027caa30e7b067d1c593d108637f2053"), looks := true }, kinds := [], alts := [], laidByText := true, laidKinds := [.sentinel, .sentinel, .sentinel, .sentinel, .sentinel, .sentinel, .sentinel, .sentinel, .sentinel, .sentinel, .sentinel], laidTests := true, laidLooks := .later }
def IsaOpcodesCardSaid : Prop := Claim7.holds Tryd.pinned (.plain (OpenSpec.ofChange isaOpcodesSpec)) isaOpcodesCard

/-- THE TIED CARD OF 'corrallaw3.IsaNames'. -/
def isaNamesCard : Claim7 := { stood := { row := isaNamesRow, standIns := [], harness := (true, "95613d5f9336c5ff66ff2bb8eefa277b027caa30e7b067d1c593d108637f2053"), looks := true }, kinds := [], alts := [], laidByText := true, laidKinds := [.sentinel, .sentinel, .sentinel, .sentinel, .sentinel, .sentinel, .sentinel, .sentinel, .sentinel, .sentinel, .sentinel], laidTests := true, laidLooks := .later }
def IsaNamesCardSaid : Prop := Claim7.holds Tryd.pinned (.plain (OpenSpec.ofChange isaNamesSpec)) isaNamesCard

/-- THE SECOND FORM's CARD OF 'corrallaw3.IsaRegs'. -/
def isaRegsUptoCard : Claim7 := { stood := { row := isaRegsUptoRow, standIns := [], harness := (true, "95613d5f9336c5ff66ff2bb8eefa277b027caa30e7b067d1c593d108637f2053"), looks := true }, kinds := [], alts := [], laidByText := true, laidKinds := [.sentinel, .sentinel, .sentinel, .sentinel, .sentinel, .sentinel, .sentinel, .sentinel, .sentinel, .sentinel, .sentinel], laidTests := true, laidLooks := .later }
def IsaRegsUptoCardSaid : Prop := Claim7.holds Tryd.pinned (.plain (OpenSpec.upto isaRegsSpec)) isaRegsUptoCard

/-- THE SECOND FORM's CARD OF 'corrallaw3.IsaAll'. -/
def isaAllUptoCard : Claim7 := { stood := { row := isaAllUptoRow, standIns := [], harness := (true, "95613d5f9336c5ff66ff2bb8eefa277b027caa30e7b067d1c593d108637f2053"), looks := true }, kinds := [], alts := [], laidByText := true, laidKinds := [.sentinel, .sentinel, .sentinel, .sentinel, .sentinel, .sentinel, .sentinel, .sentinel, .sentinel, .sentinel, .sentinel], laidTests := true, laidLooks := .later }
def IsaAllUptoCardSaid : Prop := Claim7.holds Tryd.pinned (.plain (OpenSpec.upto isaAllSpec)) isaAllUptoCard

/-- THE SECOND FORM's CARD OF 'corrallaw3.IsaOpcodes'. -/
def isaOpcodesUptoCard : Claim7 := { stood := { row := isaOpcodesUptoRow, standIns := [], harness := (true, "95613d5f9336c5ff66ff2bb8eefa277b027caa30e7b067d1c593d108637f2053"), looks := true }, kinds := [], alts := [], laidByText := true, laidKinds := [.sentinel, .sentinel, .sentinel, .sentinel, .sentinel, .sentinel, .sentinel, .sentinel, .sentinel, .sentinel, .sentinel], laidTests := true, laidLooks := .later }
def IsaOpcodesUptoCardSaid : Prop := Claim7.holds Tryd.pinned (.plain (OpenSpec.upto isaOpcodesSpec)) isaOpcodesUptoCard

/-- THE SECOND FORM's CARD OF 'corrallaw3.IsaNames'. -/
def isaNamesUptoCard : Claim7 := { stood := { row := isaNamesUptoRow, standIns := [], harness := (true, "95613d5f9336c5ff66ff2bb8eefa277b027caa30e7b067d1c593d108637f2053"), looks := true }, kinds := [], alts := [], laidByText := true, laidKinds := [.sentinel, .sentinel, .sentinel, .sentinel, .sentinel, .sentinel, .sentinel, .sentinel, .sentinel, .sentinel, .sentinel], laidTests := true, laidLooks := .later }
def IsaNamesUptoCardSaid : Prop := Claim7.holds Tryd.pinned (.plain (OpenSpec.upto isaNamesSpec)) isaNamesUptoCard
end Rows
end Go.Proofs.YtagaclifeoiepabDoor
