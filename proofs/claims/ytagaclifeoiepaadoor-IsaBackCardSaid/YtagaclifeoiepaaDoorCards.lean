/-
  DERIVED. GIVEN WITH THE SEED: THE CARDS: each row of YtagaclifeoiepaaDoorRows.lean that lists a variable, with what it lists TIED to the program's text (the seventh form; the later family's looks); each row that meets fmt, with fmt's text TOLD by the authors' own Lean function (tested against real Go, not proved from fmt's source: count such statements apart). THE CARD IS WHAT COUNTS. Prove the row's statement (the work); the ties are given (YtagaclifeoiepaaDoorTie.lean); close each card by the builder's one call (the guide's Derived/Test/ToyasCard.lean, 'card_holds'). Laid BY PROGRAM, IN A SANDBOX (cutbox-door.mjs). By AI agents, Wed Nov 11 2026. No macro, syntax, notation, axiom, sorry.
-/
import Derived.Test.YtagaclifeoiepaaDoorRows
import GoSem.ClaimSeven
namespace Go.Proofs.YtagaclifeoiepaaDoor
namespace Rows

/-- THE TIED CARD OF 'corrallaw3.IsaSays'. -/
def isaSaysCard : Claim7 := { stood := { row := isaSaysRow, standIns := [], harness := (true, "3b2f733ae7927998b658702d177778c30a21445be585201cfe0c0b608200bf3e"), looks := true }, kinds := [], alts := [], laidByText := true, laidKinds := [.sentinel, .sentinel, .sentinel, .sentinel, .sentinel, .sentinel, .sentinel, .sentinel, .sentinel, .sentinel, .sentinel], laidTests := true, laidLooks := .later }
def IsaSaysCardSaid : Prop := Claim7.holds Tryd.pinned (.plain (OpenSpec.ofChange isaSaysSpec)) isaSaysCard

/-- THE TIED CARD OF 'corrallaw3.IsaBack'. -/
def isaBackCard : Claim7 := { stood := { row := isaBackRow, standIns := [], harness := (true, "3b2f733ae7927998b658702d177778c30a21445be585201cfe0c0b608200bf3e"), looks := true }, kinds := [], alts := [], laidByText := true, laidKinds := [.sentinel, .sentinel, .sentinel, .sentinel, .sentinel, .sentinel, .sentinel, .sentinel, .sentinel, .sentinel, .sentinel], laidTests := true, laidLooks := .later }
def IsaBackCardSaid : Prop := Claim7.holds Tryd.pinned (.plain (OpenSpec.ofChange isaBackSpec)) isaBackCard

/-- THE SECOND FORM's CARD OF 'corrallaw3.IsaSays'. -/
def isaSaysUptoCard : Claim7 := { stood := { row := isaSaysUptoRow, standIns := [], harness := (true, "3b2f733ae7927998b658702d177778c30a21445be585201cfe0c0b608200bf3e"), looks := true }, kinds := [], alts := [], laidByText := true, laidKinds := [.sentinel, .sentinel, .sentinel, .sentinel, .sentinel, .sentinel, .sentinel, .sentinel, .sentinel, .sentinel, .sentinel], laidTests := true, laidLooks := .later }
def IsaSaysUptoCardSaid : Prop := Claim7.holds Tryd.pinned (.plain (OpenSpec.upto isaSaysSpec)) isaSaysUptoCard

/-- THE SECOND FORM's CARD OF 'corrallaw3.IsaBack'. -/
def isaBackUptoCard : Claim7 := { stood := { row := isaBackUptoRow, standIns := [], harness := (true, "3b2f733ae7927998b658702d177778c30a21445be585201cfe0c0b608200bf3e"), looks := true }, kinds := [], alts := [], laidByText := true, laidKinds := [.sentinel, .sentinel, .sentinel, .sentinel, .sentinel, .sentinel, .sentinel, .sentinel, .sentinel, .sentinel, .sentinel], laidTests := true, laidLooks := .later }
def IsaBackUptoCardSaid : Prop := Claim7.holds Tryd.pinned (.plain (OpenSpec.upto isaBackSpec)) isaBackUptoCard
end Rows
end Go.Proofs.YtagaclifeoiepaaDoor
