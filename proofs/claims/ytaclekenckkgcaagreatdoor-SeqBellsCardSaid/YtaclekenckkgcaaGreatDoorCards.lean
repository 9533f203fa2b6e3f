/-
  DERIVED. GIVEN WITH THE SEED: THE CARDS: each row of YtaclekenckkgcaaGreatDoorRows.lean that lists a variable, with what it lists TIED to the program's text (the seventh form; the later family's looks); each row that meets fmt, with fmt's text TOLD by the authors' own Lean function (tested against real Go, not proved from fmt's source: count such statements apart). THE CARD IS WHAT COUNTS. Prove the row's statement (the work); the ties are given (YtaclekenckkgcaaGreatDoorTie.lean); close each card by the builder's one call (the guide's Derived/Test/ToyasCard.lean, 'card_holds'). Laid BY PROGRAM, IN A SANDBOX (cutbox-door.mjs). By AI agents, Wed Nov 11 2026. No macro, syntax, notation, axiom, sorry.
-/
import Derived.Test.YtaclekenckkgcaaGreatDoorRows
import GoSem.ClaimSeven
namespace Go.Proofs.YtaclekenckkgcaaGreatDoor
namespace Rows

/-- THE TIED CARD OF 'corrallaw11.SeqSums'. -/
def seqSumsCard : Claim7 := { stood := { row := seqSumsRow, standIns := [], harness := (true, "934eb5626043ee5ff1abe08853068aaa08326a30ef20c129a1ded5342a2c46cb"), looks := false }, kinds := [], alts := [], laidByText := true, laidKinds := [.sentinel, .sentinel, .sentinel], laidTests := true, laidLooks := .later }
def SeqSumsCardSaid : Prop := Claim7.holds Tryz.pinned (.plain (OpenSpec.ofChange seqSumsSpec)) seqSumsCard

/-- THE TIED CARD OF 'corrallaw11.SeqHolds'. -/
def seqHoldsCard : Claim7 := { stood := { row := seqHoldsRow, standIns := [], harness := (true, "934eb5626043ee5ff1abe08853068aaa08326a30ef20c129a1ded5342a2c46cb"), looks := false }, kinds := [], alts := [], laidByText := true, laidKinds := [.sentinel, .sentinel, .sentinel], laidTests := true, laidLooks := .later }
def SeqHoldsCardSaid : Prop := Claim7.holds Tryz.pinned (.plain (OpenSpec.ofChange seqHoldsSpec)) seqHoldsCard

/-- THE TIED CARD OF 'corrallaw11.SeqPages'. -/
def seqPagesCard : Claim7 := { stood := { row := seqPagesRow, standIns := [], harness := (true, "934eb5626043ee5ff1abe08853068aaa08326a30ef20c129a1ded5342a2c46cb"), looks := false }, kinds := [], alts := [], laidByText := true, laidKinds := [.sentinel, .sentinel, .sentinel], laidTests := true, laidLooks := .later }
def SeqPagesCardSaid : Prop := Claim7.holds Tryz.pinned (.plain (OpenSpec.ofChange seqPagesSpec)) seqPagesCard

/-- THE TIED CARD OF 'corrallaw11.SeqBells'. -/
def seqBellsCard : Claim7 := { stood := { row := seqBellsRow, standIns := [], harness := (true, "934eb5626043ee5ff1abe08853068aaa08326a30ef20c129a1ded5342a2c46cb"), looks := false }, kinds := [], alts := [], laidByText := true, laidKinds := [.sentinel, .sentinel, .sentinel], laidTests := true, laidLooks := .later }
def SeqBellsCardSaid : Prop := Claim7.holds Tryz.pinned (.plain (OpenSpec.ofChange seqBellsSpec)) seqBellsCard

/-- THE SECOND FORM's CARD OF 'corrallaw11.SeqSums'. -/
def seqSumsUptoCard : Claim7 := { stood := { row := seqSumsUptoRow, standIns := [], harness := (true, "934eb5626043ee5ff1abe08853068aaa08326a30ef20c129a1ded5342a2c46cb"), looks := false }, kinds := [], alts := [], laidByText := true, laidKinds := [.sentinel, .sentinel, .sentinel], laidTests := true, laidLooks := .later }
def SeqSumsUptoCardSaid : Prop := Claim7.holds Tryz.pinned (.plain (OpenSpec.upto seqSumsSpec)) seqSumsUptoCard

/-- THE SECOND FORM's CARD OF 'corrallaw11.SeqHolds'. -/
def seqHoldsUptoCard : Claim7 := { stood := { row := seqHoldsUptoRow, standIns := [], harness := (true, "934eb5626043ee5ff1abe08853068aaa08326a30ef20c129a1ded5342a2c46cb"), looks := false }, kinds := [], alts := [], laidByText := true, laidKinds := [.sentinel, .sentinel, .sentinel], laidTests := true, laidLooks := .later }
def SeqHoldsUptoCardSaid : Prop := Claim7.holds Tryz.pinned (.plain (OpenSpec.upto seqHoldsSpec)) seqHoldsUptoCard

/-- THE SECOND FORM's CARD OF 'corrallaw11.SeqPages'. -/
def seqPagesUptoCard : Claim7 := { stood := { row := seqPagesUptoRow, standIns := [], harness := (true, "934eb5626043ee5ff1abe08853068aaa08326a30ef20c129a1ded5342a2c46cb"), looks := false }, kinds := [], alts := [], laidByText := true, laidKinds := [.sentinel, .sentinel, .sentinel], laidTests := true, laidLooks := .later }
def SeqPagesUptoCardSaid : Prop := Claim7.holds Tryz.pinned (.plain (OpenSpec.upto seqPagesSpec)) seqPagesUptoCard

/-- THE SECOND FORM's CARD OF 'corrallaw11.SeqBells'. -/
def seqBellsUptoCard : Claim7 := { stood := { row := seqBellsUptoRow, standIns := [], harness := (true, "934eb5626043ee5ff1abe08853068aaa08326a30ef20c129a1ded5342a2c46cb"), looks := false }, kinds := [], alts := [], laidByText := true, laidKinds := [.sentinel, .sentinel, .sentinel], laidTests := true, laidLooks := .later }
def SeqBellsUptoCardSaid : Prop := Claim7.holds Tryz.pinned (.plain (OpenSpec.upto seqBellsSpec)) seqBellsUptoCard
end Rows
end Go.Proofs.YtaclekenckkgcaaGreatDoor
