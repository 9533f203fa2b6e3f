/-
  DERIVED. GIVEN WITH THE SEED: THE CARDS: each row of YtlgfmmccnilkmaaGreatDoorRows.lean that lists a variable, with what it lists TIED to the program's text (the seventh form; the later family's looks); each row that meets fmt, with fmt's text TOLD by the authors' own Lean function (tested against real Go, not proved from fmt's source: count such statements apart). THE CARD IS WHAT COUNTS. Prove the row's statement (the work); the ties are given (YtlgfmmccnilkmaaGreatDoorTie.lean); close each card by the builder's one call (the guide's Derived/Test/ToyasCard.lean, 'card_holds'). Laid BY PROGRAM, IN A SANDBOX (cutbox-door.mjs). By AI agents, Wed Nov 11 2026. No macro, syntax, notation, axiom, sorry.
-/
import Derived.Test.YtlgfmmccnilkmaaGreatDoorRows
import GoSem.ClaimSeven
namespace Go.Proofs.YtlgfmmccnilkmaaGreatDoor
namespace Rows

/-- THE TIED CARD OF 'corrallaw11.SeqSums'. -/
def seqSumsCard : Claim7 := { stood := { row := seqSumsRow, standIns := [], harness := (true, "ce3d53d51ab8de547d7f1344bae300472eaec57308df408c990954a4d8bc7a5d"), looks := false }, kinds := [], alts := [], laidByText := true, laidKinds := [.sentinel, .sentinel, .sentinel], laidTests := true, laidLooks := .later }
def SeqSumsCardSaid : Prop := Claim7.holds Tryz.pinned (.plain (OpenSpec.ofChange seqSumsSpec)) seqSumsCard

/-- THE TIED CARD OF 'corrallaw11.SeqPages'. -/
def seqPagesCard : Claim7 := { stood := { row := seqPagesRow, standIns := [], harness := (true, "ce3d53d51ab8de547d7f1344bae300472eaec57308df408c990954a4d8bc7a5d"), looks := false }, kinds := [], alts := [], laidByText := true, laidKinds := [.sentinel, .sentinel, .sentinel], laidTests := true, laidLooks := .later }
def SeqPagesCardSaid : Prop := Claim7.holds Tryz.pinned (.plain (OpenSpec.ofChange seqPagesSpec)) seqPagesCard

/-- THE SECOND FORM's CARD OF 'corrallaw11.SeqSums'. -/
def seqSumsUptoCard : Claim7 := { stood := { row := seqSumsUptoRow, standIns := [], harness := (true, "ce3d53d51ab8de547d7f1344bae300472eaec57308df408c990954a4d8bc7a5d"), looks := false }, kinds := [], alts := [], laidByText := true, laidKinds := [.sentinel, .sentinel, .sentinel], laidTests := true, laidLooks := .later }
def SeqSumsUptoCardSaid : Prop := Claim7.holds Tryz.pinned (.plain (OpenSpec.upto seqSumsSpec)) seqSumsUptoCard

/-- THE SECOND FORM's CARD OF 'corrallaw11.SeqPages'. -/
def seqPagesUptoCard : Claim7 := { stood := { row := seqPagesUptoRow, standIns := [], harness := (true, "ce3d53d51ab8de547d7f1344bae300472eaec57308df408c990954a4d8bc7a5d"), looks := false }, kinds := [], alts := [], laidByText := true, laidKinds := [.sentinel, .sentinel, .sentinel], laidTests := true, laidLooks := .later }
def SeqPagesUptoCardSaid : Prop := Claim7.holds Tryz.pinned (.plain (OpenSpec.upto seqPagesSpec)) seqPagesUptoCard
end Rows
end Go.Proofs.YtlgfmmccnilkmaaGreatDoor
