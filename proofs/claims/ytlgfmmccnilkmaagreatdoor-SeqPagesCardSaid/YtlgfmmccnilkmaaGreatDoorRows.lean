/-
  NARROWER THAN 'FOR EVERY INPUT', by the rows' own cells (each row's printed sentence says how): SeqSums: laid · SeqPages: laid.
  DERIVED. THE GIVEN ROWS OF THIS SEAT. 2 by the template 'for every input the law returns true; each argument reads behind the call as it read before'; 0 by the template 'total and deterministic' (their statements: YtlgfmmccnilkmaaGreatDoorTotals.lean).
  GIVEN WITH THE SEED: the statements are not yours to turn. If you find one false, say at which input.
  Laid BY PROGRAM, IN A SANDBOX (cutbox-rows.mjs): the forced cells as the released guide's own fill.sh prints them over the translation 81c044aa15271536… (all of the seat's roots in one cut). By AI agents, Wed Nov 11 2026. No macro, syntax, notation, axiom, sorry.
-/
import Derived.Test.YtlgfmmccnilkmaaGreatDoorChecked
import GoSem.Claim
import GoSem.ClaimJoined
import GoSem.ClaimMapViews
import Derived.JoinedTies
import Derived.KernelRfl
namespace Go.Proofs.YtlgfmmccnilkmaaGreatDoor
/- THE CELL 'sum', in the pinned program and in every row, IS THE sha256 OF THE DUMP (.gsa) THAT YtlgfmmccnilkmaaGreatDoorProg.lean LOADS. Nothing in Lean hashes anything: it is a label: what it is worth is what the hold of that sum in a sandbox is worth. -/
noncomputable def Tryz.pinned : Pinned := { name := "ytlgfmmccnilkmaagreatdoor", sum := "81c044aa15271536ebade2078aec08111e713a6b0cfc5b854a2ca87554f7757f", checked := Tryz.checked }
namespace Rows
def none {H : Type} : Left H := { results := [], args := [] }

/- WHAT THE LISTED PACKAGE-LEVEL VARIABLES READ AS WHEN THE CALL BEGINS. Each datum BY PROGRAM (the guide's laid-datum.mjs) off the statement by which the dump's own 'gosem.cut.vars' lays the variable. In a bare row this is a premise. The card (YtlgfmmccnilkmaaGreatDoorCards.lean) ties it to the program's text. -/
def laid_corral_api_ErrMany {H : Type} : DataW H := .iface "*errors.errorString" (.ptr (.agg [.lit (.string [116, 111, 111, 32, 109, 97, 110, 121])]))
def laid_corral_api_ErrRange {H : Type} : DataW H := .iface "*errors.errorString" (.ptr (.agg [.lit (.string [97, 32, 110, 117, 109, 98, 101, 114, 32, 111, 117, 116, 32, 111, 102, 32, 105, 116, 115, 32, 114, 97, 110, 103, 101])]))
def laid_corral_api_ErrTrace {H : Type} : DataW H := .iface "*errors.errorString" (.ptr (.agg [.lit (.string [110, 111, 32, 114, 117, 110, 32, 111, 102, 32, 116, 104, 101, 32, 105, 110, 115, 116, 114, 117, 99, 116, 105, 111, 110, 115])]))

/-- 'corrallaw11.SeqSums': WHATEVER THE INPUT: true; the input reads as it did. -/
def seqSumsSpec : ChangeSpec := { name := "seqSums", fn := fun _ => fun
  | [d1, d2] => { results := [.lit (.bool true)], args := [d1, d2] }
  | _ => none }
def seqSumsRow : OpenClaim := { program := "ytlgfmmccnilkmaagreatdoor", sum := "81c044aa15271536ebade2078aec08111e713a6b0cfc5b854a2ca87554f7757f", func := "corral/corrallaw11.SeqSums", spec := "seqSums", unfollowed := true, recurses := true, named := ["corral/api.ErrRange", "corral/api.ErrMany", "corral/api.ErrTrace"], apart := false, laid := [("corral/api.ErrMany", laid_corral_api_ErrMany), ("corral/api.ErrRange", laid_corral_api_ErrRange), ("corral/api.ErrTrace", laid_corral_api_ErrTrace)] }
def SeqSumsSaid : Prop := seqSumsRow.holds Tryz.pinned (OpenSpec.ofChange seqSumsSpec)

/-- ITS FALSE NEIGHBOUR: 'it returns false'. Refute it at one input. -/
def seqSumsWrong : ChangeSpec := { name := "seqSums", fn := fun _ => fun
  | [d1, d2] => { results := [.lit (.bool false)], args := [d1, d2] }
  | _ => none }
def SeqSumsWrongFalsely : Prop := seqSumsRow.holds Tryz.pinned (OpenSpec.ofChange seqSumsWrong)

/-- 'corrallaw11.SeqPages': WHATEVER THE INPUT: true; the input reads as it did. -/
def seqPagesSpec : ChangeSpec := { name := "seqPages", fn := fun _ => fun
  | [d1, d2, d3] => { results := [.lit (.bool true)], args := [d1, d2, d3] }
  | _ => none }
def seqPagesRow : OpenClaim := { program := "ytlgfmmccnilkmaagreatdoor", sum := "81c044aa15271536ebade2078aec08111e713a6b0cfc5b854a2ca87554f7757f", func := "corral/corrallaw11.SeqPages", spec := "seqPages", unfollowed := true, recurses := true, named := ["corral/api.ErrRange", "corral/api.ErrMany", "corral/api.ErrTrace"], apart := false, laid := [("corral/api.ErrMany", laid_corral_api_ErrMany), ("corral/api.ErrRange", laid_corral_api_ErrRange), ("corral/api.ErrTrace", laid_corral_api_ErrTrace)] }
def SeqPagesSaid : Prop := seqPagesRow.holds Tryz.pinned (OpenSpec.ofChange seqPagesSpec)

/-- ITS FALSE NEIGHBOUR: 'it returns false'. Refute it at one input. -/
def seqPagesWrong : ChangeSpec := { name := "seqPages", fn := fun _ => fun
  | [d1, d2, d3] => { results := [.lit (.bool false)], args := [d1, d2, d3] }
  | _ => none }
def SeqPagesWrongFalsely : Prop := seqPagesRow.holds Tryz.pinned (OpenSpec.ofChange seqPagesWrong)

/- THE SECOND FORM. 'bulk': how many values and letters a reading holds, each counted each time it is reached (what is shared counts as often as it is met; a slice's spare places count too). A statement '..UptoSaid' is the law's where the arguments, and the package variables that the reading takes, are together of bulk at most 1048576: NARROWER than '..Said'. Prove '..Said' where nothing that the law and all that it calls make is longer than what came in: it says more and counts as full. Else prove '..UptoSaid'. A law counts once. -/
mutual
def uptoBulk {H : Type} : DataW H → Nat
  | .lit (.string bytes) => bytes.length + 1
  | .lit _ => 1
  | .nil => 1
  | .ptr d => uptoBulk d + 1
  | .slice elems spare => uptoBulkAll elems + uptoBulkAll spare + 1
  | .agg parts => uptoBulkAll parts + 1
  | .iface _ d => uptoBulk d + 1
  | .map entries => uptoBulkEntries entries + 1
  | .held _ => 1
def uptoBulkAll {H : Type} : List (DataW H) → Nat
  | [] => 0
  | d :: r => uptoBulk d + uptoBulkAll r
def uptoBulkEntries {H : Type} : List (Lit × DataW H) → Nat
  | [] => 0
  | x :: r => uptoBulkEntry x + uptoBulkEntries r
def uptoBulkEntry {H : Type} : Lit × DataW H → Nat
  | (.string bytes, d) => bytes.length + uptoBulk d + 1
  | (_, d) => uptoBulk d + 1
 end
def uptoSmall : (H : Type) → List (DataW H) → Bool := fun _ ds => decide (uptoBulkAll ds ≤ 1048576)
def OpenSpec.upto (s : _root_.Go.ChangeSpec) : _root_.Go.OpenSpec := { _root_.Go.OpenSpec.ofChange s with cond := some uptoSmall }

/-- 'corrallaw11.SeqSums', WHERE WHAT IT READS IS OF BULK AT MOST 1048576: true; the input reads as it did. -/
def seqSumsUptoRow : OpenClaim := { program := "ytlgfmmccnilkmaagreatdoor", sum := "81c044aa15271536ebade2078aec08111e713a6b0cfc5b854a2ca87554f7757f", func := "corral/corrallaw11.SeqSums", spec := "seqSums", unfollowed := true, recurses := true, named := ["corral/api.ErrRange", "corral/api.ErrMany", "corral/api.ErrTrace"], apart := false, laid := [("corral/api.ErrMany", laid_corral_api_ErrMany), ("corral/api.ErrRange", laid_corral_api_ErrRange), ("corral/api.ErrTrace", laid_corral_api_ErrTrace)], narrowed := true }
def SeqSumsUptoSaid : Prop := seqSumsUptoRow.holds Tryz.pinned (OpenSpec.upto seqSumsSpec)

/-- 'corrallaw11.SeqPages', WHERE WHAT IT READS IS OF BULK AT MOST 1048576: true; the input reads as it did. -/
def seqPagesUptoRow : OpenClaim := { program := "ytlgfmmccnilkmaagreatdoor", sum := "81c044aa15271536ebade2078aec08111e713a6b0cfc5b854a2ca87554f7757f", func := "corral/corrallaw11.SeqPages", spec := "seqPages", unfollowed := true, recurses := true, named := ["corral/api.ErrRange", "corral/api.ErrMany", "corral/api.ErrTrace"], apart := false, laid := [("corral/api.ErrMany", laid_corral_api_ErrMany), ("corral/api.ErrRange", laid_corral_api_ErrRange), ("corral/api.ErrTrace", laid_corral_api_ErrTrace)], narrowed := true }
def SeqPagesUptoSaid : Prop := seqPagesUptoRow.holds Tryz.pinned (OpenSpec.upto seqPagesSpec)

end Rows
end Go.Proofs.YtlgfmmccnilkmaaGreatDoor
