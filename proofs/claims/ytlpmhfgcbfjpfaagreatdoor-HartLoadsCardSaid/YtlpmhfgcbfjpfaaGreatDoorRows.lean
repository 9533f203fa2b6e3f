/-
  NARROWER THAN 'FOR EVERY INPUT', by the rows' own cells (each row's printed sentence says how): HartZero: laid · HartReckons: laid · HartBranches: laid · HartLoads: laid · HartWrong: laid · HartReplays: laid.
  DERIVED. THE GIVEN ROWS OF THIS SEAT. 6 by the template 'for every input the law returns true; each argument reads behind the call as it read before'; 0 by the template 'total and deterministic' (their statements: YtlpmhfgcbfjpfaaGreatDoorTotals.lean).
  GIVEN WITH THE SEED: the statements are not yours to turn. If you find one false, say at which input.
  Laid BY PROGRAM, IN A SANDBOX (cutbox-rows.mjs): the forced cells as the released guide's own fill.sh prints them over the translation f228c312d219dacf… (all of the seat's roots in one cut). By AI agents, Wed Nov 11 2026. No macro, syntax, notation, axiom, sorry.
-/
import Derived.Test.YtlpmhfgcbfjpfaaGreatDoorChecked
import GoSem.Claim
import GoSem.ClaimJoined
import GoSem.ClaimMapViews
import Derived.JoinedTies
import Derived.KernelRfl
namespace Go.Proofs.YtlpmhfgcbfjpfaaGreatDoor
/- THE CELL 'sum', in the pinned program and in every row, IS THE sha256 OF THE DUMP (.gsa) THAT YtlpmhfgcbfjpfaaGreatDoorProg.lean LOADS. Nothing in Lean hashes anything: it is a label: what it is worth is what the hold of that sum in a sandbox is worth. -/
noncomputable def Tryz.pinned : Pinned := { name := "ytlpmhfgcbfjpfaagreatdoor", sum := "f228c312d219dacf15d5f235524532addb9266ca4c8d3db892091801f18e9794", checked := Tryz.checked }
namespace Rows
def none {H : Type} : Left H := { results := [], args := [] }

/- WHAT THE LISTED PACKAGE-LEVEL VARIABLES READ AS WHEN THE CALL BEGINS. Each datum BY PROGRAM (the guide's laid-datum.mjs) off the statement by which the dump's own 'gosem.cut.vars' lays the variable. In a bare row this is a premise. The card (YtlpmhfgcbfjpfaaGreatDoorCards.lean) ties it to the program's text. -/
def laid_corral_api_ErrTrace {H : Type} : DataW H := .iface "*errors.errorString" (.ptr (.agg [.lit (.string [110, 111, 32, 114, 117, 110, 32, 111, 102, 32, 116, 104, 101, 32, 105, 110, 115, 116, 114, 117, 99, 116, 105, 111, 110, 115])]))
def laid_corral_api_ErrMany {H : Type} : DataW H := .iface "*errors.errorString" (.ptr (.agg [.lit (.string [116, 111, 111, 32, 109, 97, 110, 121])]))
def laid_corral_api_ErrKind {H : Type} : DataW H := .iface "*errors.errorString" (.ptr (.agg [.lit (.string [110, 111, 32, 115, 117, 99, 104, 32, 107, 105, 110, 100])]))
def laid_corral_api_ErrPlace {H : Type} : DataW H := .iface "*errors.errorString" (.ptr (.agg [.lit (.string [110, 111, 32, 115, 117, 99, 104, 32, 112, 108, 97, 99, 101])]))
def laid_corral_api_ErrShape {H : Type} : DataW H := .iface "*errors.errorString" (.ptr (.agg [.lit (.string [110, 111, 116, 32, 116, 104, 101, 32, 115, 104, 97, 112, 101, 32, 116, 104, 97, 116, 32, 105, 116, 32, 104, 97, 115, 32, 116, 111, 32, 104, 97, 118, 101])]))
def laid_corral_api_ErrWord {H : Type} : DataW H := .iface "*errors.errorString" (.ptr (.agg [.lit (.string [110, 111, 32, 115, 117, 99, 104, 32, 119, 111, 114, 100])]))
def laid_corral_api_ErrRange {H : Type} : DataW H := .iface "*errors.errorString" (.ptr (.agg [.lit (.string [97, 32, 110, 117, 109, 98, 101, 114, 32, 111, 117, 116, 32, 111, 102, 32, 105, 116, 115, 32, 114, 97, 110, 103, 101])]))
def laid_corral_api_ErrFull {H : Type} : DataW H := .iface "*errors.errorString" (.ptr (.agg [.lit (.string [110, 111, 32, 114, 111, 111, 109])]))
def laid_corral_api_ErrNone {H : Type} : DataW H := .iface "*errors.errorString" (.ptr (.agg [.lit (.string [116, 104, 101, 114, 101, 32, 105, 115, 32, 110, 111, 110, 101])]))
def laid_corral_api_ErrOrder {H : Type} : DataW H := .iface "*errors.errorString" (.ptr (.agg [.lit (.string [97, 110, 32, 111, 114, 100, 101, 114, 32, 116, 104, 97, 116, 32, 109, 97, 121, 32, 110, 111, 116, 32, 98, 101])]))
def laid_corral_api_ErrValue {H : Type} : DataW H := .iface "*errors.errorString" (.ptr (.agg [.lit (.string [97, 32, 118, 97, 108, 117, 101, 32, 116, 104, 97, 116, 32, 119, 97, 115, 32, 110, 111, 116, 32, 116, 104, 101, 114, 101])]))

/-- 'corrallaw10.HartZero': WHATEVER THE INPUT: true; the input reads as it did. -/
def hartZeroSpec : ChangeSpec := { name := "hartZero", fn := fun _ => fun
  | [d1, d2] => { results := [.lit (.bool true)], args := [d1, d2] }
  | _ => none }
def hartZeroRow : OpenClaim := { program := "ytlpmhfgcbfjpfaagreatdoor", sum := "f228c312d219dacf15d5f235524532addb9266ca4c8d3db892091801f18e9794", func := "corral/corrallaw10.HartZero", spec := "hartZero", unfollowed := true, recurses := true, named := ["corral/api.ErrTrace"], apart := false, laid := [("corral/api.ErrTrace", laid_corral_api_ErrTrace)] }
def HartZeroSaid : Prop := hartZeroRow.holds Tryz.pinned (OpenSpec.ofChange hartZeroSpec)

/-- ITS FALSE NEIGHBOUR: 'it returns false'. Refute it at one input. -/
def hartZeroWrong : ChangeSpec := { name := "hartZero", fn := fun _ => fun
  | [d1, d2] => { results := [.lit (.bool false)], args := [d1, d2] }
  | _ => none }
def HartZeroWrongFalsely : Prop := hartZeroRow.holds Tryz.pinned (OpenSpec.ofChange hartZeroWrong)

/-- 'corrallaw10.HartReckons': WHATEVER THE INPUT: true; the input reads as it did. -/
def hartReckonsSpec : ChangeSpec := { name := "hartReckons", fn := fun _ => fun
  | [d1, d2, d3] => { results := [.lit (.bool true)], args := [d1, d2, d3] }
  | _ => none }
def hartReckonsRow : OpenClaim := { program := "ytlpmhfgcbfjpfaagreatdoor", sum := "f228c312d219dacf15d5f235524532addb9266ca4c8d3db892091801f18e9794", func := "corral/corrallaw10.HartReckons", spec := "hartReckons", unfollowed := true, recurses := true, named := ["corral/api.ErrTrace"], apart := false, laid := [("corral/api.ErrTrace", laid_corral_api_ErrTrace)] }
def HartReckonsSaid : Prop := hartReckonsRow.holds Tryz.pinned (OpenSpec.ofChange hartReckonsSpec)

/-- ITS FALSE NEIGHBOUR: 'it returns false'. Refute it at one input. -/
def hartReckonsWrong : ChangeSpec := { name := "hartReckons", fn := fun _ => fun
  | [d1, d2, d3] => { results := [.lit (.bool false)], args := [d1, d2, d3] }
  | _ => none }
def HartReckonsWrongFalsely : Prop := hartReckonsRow.holds Tryz.pinned (OpenSpec.ofChange hartReckonsWrong)

/-- 'corrallaw10.HartBranches': WHATEVER THE INPUT: true; the input reads as it did. -/
def hartBranchesSpec : ChangeSpec := { name := "hartBranches", fn := fun _ => fun
  | [d1, d2, d3, d4] => { results := [.lit (.bool true)], args := [d1, d2, d3, d4] }
  | _ => none }
def hartBranchesRow : OpenClaim := { program := "ytlpmhfgcbfjpfaagreatdoor", sum := "f228c312d219dacf15d5f235524532addb9266ca4c8d3db892091801f18e9794", func := "corral/corrallaw10.HartBranches", spec := "hartBranches", unfollowed := true, recurses := true, named := ["corral/api.ErrTrace"], apart := false, laid := [("corral/api.ErrTrace", laid_corral_api_ErrTrace)] }
def HartBranchesSaid : Prop := hartBranchesRow.holds Tryz.pinned (OpenSpec.ofChange hartBranchesSpec)

/-- ITS FALSE NEIGHBOUR: 'it returns false'. Refute it at one input. -/
def hartBranchesWrong : ChangeSpec := { name := "hartBranches", fn := fun _ => fun
  | [d1, d2, d3, d4] => { results := [.lit (.bool false)], args := [d1, d2, d3, d4] }
  | _ => none }
def HartBranchesWrongFalsely : Prop := hartBranchesRow.holds Tryz.pinned (OpenSpec.ofChange hartBranchesWrong)

/-- 'corrallaw10.HartLoads': WHATEVER THE INPUT: true; the input reads as it did. -/
def hartLoadsSpec : ChangeSpec := { name := "hartLoads", fn := fun _ => fun
  | [d1, d2, d3, d4] => { results := [.lit (.bool true)], args := [d1, d2, d3, d4] }
  | _ => none }
def hartLoadsRow : OpenClaim := { program := "ytlpmhfgcbfjpfaagreatdoor", sum := "f228c312d219dacf15d5f235524532addb9266ca4c8d3db892091801f18e9794", func := "corral/corrallaw10.HartLoads", spec := "hartLoads", unfollowed := true, recurses := true, named := ["corral/api.ErrTrace"], apart := false, laid := [("corral/api.ErrTrace", laid_corral_api_ErrTrace)] }
def HartLoadsSaid : Prop := hartLoadsRow.holds Tryz.pinned (OpenSpec.ofChange hartLoadsSpec)

/-- ITS FALSE NEIGHBOUR: 'it returns false'. Refute it at one input. -/
def hartLoadsWrong : ChangeSpec := { name := "hartLoads", fn := fun _ => fun
  | [d1, d2, d3, d4] => { results := [.lit (.bool false)], args := [d1, d2, d3, d4] }
  | _ => none }
def HartLoadsWrongFalsely : Prop := hartLoadsRow.holds Tryz.pinned (OpenSpec.ofChange hartLoadsWrong)

/-- 'corrallaw10.HartWrong': WHATEVER THE INPUT: true; the input reads as it did. -/
def hartWrongSpec : ChangeSpec := { name := "hartWrong", fn := fun _ => fun
  | [d1, d2] => { results := [.lit (.bool true)], args := [d1, d2] }
  | _ => none }
def hartWrongRow : OpenClaim := { program := "ytlpmhfgcbfjpfaagreatdoor", sum := "f228c312d219dacf15d5f235524532addb9266ca4c8d3db892091801f18e9794", func := "corral/corrallaw10.HartWrong", spec := "hartWrong", unfollowed := true, recurses := true, named := ["corral/api.ErrTrace", "corral/api.ErrMany", "corral/api.ErrKind", "corral/api.ErrPlace", "corral/api.ErrShape", "corral/api.ErrWord", "corral/api.ErrRange", "corral/api.ErrFull", "corral/api.ErrNone", "corral/api.ErrOrder", "corral/api.ErrValue"], apart := false, laid := [("corral/api.ErrMany", laid_corral_api_ErrMany), ("corral/api.ErrKind", laid_corral_api_ErrKind), ("corral/api.ErrPlace", laid_corral_api_ErrPlace), ("corral/api.ErrShape", laid_corral_api_ErrShape), ("corral/api.ErrWord", laid_corral_api_ErrWord), ("corral/api.ErrRange", laid_corral_api_ErrRange), ("corral/api.ErrFull", laid_corral_api_ErrFull), ("corral/api.ErrNone", laid_corral_api_ErrNone), ("corral/api.ErrTrace", laid_corral_api_ErrTrace), ("corral/api.ErrOrder", laid_corral_api_ErrOrder), ("corral/api.ErrValue", laid_corral_api_ErrValue)] }
def HartWrongSaid : Prop := hartWrongRow.holds Tryz.pinned (OpenSpec.ofChange hartWrongSpec)

/-- ITS FALSE NEIGHBOUR: 'it returns false'. Refute it at one input. -/
def hartWrongWrong : ChangeSpec := { name := "hartWrong", fn := fun _ => fun
  | [d1, d2] => { results := [.lit (.bool false)], args := [d1, d2] }
  | _ => none }
def HartWrongWrongFalsely : Prop := hartWrongRow.holds Tryz.pinned (OpenSpec.ofChange hartWrongWrong)

/-- 'corrallaw10.HartReplays': WHATEVER THE INPUT: true; the input reads as it did. -/
def hartReplaysSpec : ChangeSpec := { name := "hartReplays", fn := fun _ => fun
  | [d1, d2, d3, d4] => { results := [.lit (.bool true)], args := [d1, d2, d3, d4] }
  | _ => none }
def hartReplaysRow : OpenClaim := { program := "ytlpmhfgcbfjpfaagreatdoor", sum := "f228c312d219dacf15d5f235524532addb9266ca4c8d3db892091801f18e9794", func := "corral/corrallaw10.HartReplays", spec := "hartReplays", unfollowed := true, recurses := true, named := ["corral/api.ErrTrace", "corral/api.ErrMany", "corral/api.ErrKind", "corral/api.ErrPlace", "corral/api.ErrShape", "corral/api.ErrWord", "corral/api.ErrRange", "corral/api.ErrFull", "corral/api.ErrNone", "corral/api.ErrOrder", "corral/api.ErrValue"], apart := false, laid := [("corral/api.ErrMany", laid_corral_api_ErrMany), ("corral/api.ErrKind", laid_corral_api_ErrKind), ("corral/api.ErrPlace", laid_corral_api_ErrPlace), ("corral/api.ErrShape", laid_corral_api_ErrShape), ("corral/api.ErrWord", laid_corral_api_ErrWord), ("corral/api.ErrRange", laid_corral_api_ErrRange), ("corral/api.ErrFull", laid_corral_api_ErrFull), ("corral/api.ErrNone", laid_corral_api_ErrNone), ("corral/api.ErrTrace", laid_corral_api_ErrTrace), ("corral/api.ErrOrder", laid_corral_api_ErrOrder), ("corral/api.ErrValue", laid_corral_api_ErrValue)] }
def HartReplaysSaid : Prop := hartReplaysRow.holds Tryz.pinned (OpenSpec.ofChange hartReplaysSpec)

/-- ITS FALSE NEIGHBOUR: 'it returns false'. Refute it at one input. -/
def hartReplaysWrong : ChangeSpec := { name := "hartReplays", fn := fun _ => fun
  | [d1, d2, d3, d4] => { results := [.lit (.bool false)], args := [d1, d2, d3, d4] }
  | _ => none }
def HartReplaysWrongFalsely : Prop := hartReplaysRow.holds Tryz.pinned (OpenSpec.ofChange hartReplaysWrong)

/- THE SECOND FORM. 'bulk': how many values and letters a reading holds, each counted each time it is reached (what is shared counts as often as it is met; a slice's spare places count too). A statement '..UptoSaid' is the law's where the arguments, and the package variables that the reading takes, are together of bulk at most 1048576: NARROWER than '..Said'. Prove '..Said' where nothing that the law and all that it calls make is longer than what came in: it says more and counts as full. Else prove '..UptoSaid'. A law counts once. -/
mutual
def uptoBulk {H : Type} : DataW H → Nat
  | .lit (.string bytes) => bytes.length + 1
  | .lit _ => 1
  | .nil => 1
  | .ptr d => uptoBulk d + 1
  | .slice elems spare => uptoBulkAll elems + uptoBulkAll spare + 1
  | .agg parts => uptoBulkAll parts + 1
  | .iface _ d => uptoBulk d + 1
  | .map entries => uptoBulkEntries entries + 1
  | .held _ => 1
def uptoBulkAll {H : Type} : List (DataW H) → Nat
  | [] => 0
  | d :: r => uptoBulk d + uptoBulkAll r
def uptoBulkEntries {H : Type} : List (Lit × DataW H) → Nat
  | [] => 0
  | x :: r => uptoBulkEntry x + uptoBulkEntries r
def uptoBulkEntry {H : Type} : Lit × DataW H → Nat
  | (.string bytes, d) => bytes.length + uptoBulk d + 1
  | (_, d) => uptoBulk d + 1
 end
def uptoSmall : (H : Type) → List (DataW H) → Bool := fun _ ds => decide (uptoBulkAll ds ≤ 1048576)
def OpenSpec.upto (s : _root_.Go.ChangeSpec) : _root_.Go.OpenSpec := { _root_.Go.OpenSpec.ofChange s with cond := some uptoSmall }

/-- 'corrallaw10.HartZero', WHERE WHAT IT READS IS OF BULK AT MOST 1048576: true; the input reads as it did. -/
def hartZeroUptoRow : OpenClaim := { program := "ytlpmhfgcbfjpfaagreatdoor", sum := "f228c312d219dacf15d5f235524532addb9266ca4c8d3db892091801f18e9794", func := "corral/corrallaw10.HartZero", spec := "hartZero", unfollowed := true, recurses := true, named := ["corral/api.ErrTrace"], apart := false, laid := [("corral/api.ErrTrace", laid_corral_api_ErrTrace)], narrowed := true }
def HartZeroUptoSaid : Prop := hartZeroUptoRow.holds Tryz.pinned (OpenSpec.upto hartZeroSpec)

/-- 'corrallaw10.HartReckons', WHERE WHAT IT READS IS OF BULK AT MOST 1048576: true; the input reads as it did. -/
def hartReckonsUptoRow : OpenClaim := { program := "ytlpmhfgcbfjpfaagreatdoor", sum := "f228c312d219dacf15d5f235524532addb9266ca4c8d3db892091801f18e9794", func := "corral/corrallaw10.HartReckons", spec := "hartReckons", unfollowed := true, recurses := true, named := ["corral/api.ErrTrace"], apart := false, laid := [("corral/api.ErrTrace", laid_corral_api_ErrTrace)], narrowed := true }
def HartReckonsUptoSaid : Prop := hartReckonsUptoRow.holds Tryz.pinned (OpenSpec.upto hartReckonsSpec)

/-- 'corrallaw10.HartBranches', WHERE WHAT IT READS IS OF BULK AT MOST 1048576: true; the input reads as it did. -/
def hartBranchesUptoRow : OpenClaim := { program := "ytlpmhfgcbfjpfaagreatdoor", sum := "f228c312d219dacf15d5f235524532addb9266ca4c8d3db892091801f18e9794", func := "corral/corrallaw10.HartBranches", spec := "hartBranches", unfollowed := true, recurses := true, named := ["corral/api.ErrTrace"], apart := false, laid := [("corral/api.ErrTrace", laid_corral_api_ErrTrace)], narrowed := true }
def HartBranchesUptoSaid : Prop := hartBranchesUptoRow.holds Tryz.pinned (OpenSpec.upto hartBranchesSpec)

/-- 'corrallaw10.HartLoads', WHERE WHAT IT READS IS OF BULK AT MOST 1048576: true; the input reads as it did. -/
def hartLoadsUptoRow : OpenClaim := { program := "ytlpmhfgcbfjpfaagreatdoor", sum := "f228c312d219dacf15d5f235524532addb9266ca4c8d3db892091801f18e9794", func := "corral/corrallaw10.HartLoads", spec := "hartLoads", unfollowed := true, recurses := true, named := ["corral/api.ErrTrace"], apart := false, laid := [("corral/api.ErrTrace", laid_corral_api_ErrTrace)], narrowed := true }
def HartLoadsUptoSaid : Prop := hartLoadsUptoRow.holds Tryz.pinned (OpenSpec.upto hartLoadsSpec)

/-- 'corrallaw10.HartWrong', WHERE WHAT IT READS IS OF BULK AT MOST 1048576: true; the input reads as it did. -/
def hartWrongUptoRow : OpenClaim := { program := "ytlpmhfgcbfjpfaagreatdoor", sum := "f228c312d219dacf15d5f235524532addb9266ca4c8d3db892091801f18e9794", func := "corral/corrallaw10.HartWrong", spec := "hartWrong", unfollowed := true, recurses := true, named := ["corral/api.ErrTrace", "corral/api.ErrMany", "corral/api.ErrKind", "corral/api.ErrPlace", "corral/api.ErrShape", "corral/api.ErrWord", "corral/api.ErrRange", "corral/api.ErrFull", "corral/api.ErrNone", "corral/api.ErrOrder", "corral/api.ErrValue"], apart := false, laid := [("corral/api.ErrMany", laid_corral_api_ErrMany), ("corral/api.ErrKind", laid_corral_api_ErrKind), ("corral/api.ErrPlace", laid_corral_api_ErrPlace), ("corral/api.ErrShape", laid_corral_api_ErrShape), ("corral/api.ErrWord", laid_corral_api_ErrWord), ("corral/api.ErrRange", laid_corral_api_ErrRange), ("corral/api.ErrFull", laid_corral_api_ErrFull), ("corral/api.ErrNone", laid_corral_api_ErrNone), ("corral/api.ErrTrace", laid_corral_api_ErrTrace), ("corral/api.ErrOrder", laid_corral_api_ErrOrder), ("corral/api.ErrValue", laid_corral_api_ErrValue)], narrowed := true }
def HartWrongUptoSaid : Prop := hartWrongUptoRow.holds Tryz.pinned (OpenSpec.upto hartWrongSpec)

/-- 'corrallaw10.HartReplays', WHERE WHAT IT READS IS OF BULK AT MOST 1048576: true; the input reads as it did. -/
def hartReplaysUptoRow : OpenClaim := { program := "ytlpmhfgcbfjpfaagreatdoor", sum := "f228c312d219dacf15d5f235524532addb9266ca4c8d3db892091801f18e9794", func := "corral/corrallaw10.HartReplays", spec := "hartReplays", unfollowed := true, recurses := true, named := ["corral/api.ErrTrace", "corral/api.ErrMany", "corral/api.ErrKind", "corral/api.ErrPlace", "corral/api.ErrShape", "corral/api.ErrWord", "corral/api.ErrRange", "corral/api.ErrFull", "corral/api.ErrNone", "corral/api.ErrOrder", "corral/api.ErrValue"], apart := false, laid := [("corral/api.ErrMany", laid_corral_api_ErrMany), ("corral/api.ErrKind", laid_corral_api_ErrKind), ("corral/api.ErrPlace", laid_corral_api_ErrPlace), ("corral/api.ErrShape", laid_corral_api_ErrShape), ("corral/api.ErrWord", laid_corral_api_ErrWord), ("corral/api.ErrRange", laid_corral_api_ErrRange), ("corral/api.ErrFull", laid_corral_api_ErrFull), ("corral/api.ErrNone", laid_corral_api_ErrNone), ("corral/api.ErrTrace", laid_corral_api_ErrTrace), ("corral/api.ErrOrder", laid_corral_api_ErrOrder), ("corral/api.ErrValue", laid_corral_api_ErrValue)], narrowed := true }
def HartReplaysUptoSaid : Prop := hartReplaysUptoRow.holds Tryz.pinned (OpenSpec.upto hartReplaysSpec)

end Rows
end Go.Proofs.YtlpmhfgcbfjpfaaGreatDoor
