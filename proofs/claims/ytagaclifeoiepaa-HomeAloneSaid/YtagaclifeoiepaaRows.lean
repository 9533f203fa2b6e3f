/-
  No cell of these rows narrows 'for every input' (looked for: loops, veiled, ifaces, maps, wideKeys, modest, calm, conditions, laid).
  DERIVED. THE GIVEN ROWS OF THIS SEAT. 10 by the template 'for every input the law returns true; each argument reads behind the call as it read before'; 0 by the template 'total and deterministic' (their statements: YtagaclifeoiepaaTotals.lean).
  GIVEN WITH THE SEED: the statements are not yours to turn. If you find one false, say at which input.
  Laid BY PROGRAM, IN A SANDBOX (cutbox-rows.mjs): the forced cells as the released guide's own fill.sh prints them over the translation 0f75b46777e7bb12… (all of the seat's roots in one cut). By AI agents, Wed Nov 11 2026. No macro, syntax, notation, axiom, sorry.
-/
import Derived.Test.YtagaclifeoiepaaChecked
import GoSem.Claim
import GoSem.ClaimJoined
import GoSem.ClaimMapViews
import Derived.JoinedTies
import Derived.KernelRfl
namespace Go.Proofs.Ytagaclifeoiepaa
/- THE CELL 'sum', in the pinned program and in every row, IS THE sha256 OF THE DUMP (.gsa) THAT YtagaclifeoiepaaProg.lean LOADS. Nothing in Lean hashes anything: it is a label: what it is worth is what the hold of that sum in a sandbox is worth. -/
noncomputable def Try.pinned : Pinned := { name := "ytagaclifeoiepaa", sum := "0f75b46777e7bb12fbf187468d49448169dec6b6910725c6a49207873de62e79", checked := Try.checked }
namespace Rows
def none {H : Type} : Left H := { results := [], args := [] }

/-- 'corrallaw18.HomeAlone': WHATEVER THE INPUT: true; the input reads as it did. -/
def homeAloneSpec : ChangeSpec := { name := "homeAlone", fn := fun _ => fun
  | [d1, d2] => { results := [.lit (.bool true)], args := [d1, d2] }
  | _ => none }
def homeAloneRow : OpenClaim := { program := "ytagaclifeoiepaa", sum := "0f75b46777e7bb12fbf187468d49448169dec6b6910725c6a49207873de62e79", func := "corral/corrallaw18.HomeAlone", spec := "homeAlone", apart := false }
def HomeAloneSaid : Prop := homeAloneRow.holds Try.pinned (OpenSpec.ofChange homeAloneSpec)

/-- ITS FALSE NEIGHBOUR: 'it returns false'. Refute it at one input. -/
def homeAloneWrong : ChangeSpec := { name := "homeAlone", fn := fun _ => fun
  | [d1, d2] => { results := [.lit (.bool false)], args := [d1, d2] }
  | _ => none }
def HomeAloneWrongFalsely : Prop := homeAloneRow.holds Try.pinned (OpenSpec.ofChange homeAloneWrong)

/-- 'corrallaw18.HomePuts': WHATEVER THE INPUT: true; the input reads as it did. -/
def homePutsSpec : ChangeSpec := { name := "homePuts", fn := fun _ => fun
  | [d1, d2, d3, d4] => { results := [.lit (.bool true)], args := [d1, d2, d3, d4] }
  | _ => none }
def homePutsRow : OpenClaim := { program := "ytagaclifeoiepaa", sum := "0f75b46777e7bb12fbf187468d49448169dec6b6910725c6a49207873de62e79", func := "corral/corrallaw18.HomePuts", spec := "homePuts", apart := false }
def HomePutsSaid : Prop := homePutsRow.holds Try.pinned (OpenSpec.ofChange homePutsSpec)

/-- ITS FALSE NEIGHBOUR: 'it returns false'. Refute it at one input. -/
def homePutsWrong : ChangeSpec := { name := "homePuts", fn := fun _ => fun
  | [d1, d2, d3, d4] => { results := [.lit (.bool false)], args := [d1, d2, d3, d4] }
  | _ => none }
def HomePutsWrongFalsely : Prop := homePutsRow.holds Try.pinned (OpenSpec.ofChange homePutsWrong)

/-- 'corrallaw18.HomeShares': WHATEVER THE INPUT: true; the input reads as it did. -/
def homeSharesSpec : ChangeSpec := { name := "homeShares", fn := fun _ => fun
  | [d1, d2, d3] => { results := [.lit (.bool true)], args := [d1, d2, d3] }
  | _ => none }
def homeSharesRow : OpenClaim := { program := "ytagaclifeoiepaa", sum := "0f75b46777e7bb12fbf187468d49448169dec6b6910725c6a49207873de62e79", func := "corral/corrallaw18.HomeShares", spec := "homeShares", apart := false }
def HomeSharesSaid : Prop := homeSharesRow.holds Try.pinned (OpenSpec.ofChange homeSharesSpec)

/-- ITS FALSE NEIGHBOUR: 'it returns false'. Refute it at one input. -/
def homeSharesWrong : ChangeSpec := { name := "homeShares", fn := fun _ => fun
  | [d1, d2, d3] => { results := [.lit (.bool false)], args := [d1, d2, d3] }
  | _ => none }
def HomeSharesWrongFalsely : Prop := homeSharesRow.holds Try.pinned (OpenSpec.ofChange homeSharesWrong)

/-- 'corrallaw18.HomePlays': WHATEVER THE INPUT: true; the input reads as it did. -/
def homePlaysSpec : ChangeSpec := { name := "homePlays", fn := fun _ => fun
  | [d1, d2, d3, d4] => { results := [.lit (.bool true)], args := [d1, d2, d3, d4] }
  | _ => none }
def homePlaysRow : OpenClaim := { program := "ytagaclifeoiepaa", sum := "0f75b46777e7bb12fbf187468d49448169dec6b6910725c6a49207873de62e79", func := "corral/corrallaw18.HomePlays", spec := "homePlays", apart := false }
def HomePlaysSaid : Prop := homePlaysRow.holds Try.pinned (OpenSpec.ofChange homePlaysSpec)

/-- ITS FALSE NEIGHBOUR: 'it returns false'. Refute it at one input. -/
def homePlaysWrong : ChangeSpec := { name := "homePlays", fn := fun _ => fun
  | [d1, d2, d3, d4] => { results := [.lit (.bool false)], args := [d1, d2, d3, d4] }
  | _ => none }
def HomePlaysWrongFalsely : Prop := homePlaysRow.holds Try.pinned (OpenSpec.ofChange homePlaysWrong)

/-- 'corrallaw4.AluMuls': WHATEVER THE INPUT: true; the input reads as it did. -/
def aluMulsSpec : ChangeSpec := { name := "aluMuls", fn := fun _ => fun
  | [d1, d2] => { results := [.lit (.bool true)], args := [d1, d2] }
  | _ => none }
def aluMulsRow : OpenClaim := { program := "ytagaclifeoiepaa", sum := "0f75b46777e7bb12fbf187468d49448169dec6b6910725c6a49207873de62e79", func := "corral/corrallaw4.AluMuls", spec := "aluMuls", unfollowed := true, recurses := true, apart := false }
def AluMulsSaid : Prop := aluMulsRow.holds Try.pinned (OpenSpec.ofChange aluMulsSpec)

/-- ITS FALSE NEIGHBOUR: 'it returns false'. Refute it at one input. -/
def aluMulsWrong : ChangeSpec := { name := "aluMuls", fn := fun _ => fun
  | [d1, d2] => { results := [.lit (.bool false)], args := [d1, d2] }
  | _ => none }
def AluMulsWrongFalsely : Prop := aluMulsRow.holds Try.pinned (OpenSpec.ofChange aluMulsWrong)

/-- 'corrallaw4.AluBitwise': WHATEVER THE INPUT: true; the input reads as it did. -/
def aluBitwiseSpec : ChangeSpec := { name := "aluBitwise", fn := fun _ => fun
  | [d1, d2] => { results := [.lit (.bool true)], args := [d1, d2] }
  | _ => none }
def aluBitwiseRow : OpenClaim := { program := "ytagaclifeoiepaa", sum := "0f75b46777e7bb12fbf187468d49448169dec6b6910725c6a49207873de62e79", func := "corral/corrallaw4.AluBitwise", spec := "aluBitwise", unfollowed := true, recurses := true, apart := false }
def AluBitwiseSaid : Prop := aluBitwiseRow.holds Try.pinned (OpenSpec.ofChange aluBitwiseSpec)

/-- ITS FALSE NEIGHBOUR: 'it returns false'. Refute it at one input. -/
def aluBitwiseWrong : ChangeSpec := { name := "aluBitwise", fn := fun _ => fun
  | [d1, d2] => { results := [.lit (.bool false)], args := [d1, d2] }
  | _ => none }
def AluBitwiseWrongFalsely : Prop := aluBitwiseRow.holds Try.pinned (OpenSpec.ofChange aluBitwiseWrong)

/-- 'corrallaw4.AluParts': WHATEVER THE INPUT: true; the input reads as it did. -/
def aluPartsSpec : ChangeSpec := { name := "aluParts", fn := fun _ => fun
  | [d] => { results := [.lit (.bool true)], args := [d] }
  | _ => none }
def aluPartsRow : OpenClaim := { program := "ytagaclifeoiepaa", sum := "0f75b46777e7bb12fbf187468d49448169dec6b6910725c6a49207873de62e79", func := "corral/corrallaw4.AluParts", spec := "aluParts", unfollowed := true, recurses := true, apart := false }
def AluPartsSaid : Prop := aluPartsRow.holds Try.pinned (OpenSpec.ofChange aluPartsSpec)

/-- ITS FALSE NEIGHBOUR: 'it returns false'. Refute it at one input. -/
def aluPartsWrong : ChangeSpec := { name := "aluParts", fn := fun _ => fun
  | [d] => { results := [.lit (.bool false)], args := [d] }
  | _ => none }
def AluPartsWrongFalsely : Prop := aluPartsRow.holds Try.pinned (OpenSpec.ofChange aluPartsWrong)

/-- 'corrallaw4.AluPairs': WHATEVER THE INPUT: true; the input reads as it did. -/
def aluPairsSpec : ChangeSpec := { name := "aluPairs", fn := fun _ => fun
  | [d1, d2] => { results := [.lit (.bool true)], args := [d1, d2] }
  | _ => none }
def aluPairsRow : OpenClaim := { program := "ytagaclifeoiepaa", sum := "0f75b46777e7bb12fbf187468d49448169dec6b6910725c6a49207873de62e79", func := "corral/corrallaw4.AluPairs", spec := "aluPairs", unfollowed := true, recurses := true, apart := false }
def AluPairsSaid : Prop := aluPairsRow.holds Try.pinned (OpenSpec.ofChange aluPairsSpec)

/-- ITS FALSE NEIGHBOUR: 'it returns false'. Refute it at one input. -/
def aluPairsWrong : ChangeSpec := { name := "aluPairs", fn := fun _ => fun
  | [d1, d2] => { results := [.lit (.bool false)], args := [d1, d2] }
  | _ => none }
def AluPairsWrongFalsely : Prop := aluPairsRow.holds Try.pinned (OpenSpec.ofChange aluPairsWrong)

/-- 'corrallaw4.AluLess': WHATEVER THE INPUT: true; the input reads as it did. -/
def aluLessSpec : ChangeSpec := { name := "aluLess", fn := fun _ => fun
  | [d1, d2] => { results := [.lit (.bool true)], args := [d1, d2] }
  | _ => none }
def aluLessRow : OpenClaim := { program := "ytagaclifeoiepaa", sum := "0f75b46777e7bb12fbf187468d49448169dec6b6910725c6a49207873de62e79", func := "corral/corrallaw4.AluLess", spec := "aluLess", unfollowed := true, recurses := true, apart := false }
def AluLessSaid : Prop := aluLessRow.holds Try.pinned (OpenSpec.ofChange aluLessSpec)

/-- ITS FALSE NEIGHBOUR: 'it returns false'. Refute it at one input. -/
def aluLessWrong : ChangeSpec := { name := "aluLess", fn := fun _ => fun
  | [d1, d2] => { results := [.lit (.bool false)], args := [d1, d2] }
  | _ => none }
def AluLessWrongFalsely : Prop := aluLessRow.holds Try.pinned (OpenSpec.ofChange aluLessWrong)

/-- 'corrallaw4.AluSays': WHATEVER THE INPUT: true; the input reads as it did. -/
def aluSaysSpec : ChangeSpec := { name := "aluSays", fn := fun _ => fun
  | [d1, d2, d3] => { results := [.lit (.bool true)], args := [d1, d2, d3] }
  | _ => none }
def aluSaysRow : OpenClaim := { program := "ytagaclifeoiepaa", sum := "0f75b46777e7bb12fbf187468d49448169dec6b6910725c6a49207873de62e79", func := "corral/corrallaw4.AluSays", spec := "aluSays", unfollowed := true, recurses := true, apart := false }
def AluSaysSaid : Prop := aluSaysRow.holds Try.pinned (OpenSpec.ofChange aluSaysSpec)

/-- ITS FALSE NEIGHBOUR: 'it returns false'. Refute it at one input. -/
def aluSaysWrong : ChangeSpec := { name := "aluSays", fn := fun _ => fun
  | [d1, d2, d3] => { results := [.lit (.bool false)], args := [d1, d2, d3] }
  | _ => none }
def AluSaysWrongFalsely : Prop := aluSaysRow.holds Try.pinned (OpenSpec.ofChange aluSaysWrong)

/- THE SECOND FORM. 'bulk': how many values and letters a reading holds, each counted each time it is reached (what is shared counts as often as it is met; a slice's spare places count too). A statement '..UptoSaid' is the law's where the arguments, and the package variables that the reading takes, are together of bulk at most 1048576: NARROWER than '..Said'. Prove '..Said' where nothing that the law and all that it calls make is longer than what came in: it says more and counts as full. Else prove '..UptoSaid'. A law counts once. -/
mutual
def uptoBulk {H : Type} : DataW H → Nat
  | .lit (.string bytes) => bytes.length + 1
  | .lit _ => 1
  | .nil => 1
  | .ptr d => uptoBulk d + 1
  | .slice elems spare => uptoBulkAll elems + uptoBulkAll spare + 1
  | .agg parts => uptoBulkAll parts + 1
  | .iface _ d => uptoBulk d + 1
  | .map entries => uptoBulkEntries entries + 1
  | .held _ => 1
def uptoBulkAll {H : Type} : List (DataW H) → Nat
  | [] => 0
  | d :: r => uptoBulk d + uptoBulkAll r
def uptoBulkEntries {H : Type} : List (Lit × DataW H) → Nat
  | [] => 0
  | x :: r => uptoBulkEntry x + uptoBulkEntries r
def uptoBulkEntry {H : Type} : Lit × DataW H → Nat
  | (.string bytes, d) => bytes.length + uptoBulk d + 1
  | (_, d) => uptoBulk d + 1
 end
def uptoSmall : (H : Type) → List (DataW H) → Bool := fun _ ds => decide (uptoBulkAll ds ≤ 1048576)
def OpenSpec.upto (s : _root_.Go.ChangeSpec) : _root_.Go.OpenSpec := { _root_.Go.OpenSpec.ofChange s with cond := some uptoSmall }

/-- 'corrallaw18.HomeAlone', WHERE WHAT IT READS IS OF BULK AT MOST 1048576: true; the input reads as it did. -/
def homeAloneUptoRow : OpenClaim := { program := "ytagaclifeoiepaa", sum := "0f75b46777e7bb12fbf187468d49448169dec6b6910725c6a49207873de62e79", func := "corral/corrallaw18.HomeAlone", spec := "homeAlone", apart := false, narrowed := true }
def HomeAloneUptoSaid : Prop := homeAloneUptoRow.holds Try.pinned (OpenSpec.upto homeAloneSpec)

/-- 'corrallaw18.HomePuts', WHERE WHAT IT READS IS OF BULK AT MOST 1048576: true; the input reads as it did. -/
def homePutsUptoRow : OpenClaim := { program := "ytagaclifeoiepaa", sum := "0f75b46777e7bb12fbf187468d49448169dec6b6910725c6a49207873de62e79", func := "corral/corrallaw18.HomePuts", spec := "homePuts", apart := false, narrowed := true }
def HomePutsUptoSaid : Prop := homePutsUptoRow.holds Try.pinned (OpenSpec.upto homePutsSpec)

/-- 'corrallaw18.HomeShares', WHERE WHAT IT READS IS OF BULK AT MOST 1048576: true; the input reads as it did. -/
def homeSharesUptoRow : OpenClaim := { program := "ytagaclifeoiepaa", sum := "0f75b46777e7bb12fbf187468d49448169dec6b6910725c6a49207873de62e79", func := "corral/corrallaw18.HomeShares", spec := "homeShares", apart := false, narrowed := true }
def HomeSharesUptoSaid : Prop := homeSharesUptoRow.holds Try.pinned (OpenSpec.upto homeSharesSpec)

/-- 'corrallaw18.HomePlays', WHERE WHAT IT READS IS OF BULK AT MOST 1048576: true; the input reads as it did. -/
def homePlaysUptoRow : OpenClaim := { program := "ytagaclifeoiepaa", sum := "0f75b46777e7bb12fbf187468d49448169dec6b6910725c6a49207873de62e79", func := "corral/corrallaw18.HomePlays", spec := "homePlays", apart := false, narrowed := true }
def HomePlaysUptoSaid : Prop := homePlaysUptoRow.holds Try.pinned (OpenSpec.upto homePlaysSpec)

/-- 'corrallaw4.AluMuls', WHERE WHAT IT READS IS OF BULK AT MOST 1048576: true; the input reads as it did. -/
def aluMulsUptoRow : OpenClaim := { program := "ytagaclifeoiepaa", sum := "0f75b46777e7bb12fbf187468d49448169dec6b6910725c6a49207873de62e79", func := "corral/corrallaw4.AluMuls", spec := "aluMuls", unfollowed := true, recurses := true, apart := false, narrowed := true }
def AluMulsUptoSaid : Prop := aluMulsUptoRow.holds Try.pinned (OpenSpec.upto aluMulsSpec)

/-- 'corrallaw4.AluBitwise', WHERE WHAT IT READS IS OF BULK AT MOST 1048576: true; the input reads as it did. -/
def aluBitwiseUptoRow : OpenClaim := { program := "ytagaclifeoiepaa", sum := "0f75b46777e7bb12fbf187468d49448169dec6b6910725c6a49207873de62e79", func := "corral/corrallaw4.AluBitwise", spec := "aluBitwise", unfollowed := true, recurses := true, apart := false, narrowed := true }
def AluBitwiseUptoSaid : Prop := aluBitwiseUptoRow.holds Try.pinned (OpenSpec.upto aluBitwiseSpec)

/-- 'corrallaw4.AluParts', WHERE WHAT IT READS IS OF BULK AT MOST 1048576: true; the input reads as it did. -/
def aluPartsUptoRow : OpenClaim := { program := "ytagaclifeoiepaa", sum := "0f75b46777e7bb12fbf187468d49448169dec6b6910725c6a49207873de62e79", func := "corral/corrallaw4.AluParts", spec := "aluParts", unfollowed := true, recurses := true, apart := false, narrowed := true }
def AluPartsUptoSaid : Prop := aluPartsUptoRow.holds Try.pinned (OpenSpec.upto aluPartsSpec)

/-- 'corrallaw4.AluPairs', WHERE WHAT IT READS IS OF BULK AT MOST 1048576: true; the input reads as it did. -/
def aluPairsUptoRow : OpenClaim := { program := "ytagaclifeoiepaa", sum := "0f75b46777e7bb12fbf187468d49448169dec6b6910725c6a49207873de62e79", func := "corral/corrallaw4.AluPairs", spec := "aluPairs", unfollowed := true, recurses := true, apart := false, narrowed := true }
def AluPairsUptoSaid : Prop := aluPairsUptoRow.holds Try.pinned (OpenSpec.upto aluPairsSpec)

/-- 'corrallaw4.AluLess', WHERE WHAT IT READS IS OF BULK AT MOST 1048576: true; the input reads as it did. -/
def aluLessUptoRow : OpenClaim := { program := "ytagaclifeoiepaa", sum := "0f75b46777e7bb12fbf187468d49448169dec6b6910725c6a49207873de62e79", func := "corral/corrallaw4.AluLess", spec := "aluLess", unfollowed := true, recurses := true, apart := false, narrowed := true }
def AluLessUptoSaid : Prop := aluLessUptoRow.holds Try.pinned (OpenSpec.upto aluLessSpec)

/-- 'corrallaw4.AluSays', WHERE WHAT IT READS IS OF BULK AT MOST 1048576: true; the input reads as it did. -/
def aluSaysUptoRow : OpenClaim := { program := "ytagaclifeoiepaa", sum := "0f75b46777e7bb12fbf187468d49448169dec6b6910725c6a49207873de62e79", func := "corral/corrallaw4.AluSays", spec := "aluSays", unfollowed := true, recurses := true, apart := false, narrowed := true }
def AluSaysUptoSaid : Prop := aluSaysUptoRow.holds Try.pinned (OpenSpec.upto aluSaysSpec)

end Rows
end Go.Proofs.Ytagaclifeoiepaa
