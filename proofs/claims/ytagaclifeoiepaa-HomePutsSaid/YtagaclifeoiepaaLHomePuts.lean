/- HomePuts: what the owner puts, dirty, is what memory has, at every input. No condition. -/
import Derived.Test.YtagaclifeoiepaaFHomePuts
namespace Go.Proofs.Ytagaclifeoiepaa.homePuts
open Go.Sx Go.ChangeShapes Go.WideShapes Go.ChangeAt Go.RowKit
set_option linter.unusedVariables false
set_option maxRecDepth 1000000

theorem own : ownKnob Try.prog.godebug = none := by kernel_rfl
def shs : List (Bool × List CK) := [(false, [.bool]), (false, [.bool]), (true, [.int .u32, .int .u32, .int .u32, .int .u32]), (true, [.int .u32, .int .u32, .int .u32, .int .u32])]
def pt : Pt := (.node (.var 1) (.node (.var 0) .fin
 .fin)
 (.node (.var 0) .fin
 .fin))
theorem ok : pt.ok (runL ⟨F, fun _ => none⟩ 400 4 (symAs 0 shs)) [] [] = true := by kernel_rfl
theorem due (V : Val) (h : Fits V 0 (allK shs)) : pt.due V := by
  simp [pt, Pt.due]
theorem walk (W : World) (base : Nat) (args : Array Value) (hl : args.size = Try.f4.params.size) (hval : ∀ (j : Nat) t v, Try.f4.params[j]? = some t → args[j]? = some v → Value.okWide Try.prog W .any base t v) :
    Calls Try.prog 4 args W fun e w' => e = .returned (.bool true) ∧ Grown W w' := by
  obtain ⟨h1, h2⟩ := open_args (P := Try.prog) (W := W) (r := .any) (base := base) (all := cellsAll args.toList) (i := 0) (ss := shs) (ts := Try.f4.params.toList) (vs := args.toList) (by kernel_rfl) (by simpa using hl)
    (fun j t v h h' => hval j t v (by simpa using h) (by simpa using h')) (fun j v h => by simpa using h)
  have h3 := law_calls mixed hF ok (valOf (cellsAll args.toList)) (due _ (fits_of h2 (fun j v h => by simpa using h))) h1 W
  simpa using h3

set_option maxRecDepth 100000 in
theorem lifted (os : Os) (started : os.Started) (H : Type) (enc : TypeId × Value → H) :
    ReturnsInHanded {} Try.checked os 4 .any (Rows.homePutsSpec.pre6 enc Try.prog Try.f4 Rows.homePutsRow.domain false) (Rows.homePutsSpec.post enc Try.prog Try.f4 false true false false) := by
  refine returnsInHanded_of_change (C := Try.checked) own started (by kernel_rfl) Try.func4
    (ChangeSpec.witness6 (enc := enc) (C := Try.checked) false ⟨#[], #[.bool false, .bool false, .agg #[.int .u32 0, .int .u32 0, .int .u32 0, .int .u32 0], .agg #[.int .u32 0, .int .u32 0, .int .u32 0, .int .u32 0]], []⟩ 8 (by kernel_rfl) (by kernel_rfl) (by kernel_rfl) (by kernel_rfl)) ?_
  intro W base args ds gs before hval0 hW hcnd _
  have hW' := hW
  obtain ⟨p, q, hA0, hV, hpq, hfz, hnd⟩ := hW
  have hV0 := hV
  obtain ⟨rfl, rfl⟩ := trodVars_none (show DataW.TrodVars enc Try.prog W (fun _ => true) [] gs q from hV)
  have hl : args.size = Try.f4.params.size := by
    have := trodAll_len hA0
    simpa using this
  refine (walk W base args hl hval0).mono fun e W' ⟨he, hg⟩ => ?_
  subst he
  exact ⟨_, rfl, post_plain (dep := 10) (rt := 4) hW' rfl (by kernel_rfl) (fun h => by
    match ds, h with
    | [_, _, _, _], _ => rfl) rfl Try.underlying4 hg⟩

theorem over : Rows.homePutsRow.holds Try.pinned (OpenSpec.ofChange Rows.homePutsSpec) :=
  OpenClaim.holds_of_wide 4 Try.f4 rfl rfl rfl rfl rfl rfl rfl ⟨rfl, rfl, rfl, rfl, rfl⟩ rfl rfl rfl rfl rfl (by kernel_rfl) Try.func4 (by kernel_rfl)
    (of_decide_eq_true (by kernel_rfl)) (by unfold Func.isWrapper; first | (rw [if_pos (by decide +kernel)]; kernel_rfl) | (rw [if_neg (by decide +kernel)]; exact ⟨rfl, rfl⟩))
    (fun os started H enc _ => lifted os started H enc)

theorem proved : Rows.HomePutsSaid :=
  over
#print axioms proved
end Go.Proofs.Ytagaclifeoiepaa.homePuts
