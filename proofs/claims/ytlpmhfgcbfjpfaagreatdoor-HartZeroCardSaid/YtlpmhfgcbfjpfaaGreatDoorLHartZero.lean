/- HartZero: register 0 stays 0, another one has what is put there. No condition. -/
import Derived.Test.YtlpmhfgcbfjpfaaGreatDoorSHartZeroc
import Derived.Test.YtlpmhfgcbfjpfaaGreatDoorSyAr
import Derived.Test.YtlpmhfgcbfjpfaaGreatDoorSyFin
import Derived.Test.YtlpmhfgcbfjpfaaGreatDoorTie
import Derived.Test.YtlpmhfgcbfjpfaaGreatDoorCards
import Derived.SevenTiedAt
namespace Go.Proofs.YtlpmhfgcbfjpfaaGreatDoor.hartZero
open Go.Sx Go.ChangeShapes Go.WideShapes Go.ChangeAt Go.RowKit
set_option linter.unusedVariables false
set_option linter.unusedSimpArgs false
set_option maxRecDepth 1000000

theorem own : ownKnob Tryz.prog.godebug = none := by kernel_rfl
def shs : List (Bool × List CK) := [(false, [.int .i64]), (false, [.int .u32])]
def pc0 : PC := seeds (allK shs) []
noncomputable def R : TT (SV × SP) := evFnD (cfgT F G doorH TL) 2000 3 (symAs 0 shs) ⟨doorH, pc0⟩
def e0 : SE := .bin .add .i64 (.bin .rem .i64 (.cv .i64 (.var 0)) (.lit 32)) (.lit 32)
def e1 : SE := .bin .rem .i64 e0 (.lit 32)
def pt0c0 : Pt := (.node (.cmp .eql e1 (.lit 0)) .fin
 (.node (.cmp .eql e1 (.lit 1)) .fin
 (.node (.cmp .eql e1 (.lit 2)) .fin
 (.node (.cmp .eql e1 (.lit 3)) .fin
 (.node (.cmp .eql e1 (.lit 4)) .fin
 (.node (.cmp .eql e1 (.lit 5)) .fin
 (.node (.cmp .eql e1 (.lit 6)) .fin
 (.node (.cmp .eql e1 (.lit 7)) .fin
 (.node (.cmp .eql e1 (.lit 8)) .fin
 (.node (.cmp .eql e1 (.lit 9)) .fin
 (.node (.cmp .eql e1 (.lit 10)) .fin
 (.node (.cmp .eql e1 (.lit 11)) .fin
 (.node (.cmp .eql e1 (.lit 12)) .fin
 (.node (.cmp .eql e1 (.lit 13)) .fin
 (.node (.cmp .eql e1 (.lit 14)) .fin
 (.node (.cmp .eql e1 (.lit 15)) .fin
 (.node (.cmp .eql e1 (.lit 16)) .fin
 (.node (.cmp .eql e1 (.lit 17)) .fin
 (.node (.cmp .eql e1 (.lit 18)) .fin
 (.node (.cmp .eql e1 (.lit 19)) .fin
 (.node (.cmp .eql e1 (.lit 20)) .fin
 (.node (.cmp .eql e1 (.lit 21)) .fin
 (.node (.cmp .eql e1 (.lit 22)) .fin
 (.node (.cmp .eql e1 (.lit 23)) .fin
 (.node (.cmp .eql e1 (.lit 24)) .fin
 (.node (.cmp .eql e1 (.lit 25)) .fin
 (.node (.cmp .eql e1 (.lit 26)) .fin
 (.node (.cmp .eql e1 (.lit 27)) .fin
 (.node (.cmp .eql e1 (.lit 28)) .fin
 (.node (.cmp .eql e1 (.lit 29)) .fin
 (.node (.cmp .eql e1 (.lit 30)) .fin
 (.node (.cmp .eql e1 (.lit 31)) .fin
 .dead))))))))))))))))))))))))))))))))
theorem pt0k0 : pt0c0.okD R pc0 = true := by kernel_rfl
theorem due (V : Val) (h : Fits V 0 (allK shs)) : pt0c0.due V := by
  exact Pt.dueC_sound (pc := pc0) (by kernel_rfl) (seeds_hold h _)

theorem walk (W : World) (base : Nat) (args : Array Value) (hl : args.size = Tryz.f3.params.size) (hval : ∀ (j : Nat) t v, Tryz.f3.params[j]? = some t → args[j]? = some v → Value.okWide Tryz.prog W .any base t v)
    (hD : ∀ V, ∃ ι, HRel V ι W.heap.size doorH W ∧ GRel G ι ∧ ∀ id cs, doorH.get id ≠ some (.cells cs false)) :
    Calls Tryz.prog 3 args W fun e w' => e = .returned (.bool true) ∧ Grown W w' := by
  obtain ⟨h1, h2⟩ := open_args (P := Tryz.prog) (W := W) (r := .any) (base := base) (all := cellsAll args.toList) (i := 0) (ss := shs) (ts := Tryz.f3.params.toList) (vs := args.toList) (by kernel_rfl) (by simpa using hl)
    (fun j t v h h' => hval j t v (by simpa using h) (by simpa using h')) (fun j v h => by simpa using h)
  have hf : Fits (valOf (cellsAll args.toList)) 0 (allK shs) := fits_of h2 (fun j v h => by simpa using h)
  obtain ⟨ι, d1, d2, d3⟩ := hD (valOf (cellsAll args.toList))
  have h3 := law_callsU (R := R) mixed hF doorH_ok G_lt VTL rfl pt0k0 (valOf (cellsAll args.toList)) (due _ hf) (seeds_hold hf _) h1 W d1 d2 d3
  simpa using h3

theorem gtypes : ∃ ti te ts ms f, ErrTypes Tryz.prog ti 212 te ts ms f ∧ doorFits Tryz.prog ti doorL = true := by
  refine ⟨31, 228, 9, _, _, ⟨Tryz.underlying31, ?_, Tryz.underlying212, Tryz.underlying228, rfl, rfl, Tryz.underlying9, by kernel_rfl, by kernel_rfl⟩, by kernel_rfl⟩
  have e : "*" ++ "errors.errorString" = "*errors.errorString" := by decide
  intro u hu
  exact typeName_ptr_named (nm := "errors.errorString") (by rw [e]; kernel_rfl) (by kernel_rfl) (by decide) u (by rw [e]; exact hu)
theorem laid_eq : Rows.hartZeroRow.laid = dlaid doorL := by rfl
set_option maxRecDepth 100000 in
theorem lifted (os : Os) (started : os.Started) (H : Type) (enc : TypeId × Value → H) :
    ReturnsInHanded {} Tryz.checked os 3 .any (fun w args => (Rows.hartZeroSpec.pre enc Tryz.prog Tryz.f3 Rows.hartZeroRow.domain false w args ∧ laidMetH Tryz.prog Rows.hartZeroRow.laid w) ∧ sizedMet enc Tryz.prog Tryz.f3 (OpenSpec.ofChange Rows.hartZeroSpec) false w args)
      (Rows.hartZeroSpec.post enc Tryz.prog Tryz.f3 false true false false) := by
  refine returnsInHanded_of_change_and (C := Tryz.checked) (X := fun w _ => laidMetH Tryz.prog Rows.hartZeroRow.laid w) (fun _ _ _ hh h => h.of_heap hh) own started (by kernel_rfl) Tryz.func3
    (ChangeSpec.witness_shaped (enc := enc) (C := Tryz.checked) (os := os) (X := fun w _ => laidMetH Tryz.prog Rows.hartZeroRow.laid w) false (World.laidAll Tryz.prog os Rows.hartZeroRow.laid) #[.int .i64 0, .int .u32 0] 8 (World.laidAll_os _ _ _)
      (World.shaped_of_ZipB (by kernel_rfl) (by kernel_rfl)) (by kernel_rfl) (by kernel_rfl) (by kernel_rfl)
      (by rw [MakeChecks.laidMetH_plain _ _ _ (by kernel_rfl)]; exact laidMet_laidAll _ (by kernel_rfl) (by kernel_rfl))) ?_
  intro W base args ds gs before hval0 hW hcnd _ hL _
  have hW' := hW
  obtain ⟨p, q, hA0, hV, hpq, hfz, hnd⟩ := hW
  obtain ⟨rfl, rfl⟩ := trodVars_none (show DataW.TrodVars enc Tryz.prog W (fun _ => true) [] gs q from hV)
  have hl : args.size = Tryz.f3.params.size := by
    have := trodAll_len hA0
    simpa using this
  rw [MakeChecks.laidMetH_plain _ _ _ (by kernel_rfl), laid_eq] at hL
  obtain ⟨ti, te, ts, ms, fl, E, hfit⟩ := gtypes
  refine (walk W base args hl hval0 fun V => door_rel E hfit hL doorH_eq).mono fun e W' ⟨he, hg⟩ => ?_
  subst he
  exact ⟨_, rfl, post_plain (dep := 10) (rt := 4) hW' rfl (by kernel_rfl) (fun h => by
    match ds, h with
    | [_, _], _ => rfl) rfl Tryz.underlying4 hg⟩

theorem over : Rows.hartZeroRow.holds Tryz.pinned (OpenSpec.ofChange Rows.hartZeroSpec) :=
  OpenClaim.holds_of_wide 3 Tryz.f3 rfl rfl rfl rfl rfl rfl rfl ⟨rfl, rfl, rfl, rfl, rfl⟩ rfl rfl rfl rfl rfl (by kernel_rfl) Tryz.func3 (by kernel_rfl)
    (of_decide_eq_true (by kernel_rfl)) (by unfold Func.isWrapper; first | (rw [if_pos (by decide +kernel)]; kernel_rfl) | (rw [if_neg (by decide +kernel)]; exact ⟨rfl, rfl⟩))
    (fun os started H enc _ => lifted os started H enc)

theorem proved : Rows.HartZeroCardSaid :=
  Claim7.holds_tied_plain_at .later [] [.sentinel] true (true, "0ba36d95a03b9579a1d5ba4b4fd82659981c0e4cb7266cccfcee37d622a7beeb") true
    over (fun _ h => by cases h) (by kernel_rfl) (fun _ h => by cases h) hartZero_row_tie rfl ⟨rfl, rfl⟩ (by kernel_rfl) rfl
    (fun f fn hf hfn => by
      obtain rfl : f = 3 := Option.some.inj ((show Tryz.prog.funcNamed "corral/corrallaw10.HartZero" = some 3 by kernel_rfl).symm.trans hf) |>.symm
      obtain rfl : fn = Tryz.f3 := (Option.some.inj (Tryz.func3.symm.trans hfn)).symm
      exact ⟨by kernel_rfl, fun j t ht => by
        have hall : (Tryz.f3.params.toList.all fun t => !(Tryz.prog.wantsStandIn t)) = true := by kernel_rfl
        have := List.all_eq_true.1 hall t (List.mem_of_getElem? (by simpa using ht))
        have h2 : Tryz.prog.wantsStandIn t = false := by simpa using this
        exact h2⟩)
    (by kernel_rfl)
#print axioms proved
end Go.Proofs.YtlpmhfgcbfjpfaaGreatDoor.hartZero
