/- IsaRegs: an instruction with registers alone has them where they belong. No condition. -/
import Derived.Test.YtagaclifeoiepabDoorSIsaRegsa
import Derived.Test.YtagaclifeoiepabDoorSyAr
import Derived.Test.YtagaclifeoiepabDoorSyFin
import Derived.Test.YtagaclifeoiepabDoorTie
import Derived.Test.YtagaclifeoiepabDoorCards
import Derived.SevenTiedAt
namespace Go.Proofs.YtagaclifeoiepabDoor.isaRegs
open Go.Sx Go.ChangeShapes Go.WideShapes Go.ChangeAt Go.RowKit
set_option linter.unusedVariables false
set_option linter.unusedSimpArgs false
set_option maxRecDepth 1000000

theorem own : ownKnob Tryd.prog.godebug = none := by kernel_rfl
def shs : List (Bool × List CK) := [(false, [.int .i64]), (false, [.int .i64]), (false, [.int .i64])]
def pc0 : PC := seeds (allK shs) [0, 1, 2]
noncomputable def R : TT (SV × SP) := evFnD (cfgT F G doorH TL) 2000 3 (symAs 0 shs) ⟨doorH, pc0⟩
def pt0 : Pt := .fin
theorem pt0ok : pt0.okD (R.go []) pc0 = true := by kernel_rfl
theorem due (V : Val) (h : Fits V 0 (allK shs)) : pt0.due V := by
  exact Pt.dueC_sound (pc := pc0) (by kernel_rfl) (seeds_hold h _)

theorem walk (W : World) (base : Nat) (args : Array Value) (hl : args.size = Tryd.f3.params.size) (hval : ∀ (j : Nat) t v, Tryd.f3.params[j]? = some t → args[j]? = some v → Value.okWide Tryd.prog W .any base t v)
    (hD : ∀ V, ∃ ι, HRel V ι W.heap.size doorH W ∧ GRel G ι ∧ ∀ id cs, doorH.get id ≠ some (.cells cs false)) :
    Calls Tryd.prog 3 args W fun e w' => e = .returned (.bool true) ∧ Grown W w' := by
  obtain ⟨h1, h2⟩ := open_args (P := Tryd.prog) (W := W) (r := .any) (base := base) (all := cellsAll args.toList) (i := 0) (ss := shs) (ts := Tryd.f3.params.toList) (vs := args.toList) (by kernel_rfl) (by simpa using hl)
    (fun j t v h h' => hval j t v (by simpa using h) (by simpa using h')) (fun j v h => by simpa using h)
  have hf : Fits (valOf (cellsAll args.toList)) 0 (allK shs) := fits_of h2 (fun j v h => by simpa using h)
  obtain ⟨ι, d1, d2, d3⟩ := hD (valOf (cellsAll args.toList))
  have h3 := law_callsU (R := R) mixed hF doorH_ok G_lt VTL rfl pt0ok (valOf (cellsAll args.toList)) (due _ hf) (seeds_hold hf _) h1 W d1 d2 d3
  simpa using h3

theorem gtypes : ∃ ti te ts ms f, ErrTypes Tryd.prog ti 104 te ts ms f ∧ doorFits Tryd.prog ti doorL = true := by
  refine ⟨27, 121, 9, _, _, ⟨Tryd.underlying27, ?_, Tryd.underlying104, Tryd.underlying121, rfl, rfl, Tryd.underlying9, by kernel_rfl, by kernel_rfl⟩, by kernel_rfl⟩
  have e : "*" ++ "errors.errorString" = "*errors.errorString" := by decide
  intro u hu
  exact typeName_ptr_named (nm := "errors.errorString") (by rw [e]; kernel_rfl) (by kernel_rfl) (by decide) u (by rw [e]; exact hu)
theorem laid_eq : Rows.isaRegsRow.laid = dlaid doorL := by rfl
set_option maxRecDepth 100000 in
theorem lifted (os : Os) (started : os.Started) (H : Type) (enc : TypeId × Value → H) :
    ReturnsInHanded {} Tryd.checked os 3 .any (fun w args => (Rows.isaRegsSpec.pre enc Tryd.prog Tryd.f3 Rows.isaRegsRow.domain false w args ∧ laidMetH Tryd.prog Rows.isaRegsRow.laid w) ∧ sizedMet enc Tryd.prog Tryd.f3 (OpenSpec.ofChange Rows.isaRegsSpec) false w args)
      (Rows.isaRegsSpec.post enc Tryd.prog Tryd.f3 false true false false) := by
  refine returnsInHanded_of_change_and (C := Tryd.checked) (X := fun w _ => laidMetH Tryd.prog Rows.isaRegsRow.laid w) (fun _ _ _ hh h => h.of_heap hh) own started (by kernel_rfl) Tryd.func3
    (ChangeSpec.witness_shaped (enc := enc) (C := Tryd.checked) (os := os) (X := fun w _ => laidMetH Tryd.prog Rows.isaRegsRow.laid w) false (World.laidAll Tryd.prog os Rows.isaRegsRow.laid) #[.int .i64 0, .int .i64 0, .int .i64 0] 8 (World.laidAll_os _ _ _)
      (World.shaped_of_ZipB (by kernel_rfl) (by kernel_rfl)) (by kernel_rfl) (by kernel_rfl) (by kernel_rfl)
      (by rw [MakeChecks.laidMetH_plain _ _ _ (by kernel_rfl)]; exact laidMet_laidAll _ (by kernel_rfl) (by kernel_rfl))) ?_
  intro W base args ds gs before hval0 hW hcnd _ hL _
  have hW' := hW
  obtain ⟨p, q, hA0, hV, hpq, hfz, hnd⟩ := hW
  obtain ⟨rfl, rfl⟩ := trodVars_none (show DataW.TrodVars enc Tryd.prog W (fun _ => true) [] gs q from hV)
  have hl : args.size = Tryd.f3.params.size := by
    have := trodAll_len hA0
    simpa using this
  rw [MakeChecks.laidMetH_plain _ _ _ (by kernel_rfl), laid_eq] at hL
  obtain ⟨ti, te, ts, ms, fl, E, hfit⟩ := gtypes
  refine (walk W base args hl hval0 fun V => door_rel E hfit hL doorH_eq).mono fun e W' ⟨he, hg⟩ => ?_
  subst he
  exact ⟨_, rfl, post_plain (dep := 10) (rt := 4) hW' rfl (by kernel_rfl) (fun h => by
    match ds, h with
    | [_, _, _], _ => rfl) rfl Tryd.underlying4 hg⟩

theorem over : Rows.isaRegsRow.holds Tryd.pinned (OpenSpec.ofChange Rows.isaRegsSpec) :=
  OpenClaim.holds_of_wide 3 Tryd.f3 rfl rfl rfl rfl rfl rfl rfl ⟨rfl, rfl, rfl, rfl, rfl⟩ rfl rfl rfl rfl rfl (by kernel_rfl) Tryd.func3 (by kernel_rfl)
    (of_decide_eq_true (by kernel_rfl)) (by unfold Func.isWrapper; first | (rw [if_pos (by decide +kernel)]; kernel_rfl) | (rw [if_neg (by decide +kernel)]; exact ⟨rfl, rfl⟩))
    (fun os started H enc _ => lifted os started H enc)

theorem proved : Rows.IsaRegsCardSaid :=
  Claim7.holds_tied_plain_at .later [] [.sentinel, .sentinel, .sentinel, .sentinel, .sentinel, .sentinel, .sentinel, .sentinel, .sentinel, .sentinel, .sentinel] true (true, "95613d5f9336c5ff66ff2bb8eefa277b027caa30e7b067d1c593d108637f2053") true
    over (fun _ h => by cases h) (by kernel_rfl) (fun _ h => by cases h) isaRegs_row_tie rfl ⟨rfl, rfl⟩ (by kernel_rfl) rfl
    (fun f fn hf hfn => by
      obtain rfl : f = 3 := Option.some.inj ((show Tryd.prog.funcNamed "corral/corrallaw3.IsaRegs" = some 3 by kernel_rfl).symm.trans hf) |>.symm
      obtain rfl : fn = Tryd.f3 := (Option.some.inj (Tryd.func3.symm.trans hfn)).symm
      exact ⟨by kernel_rfl, fun j t ht => by
        have hall : (Tryd.f3.params.toList.all fun t => !(Tryd.prog.wantsStandIn t)) = true := by kernel_rfl
        have := List.all_eq_true.1 hall t (List.mem_of_getElem? (by simpa using ht))
        have h2 : Tryd.prog.wantsStandIn t = false := by simpa using this
        exact h2⟩)
    (by kernel_rfl)
#print axioms proved
end Go.Proofs.YtagaclifeoiepabDoor.isaRegs
