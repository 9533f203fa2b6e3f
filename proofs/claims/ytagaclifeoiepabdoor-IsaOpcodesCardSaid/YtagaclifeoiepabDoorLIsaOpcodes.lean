/- IsaOpcodes: a word whose lowest seven bits are no opcode is no instruction; one that is has its fields where they belong; at every input. No condition. -/
import Derived.Test.YtagaclifeoiepabDoorSIsaOpcodesc
import Derived.Test.YtagaclifeoiepabDoorSyAr
import Derived.Test.YtagaclifeoiepabDoorSyFin
import Derived.Test.YtagaclifeoiepabDoorTie
import Derived.Test.YtagaclifeoiepabDoorCards
import Derived.SevenTiedAt
namespace Go.Proofs.YtagaclifeoiepabDoor.isaOpcodes
open Go.Sx Go.ChangeShapes Go.WideShapes Go.ChangeAt Go.RowKit
set_option linter.unusedVariables false
set_option linter.unusedSimpArgs false
set_option maxRecDepth 1000000

theorem own : ownKnob Tryd.prog.godebug = none := by kernel_rfl
def shs : List (Bool × List CK) := [(false, [.int .u32])]
def pc0 : PC := seeds (allK shs) [0]
noncomputable def R : TT (SV × SP) := evFnD (cfgT F G doorH TL) 2000 5 (symAs 0 shs) ⟨doorH, pc0⟩
def e0 : SE := .bin .and .u32 (.bin .shr .u32 (.var 0) (.lit 12)) (.lit 7)
def e1 : SE := .bin .and .u32 (.bin .shr .u32 (.var 0) (.lit 25)) (.lit 127)
def pt0c0 : Pt := (.node (.cmp .eql (.bin .and .u32 (.var 0) (.lit 127)) (.lit 55)) .fin
 (.node (.cmp .eql (.bin .and .u32 (.var 0) (.lit 127)) (.lit 23)) .fin
 (.node (.cmp .eql (.bin .and .u32 (.var 0) (.lit 127)) (.lit 111)) .fin
 (.node (.cmp .eql (.bin .and .u32 (.var 0) (.lit 127)) (.lit 103)) (.node (.cmp .eql e0 (.lit 0)) .fin
 (.node (.cmp .eql (.var 0) (.lit 4111)) .fin
 (.node (.cmp .eql (.var 0) (.lit 115)) .fin
 (.node (.cmp .eql (.var 0) (.lit 1048691)) .fin
 (.node (.cmp .eql (.var 0) (.lit 807403635)) .fin
 (.node (.cmp .eql (.var 0) (.lit 273678451)) .fin
 .fin))))))
 (.node (.cmp .eql (.bin .and .u32 (.var 0) (.lit 127)) (.lit 99)) (.node (.cmp .eql e0 (.lit 0)) .fin
 (.node (.cmp .eql e0 (.lit 1)) .fin
 (.node (.cmp .eql e0 (.lit 4)) .fin
 (.node (.cmp .eql e0 (.lit 5)) .fin
 (.node (.cmp .eql e0 (.lit 6)) .fin
 (.node (.cmp .eql e0 (.lit 7)) .fin
 (.node (.cmp .eql (.var 0) (.lit 4111)) .fin
 (.node (.cmp .eql (.var 0) (.lit 115)) .fin
 (.node (.cmp .eql (.var 0) (.lit 1048691)) .fin
 (.node (.cmp .eql (.var 0) (.lit 807403635)) .fin
 (.node (.cmp .eql (.var 0) (.lit 273678451)) .fin
 .fin)))))))))))
 (.node (.cmp .eql (.bin .and .u32 (.var 0) (.lit 127)) (.lit 3)) (.node (.cmp .eql e0 (.lit 0)) .fin
 (.node (.cmp .eql e0 (.lit 1)) .fin
 (.node (.cmp .eql e0 (.lit 2)) .fin
 (.node (.cmp .eql e0 (.lit 4)) .fin
 (.node (.cmp .eql e0 (.lit 5)) .fin
 (.node (.cmp .eql (.var 0) (.lit 4111)) .fin
 (.node (.cmp .eql (.var 0) (.lit 115)) .fin
 (.node (.cmp .eql (.var 0) (.lit 1048691)) .fin
 (.node (.cmp .eql (.var 0) (.lit 807403635)) .fin
 (.node (.cmp .eql (.var 0) (.lit 273678451)) .fin
 .fin))))))))))
 (.node (.cmp .eql (.bin .and .u32 (.var 0) (.lit 127)) (.lit 35)) (.node (.cmp .eql e0 (.lit 0)) .fin
 (.node (.cmp .eql e0 (.lit 1)) .fin
 (.node (.cmp .eql e0 (.lit 2)) .fin
 (.node (.cmp .eql (.var 0) (.lit 4111)) .fin
 (.node (.cmp .eql (.var 0) (.lit 115)) .fin
 (.node (.cmp .eql (.var 0) (.lit 1048691)) .fin
 (.node (.cmp .eql (.var 0) (.lit 807403635)) .fin
 (.node (.cmp .eql (.var 0) (.lit 273678451)) .fin
 .fin))))))))
 (.node (.cmp .eql (.bin .and .u32 (.var 0) (.lit 127)) (.lit 19)) (.node (.cmp .eql e0 (.lit 0)) .fin
 (.node (.cmp .eql e0 (.lit 2)) .fin
 (.node (.cmp .eql e0 (.lit 3)) .fin
 (.node (.cmp .eql e0 (.lit 4)) .fin
 (.node (.cmp .eql e0 (.lit 6)) .fin
 (.node (.cmp .eql e0 (.lit 7)) .fin
 (.node (.cmp .eql e0 (.lit 1)) (.node (.cmp .eql e1 (.lit 0)) .fin
 (.node (.cmp .eql (.var 0) (.lit 4111)) .fin
 (.node (.cmp .eql (.var 0) (.lit 115)) .fin
 (.node (.cmp .eql (.var 0) (.lit 1048691)) .fin
 (.node (.cmp .eql (.var 0) (.lit 807403635)) .fin
 (.node (.cmp .eql (.var 0) (.lit 273678451)) .fin
 .fin))))))
 (.node (.cmp .eql e0 (.lit 5)) (.node (.cmp .eql e1 (.lit 0)) .fin
 (.node (.cmp .eql e1 (.lit 32)) .fin
 (.node (.cmp .eql (.var 0) (.lit 4111)) .fin
 (.node (.cmp .eql (.var 0) (.lit 115)) .fin
 (.node (.cmp .eql (.var 0) (.lit 1048691)) .fin
 (.node (.cmp .eql (.var 0) (.lit 807403635)) .fin
 (.node (.cmp .eql (.var 0) (.lit 273678451)) .fin
 .fin)))))))
 (.node (.cmp .eql (.var 0) (.lit 4111)) .fin
 (.node (.cmp .eql (.var 0) (.lit 115)) .fin
 (.node (.cmp .eql (.var 0) (.lit 1048691)) .fin
 (.node (.cmp .eql (.var 0) (.lit 807403635)) .fin
 (.node (.cmp .eql (.var 0) (.lit 273678451)) .fin
 .fin)))))))))))))
 (.node (.cmp .eql (.bin .and .u32 (.var 0) (.lit 127)) (.lit 51)) (.node (.cmp .eql e0 (.lit 0)) (.node (.cmp .eql e1 (.lit 0)) .fin
 .dead)
 .dead)
 .dead)))))))))
theorem pt0k0 : pt0c0.okD R pc0 = true := by kernel_rfl
noncomputable def pt0M0 : TT (SV × SP) := R.go [false, false, false, false, false, false, false, false, true, true, false]
def pt0p0 : PC := pt0c0.pcAt [false, false, false, false, false, false, false, false, true, true, false] pc0
def pt1c0 : Pt := (.node (.cmp .eql e1 (.lit 32)) .fin
 (.node (.cmp .eql (.var 0) (.lit 4111)) .fin
 (.node (.cmp .eql (.var 0) (.lit 115)) .fin
 (.node (.cmp .eql (.var 0) (.lit 1048691)) .fin
 (.node (.cmp .eql (.var 0) (.lit 807403635)) .fin
 (.node (.cmp .eql (.var 0) (.lit 273678451)) .fin
 (.node (.cmp .eql e1 (.lit 1)) .fin
 .fin)))))))
theorem pt1k0 : pt1c0.okD pt0M0 pt0p0 = true := by kernel_rfl
def pt0c1 : Pt := pt0c0.plug [false, false, false, false, false, false, false, false, true, true, false] pt1c0
theorem pt0k1 : pt0c1.okD R pc0 = true := Pt.okD_plug (p := [false, false, false, false, false, false, false, false, true, true, false]) pt0k0 pt1k0
noncomputable def pt0M1 : TT (SV × SP) := R.go [false, false, false, false, false, false, false, false, true, false]
def pt0p1 : PC := pt0c1.pcAt [false, false, false, false, false, false, false, false, true, false] pc0
def pt2c0 : Pt := (.node (.cmp .eql e0 (.lit 1)) (.node (.cmp .eql e1 (.lit 0)) .fin
 (.node (.cmp .eql (.var 0) (.lit 4111)) .fin
 (.node (.cmp .eql (.var 0) (.lit 115)) .fin
 (.node (.cmp .eql (.var 0) (.lit 1048691)) .fin
 (.node (.cmp .eql (.var 0) (.lit 807403635)) .fin
 (.node (.cmp .eql (.var 0) (.lit 273678451)) .fin
 (.node (.cmp .eql e1 (.lit 1)) .fin
 .fin)))))))
 (.node (.cmp .eql e0 (.lit 2)) (.node (.cmp .eql e1 (.lit 0)) .fin
 (.node (.cmp .eql (.var 0) (.lit 4111)) .fin
 (.node (.cmp .eql (.var 0) (.lit 115)) .fin
 (.node (.cmp .eql (.var 0) (.lit 1048691)) .fin
 (.node (.cmp .eql (.var 0) (.lit 807403635)) .fin
 (.node (.cmp .eql (.var 0) (.lit 273678451)) .fin
 (.node (.cmp .eql e1 (.lit 1)) .fin
 .fin)))))))
 (.node (.cmp .eql e0 (.lit 3)) (.node (.cmp .eql e1 (.lit 0)) .fin
 (.node (.cmp .eql (.var 0) (.lit 4111)) .fin
 (.node (.cmp .eql (.var 0) (.lit 115)) .fin
 (.node (.cmp .eql (.var 0) (.lit 1048691)) .fin
 (.node (.cmp .eql (.var 0) (.lit 807403635)) .fin
 (.node (.cmp .eql (.var 0) (.lit 273678451)) .fin
 (.node (.cmp .eql e1 (.lit 1)) .fin
 .fin)))))))
 (.node (.cmp .eql e0 (.lit 4)) (.node (.cmp .eql e1 (.lit 0)) .fin
 (.node (.cmp .eql (.var 0) (.lit 4111)) .fin
 (.node (.cmp .eql (.var 0) (.lit 115)) .fin
 (.node (.cmp .eql (.var 0) (.lit 1048691)) .fin
 (.node (.cmp .eql (.var 0) (.lit 807403635)) .fin
 (.node (.cmp .eql (.var 0) (.lit 273678451)) .fin
 (.node (.cmp .eql e1 (.lit 1)) .fin
 .fin)))))))
 (.node (.cmp .eql e0 (.lit 5)) (.node (.cmp .eql e1 (.lit 0)) .fin
 (.node (.cmp .eql e1 (.lit 32)) .fin
 (.node (.cmp .eql (.var 0) (.lit 4111)) .fin
 (.node (.cmp .eql (.var 0) (.lit 115)) .fin
 (.node (.cmp .eql (.var 0) (.lit 1048691)) .fin
 (.node (.cmp .eql (.var 0) (.lit 807403635)) .fin
 (.node (.cmp .eql (.var 0) (.lit 273678451)) .fin
 (.node (.cmp .eql e1 (.lit 1)) .fin
 .fin))))))))
 (.node (.cmp .eql e0 (.lit 6)) (.node (.cmp .eql e1 (.lit 0)) .fin
 (.node (.cmp .eql (.var 0) (.lit 4111)) .fin
 (.node (.cmp .eql (.var 0) (.lit 115)) .fin
 (.node (.cmp .eql (.var 0) (.lit 1048691)) .fin
 (.node (.cmp .eql (.var 0) (.lit 807403635)) .fin
 (.node (.cmp .eql (.var 0) (.lit 273678451)) .fin
 (.node (.cmp .eql e1 (.lit 1)) .fin
 .fin)))))))
 (.node (.cmp .eql e0 (.lit 7)) (.node (.cmp .eql e1 (.lit 0)) .fin
 (.node (.cmp .eql (.var 0) (.lit 4111)) .fin
 (.node (.cmp .eql (.var 0) (.lit 115)) .fin
 (.node (.cmp .eql (.var 0) (.lit 1048691)) .fin
 (.node (.cmp .eql (.var 0) (.lit 807403635)) .fin
 (.node (.cmp .eql (.var 0) (.lit 273678451)) .fin
 (.node (.cmp .eql e1 (.lit 1)) .fin
 .fin)))))))
 (.node (.cmp .eql (.var 0) (.lit 4111)) .fin
 (.node (.cmp .eql (.var 0) (.lit 115)) .fin
 (.node (.cmp .eql (.var 0) (.lit 1048691)) .fin
 (.node (.cmp .eql (.var 0) (.lit 807403635)) .fin
 (.node (.cmp .eql (.var 0) (.lit 273678451)) .fin
 .fin))))))))))))
theorem pt2k0 : pt2c0.okD pt0M1 pt0p1 = true := by kernel_rfl
def pt0c2 : Pt := pt0c1.plug [false, false, false, false, false, false, false, false, true, false] pt2c0
theorem pt0k2 : pt0c2.okD R pc0 = true := Pt.okD_plug (p := [false, false, false, false, false, false, false, false, true, false]) pt0k1 pt2k0
noncomputable def pt0M2 : TT (SV × SP) := R.go [false, false, false, false, false, false, false, false, false]
def pt0p2 : PC := pt0c2.pcAt [false, false, false, false, false, false, false, false, false] pc0
def pt3c0 : Pt := (.node (.cmp .eql (.bin .and .u32 (.var 0) (.lit 127)) (.lit 15)) (.node (.cmp .eql e0 (.lit 0)) (.node (.cmp .eql (.bin .and .u32 (.bin .shr .u32 (.var 0) (.lit 7)) (.lit 31)) (.lit 0)) (.node (.cmp .eql (.bin .and .u32 (.bin .shr .u32 (.var 0) (.lit 15)) (.lit 31)) (.lit 0)) (.node (.cmp .eql (.bin .and .u32 (.bin .shr .u32 (.var 0) (.lit 28)) (.lit 15)) (.lit 0)) .fin
 (.node (.cmp .eql (.var 0) (.lit 4111)) .fin
 (.node (.cmp .eql (.var 0) (.lit 115)) .fin
 (.node (.cmp .eql (.var 0) (.lit 1048691)) .fin
 (.node (.cmp .eql (.var 0) (.lit 807403635)) .fin
 (.node (.cmp .eql (.var 0) (.lit 273678451)) .fin
 .fin))))))
 (.node (.cmp .eql (.var 0) (.lit 4111)) .fin
 (.node (.cmp .eql (.var 0) (.lit 115)) .fin
 (.node (.cmp .eql (.var 0) (.lit 1048691)) .fin
 (.node (.cmp .eql (.var 0) (.lit 807403635)) .fin
 (.node (.cmp .eql (.var 0) (.lit 273678451)) .fin
 .fin))))))
 (.node (.cmp .eql (.var 0) (.lit 4111)) .fin
 (.node (.cmp .eql (.var 0) (.lit 115)) .fin
 (.node (.cmp .eql (.var 0) (.lit 1048691)) .fin
 (.node (.cmp .eql (.var 0) (.lit 807403635)) .fin
 (.node (.cmp .eql (.var 0) (.lit 273678451)) .fin
 .fin))))))
 (.node (.cmp .eql (.var 0) (.lit 4111)) .fin
 (.node (.cmp .eql (.var 0) (.lit 115)) .fin
 (.node (.cmp .eql (.var 0) (.lit 1048691)) .fin
 (.node (.cmp .eql (.var 0) (.lit 807403635)) .fin
 (.node (.cmp .eql (.var 0) (.lit 273678451)) .fin
 .fin))))))
 (.node (.cmp .eql (.var 0) (.lit 4111)) .dead
 (.node (.cmp .eql (.var 0) (.lit 115)) .fin
 (.node (.cmp .eql (.var 0) (.lit 1048691)) .fin
 (.node (.cmp .eql (.var 0) (.lit 807403635)) .fin
 (.node (.cmp .eql (.var 0) (.lit 273678451)) .fin
 (.node (.cmp .eql (.bin .and .u32 (.var 0) (.lit 127)) (.lit 115)) (.node (.cmp .eql e0 (.lit 0)) (.node (.cmp .eql e1 (.lit 9)) (.node (.cmp .eql (.bin .and .u32 (.bin .shr .u32 (.var 0) (.lit 7)) (.lit 31)) (.lit 0)) .fin
 .fin)
 .fin)
 (.node (.cmp .eql e0 (.lit 1)) .fin
 (.node (.cmp .eql e0 (.lit 2)) .fin
 (.node (.cmp .eql e0 (.lit 3)) .fin
 (.node (.cmp .eql e0 (.lit 5)) .fin
 (.node (.cmp .eql e0 (.lit 6)) .fin
 (.node (.cmp .eql e0 (.lit 7)) .fin
 .fin)))))))
 (.node (.cmp .eql (.bin .and .u32 (.var 0) (.lit 127)) (.lit 47)) (.node (.cmp .eql e0 (.lit 2)) (.node (.cmp .eql (.bin .shr .u32 e1 (.lit 2)) (.lit 2)) (.node (.cmp .eql (.bin .and .u32 (.bin .shr .u32 (.var 0) (.lit 20)) (.lit 31)) (.lit 0)) (.node (.cmp .eql (.bin .and .u32 (.bin .shr .u32 (.var 0) (.lit 26)) (.lit 1)) (.lit 1)) .fin
 .fin)
 .fin)
 (.node (.cmp .eql (.bin .shr .u32 e1 (.lit 2)) (.lit 3)) (.node (.cmp .eql (.bin .and .u32 (.bin .shr .u32 (.var 0) (.lit 26)) (.lit 1)) (.lit 1)) .fin
 .fin)
 (.node (.cmp .eql (.bin .shr .u32 e1 (.lit 2)) (.lit 1)) (.node (.cmp .eql (.bin .and .u32 (.bin .shr .u32 (.var 0) (.lit 26)) (.lit 1)) (.lit 1)) .fin
 .fin)
 (.node (.cmp .eql (.bin .shr .u32 e1 (.lit 2)) (.lit 0)) (.node (.cmp .eql (.bin .and .u32 (.bin .shr .u32 (.var 0) (.lit 26)) (.lit 1)) (.lit 1)) .fin
 .fin)
 (.node (.cmp .eql (.bin .shr .u32 e1 (.lit 2)) (.lit 4)) (.node (.cmp .eql (.bin .and .u32 (.bin .shr .u32 (.var 0) (.lit 26)) (.lit 1)) (.lit 1)) .fin
 .fin)
 (.node (.cmp .eql (.bin .shr .u32 e1 (.lit 2)) (.lit 12)) (.node (.cmp .eql (.bin .and .u32 (.bin .shr .u32 (.var 0) (.lit 26)) (.lit 1)) (.lit 1)) .fin
 .fin)
 (.node (.cmp .eql (.bin .shr .u32 e1 (.lit 2)) (.lit 8)) (.node (.cmp .eql (.bin .and .u32 (.bin .shr .u32 (.var 0) (.lit 26)) (.lit 1)) (.lit 1)) .fin
 .fin)
 (.node (.cmp .eql (.bin .shr .u32 e1 (.lit 2)) (.lit 16)) (.node (.cmp .eql (.bin .and .u32 (.bin .shr .u32 (.var 0) (.lit 26)) (.lit 1)) (.lit 1)) .fin
 .fin)
 (.node (.cmp .eql (.bin .shr .u32 e1 (.lit 2)) (.lit 20)) (.node (.cmp .eql (.bin .and .u32 (.bin .shr .u32 (.var 0) (.lit 26)) (.lit 1)) (.lit 1)) .fin
 .fin)
 (.node (.cmp .eql (.bin .shr .u32 e1 (.lit 2)) (.lit 24)) (.node (.cmp .eql (.bin .and .u32 (.bin .shr .u32 (.var 0) (.lit 26)) (.lit 1)) (.lit 1)) .fin
 .fin)
 (.node (.cmp .eql (.bin .shr .u32 e1 (.lit 2)) (.lit 28)) (.node (.cmp .eql (.bin .and .u32 (.bin .shr .u32 (.var 0) (.lit 26)) (.lit 1)) (.lit 1)) .fin
 .fin)
 .fin)))))))))))
 .fin)
 .fin))))))))
theorem pt3k0 : pt3c0.okD pt0M2 pt0p2 = true := by kernel_rfl
def pt0c3 : Pt := pt0c2.plug [false, false, false, false, false, false, false, false, false] pt3c0
theorem pt0k3 : pt0c3.okD R pc0 = true := Pt.okD_plug (p := [false, false, false, false, false, false, false, false, false]) pt0k2 pt3k0
theorem due (V : Val) (h : Fits V 0 (allK shs)) : pt0c3.due V := by
  exact Pt.dueC_sound (pc := pc0) (by kernel_rfl) (seeds_hold h _)

theorem walk (W : World) (base : Nat) (args : Array Value) (hl : args.size = Tryd.f5.params.size) (hval : ∀ (j : Nat) t v, Tryd.f5.params[j]? = some t → args[j]? = some v → Value.okWide Tryd.prog W .any base t v)
    (hD : ∀ V, ∃ ι, HRel V ι W.heap.size doorH W ∧ GRel G ι ∧ ∀ id cs, doorH.get id ≠ some (.cells cs false)) :
    Calls Tryd.prog 5 args W fun e w' => e = .returned (.bool true) ∧ Grown W w' := by
  obtain ⟨h1, h2⟩ := open_args (P := Tryd.prog) (W := W) (r := .any) (base := base) (all := cellsAll args.toList) (i := 0) (ss := shs) (ts := Tryd.f5.params.toList) (vs := args.toList) (by kernel_rfl) (by simpa using hl)
    (fun j t v h h' => hval j t v (by simpa using h) (by simpa using h')) (fun j v h => by simpa using h)
  have hf : Fits (valOf (cellsAll args.toList)) 0 (allK shs) := fits_of h2 (fun j v h => by simpa using h)
  obtain ⟨ι, d1, d2, d3⟩ := hD (valOf (cellsAll args.toList))
  have h3 := law_callsU (R := R) mixed hF doorH_ok G_lt VTL rfl pt0k3 (valOf (cellsAll args.toList)) (due _ hf) (seeds_hold hf _) h1 W d1 d2 d3
  simpa using h3

theorem gtypes : ∃ ti te ts ms f, ErrTypes Tryd.prog ti 104 te ts ms f ∧ doorFits Tryd.prog ti doorL = true := by
  refine ⟨27, 121, 9, _, _, ⟨Tryd.underlying27, ?_, Tryd.underlying104, Tryd.underlying121, rfl, rfl, Tryd.underlying9, by kernel_rfl, by kernel_rfl⟩, by kernel_rfl⟩
  have e : "*" ++ "errors.errorString" = "*errors.errorString" := by decide
  intro u hu
  exact typeName_ptr_named (nm := "errors.errorString") (by rw [e]; kernel_rfl) (by kernel_rfl) (by decide) u (by rw [e]; exact hu)
theorem laid_eq : Rows.isaOpcodesRow.laid = dlaid doorL := by rfl
set_option maxRecDepth 100000 in
theorem lifted (os : Os) (started : os.Started) (H : Type) (enc : TypeId × Value → H) :
    ReturnsInHanded {} Tryd.checked os 5 .any (fun w args => (Rows.isaOpcodesSpec.pre enc Tryd.prog Tryd.f5 Rows.isaOpcodesRow.domain false w args ∧ laidMetH Tryd.prog Rows.isaOpcodesRow.laid w) ∧ sizedMet enc Tryd.prog Tryd.f5 (OpenSpec.ofChange Rows.isaOpcodesSpec) false w args)
      (Rows.isaOpcodesSpec.post enc Tryd.prog Tryd.f5 false true false false) := by
  refine returnsInHanded_of_change_and (C := Tryd.checked) (X := fun w _ => laidMetH Tryd.prog Rows.isaOpcodesRow.laid w) (fun _ _ _ hh h => h.of_heap hh) own started (by kernel_rfl) Tryd.func5
    (ChangeSpec.witness_shaped (enc := enc) (C := Tryd.checked) (os := os) (X := fun w _ => laidMetH Tryd.prog Rows.isaOpcodesRow.laid w) false (World.laidAll Tryd.prog os Rows.isaOpcodesRow.laid) #[.int .u32 0] 8 (World.laidAll_os _ _ _)
      (World.shaped_of_ZipB (by kernel_rfl) (by kernel_rfl)) (by kernel_rfl) (by kernel_rfl) (by kernel_rfl)
      (by rw [MakeChecks.laidMetH_plain _ _ _ (by kernel_rfl)]; exact laidMet_laidAll _ (by kernel_rfl) (by kernel_rfl))) ?_
  intro W base args ds gs before hval0 hW hcnd _ hL _
  have hW' := hW
  obtain ⟨p, q, hA0, hV, hpq, hfz, hnd⟩ := hW
  obtain ⟨rfl, rfl⟩ := trodVars_none (show DataW.TrodVars enc Tryd.prog W (fun _ => true) [] gs q from hV)
  have hl : args.size = Tryd.f5.params.size := by
    have := trodAll_len hA0
    simpa using this
  rw [MakeChecks.laidMetH_plain _ _ _ (by kernel_rfl), laid_eq] at hL
  obtain ⟨ti, te, ts, ms, fl, E, hfit⟩ := gtypes
  refine (walk W base args hl hval0 fun V => door_rel E hfit hL doorH_eq).mono fun e W' ⟨he, hg⟩ => ?_
  subst he
  exact ⟨_, rfl, post_plain (dep := 10) (rt := 4) hW' rfl (by kernel_rfl) (fun h => by
    match ds, h with
    | [_], _ => rfl) rfl Tryd.underlying4 hg⟩

theorem over : Rows.isaOpcodesRow.holds Tryd.pinned (OpenSpec.ofChange Rows.isaOpcodesSpec) :=
  OpenClaim.holds_of_wide 5 Tryd.f5 rfl rfl rfl rfl rfl rfl rfl ⟨rfl, rfl, rfl, rfl, rfl⟩ rfl rfl rfl rfl rfl (by kernel_rfl) Tryd.func5 (by kernel_rfl)
    (of_decide_eq_true (by kernel_rfl)) (by unfold Func.isWrapper; first | (rw [if_pos (by decide +kernel)]; kernel_rfl) | (rw [if_neg (by decide +kernel)]; exact ⟨rfl, rfl⟩))
    (fun os started H enc _ => lifted os started H enc)

theorem proved : Rows.IsaOpcodesCardSaid :=
  Claim7.holds_tied_plain_at .later [] [.sentinel, .sentinel, .sentinel, .sentinel, .sentinel, .sentinel, .sentinel, .sentinel, .sentinel, .sentinel, .sentinel] true (true, "95613d5f9336c5ff66ff2bb8eefa277b027caa30e7b067d1c593d108637f2053") true
    over (fun _ h => by cases h) (by kernel_rfl) (fun _ h => by cases h) isaOpcodes_row_tie rfl ⟨rfl, rfl⟩ (by kernel_rfl) rfl
    (fun f fn hf hfn => by
      obtain rfl : f = 5 := Option.some.inj ((show Tryd.prog.funcNamed "corral/corrallaw3.IsaOpcodes" = some 5 by kernel_rfl).symm.trans hf) |>.symm
      obtain rfl : fn = Tryd.f5 := (Option.some.inj (Tryd.func5.symm.trans hfn)).symm
      exact ⟨by kernel_rfl, fun j t ht => by
        have hall : (Tryd.f5.params.toList.all fun t => !(Tryd.prog.wantsStandIn t)) = true := by kernel_rfl
        have := List.all_eq_true.1 hall t (List.mem_of_getElem? (by simpa using ht))
        have h2 : Tryd.prog.wantsStandIn t = false := by simpa using this
        exact h2⟩)
    (by kernel_rfl)
#print axioms proved
end Go.Proofs.YtagaclifeoiepabDoor.isaOpcodes
