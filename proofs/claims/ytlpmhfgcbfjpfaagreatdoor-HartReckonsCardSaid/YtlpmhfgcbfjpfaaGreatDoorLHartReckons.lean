/- HartReckons: what is reckoned of two registers is as the arithmetic has it. No condition. -/
import Derived.Test.YtlpmhfgcbfjpfaaGreatDoorQHartReckons
import Derived.Test.YtlpmhfgcbfjpfaaGreatDoorPHartReckonsa
import Derived.Test.YtlpmhfgcbfjpfaaGreatDoorPHartReckonsb
import Derived.Test.YtlpmhfgcbfjpfaaGreatDoorPHartReckonsc
import Derived.Test.YtlpmhfgcbfjpfaaGreatDoorPHartReckonsd
import Derived.Test.YtlpmhfgcbfjpfaaGreatDoorPHartReckonse
import Derived.Test.YtlpmhfgcbfjpfaaGreatDoorPHartReckonsf
import Derived.Test.YtlpmhfgcbfjpfaaGreatDoorPHartReckonsg
import Derived.Test.YtlpmhfgcbfjpfaaGreatDoorPHartReckonsh
import Derived.Test.YtlpmhfgcbfjpfaaGreatDoorPHartReckonsi
import Derived.Test.YtlpmhfgcbfjpfaaGreatDoorPHartReckonsj
import Derived.Test.YtlpmhfgcbfjpfaaGreatDoorPHartReckonsk
import Derived.Test.YtlpmhfgcbfjpfaaGreatDoorPHartReckonsl
import Derived.Test.YtlpmhfgcbfjpfaaGreatDoorPHartReckonsm
import Derived.Test.YtlpmhfgcbfjpfaaGreatDoorPHartReckonsn
import Derived.Test.YtlpmhfgcbfjpfaaGreatDoorPHartReckonso
import Derived.Test.YtlpmhfgcbfjpfaaGreatDoorPHartReckonsp
namespace Go.Proofs.YtlpmhfgcbfjpfaaGreatDoor.hartReckons
open Go.Sx Go.ChangeShapes Go.WideShapes Go.ChangeAt Go.RowKit
set_option linter.unusedVariables false
set_option linter.unusedSimpArgs false
set_option maxRecDepth 1000000

theorem sl1_0 : sk1_0.holes [] = [[true], [false, true], [false, false, true], [false, false, false, true], List.replicate 4 false ++ [true], List.replicate 5 false ++ [true], List.replicate 6 false ++ [true], List.replicate 7 false ++ [true], List.replicate 8 false ++ [true], List.replicate 9 false ++ [true], List.replicate 10 false ++ [true], List.replicate 11 false ++ [true], List.replicate 12 false ++ [true], List.replicate 13 false ++ [true], List.replicate 14 false ++ [true], List.replicate 15 false] := by rfl
theorem ck1_0 : chkL pcX (accT G 2 64 af4.res Ts2) M1_0 T1_0.pc = true := chkSk_sound sc1_0 fun p hp => allP_mem (q := fun p => chkL pcX (accT G 2 64 af4.res Ts2) (M1_0.go p) (M1_0.pcGo p T1_0.pc) = true) (l := [[true], [false, true], [false, false, true], [false, false, false, true], List.replicate 4 false ++ [true], List.replicate 5 false ++ [true], List.replicate 6 false ++ [true], List.replicate 7 false ++ [true], List.replicate 8 false ++ [true], List.replicate 9 false ++ [true], List.replicate 10 false ++ [true], List.replicate 11 false ++ [true], List.replicate 12 false ++ [true], List.replicate 13 false ++ [true], List.replicate 14 false ++ [true], List.replicate 15 false]) ⟨h1_0_0, h1_0_1, h1_0_2, h1_0_3, h1_0_4, h1_0_5, h1_0_6, h1_0_7, h1_0_8, h1_0_9, h1_0_10, h1_0_11, h1_0_12, h1_0_13, h1_0_14, h1_0_15, trivial⟩ p (sl1_0 ▸ hp)
theorem sl3_0 : sk3_0.holes [] = [[true, true], [true, false], [false, true], [false, false]] := by rfl
theorem ck3_0 : chkL pcX (accT G 2 64 af4.res Ts4) M3_0 T3_0.pc = true := chkSk_sound sc3_0 fun p hp => allP_mem (q := fun p => chkL pcX (accT G 2 64 af4.res Ts4) (M3_0.go p) (M3_0.pcGo p T3_0.pc) = true) (l := [[true, true], [true, false], [false, true], [false, false]]) ⟨h3_0_0, h3_0_1, h3_0_2, h3_0_3, trivial⟩ p (sl3_0 ▸ hp)
theorem slF_0 : skF_0.holes [] = [[true], [false, true], [false, false, true], [false, false, false, true], List.replicate 4 false ++ [true], List.replicate 5 false ++ [true], List.replicate 6 false ++ [true], List.replicate 7 false ++ [true], List.replicate 8 false ++ [true], List.replicate 9 false ++ [true], List.replicate 10 false ++ [true], List.replicate 11 false ++ [true], List.replicate 12 false ++ [true], List.replicate 13 false ++ [true], List.replicate 14 false ++ [true, true], List.replicate 14 false ++ [true, false], List.replicate 15 false ++ [true], List.replicate 16 false ++ [true, true], List.replicate 16 false ++ [true, false], List.replicate 17 false ++ [true], List.replicate 18 false] := by rfl
theorem ckF_0 : chkL pcX (accF G af4.res) MF_0 T4_0.pc = true := chkSk_sound scF_0 fun p hp => allP_mem (q := fun p => chkL pcX (accF G af4.res) (MF_0.go p) (MF_0.pcGo p T4_0.pc) = true) (l := [[true], [false, true], [false, false, true], [false, false, false, true], List.replicate 4 false ++ [true], List.replicate 5 false ++ [true], List.replicate 6 false ++ [true], List.replicate 7 false ++ [true], List.replicate 8 false ++ [true], List.replicate 9 false ++ [true], List.replicate 10 false ++ [true], List.replicate 11 false ++ [true], List.replicate 12 false ++ [true], List.replicate 13 false ++ [true], List.replicate 14 false ++ [true, true], List.replicate 14 false ++ [true, false], List.replicate 15 false ++ [true], List.replicate 16 false ++ [true, true], List.replicate 16 false ++ [true, false], List.replicate 17 false ++ [true], List.replicate 18 false]) ⟨hF_0_0, hF_0_1, hF_0_2, hF_0_3, hF_0_4, hF_0_5, hF_0_6, hF_0_7, hF_0_8, hF_0_9, hF_0_10, hF_0_11, hF_0_12, hF_0_13, hF_0_14, hF_0_15, hF_0_16, hF_0_17, hF_0_18, hF_0_19, hF_0_20, trivial⟩ p (slF_0 ▸ hp)
theorem w4 (fn : Func) (hrc : cRes Tryz.prog fn.results.toList = some af4.res) (W : World) (c : Code) (hc : cCode Tryz.prog c = some B4) : ∀ T ∈ Ts4, ∀ a w, Sat CL.G W T a w → c.wp Tryz.prog (bodyPost Tryz.prog fn (Done W)) a w := by
  intro T hT
  simp only [Ts4, List.mem_cons, List.not_mem_nil, or_false] at hT
  subst hT
  exact fin_wp (C := CL) mixed hF (cfgT_S doorH_ok G_lt VTL) (fun V B => cfgT_L V B) hrc hc ckF_0
theorem w3 (fn : Func) (hrc : cRes Tryz.prog fn.results.toList = some af4.res) (W : World) (c : Code) (hc : cCode Tryz.prog c = some B3) : ∀ T ∈ Ts3, ∀ a w, Sat CL.G W T a w → c.wp Tryz.prog (bodyPost Tryz.prog fn (Done W)) a w := by
  intro T hT
  simp only [Ts3, List.mem_cons, List.not_mem_nil, or_false] at hT
  subst hT
  exact cut_wp (C := CL) mixed hF (cfgT_S doorH_ok G_lt VTL) (fun V B => cfgT_L V B) hrc G_lt' hc ck3_0 fun T' hT' a w hs => w4 fn hrc W _ (suf_ok hc) T' hT' a w hs
theorem w2 (fn : Func) (hrc : cRes Tryz.prog fn.results.toList = some af4.res) (W : World) (c : Code) (hc : cCode Tryz.prog c = some B2) : ∀ T ∈ Ts2, ∀ a w, Sat CL.G W T a w → c.wp Tryz.prog (bodyPost Tryz.prog fn (Done W)) a w := by
  intro T hT
  simp only [Ts2, List.mem_cons, List.not_mem_nil, or_false] at hT
  subst hT
  exact cut_wp (C := CL) mixed hF (cfgT_S doorH_ok G_lt VTL) (fun V B => cfgT_L V B) hrc G_lt' hc ck2_0 fun T' hT' a w hs => w3 fn hrc W _ (suf_ok hc) T' hT' a w hs
theorem w1 (fn : Func) (hrc : cRes Tryz.prog fn.results.toList = some af4.res) (W : World) (c : Code) (hc : cCode Tryz.prog c = some B1) : ∀ T ∈ Ts1, ∀ a w, Sat CL.G W T a w → c.wp Tryz.prog (bodyPost Tryz.prog fn (Done W)) a w := by
  intro T hT
  simp only [Ts1, List.mem_cons, List.not_mem_nil, or_false] at hT
  subst hT
  exact cut_wp (C := CL) mixed hF (cfgT_S doorH_ok G_lt VTL) (fun V B => cfgT_L V B) hrc G_lt' hc ck1_0 fun T' hT' a w hs => w2 fn hrc W _ (suf_ok hc) T' hT' a w hs
theorem w0 (fn : Func) (hrc : cRes Tryz.prog fn.results.toList = some af4.res) (W : World) (c : Code) (hc : cCode Tryz.prog c = some B0) : ∀ T ∈ Ts0, ∀ a w, Sat CL.G W T a w → c.wp Tryz.prog (bodyPost Tryz.prog fn (Done W)) a w := by
  intro T hT
  simp only [Ts0, List.mem_cons, List.not_mem_nil, or_false] at hT
  subst hT
  exact cut_wp (C := CL) mixed hF (cfgT_S doorH_ok G_lt VTL) (fun V B => cfgT_L V B) hrc G_lt' hc ck0_0 fun T' hT' a w hs => w1 fn hrc W _ (suf_ok hc) T' hT' a w hs
theorem walk (W : World) (base : Nat) (args : Array Value) (hl : args.size = Tryz.f4.params.size) (hval : ∀ (j : Nat) t v, Tryz.f4.params[j]? = some t → args[j]? = some v → Value.okWide Tryz.prog W .any base t v)
    (hD : ∀ V, ∃ ι, HRel V ι W.heap.size doorH W ∧ GRel G ι ∧ ∀ id cs, doorH.get id ≠ some (.cells cs false)) :
    Calls Tryz.prog 4 args W fun e w' => e = .returned (.bool true) ∧ Grown W w' := by
  obtain ⟨h1, h2⟩ := open_args (P := Tryz.prog) (W := W) (r := .any) (base := base) (all := cellsAll args.toList) (i := 0) (ss := shs) (ts := Tryz.f4.params.toList) (vs := args.toList) (by kernel_rfl) (by simpa using hl)
    (fun j t v h h' => hval j t v (by simpa using h) (by simpa using h')) (fun j v h => by simpa using h)
  have hf : Fits (valOf (cellsAll args.toList)) 0 (allK shs) := fits_of h2 (fun j v h => by simpa using h)
  obtain ⟨ι, d1, d2, d3⟩ := hD (valOf (cellsAll args.toList))
  have h3 : Calls Tryz.prog 4 args.toList.toArray W (Done W) := law_parts (C := CL) (W := W) hF (f := 4) (af := af4) rfl (args := symAs 0 shs) (D := doorH) (T0 := T0_0) (by kernel_rfl) rfl (by kernel_rfl) (fun j => rfl) rfl
    (fun fn c hc hrc a w hs => w0 fn hrc W c hc T0_0 (List.mem_cons_self ..) a w hs) (valOf (cellsAll args.toList)) (seeds_hold hf _) (VRels.mono (fun id l h => by cases h) _ _ h1) d1 d2
  have h4 : Calls Tryz.prog 4 args.toList.toArray W fun e w' => e = .returned (.bool true) ∧ Grown W w' := h3
  simpa using h4

theorem gtypes : ∃ ti te ts ms f, ErrTypes Tryz.prog ti 212 te ts ms f ∧ doorFits Tryz.prog ti doorL = true := by
  refine ⟨31, 228, 9, _, _, ⟨Tryz.underlying31, ?_, Tryz.underlying212, Tryz.underlying228, rfl, rfl, Tryz.underlying9, by kernel_rfl, by kernel_rfl⟩, by kernel_rfl⟩
  have e : "*" ++ "errors.errorString" = "*errors.errorString" := by decide
  intro u hu
  exact typeName_ptr_named (nm := "errors.errorString") (by rw [e]; kernel_rfl) (by kernel_rfl) (by decide) u (by rw [e]; exact hu)
theorem laid_eq : Rows.hartReckonsRow.laid = dlaid doorL := by rfl
set_option maxHeartbeats 0 in
set_option maxRecDepth 100000 in
theorem lifted (os : Os) (started : os.Started) (H : Type) (enc : TypeId × Value → H) :
    ReturnsInHanded {} Tryz.checked os 4 .any (fun w args => (Rows.hartReckonsSpec.pre enc Tryz.prog Tryz.f4 Rows.hartReckonsRow.domain false w args ∧ laidMetH Tryz.prog Rows.hartReckonsRow.laid w) ∧ sizedMet enc Tryz.prog Tryz.f4 (OpenSpec.ofChange Rows.hartReckonsSpec) false w args)
      (Rows.hartReckonsSpec.post enc Tryz.prog Tryz.f4 false true false false) := by
  refine returnsInHanded_of_change_and (C := Tryz.checked) (X := fun w _ => laidMetH Tryz.prog Rows.hartReckonsRow.laid w) (fun _ _ _ hh h => h.of_heap hh) own started (by kernel_rfl) Tryz.func4
    (ChangeSpec.witness_shaped (enc := enc) (C := Tryz.checked) (os := os) (X := fun w _ => laidMetH Tryz.prog Rows.hartReckonsRow.laid w) false (World.laidAll Tryz.prog os Rows.hartReckonsRow.laid) #[.int .i64 0, .int .u32 0, .int .u32 0] 8 (World.laidAll_os _ _ _)
      (World.shaped_of_ZipB (by kernel_rfl) (by kernel_rfl)) (by kernel_rfl) (by kernel_rfl) (by kernel_rfl)
      (by rw [MakeChecks.laidMetH_plain _ _ _ (by kernel_rfl)]; exact laidMet_laidAll _ (by kernel_rfl) (by kernel_rfl))) ?_
  intro W base args ds gs before hval0 hW hcnd _ hL _
  have hW' := hW
  obtain ⟨p, q, hA0, hV, hpq, hfz, hnd⟩ := hW
  obtain ⟨rfl, rfl⟩ := trodVars_none (show DataW.TrodVars enc Tryz.prog W (fun _ => true) [] gs q from hV)
  have hl : args.size = Tryz.f4.params.size := by
    have := trodAll_len hA0
    simpa using this
  rw [MakeChecks.laidMetH_plain _ _ _ (by kernel_rfl), laid_eq] at hL
  obtain ⟨ti, te, ts, ms, fl, E, hfit⟩ := gtypes
  refine (walk W base args hl hval0 fun V => door_rel E hfit hL doorH_eq).mono fun e W' ⟨he, hg⟩ => ?_
  subst he
  exact ⟨_, rfl, post_plain (dep := 10) (rt := 4) hW' rfl (by kernel_rfl) (fun h => by
    match ds, h with
    | [_, _, _], _ => rfl) rfl Tryz.underlying4 hg⟩

theorem over : Rows.hartReckonsRow.holds Tryz.pinned (OpenSpec.ofChange Rows.hartReckonsSpec) :=
  OpenClaim.holds_of_wide 4 Tryz.f4 rfl rfl rfl rfl rfl rfl rfl ⟨rfl, rfl, rfl, rfl, rfl⟩ rfl rfl rfl rfl rfl (by kernel_rfl) Tryz.func4 (by kernel_rfl)
    (of_decide_eq_true (by kernel_rfl)) (by unfold Func.isWrapper; first | (rw [if_pos (by decide +kernel)]; kernel_rfl) | (rw [if_neg (by decide +kernel)]; exact ⟨rfl, rfl⟩))
    (fun os started H enc _ => lifted os started H enc)

theorem proved : Rows.HartReckonsCardSaid :=
  Claim7.holds_tied_plain_at .later [] [.sentinel] true (true, "0ba36d95a03b9579a1d5ba4b4fd82659981c0e4cb7266cccfcee37d622a7beeb") true
    over (fun _ h => by cases h) (by kernel_rfl) (fun _ h => by cases h) hartReckons_row_tie rfl ⟨rfl, rfl⟩ (by kernel_rfl) rfl
    (fun f fn hf hfn => by
      obtain rfl : f = 4 := Option.some.inj ((show Tryz.prog.funcNamed "corral/corrallaw10.HartReckons" = some 4 by kernel_rfl).symm.trans hf) |>.symm
      obtain rfl : fn = Tryz.f4 := (Option.some.inj (Tryz.func4.symm.trans hfn)).symm
      exact ⟨by kernel_rfl, fun j t ht => by
        have hall : (Tryz.f4.params.toList.all fun t => !(Tryz.prog.wantsStandIn t)) = true := by kernel_rfl
        have := List.all_eq_true.1 hall t (List.mem_of_getElem? (by simpa using ht))
        have h2 : Tryz.prog.wantsStandIn t = false := by simpa using this
        exact h2⟩)
    (by kernel_rfl)
#print axioms proved
end Go.Proofs.YtlpmhfgcbfjpfaaGreatDoor.hartReckons
