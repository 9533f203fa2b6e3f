/- SeqHolds: an Sc is done just if nothing came between that ends the reservation. No condition. -/
import Derived.Test.YtaclekenckkgcaaGreatDoorQSeqHolds
import Derived.Test.YtaclekenckkgcaaGreatDoorPSeqHoldsa
import Derived.Test.YtaclekenckkgcaaGreatDoorPSeqHoldsb
import Derived.Test.YtaclekenckkgcaaGreatDoorPSeqHoldsc
import Derived.Test.YtaclekenckkgcaaGreatDoorPSeqHoldsd
import Derived.Test.YtaclekenckkgcaaGreatDoorPSeqHoldse
import Derived.Test.YtaclekenckkgcaaGreatDoorPSeqHoldsf
import Derived.Test.YtaclekenckkgcaaGreatDoorPSeqHoldsg
import Derived.Test.YtaclekenckkgcaaGreatDoorPSeqHoldsh
import Derived.Test.YtaclekenckkgcaaGreatDoorPSeqHoldsi
import Derived.Test.YtaclekenckkgcaaGreatDoorPSeqHoldsj
import Derived.Test.YtaclekenckkgcaaGreatDoorPSeqHoldsk
import Derived.Test.YtaclekenckkgcaaGreatDoorPSeqHoldsl
import Derived.Test.YtaclekenckkgcaaGreatDoorPSeqHoldsm
import Derived.Test.YtaclekenckkgcaaGreatDoorPSeqHoldsn
import Derived.Test.YtaclekenckkgcaaGreatDoorPSeqHoldso
import Derived.Test.YtaclekenckkgcaaGreatDoorPSeqHoldsp
import Derived.Test.YtaclekenckkgcaaGreatDoorPSeqHoldsq
namespace Go.Proofs.YtaclekenckkgcaaGreatDoor.seqHolds
open Go.Sx Go.ChangeShapes Go.WideShapes Go.ChangeAt Go.RowKit
set_option linter.unusedVariables false
set_option linter.unusedSimpArgs false
set_option maxRecDepth 1000000

theorem sl1_0 : sk1_0.holes [] = [[true, true], [true, false, true], [true, false, false, true], [true, false, false, false, true], [true] ++ List.replicate 4 false ++ [true], [true] ++ List.replicate 5 false ++ [true], [true] ++ List.replicate 6 false ++ [true], [true] ++ List.replicate 7 false ++ [true], [false, true, true], [false, true, false, true], [false, true, false, false, true], [false, true, false, false, false, true], [false, true] ++ List.replicate 4 false ++ [true], [false, true] ++ List.replicate 5 false ++ [true], [false, true] ++ List.replicate 6 false ++ [true], [false, true] ++ List.replicate 7 false ++ [true], [false, false, true, true], [false, false, true, false, true], [false, false, true, false, false, true], [false, false, true, false, false, false, true], [false, false, true] ++ List.replicate 4 false ++ [true], [false, false, true] ++ List.replicate 5 false ++ [true], [false, false, true] ++ List.replicate 6 false ++ [true], [false, false, true] ++ List.replicate 7 false ++ [true], [false, false, false, true, true], [false, false, false, true, false, true], [false, false, false, true, false, false, true], [false, false, false, true, false, false, false, true], [false, false, false, true] ++ List.replicate 4 false ++ [true], [false, false, false, true] ++ List.replicate 5 false ++ [true], [false, false, false, true] ++ List.replicate 6 false ++ [true], [false, false, false, true] ++ List.replicate 7 false ++ [true], List.replicate 4 false ++ [true, true], List.replicate 4 false ++ [true, false, true], List.replicate 4 false ++ [true, false, false, true], List.replicate 4 false ++ [true, false, false, false, true], List.replicate 4 false ++ [true] ++ List.replicate 4 false ++ [true], List.replicate 4 false ++ [true] ++ List.replicate 5 false ++ [true], List.replicate 4 false ++ [true] ++ List.replicate 6 false ++ [true], List.replicate 4 false ++ [true] ++ List.replicate 7 false ++ [true], List.replicate 5 false ++ [true, true], List.replicate 5 false ++ [true, false, true], List.replicate 5 false ++ [true, false, false, true], List.replicate 5 false ++ [true, false, false, false, true], List.replicate 5 false ++ [true] ++ List.replicate 4 false ++ [true], List.replicate 5 false ++ [true] ++ List.replicate 5 false ++ [true], List.replicate 5 false ++ [true] ++ List.replicate 6 false ++ [true], List.replicate 5 false ++ [true] ++ List.replicate 7 false ++ [true]] := by rfl
theorem ck1_0 : chkL pcX (accT G 6 64 af4.res Ts2) M1_0 T1_0.pc = true := chkSk_sound sc1_0 fun p hp => allP_mem (q := fun p => chkL pcX (accT G 6 64 af4.res Ts2) (M1_0.go p) (M1_0.pcGo p T1_0.pc) = true) (l := [[true, true], [true, false, true], [true, false, false, true], [true, false, false, false, true], [true] ++ List.replicate 4 false ++ [true], [true] ++ List.replicate 5 false ++ [true], [true] ++ List.replicate 6 false ++ [true], [true] ++ List.replicate 7 false ++ [true], [false, true, true], [false, true, false, true], [false, true, false, false, true], [false, true, false, false, false, true], [false, true] ++ List.replicate 4 false ++ [true], [false, true] ++ List.replicate 5 false ++ [true], [false, true] ++ List.replicate 6 false ++ [true], [false, true] ++ List.replicate 7 false ++ [true], [false, false, true, true], [false, false, true, false, true], [false, false, true, false, false, true], [false, false, true, false, false, false, true], [false, false, true] ++ List.replicate 4 false ++ [true], [false, false, true] ++ List.replicate 5 false ++ [true], [false, false, true] ++ List.replicate 6 false ++ [true], [false, false, true] ++ List.replicate 7 false ++ [true], [false, false, false, true, true], [false, false, false, true, false, true], [false, false, false, true, false, false, true], [false, false, false, true, false, false, false, true], [false, false, false, true] ++ List.replicate 4 false ++ [true], [false, false, false, true] ++ List.replicate 5 false ++ [true], [false, false, false, true] ++ List.replicate 6 false ++ [true], [false, false, false, true] ++ List.replicate 7 false ++ [true], List.replicate 4 false ++ [true, true], List.replicate 4 false ++ [true, false, true], List.replicate 4 false ++ [true, false, false, true], List.replicate 4 false ++ [true, false, false, false, true], List.replicate 4 false ++ [true] ++ List.replicate 4 false ++ [true], List.replicate 4 false ++ [true] ++ List.replicate 5 false ++ [true], List.replicate 4 false ++ [true] ++ List.replicate 6 false ++ [true], List.replicate 4 false ++ [true] ++ List.replicate 7 false ++ [true], List.replicate 5 false ++ [true, true], List.replicate 5 false ++ [true, false, true], List.replicate 5 false ++ [true, false, false, true], List.replicate 5 false ++ [true, false, false, false, true], List.replicate 5 false ++ [true] ++ List.replicate 4 false ++ [true], List.replicate 5 false ++ [true] ++ List.replicate 5 false ++ [true], List.replicate 5 false ++ [true] ++ List.replicate 6 false ++ [true], List.replicate 5 false ++ [true] ++ List.replicate 7 false ++ [true]]) ⟨h1_0_0, h1_0_1, h1_0_2, h1_0_3, h1_0_4, h1_0_5, h1_0_6, h1_0_7, h1_0_8, h1_0_9, h1_0_10, h1_0_11, h1_0_12, h1_0_13, h1_0_14, h1_0_15, h1_0_16, h1_0_17, h1_0_18, h1_0_19, h1_0_20, h1_0_21, h1_0_22, h1_0_23, h1_0_24, h1_0_25, h1_0_26, h1_0_27, h1_0_28, h1_0_29, h1_0_30, h1_0_31, h1_0_32, h1_0_33, h1_0_34, h1_0_35, h1_0_36, h1_0_37, h1_0_38, h1_0_39, h1_0_40, h1_0_41, h1_0_42, h1_0_43, h1_0_44, h1_0_45, h1_0_46, h1_0_47, trivial⟩ p (sl1_0 ▸ hp)
theorem w2 (fn : Func) (hrc : cRes Tryz.prog fn.results.toList = some af4.res) (W : World) (c : Code) (hc : cCode Tryz.prog c = some B2) : ∀ T ∈ Ts2, ∀ a w, Sat CL.G W T a w → c.wp Tryz.prog (bodyPost Tryz.prog fn (Done W)) a w := by
  intro T hT
  simp only [Ts2, List.mem_cons, List.not_mem_nil, or_false] at hT
  rcases hT with rfl | rfl | rfl | rfl | rfl | rfl | rfl | rfl | rfl | rfl | rfl | rfl | rfl | rfl | rfl | rfl | rfl | rfl | rfl | rfl | rfl | rfl | rfl | rfl | rfl | rfl | rfl | rfl | rfl | rfl | rfl | rfl | rfl | rfl | rfl | rfl | rfl | rfl | rfl | rfl | rfl | rfl | rfl | rfl | rfl | rfl | rfl | rfl
  · exact fin_wp (C := CL) mixed hF (cfgT_S doorH_ok G_lt VTL) (fun V B => cfgT_L V B) hrc hc ckF_0
  · exact fin_wp (C := CL) mixed hF (cfgT_S doorH_ok G_lt VTL) (fun V B => cfgT_L V B) hrc hc ckF_1
  · exact fin_wp (C := CL) mixed hF (cfgT_S doorH_ok G_lt VTL) (fun V B => cfgT_L V B) hrc hc ckF_2
  · exact fin_wp (C := CL) mixed hF (cfgT_S doorH_ok G_lt VTL) (fun V B => cfgT_L V B) hrc hc ckF_3
  · exact fin_wp (C := CL) mixed hF (cfgT_S doorH_ok G_lt VTL) (fun V B => cfgT_L V B) hrc hc ckF_4
  · exact fin_wp (C := CL) mixed hF (cfgT_S doorH_ok G_lt VTL) (fun V B => cfgT_L V B) hrc hc ckF_5
  · exact fin_wp (C := CL) mixed hF (cfgT_S doorH_ok G_lt VTL) (fun V B => cfgT_L V B) hrc hc ckF_6
  · exact fin_wp (C := CL) mixed hF (cfgT_S doorH_ok G_lt VTL) (fun V B => cfgT_L V B) hrc hc ckF_7
  · exact fin_wp (C := CL) mixed hF (cfgT_S doorH_ok G_lt VTL) (fun V B => cfgT_L V B) hrc hc ckF_8
  · exact fin_wp (C := CL) mixed hF (cfgT_S doorH_ok G_lt VTL) (fun V B => cfgT_L V B) hrc hc ckF_9
  · exact fin_wp (C := CL) mixed hF (cfgT_S doorH_ok G_lt VTL) (fun V B => cfgT_L V B) hrc hc ckF_10
  · exact fin_wp (C := CL) mixed hF (cfgT_S doorH_ok G_lt VTL) (fun V B => cfgT_L V B) hrc hc ckF_11
  · exact fin_wp (C := CL) mixed hF (cfgT_S doorH_ok G_lt VTL) (fun V B => cfgT_L V B) hrc hc ckF_12
  · exact fin_wp (C := CL) mixed hF (cfgT_S doorH_ok G_lt VTL) (fun V B => cfgT_L V B) hrc hc ckF_13
  · exact fin_wp (C := CL) mixed hF (cfgT_S doorH_ok G_lt VTL) (fun V B => cfgT_L V B) hrc hc ckF_14
  · exact fin_wp (C := CL) mixed hF (cfgT_S doorH_ok G_lt VTL) (fun V B => cfgT_L V B) hrc hc ckF_15
  · exact fin_wp (C := CL) mixed hF (cfgT_S doorH_ok G_lt VTL) (fun V B => cfgT_L V B) hrc hc ckF_16
  · exact fin_wp (C := CL) mixed hF (cfgT_S doorH_ok G_lt VTL) (fun V B => cfgT_L V B) hrc hc ckF_17
  · exact fin_wp (C := CL) mixed hF (cfgT_S doorH_ok G_lt VTL) (fun V B => cfgT_L V B) hrc hc ckF_18
  · exact fin_wp (C := CL) mixed hF (cfgT_S doorH_ok G_lt VTL) (fun V B => cfgT_L V B) hrc hc ckF_19
  · exact fin_wp (C := CL) mixed hF (cfgT_S doorH_ok G_lt VTL) (fun V B => cfgT_L V B) hrc hc ckF_20
  · exact fin_wp (C := CL) mixed hF (cfgT_S doorH_ok G_lt VTL) (fun V B => cfgT_L V B) hrc hc ckF_21
  · exact fin_wp (C := CL) mixed hF (cfgT_S doorH_ok G_lt VTL) (fun V B => cfgT_L V B) hrc hc ckF_22
  · exact fin_wp (C := CL) mixed hF (cfgT_S doorH_ok G_lt VTL) (fun V B => cfgT_L V B) hrc hc ckF_23
  · exact fin_wp (C := CL) mixed hF (cfgT_S doorH_ok G_lt VTL) (fun V B => cfgT_L V B) hrc hc ckF_24
  · exact fin_wp (C := CL) mixed hF (cfgT_S doorH_ok G_lt VTL) (fun V B => cfgT_L V B) hrc hc ckF_25
  · exact fin_wp (C := CL) mixed hF (cfgT_S doorH_ok G_lt VTL) (fun V B => cfgT_L V B) hrc hc ckF_26
  · exact fin_wp (C := CL) mixed hF (cfgT_S doorH_ok G_lt VTL) (fun V B => cfgT_L V B) hrc hc ckF_27
  · exact fin_wp (C := CL) mixed hF (cfgT_S doorH_ok G_lt VTL) (fun V B => cfgT_L V B) hrc hc ckF_28
  · exact fin_wp (C := CL) mixed hF (cfgT_S doorH_ok G_lt VTL) (fun V B => cfgT_L V B) hrc hc ckF_29
  · exact fin_wp (C := CL) mixed hF (cfgT_S doorH_ok G_lt VTL) (fun V B => cfgT_L V B) hrc hc ckF_30
  · exact fin_wp (C := CL) mixed hF (cfgT_S doorH_ok G_lt VTL) (fun V B => cfgT_L V B) hrc hc ckF_31
  · exact fin_wp (C := CL) mixed hF (cfgT_S doorH_ok G_lt VTL) (fun V B => cfgT_L V B) hrc hc ckF_32
  · exact fin_wp (C := CL) mixed hF (cfgT_S doorH_ok G_lt VTL) (fun V B => cfgT_L V B) hrc hc ckF_33
  · exact fin_wp (C := CL) mixed hF (cfgT_S doorH_ok G_lt VTL) (fun V B => cfgT_L V B) hrc hc ckF_34
  · exact fin_wp (C := CL) mixed hF (cfgT_S doorH_ok G_lt VTL) (fun V B => cfgT_L V B) hrc hc ckF_35
  · exact fin_wp (C := CL) mixed hF (cfgT_S doorH_ok G_lt VTL) (fun V B => cfgT_L V B) hrc hc ckF_36
  · exact fin_wp (C := CL) mixed hF (cfgT_S doorH_ok G_lt VTL) (fun V B => cfgT_L V B) hrc hc ckF_37
  · exact fin_wp (C := CL) mixed hF (cfgT_S doorH_ok G_lt VTL) (fun V B => cfgT_L V B) hrc hc ckF_38
  · exact fin_wp (C := CL) mixed hF (cfgT_S doorH_ok G_lt VTL) (fun V B => cfgT_L V B) hrc hc ckF_39
  · exact fin_wp (C := CL) mixed hF (cfgT_S doorH_ok G_lt VTL) (fun V B => cfgT_L V B) hrc hc ckF_40
  · exact fin_wp (C := CL) mixed hF (cfgT_S doorH_ok G_lt VTL) (fun V B => cfgT_L V B) hrc hc ckF_41
  · exact fin_wp (C := CL) mixed hF (cfgT_S doorH_ok G_lt VTL) (fun V B => cfgT_L V B) hrc hc ckF_42
  · exact fin_wp (C := CL) mixed hF (cfgT_S doorH_ok G_lt VTL) (fun V B => cfgT_L V B) hrc hc ckF_43
  · exact fin_wp (C := CL) mixed hF (cfgT_S doorH_ok G_lt VTL) (fun V B => cfgT_L V B) hrc hc ckF_44
  · exact fin_wp (C := CL) mixed hF (cfgT_S doorH_ok G_lt VTL) (fun V B => cfgT_L V B) hrc hc ckF_45
  · exact fin_wp (C := CL) mixed hF (cfgT_S doorH_ok G_lt VTL) (fun V B => cfgT_L V B) hrc hc ckF_46
  · exact fin_wp (C := CL) mixed hF (cfgT_S doorH_ok G_lt VTL) (fun V B => cfgT_L V B) hrc hc ckF_47
theorem w1 (fn : Func) (hrc : cRes Tryz.prog fn.results.toList = some af4.res) (W : World) (c : Code) (hc : cCode Tryz.prog c = some B1) : ∀ T ∈ Ts1, ∀ a w, Sat CL.G W T a w → c.wp Tryz.prog (bodyPost Tryz.prog fn (Done W)) a w := by
  intro T hT
  simp only [Ts1, List.mem_cons, List.not_mem_nil, or_false] at hT
  subst hT
  exact cut_wpF (C := CL) mixed hF (cfgT_S doorH_ok G_lt VTL) (fun V B => cfgT_L V B) hrc G_lt' hc ck1_0 fun T' hT' a w hs => w2 fn hrc W _ (suf_ok hc) T' hT' a w hs
theorem w0 (fn : Func) (hrc : cRes Tryz.prog fn.results.toList = some af4.res) (W : World) (c : Code) (hc : cCode Tryz.prog c = some B0) : ∀ T ∈ Ts0, ∀ a w, Sat CL.G W T a w → c.wp Tryz.prog (bodyPost Tryz.prog fn (Done W)) a w := by
  intro T hT
  simp only [Ts0, List.mem_cons, List.not_mem_nil, or_false] at hT
  subst hT
  exact cut_wp (C := CL) mixed hF (cfgT_S doorH_ok G_lt VTL) (fun V B => cfgT_L V B) hrc G_lt' hc ck0_0 fun T' hT' a w hs => w1 fn hrc W _ (suf_ok hc) T' hT' a w hs
theorem walk (W : World) (base : Nat) (args : Array Value) (hl : args.size = Tryz.f4.params.size) (hval : ∀ (j : Nat) t v, Tryz.f4.params[j]? = some t → args[j]? = some v → Value.okWide Tryz.prog W .any base t v)
    (hD : ∀ V, ∃ ι, HRel V ι W.heap.size doorH W ∧ GRel G ι ∧ ∀ id cs, doorH.get id ≠ some (.cells cs false)) :
    Calls Tryz.prog 4 args W fun e w' => e = .returned (.bool true) ∧ Grown W w' := by
  obtain ⟨h1, h2⟩ := open_args (P := Tryz.prog) (W := W) (r := .any) (base := base) (all := cellsAll args.toList) (i := 0) (ss := shs) (ts := Tryz.f4.params.toList) (vs := args.toList) (by kernel_rfl) (by simpa using hl)
    (fun j t v h h' => hval j t v (by simpa using h) (by simpa using h')) (fun j v h => by simpa using h)
  have hf : Fits (valOf (cellsAll args.toList)) 0 (allK shs) := fits_of h2 (fun j v h => by simpa using h)
  obtain ⟨ι, d1, d2, d3⟩ := hD (valOf (cellsAll args.toList))
  have h3 : Calls Tryz.prog 4 args.toList.toArray W (Done W) := law_parts (C := CL) (W := W) hF (f := 4) (af := af4) rfl (args := symAs 0 shs) (D := doorH) (T0 := T0_0) (by kernel_rfl) rfl (by kernel_rfl) (fun j => rfl) rfl
    (fun fn c hc hrc a w hs => w0 fn hrc W c hc T0_0 (List.mem_cons_self ..) a w hs) (valOf (cellsAll args.toList)) (seeds_hold hf _) (VRels.mono (fun id l h => by cases h) _ _ h1) d1 d2
  have h4 : Calls Tryz.prog 4 args.toList.toArray W fun e w' => e = .returned (.bool true) ∧ Grown W w' := h3
  simpa using h4

theorem gtypes : ∃ ti te ts ms f, ErrTypes Tryz.prog ti 199 te ts ms f ∧ doorFits Tryz.prog ti doorL = true := by
  refine ⟨29, 215, 9, _, _, ⟨Tryz.underlying29, ?_, Tryz.underlying199, Tryz.underlying215, rfl, rfl, Tryz.underlying9, by kernel_rfl, by kernel_rfl⟩, by kernel_rfl⟩
  have e : "*" ++ "errors.errorString" = "*errors.errorString" := by decide
  intro u hu
  exact typeName_ptr_named (nm := "errors.errorString") (by rw [e]; kernel_rfl) (by kernel_rfl) (by decide) u (by rw [e]; exact hu)
theorem laid_eq : Rows.seqHoldsRow.laid = dlaid doorL := by rfl
set_option maxHeartbeats 0 in
set_option maxRecDepth 100000 in
theorem lifted (os : Os) (started : os.Started) (H : Type) (enc : TypeId × Value → H) :
    ReturnsInHanded {} Tryz.checked os 4 .any (fun w args => (Rows.seqHoldsSpec.pre enc Tryz.prog Tryz.f4 Rows.seqHoldsRow.domain false w args ∧ laidMetH Tryz.prog Rows.seqHoldsRow.laid w) ∧ sizedMet enc Tryz.prog Tryz.f4 (OpenSpec.ofChange Rows.seqHoldsSpec) false w args)
      (Rows.seqHoldsSpec.post enc Tryz.prog Tryz.f4 false true false false) := by
  refine returnsInHanded_of_change_and (C := Tryz.checked) (X := fun w _ => laidMetH Tryz.prog Rows.seqHoldsRow.laid w) (fun _ _ _ hh h => h.of_heap hh) own started (by kernel_rfl) Tryz.func4
    (ChangeSpec.witness_shaped (enc := enc) (C := Tryz.checked) (os := os) (X := fun w _ => laidMetH Tryz.prog Rows.seqHoldsRow.laid w) false (World.laidAll Tryz.prog os Rows.seqHoldsRow.laid) #[.int .i64 0, .int .u32 0] 8 (World.laidAll_os _ _ _)
      (World.shaped_of_ZipB (by kernel_rfl) (by kernel_rfl)) (by kernel_rfl) (by kernel_rfl) (by kernel_rfl)
      (by rw [MakeChecks.laidMetH_plain _ _ _ (by kernel_rfl)]; exact laidMet_laidAll _ (by kernel_rfl) (by kernel_rfl))) ?_
  intro W base args ds gs before hval0 hW hcnd _ hL _
  have hW' := hW
  obtain ⟨p, q, hA0, hV, hpq, hfz, hnd⟩ := hW
  obtain ⟨rfl, rfl⟩ := trodVars_none (show DataW.TrodVars enc Tryz.prog W (fun _ => true) [] gs q from hV)
  have hl : args.size = Tryz.f4.params.size := by
    have := trodAll_len hA0
    simpa using this
  rw [MakeChecks.laidMetH_plain _ _ _ (by kernel_rfl), laid_eq] at hL
  obtain ⟨ti, te, ts, ms, fl, E, hfit⟩ := gtypes
  refine (walk W base args hl hval0 fun V => door_rel E hfit hL doorH_eq).mono fun e W' ⟨he, hg⟩ => ?_
  subst he
  exact ⟨_, rfl, post_plain (dep := 10) (rt := 4) hW' rfl (by kernel_rfl) (fun h => by
    match ds, h with
    | [_, _], _ => rfl) rfl Tryz.underlying4 hg⟩

theorem over : Rows.seqHoldsRow.holds Tryz.pinned (OpenSpec.ofChange Rows.seqHoldsSpec) :=
  OpenClaim.holds_of_wide 4 Tryz.f4 rfl rfl rfl rfl rfl rfl rfl ⟨rfl, rfl, rfl, rfl, rfl⟩ rfl rfl rfl rfl rfl (by kernel_rfl) Tryz.func4 (by kernel_rfl)
    (of_decide_eq_true (by kernel_rfl)) (by unfold Func.isWrapper; first | (rw [if_pos (by decide +kernel)]; kernel_rfl) | (rw [if_neg (by decide +kernel)]; exact ⟨rfl, rfl⟩))
    (fun os started H enc _ => lifted os started H enc)

theorem proved : Rows.SeqHoldsCardSaid :=
  Claim7.holds_tied_plain_at .later [] [.sentinel, .sentinel, .sentinel] true (true, "934eb5626043ee5ff1abe08853068aaa08326a30ef20c129a1ded5342a2c46cb") false
    over (fun _ h => by cases h) (by kernel_rfl) (fun _ h => by cases h) seqHolds_row_tie rfl ⟨rfl, rfl⟩ (by kernel_rfl) rfl
    (fun f fn hf hfn => by
      obtain rfl : f = 4 := Option.some.inj ((show Tryz.prog.funcNamed "corral/corrallaw11.SeqHolds" = some 4 by kernel_rfl).symm.trans hf) |>.symm
      obtain rfl : fn = Tryz.f4 := (Option.some.inj (Tryz.func4.symm.trans hfn)).symm
      exact ⟨by kernel_rfl, fun j t ht => by
        have hall : (Tryz.f4.params.toList.all fun t => !(Tryz.prog.wantsStandIn t)) = true := by kernel_rfl
        have := List.all_eq_true.1 hall t (List.mem_of_getElem? (by simpa using ht))
        have h2 : Tryz.prog.wantsStandIn t = false := by simpa using this
        exact h2⟩)
    (by kernel_rfl)
#print axioms proved
end Go.Proofs.YtaclekenckkgcaaGreatDoor.seqHolds
