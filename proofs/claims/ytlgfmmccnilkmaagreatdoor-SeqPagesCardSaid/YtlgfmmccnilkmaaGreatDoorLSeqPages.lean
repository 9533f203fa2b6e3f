/- SeqPages: a hart that goes to User by a table reads through its entries, marks what it uses, and traps where it may not. No condition. -/
import Derived.Test.YtlgfmmccnilkmaaGreatDoorQSeqPages
import Derived.Test.YtlgfmmccnilkmaaGreatDoorPSeqPagesa
import Derived.Test.YtlgfmmccnilkmaaGreatDoorPSeqPagesb
import Derived.Test.YtlgfmmccnilkmaaGreatDoorPSeqPagesc
import Derived.Test.YtlgfmmccnilkmaaGreatDoorPSeqPagesd
import Derived.Test.YtlgfmmccnilkmaaGreatDoorPSeqPagese
import Derived.Test.YtlgfmmccnilkmaaGreatDoorPSeqPagesf
import Derived.Test.YtlgfmmccnilkmaaGreatDoorPSeqPagesg
import Derived.Test.YtlgfmmccnilkmaaGreatDoorPSeqPagesh
namespace Go.Proofs.YtlgfmmccnilkmaaGreatDoor.seqPages
open Go.Sx Go.ChangeShapes Go.WideShapes Go.ChangeAt Go.RowKit
set_option linter.unusedVariables false
set_option linter.unusedSimpArgs false
set_option maxRecDepth 1000000

def GD (N : NT) : Prop := ∀ (fn : Func) (hrc : cRes Tryz.prog fn.results.toList = some af4.res) (W : World), ∀ ls w, SatN CL.G W N ls w → Rsm Tryz.prog N.m Dc (bodyPost Tryz.prog fn (Done W)) ls w
theorem st {N : NT} {Ns : List NT} (hn : ∀ N' ∈ Ns, N'.ok = true) (ck : chkL Out.pc (accO G 6 64 af4.res Ns) (evFrom CL 2000 N.m Dc N.frs N.T.sp) N.T.pc = true) (h : ∀ N' ∈ Ns, GD N') : GD N :=
  fun fn hrc W => node_ok (C := CL) mixed hF (cfgT_S doorH_ok G_lt VTL) (fun V B => cfgT_L V B) hrc G_lt' Dv Du hn ck (fun N' hN' => h N' hN' fn hrc W)
theorem nil_ok : ∀ N' ∈ ([] : List NT), N'.ok = true := fun _ h => by cases h
theorem nil_GD : ∀ N' ∈ ([] : List NT), GD N' := fun _ h => by cases h
theorem one_ok {N : NT} (h : N.ok = true) : ∀ N' ∈ [N], N'.ok = true := fun _ hN => by rcases List.mem_cons.1 hN with rfl | hN; exact h; cases hN
theorem one_GD {N : NT} (h : GD N) : ∀ N' ∈ [N], GD N' := fun _ hN => by rcases List.mem_cons.1 hN with rfl | hN; exact h; cases hN
theorem w60_1 : GD N60_1 := st nil_ok ck60_1 nil_GD
theorem w60_0 : GD N60_0 := st nil_ok ck60_0 nil_GD
theorem w59_1 : GD N59_1 := st (one_ok ok60_1) ck59_1 (one_GD w60_1)
theorem w59_0 : GD N59_0 := st (one_ok ok60_0) ck59_0 (one_GD w60_0)
theorem w58_1 : GD N58_1 := st (one_ok ok59_1) ck58_1 (one_GD w59_1)
theorem w58_0 : GD N58_0 := st (one_ok ok59_0) ck58_0 (one_GD w59_0)
theorem w57_1 : GD N57_1 := st (one_ok ok58_1) ck57_1 (one_GD w58_1)
theorem w57_0 : GD N57_0 := st (one_ok ok58_0) ck57_0 (one_GD w58_0)
theorem w56_1 : GD N56_1 := st (one_ok ok57_1) ck56_1 (one_GD w57_1)
theorem w56_0 : GD N56_0 := st (one_ok ok57_0) ck56_0 (one_GD w57_0)
theorem w55_1 : GD N55_1 := st (one_ok ok56_1) ck55_1 (one_GD w56_1)
theorem w55_0 : GD N55_0 := st (one_ok ok56_0) ck55_0 (one_GD w56_0)
theorem w54_1 : GD N54_1 := st (one_ok ok55_1) ck54_1 (one_GD w55_1)
theorem w54_0 : GD N54_0 := st (one_ok ok55_0) ck54_0 (one_GD w55_0)
theorem w53_1 : GD N53_1 := st (one_ok ok54_1) ck53_1 (one_GD w54_1)
theorem w53_0 : GD N53_0 := st (one_ok ok54_0) ck53_0 (one_GD w54_0)
theorem w52_1 : GD N52_1 := st (one_ok ok53_1) ck52_1 (one_GD w53_1)
theorem w52_0 : GD N52_0 := st (one_ok ok53_0) ck52_0 (one_GD w53_0)
theorem w51_1 : GD N51_1 := st (one_ok ok52_1) ck51_1 (one_GD w52_1)
theorem w51_0 : GD N51_0 := st (one_ok ok52_0) ck51_0 (one_GD w52_0)
theorem w50_1 : GD N50_1 := st (one_ok ok51_1) ck50_1 (one_GD w51_1)
theorem w50_0 : GD N50_0 := st (one_ok ok51_0) ck50_0 (one_GD w51_0)
theorem w49_1 : GD N49_1 := st (one_ok ok50_1) ck49_1 (one_GD w50_1)
theorem w49_0 : GD N49_0 := st (one_ok ok50_0) ck49_0 (one_GD w50_0)
theorem w48_1 : GD N48_1 := st (one_ok ok49_1) ck48_1 (one_GD w49_1)
theorem w48_0 : GD N48_0 := st (one_ok ok49_0) ck48_0 (one_GD w49_0)
theorem w47_1 : GD N47_1 := st (one_ok ok48_1) ck47_1 (one_GD w48_1)
theorem w47_0 : GD N47_0 := st (one_ok ok48_0) ck47_0 (one_GD w48_0)
theorem w46_1 : GD N46_1 := st (one_ok ok47_1) ck46_1 (one_GD w47_1)
theorem w46_0 : GD N46_0 := st (one_ok ok47_0) ck46_0 (one_GD w47_0)
theorem w45_1 : GD N45_1 := st (one_ok ok46_1) ck45_1 (one_GD w46_1)
theorem w45_0 : GD N45_0 := st (one_ok ok46_0) ck45_0 (one_GD w46_0)
theorem w44_1 : GD N44_1 := st (one_ok ok45_1) ck44_1 (one_GD w45_1)
theorem w44_0 : GD N44_0 := st (one_ok ok45_0) ck44_0 (one_GD w45_0)
theorem w43_1 : GD N43_1 := st (one_ok ok44_1) ck43_1 (one_GD w44_1)
theorem w43_0 : GD N43_0 := st (one_ok ok44_0) ck43_0 (one_GD w44_0)
theorem w42_1 : GD N42_1 := st (one_ok ok43_1) ck42_1 (one_GD w43_1)
theorem w42_0 : GD N42_0 := st (one_ok ok43_0) ck42_0 (one_GD w43_0)
theorem w41_1 : GD N41_1 := st (one_ok ok42_1) ck41_1 (one_GD w42_1)
theorem w41_0 : GD N41_0 := st (one_ok ok42_0) ck41_0 (one_GD w42_0)
theorem w40_1 : GD N40_1 := st (one_ok ok41_1) ck40_1 (one_GD w41_1)
theorem w40_0 : GD N40_0 := st (one_ok ok41_0) ck40_0 (one_GD w41_0)
theorem w39_1 : GD N39_1 := st (one_ok ok40_1) ck39_1 (one_GD w40_1)
theorem w39_0 : GD N39_0 := st (one_ok ok40_0) ck39_0 (one_GD w40_0)
theorem w38_1 : GD N38_1 := st (one_ok ok39_1) ck38_1 (one_GD w39_1)
theorem w38_0 : GD N38_0 := st (one_ok ok39_0) ck38_0 (one_GD w39_0)
theorem w37_1 : GD N37_1 := st (one_ok ok38_1) ck37_1 (one_GD w38_1)
theorem w37_0 : GD N37_0 := st (one_ok ok38_0) ck37_0 (one_GD w38_0)
theorem w36_1 : GD N36_1 := st (one_ok ok37_1) ck36_1 (one_GD w37_1)
theorem w36_0 : GD N36_0 := st (one_ok ok37_0) ck36_0 (one_GD w37_0)
theorem w35_1 : GD N35_1 := st (one_ok ok36_1) ck35_1 (one_GD w36_1)
theorem w35_0 : GD N35_0 := st (one_ok ok36_0) ck35_0 (one_GD w36_0)
theorem w34_1 : GD N34_1 := st (one_ok ok35_1) ck34_1 (one_GD w35_1)
theorem w34_0 : GD N34_0 := st (one_ok ok35_0) ck34_0 (one_GD w35_0)
theorem w33_1 : GD N33_1 := st (one_ok ok34_1) ck33_1 (one_GD w34_1)
theorem w33_0 : GD N33_0 := st (one_ok ok34_0) ck33_0 (one_GD w34_0)
theorem w32_1 : GD N32_1 := st (one_ok ok33_1) ck32_1 (one_GD w33_1)
theorem w32_0 : GD N32_0 := st (one_ok ok33_0) ck32_0 (one_GD w33_0)
theorem w31_1 : GD N31_1 := st (one_ok ok32_1) ck31_1 (one_GD w32_1)
theorem w31_0 : GD N31_0 := st (one_ok ok32_0) ck31_0 (one_GD w32_0)
theorem w30_1 : GD N30_1 := st (one_ok ok31_1) ck30_1 (one_GD w31_1)
theorem w30_0 : GD N30_0 := st (one_ok ok31_0) ck30_0 (one_GD w31_0)
theorem w29_1 : GD N29_1 := st (one_ok ok30_1) ck29_1 (one_GD w30_1)
theorem w29_0 : GD N29_0 := st (one_ok ok30_0) ck29_0 (one_GD w30_0)
theorem w28_1 : GD N28_1 := st (one_ok ok29_1) ck28_1 (one_GD w29_1)
theorem w28_0 : GD N28_0 := st (one_ok ok29_0) ck28_0 (one_GD w29_0)
theorem w27_1 : GD N27_1 := st (one_ok ok28_1) ck27_1 (one_GD w28_1)
theorem w27_0 : GD N27_0 := st (one_ok ok28_0) ck27_0 (one_GD w28_0)
theorem w26_1 : GD N26_1 := st (one_ok ok27_1) ck26_1 (one_GD w27_1)
theorem w26_0 : GD N26_0 := st (one_ok ok27_0) ck26_0 (one_GD w27_0)
theorem w25_1 : GD N25_1 := st (one_ok ok26_1) ck25_1 (one_GD w26_1)
theorem w25_0 : GD N25_0 := st (one_ok ok26_0) ck25_0 (one_GD w26_0)
theorem w24_1 : GD N24_1 := st (one_ok ok25_1) ck24_1 (one_GD w25_1)
theorem w24_0 : GD N24_0 := st (one_ok ok25_0) ck24_0 (one_GD w25_0)
theorem w23_1 : GD N23_1 := st (one_ok ok24_1) ck23_1 (one_GD w24_1)
theorem w23_0 : GD N23_0 := st (one_ok ok24_0) ck23_0 (one_GD w24_0)
theorem w22_1 : GD N22_1 := st (one_ok ok23_1) ck22_1 (one_GD w23_1)
theorem w22_0 : GD N22_0 := st (one_ok ok23_0) ck22_0 (one_GD w23_0)
theorem w21_1 : GD N21_1 := st (one_ok ok22_1) ck21_1 (one_GD w22_1)
theorem w21_0 : GD N21_0 := st (one_ok ok22_0) ck21_0 (one_GD w22_0)
theorem w20_1 : GD N20_1 := st (one_ok ok21_1) ck20_1 (one_GD w21_1)
theorem w20_0 : GD N20_0 := st (one_ok ok21_0) ck20_0 (one_GD w21_0)
theorem w19_1 : GD N19_1 := st (one_ok ok20_1) ck19_1 (one_GD w20_1)
theorem w19_0 : GD N19_0 := st (one_ok ok20_0) ck19_0 (one_GD w20_0)
theorem w18_1 : GD N18_1 := st (one_ok ok19_1) ck18_1 (one_GD w19_1)
theorem w18_0 : GD N18_0 := st (one_ok ok19_0) ck18_0 (one_GD w19_0)
theorem w17_1 : GD N17_1 := st (one_ok ok18_1) ck17_1 (one_GD w18_1)
theorem w17_0 : GD N17_0 := st (one_ok ok18_0) ck17_0 (one_GD w18_0)
theorem w16_1 : GD N16_1 := st (one_ok ok17_1) ck16_1 (one_GD w17_1)
theorem w16_0 : GD N16_0 := st (one_ok ok17_0) ck16_0 (one_GD w17_0)
theorem w15_1 : GD N15_1 := st (one_ok ok16_1) ck15_1 (one_GD w16_1)
theorem w15_0 : GD N15_0 := st (one_ok ok16_0) ck15_0 (one_GD w16_0)
theorem w14_1 : GD N14_1 := st (one_ok ok15_1) ck14_1 (one_GD w15_1)
theorem w14_0 : GD N14_0 := st (one_ok ok15_0) ck14_0 (one_GD w15_0)
theorem w13_1 : GD N13_1 := st (one_ok ok14_1) ck13_1 (one_GD w14_1)
theorem w13_0 : GD N13_0 := st (one_ok ok14_0) ck13_0 (one_GD w14_0)
theorem w12_1 : GD N12_1 := st (one_ok ok13_1) ck12_1 (one_GD w13_1)
theorem w12_0 : GD N12_0 := st (one_ok ok13_0) ck12_0 (one_GD w13_0)
theorem w11_1 : GD N11_1 := st (one_ok ok12_1) ck11_1 (one_GD w12_1)
theorem w11_0 : GD N11_0 := st (one_ok ok12_0) ck11_0 (one_GD w12_0)
theorem w10_1 : GD N10_1 := st (one_ok ok11_1) ck10_1 (one_GD w11_1)
theorem w10_0 : GD N10_0 := st (one_ok ok11_0) ck10_0 (one_GD w11_0)
theorem w9_1 : GD N9_1 := st (one_ok ok10_1) ck9_1 (one_GD w10_1)
theorem w9_0 : GD N9_0 := st (one_ok ok10_0) ck9_0 (one_GD w10_0)
theorem w8_1 : GD N8_1 := st (one_ok ok9_1) ck8_1 (one_GD w9_1)
theorem w8_0 : GD N8_0 := st (one_ok ok9_0) ck8_0 (one_GD w9_0)
theorem w7_1 : GD N7_1 := st (one_ok ok8_1) ck7_1 (one_GD w8_1)
theorem w7_0 : GD N7_0 := st (one_ok ok8_0) ck7_0 (one_GD w8_0)
theorem w6_1 : GD N6_1 := st (one_ok ok7_1) ck6_1 (one_GD w7_1)
theorem w6_0 : GD N6_0 := st (one_ok ok7_0) ck6_0 (one_GD w7_0)
theorem w5_1 : GD N5_1 := st (one_ok ok6_1) ck5_1 (one_GD w6_1)
theorem w5_0 : GD N5_0 := st (one_ok ok6_0) ck5_0 (one_GD w6_0)
theorem w4_1 : GD N4_1 := st (one_ok ok5_1) ck4_1 (one_GD w5_1)
theorem w4_0 : GD N4_0 := st (one_ok ok5_0) ck4_0 (one_GD w5_0)
theorem w3_1 : GD N3_1 := st (one_ok ok4_1) ck3_1 (one_GD w4_1)
theorem w3_0 : GD N3_0 := st (one_ok ok4_0) ck3_0 (one_GD w4_0)
theorem w2_1 : GD N2_1 := st (one_ok ok3_1) ck2_1 (one_GD w3_1)
theorem w2_0 : GD N2_0 := st (one_ok ok3_0) ck2_0 (one_GD w3_0)
theorem w1_0 : GD N1_0 := st (fun N' hN' => by
    rcases List.mem_cons.1 hN' with rfl | hN'
    · exact ok2_0
    rcases List.mem_cons.1 hN' with rfl | hN'
    · exact ok2_1
    cases hN') ck1_0 (fun N' hN' => by
    rcases List.mem_cons.1 hN' with rfl | hN'
    · exact w2_0
    rcases List.mem_cons.1 hN' with rfl | hN'
    · exact w2_1
    cases hN')
theorem w0 (fn : Func) (hrc : cRes Tryz.prog fn.results.toList = some af4.res) (W : World) (c : Code) (hc : cCode Tryz.prog c = some af4.body) : ∀ a w, Sat CL.G W T0_0 a w → c.wp Tryz.prog (bodyPost Tryz.prog fn (Done W)) a w :=
  have h : ∀ N' ∈ Ns0_0, GD N' := (one_GD w1_0)
  start_ok (C := CL) mixed hF (cfgT_S doorH_ok G_lt VTL) (fun V B => cfgT_L V B) hrc G_lt' Dv Du (Ns := Ns0_0) (one_ok ok1_0) ck0_0 (fun N' hN' => h N' hN' fn hrc W) (hc.trans (congrArg some De))
theorem walk (W : World) (base : Nat) (args : Array Value) (hl : args.size = Tryz.f4.params.size) (hval : ∀ (j : Nat) t v, Tryz.f4.params[j]? = some t → args[j]? = some v → Value.okWide Tryz.prog W .any base t v)
    (hD : ∀ V, ∃ ι, HRel V ι W.heap.size doorH W ∧ GRel G ι ∧ ∀ id o, doorH.get id = some o → o.knd ≠ 2) :
    Calls Tryz.prog 4 args W fun e w' => e = .returned (.bool true) ∧ Grown W w' := by
  obtain ⟨h1, h2⟩ := open_args (P := Tryz.prog) (W := W) (r := .any) (base := base) (all := cellsAll args.toList) (i := 0) (ss := shs) (ts := Tryz.f4.params.toList) (vs := args.toList) (by kernel_rfl) (by simpa using hl)
    (fun j t v h h' => hval j t v (by simpa using h) (by simpa using h')) (fun j v h => by simpa using h)
  have hf : Fits (valOf (cellsAll args.toList)) 0 (allK shs) := fits_of h2 (fun j v h => by simpa using h)
  obtain ⟨ι, d1, d2, d3⟩ := hD (valOf (cellsAll args.toList))
  have h3 : Calls Tryz.prog 4 args.toList.toArray W (Done W) := law_parts (C := CL) (W := W) hF (f := 4) (af := af4) rfl (args := symAs 0 shs) (D := doorH) (T0 := T0_0) (by kernel_rfl) rfl (by kernel_rfl) (fun j => rfl) rfl
    (fun fn c hc hrc a w hs => w0 fn hrc W c hc a w hs) (valOf (cellsAll args.toList)) (seeds_hold hf _) (VRels.mono (fun id l h => by cases h) _ _ h1) d1 d2
  have h4 : Calls Tryz.prog 4 args.toList.toArray W fun e w' => e = .returned (.bool true) ∧ Grown W w' := h3
  simpa using h4

theorem gtypes : ∃ ti te ts ms f, ErrTypes Tryz.prog ti 198 te ts ms f ∧ doorFits Tryz.prog ti doorL = true := by
  refine ⟨29, 214, 9, _, _, ⟨Tryz.underlying29, ?_, Tryz.underlying198, Tryz.underlying214, rfl, rfl, Tryz.underlying9, by kernel_rfl, by kernel_rfl⟩, by kernel_rfl⟩
  have e : "*" ++ "errors.errorString" = "*errors.errorString" := by decide
  intro u hu
  exact typeName_ptr_named (nm := "errors.errorString") (by rw [e]; kernel_rfl) (by kernel_rfl) (by decide) u (by rw [e]; exact hu)
theorem laid_eq : Rows.seqPagesRow.laid = dlaid doorL := by rfl
set_option maxHeartbeats 0 in
set_option maxRecDepth 100000 in
theorem lifted (os : Os) (started : os.Started) (H : Type) (enc : TypeId × Value → H) :
    ReturnsInHanded {} Tryz.checked os 4 .any (fun w args => (Rows.seqPagesSpec.pre enc Tryz.prog Tryz.f4 Rows.seqPagesRow.domain false w args ∧ laidMetH Tryz.prog Rows.seqPagesRow.laid w) ∧ sizedMet enc Tryz.prog Tryz.f4 (OpenSpec.ofChange Rows.seqPagesSpec) false w args)
      (Rows.seqPagesSpec.post enc Tryz.prog Tryz.f4 false true false false) := by
  refine returnsInHanded_of_change_and (C := Tryz.checked) (X := fun w _ => laidMetH Tryz.prog Rows.seqPagesRow.laid w) (fun _ _ _ hh h => h.of_heap hh) own started (by kernel_rfl) Tryz.func4
    (ChangeSpec.witness_shaped (enc := enc) (C := Tryz.checked) (os := os) (X := fun w _ => laidMetH Tryz.prog Rows.seqPagesRow.laid w) false (World.laidAll Tryz.prog os Rows.seqPagesRow.laid) #[.int .u32 0, .bool false, .int .u32 0] 8 (World.laidAll_os _ _ _)
      (World.shaped_of_ZipB (by kernel_rfl) (by kernel_rfl)) (by kernel_rfl) (by kernel_rfl) (by kernel_rfl)
      (by rw [MakeChecks.laidMetH_plain _ _ _ (by kernel_rfl)]; exact laidMet_laidAll _ (by kernel_rfl) (by kernel_rfl))) ?_
  intro W base args ds gs before hval0 hW hcnd _ hL _
  have hW' := hW
  obtain ⟨p, q, hA0, hV, hpq, hfz, hnd⟩ := hW
  obtain ⟨rfl, rfl⟩ := trodVars_none (show DataW.TrodVars enc Tryz.prog W (fun _ => true) [] gs q from hV)
  have hl : args.size = Tryz.f4.params.size := by
    have := trodAll_len hA0
    simpa using this
  rw [MakeChecks.laidMetH_plain _ _ _ (by kernel_rfl), laid_eq] at hL
  obtain ⟨ti, te, ts, ms, fl, E, hfit⟩ := gtypes
  refine (walk W base args hl hval0 fun V => door_rel E hfit hL doorH_eq).mono fun e W' ⟨he, hg⟩ => ?_
  subst he
  exact ⟨_, rfl, post_plain (dep := 10) (rt := 4) hW' rfl (by kernel_rfl) (fun h => by
    match ds, h with
    | [_, _, _], _ => rfl) rfl Tryz.underlying4 hg⟩

theorem over : Rows.seqPagesRow.holds Tryz.pinned (OpenSpec.ofChange Rows.seqPagesSpec) :=
  OpenClaim.holds_of_wide 4 Tryz.f4 rfl rfl rfl rfl rfl rfl rfl ⟨rfl, rfl, rfl, rfl, rfl⟩ rfl rfl rfl rfl rfl (by kernel_rfl) Tryz.func4 (by kernel_rfl)
    (of_decide_eq_true (by kernel_rfl)) (by unfold Func.isWrapper; first | (rw [if_pos (by decide +kernel)]; kernel_rfl) | (rw [if_neg (by decide +kernel)]; exact ⟨rfl, rfl⟩))
    (fun os started H enc _ => lifted os started H enc)

theorem proved : Rows.SeqPagesCardSaid :=
  Claim7.holds_tied_plain_at .later [] [.sentinel, .sentinel, .sentinel] true (true, "ce3d53d51ab8de547d7f1344bae300472eaec57308df408c990954a4d8bc7a5d") false
    over (fun _ h => by cases h) (by kernel_rfl) (fun _ h => by cases h) seqPages_row_tie rfl ⟨rfl, rfl⟩ (by kernel_rfl) rfl
    (fun f fn hf hfn => by
      obtain rfl : f = 4 := Option.some.inj ((show Tryz.prog.funcNamed "corral/corrallaw11.SeqPages" = some 4 by kernel_rfl).symm.trans hf) |>.symm
      obtain rfl : fn = Tryz.f4 := (Option.some.inj (Tryz.func4.symm.trans hfn)).symm
      exact ⟨by kernel_rfl, fun j t ht => by
        have hall : (Tryz.f4.params.toList.all fun t => !(Tryz.prog.wantsStandIn t)) = true := by kernel_rfl
        have := List.all_eq_true.1 hall t (List.mem_of_getElem? (by simpa using ht))
        have h2 : Tryz.prog.wantsStandIn t = false := by simpa using this
        exact h2⟩)
    (by kernel_rfl)
#print axioms proved
end Go.Proofs.YtlgfmmccnilkmaaGreatDoor.seqPages
