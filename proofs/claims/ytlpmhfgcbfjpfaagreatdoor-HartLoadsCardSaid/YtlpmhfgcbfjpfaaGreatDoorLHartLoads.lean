/- HartLoads: what is loaded is extended, what is stored is told, or it traps. No condition. -/
import Derived.Test.YtlpmhfgcbfjpfaaGreatDoorQHartLoads
import Derived.Test.YtlpmhfgcbfjpfaaGreatDoorPHartLoadsa
import Derived.Test.YtlpmhfgcbfjpfaaGreatDoorPHartLoadsb
import Derived.Test.YtlpmhfgcbfjpfaaGreatDoorPHartLoadsc
import Derived.Test.YtlpmhfgcbfjpfaaGreatDoorPHartLoadsd
import Derived.Test.YtlpmhfgcbfjpfaaGreatDoorPHartLoadse
import Derived.Test.YtlpmhfgcbfjpfaaGreatDoorPHartLoadsf
import Derived.Test.YtlpmhfgcbfjpfaaGreatDoorPHartLoadsg
import Derived.Test.YtlpmhfgcbfjpfaaGreatDoorPHartLoadsh
import Derived.Test.YtlpmhfgcbfjpfaaGreatDoorPHartLoadsi
import Derived.Test.YtlpmhfgcbfjpfaaGreatDoorPHartLoadsj
import Derived.Test.YtlpmhfgcbfjpfaaGreatDoorPHartLoadsk
import Derived.Test.YtlpmhfgcbfjpfaaGreatDoorPHartLoadsl
import Derived.Test.YtlpmhfgcbfjpfaaGreatDoorPHartLoadsm
import Derived.Test.YtlpmhfgcbfjpfaaGreatDoorPHartLoadsn
import Derived.Test.YtlpmhfgcbfjpfaaGreatDoorPHartLoadso
import Derived.Test.YtlpmhfgcbfjpfaaGreatDoorPHartLoadsp
namespace Go.Proofs.YtlpmhfgcbfjpfaaGreatDoor.hartLoads
open Go.Sx Go.ChangeShapes Go.WideShapes Go.ChangeAt Go.RowKit
set_option linter.unusedVariables false
set_option linter.unusedSimpArgs false
set_option maxRecDepth 1000000

theorem sl1_0 : sk1_0.holes [] = [[true, true], [true, false, true], [true, false, false, true], [false, true], [false, false, true], [false, false, false, true], List.replicate 4 false ++ [true], List.replicate 5 false ++ [true]] := by rfl
theorem ck1_0 : chkL pcX (accT G 2 64 af6.res Ts2) M1_0 T1_0.pc = true := chkSk_sound sc1_0 fun p hp => allP_mem (q := fun p => chkL pcX (accT G 2 64 af6.res Ts2) (M1_0.go p) (M1_0.pcGo p T1_0.pc) = true) (l := [[true, true], [true, false, true], [true, false, false, true], [false, true], [false, false, true], [false, false, false, true], List.replicate 4 false ++ [true], List.replicate 5 false ++ [true]]) ⟨h1_0_0, h1_0_1, h1_0_2, h1_0_3, h1_0_4, h1_0_5, h1_0_6, h1_0_7, trivial⟩ p (sl1_0 ▸ hp)
theorem sl3_0 : sk3_0.holes [] = [[true, true], [true, false], [false, true], [false, false]] := by rfl
theorem ck3_0 : chkL pcX (accT G 2 64 af6.res Ts4) M3_0 T3_0.pc = true := chkSk_sound sc3_0 fun p hp => allP_mem (q := fun p => chkL pcX (accT G 2 64 af6.res Ts4) (M3_0.go p) (M3_0.pcGo p T3_0.pc) = true) (l := [[true, true], [true, false], [false, true], [false, false]]) ⟨h3_0_0, h3_0_1, h3_0_2, h3_0_3, trivial⟩ p (sl3_0 ▸ hp)
theorem sl3_1 : sk3_1.holes [] = [[true, true], [true, false], [false, true], [false, false]] := by rfl
theorem ck3_1 : chkL pcX (accT G 2 64 af6.res Ts4) M3_1 T3_1.pc = true := chkSk_sound sc3_1 fun p hp => allP_mem (q := fun p => chkL pcX (accT G 2 64 af6.res Ts4) (M3_1.go p) (M3_1.pcGo p T3_1.pc) = true) (l := [[true, true], [true, false], [false, true], [false, false]]) ⟨h3_1_0, h3_1_1, h3_1_2, h3_1_3, trivial⟩ p (sl3_1 ▸ hp)
theorem sl3_2 : sk3_2.holes [] = [[true, true], [true, false], [false, true], [false, false]] := by rfl
theorem ck3_2 : chkL pcX (accT G 2 64 af6.res Ts4) M3_2 T3_2.pc = true := chkSk_sound sc3_2 fun p hp => allP_mem (q := fun p => chkL pcX (accT G 2 64 af6.res Ts4) (M3_2.go p) (M3_2.pcGo p T3_2.pc) = true) (l := [[true, true], [true, false], [false, true], [false, false]]) ⟨h3_2_0, h3_2_1, h3_2_2, h3_2_3, trivial⟩ p (sl3_2 ▸ hp)
theorem sl3_3 : sk3_3.holes [] = [[true, true], [true, false], [false, true], [false, false]] := by rfl
theorem ck3_3 : chkL pcX (accT G 2 64 af6.res Ts4) M3_3 T3_3.pc = true := chkSk_sound sc3_3 fun p hp => allP_mem (q := fun p => chkL pcX (accT G 2 64 af6.res Ts4) (M3_3.go p) (M3_3.pcGo p T3_3.pc) = true) (l := [[true, true], [true, false], [false, true], [false, false]]) ⟨h3_3_0, h3_3_1, h3_3_2, h3_3_3, trivial⟩ p (sl3_3 ▸ hp)
theorem sl3_4 : sk3_4.holes [] = [[true, true], [true, false], [false, true], [false, false]] := by rfl
theorem ck3_4 : chkL pcX (accT G 2 64 af6.res Ts4) M3_4 T3_4.pc = true := chkSk_sound sc3_4 fun p hp => allP_mem (q := fun p => chkL pcX (accT G 2 64 af6.res Ts4) (M3_4.go p) (M3_4.pcGo p T3_4.pc) = true) (l := [[true, true], [true, false], [false, true], [false, false]]) ⟨h3_4_0, h3_4_1, h3_4_2, h3_4_3, trivial⟩ p (sl3_4 ▸ hp)
theorem sl3_5 : sk3_5.holes [] = [[true, true], [true, false], [false, true], [false, false]] := by rfl
theorem ck3_5 : chkL pcX (accT G 2 64 af6.res Ts4) M3_5 T3_5.pc = true := chkSk_sound sc3_5 fun p hp => allP_mem (q := fun p => chkL pcX (accT G 2 64 af6.res Ts4) (M3_5.go p) (M3_5.pcGo p T3_5.pc) = true) (l := [[true, true], [true, false], [false, true], [false, false]]) ⟨h3_5_0, h3_5_1, h3_5_2, h3_5_3, trivial⟩ p (sl3_5 ▸ hp)
theorem sl3_6 : sk3_6.holes [] = [[true, true], [true, false], [false, true], [false, false]] := by rfl
theorem ck3_6 : chkL pcX (accT G 2 64 af6.res Ts4) M3_6 T3_6.pc = true := chkSk_sound sc3_6 fun p hp => allP_mem (q := fun p => chkL pcX (accT G 2 64 af6.res Ts4) (M3_6.go p) (M3_6.pcGo p T3_6.pc) = true) (l := [[true, true], [true, false], [false, true], [false, false]]) ⟨h3_6_0, h3_6_1, h3_6_2, h3_6_3, trivial⟩ p (sl3_6 ▸ hp)
theorem sl3_7 : sk3_7.holes [] = [[true, true], [true, false], [false, true], [false, false]] := by rfl
theorem ck3_7 : chkL pcX (accT G 2 64 af6.res Ts4) M3_7 T3_7.pc = true := chkSk_sound sc3_7 fun p hp => allP_mem (q := fun p => chkL pcX (accT G 2 64 af6.res Ts4) (M3_7.go p) (M3_7.pcGo p T3_7.pc) = true) (l := [[true, true], [true, false], [false, true], [false, false]]) ⟨h3_7_0, h3_7_1, h3_7_2, h3_7_3, trivial⟩ p (sl3_7 ▸ hp)
theorem slF_1 : skF_1.holes [] = [[true], [false]] := by rfl
theorem ckF_1 : chkL pcX (accF G af6.res) MF_1 T4_1.pc = true := chkSk_sound scF_1 fun p hp => allP_mem (q := fun p => chkL pcX (accF G af6.res) (MF_1.go p) (MF_1.pcGo p T4_1.pc) = true) (l := [[true], [false]]) ⟨hF_1_0, hF_1_1, trivial⟩ p (slF_1 ▸ hp)
theorem slF_2 : skF_2.holes [] = [[true], [false]] := by rfl
theorem ckF_2 : chkL pcX (accF G af6.res) MF_2 T4_2.pc = true := chkSk_sound scF_2 fun p hp => allP_mem (q := fun p => chkL pcX (accF G af6.res) (MF_2.go p) (MF_2.pcGo p T4_2.pc) = true) (l := [[true], [false]]) ⟨hF_2_0, hF_2_1, trivial⟩ p (slF_2 ▸ hp)
theorem slF_3 : skF_3.holes [] = [[true], [false]] := by rfl
theorem ckF_3 : chkL pcX (accF G af6.res) MF_3 T4_3.pc = true := chkSk_sound scF_3 fun p hp => allP_mem (q := fun p => chkL pcX (accF G af6.res) (MF_3.go p) (MF_3.pcGo p T4_3.pc) = true) (l := [[true], [false]]) ⟨hF_3_0, hF_3_1, trivial⟩ p (slF_3 ▸ hp)
theorem slF_5 : skF_5.holes [] = [[true, true], [true, false], [false]] := by rfl
theorem ckF_5 : chkL pcX (accF G af6.res) MF_5 T4_5.pc = true := chkSk_sound scF_5 fun p hp => allP_mem (q := fun p => chkL pcX (accF G af6.res) (MF_5.go p) (MF_5.pcGo p T4_5.pc) = true) (l := [[true, true], [true, false], [false]]) ⟨hF_5_0, hF_5_1, hF_5_2, trivial⟩ p (slF_5 ▸ hp)
theorem slF_6 : skF_6.holes [] = [[true], [false]] := by rfl
theorem ckF_6 : chkL pcX (accF G af6.res) MF_6 T4_6.pc = true := chkSk_sound scF_6 fun p hp => allP_mem (q := fun p => chkL pcX (accF G af6.res) (MF_6.go p) (MF_6.pcGo p T4_6.pc) = true) (l := [[true], [false]]) ⟨hF_6_0, hF_6_1, trivial⟩ p (slF_6 ▸ hp)
theorem slF_7 : skF_7.holes [] = [[true], [false]] := by rfl
theorem ckF_7 : chkL pcX (accF G af6.res) MF_7 T4_7.pc = true := chkSk_sound scF_7 fun p hp => allP_mem (q := fun p => chkL pcX (accF G af6.res) (MF_7.go p) (MF_7.pcGo p T4_7.pc) = true) (l := [[true], [false]]) ⟨hF_7_0, hF_7_1, trivial⟩ p (slF_7 ▸ hp)
theorem w4 (fn : Func) (hrc : cRes Tryz.prog fn.results.toList = some af6.res) (W : World) (c : Code) (hc : cCode Tryz.prog c = some B4) : ∀ T ∈ Ts4, ∀ a w, Sat CL.G W T a w → c.wp Tryz.prog (bodyPost Tryz.prog fn (Done W)) a w := by
  intro T hT
  simp only [Ts4, List.mem_cons, List.not_mem_nil, or_false] at hT
  rcases hT with rfl | rfl | rfl | rfl | rfl | rfl | rfl | rfl
  · exact fin_wp (C := CL) mixed hF (cfgT_S doorH_ok G_lt VTL) (fun V B => cfgT_L V B) hrc hc ckF_0
  · exact fin_wp (C := CL) mixed hF (cfgT_S doorH_ok G_lt VTL) (fun V B => cfgT_L V B) hrc hc ckF_1
  · exact fin_wp (C := CL) mixed hF (cfgT_S doorH_ok G_lt VTL) (fun V B => cfgT_L V B) hrc hc ckF_2
  · exact fin_wp (C := CL) mixed hF (cfgT_S doorH_ok G_lt VTL) (fun V B => cfgT_L V B) hrc hc ckF_3
  · exact fin_wp (C := CL) mixed hF (cfgT_S doorH_ok G_lt VTL) (fun V B => cfgT_L V B) hrc hc ckF_4
  · exact fin_wp (C := CL) mixed hF (cfgT_S doorH_ok G_lt VTL) (fun V B => cfgT_L V B) hrc hc ckF_5
  · exact fin_wp (C := CL) mixed hF (cfgT_S doorH_ok G_lt VTL) (fun V B => cfgT_L V B) hrc hc ckF_6
  · exact fin_wp (C := CL) mixed hF (cfgT_S doorH_ok G_lt VTL) (fun V B => cfgT_L V B) hrc hc ckF_7
theorem w3 (fn : Func) (hrc : cRes Tryz.prog fn.results.toList = some af6.res) (W : World) (c : Code) (hc : cCode Tryz.prog c = some B3) : ∀ T ∈ Ts3, ∀ a w, Sat CL.G W T a w → c.wp Tryz.prog (bodyPost Tryz.prog fn (Done W)) a w := by
  intro T hT
  simp only [Ts3, List.mem_cons, List.not_mem_nil, or_false] at hT
  rcases hT with rfl | rfl | rfl | rfl | rfl | rfl | rfl | rfl
  · exact cut_wp (C := CL) mixed hF (cfgT_S doorH_ok G_lt VTL) (fun V B => cfgT_L V B) hrc G_lt' hc ck3_0 fun T' hT' a w hs => w4 fn hrc W _ (suf_ok hc) T' hT' a w hs
  · exact cut_wp (C := CL) mixed hF (cfgT_S doorH_ok G_lt VTL) (fun V B => cfgT_L V B) hrc G_lt' hc ck3_1 fun T' hT' a w hs => w4 fn hrc W _ (suf_ok hc) T' hT' a w hs
  · exact cut_wp (C := CL) mixed hF (cfgT_S doorH_ok G_lt VTL) (fun V B => cfgT_L V B) hrc G_lt' hc ck3_2 fun T' hT' a w hs => w4 fn hrc W _ (suf_ok hc) T' hT' a w hs
  · exact cut_wp (C := CL) mixed hF (cfgT_S doorH_ok G_lt VTL) (fun V B => cfgT_L V B) hrc G_lt' hc ck3_3 fun T' hT' a w hs => w4 fn hrc W _ (suf_ok hc) T' hT' a w hs
  · exact cut_wp (C := CL) mixed hF (cfgT_S doorH_ok G_lt VTL) (fun V B => cfgT_L V B) hrc G_lt' hc ck3_4 fun T' hT' a w hs => w4 fn hrc W _ (suf_ok hc) T' hT' a w hs
  · exact cut_wp (C := CL) mixed hF (cfgT_S doorH_ok G_lt VTL) (fun V B => cfgT_L V B) hrc G_lt' hc ck3_5 fun T' hT' a w hs => w4 fn hrc W _ (suf_ok hc) T' hT' a w hs
  · exact cut_wp (C := CL) mixed hF (cfgT_S doorH_ok G_lt VTL) (fun V B => cfgT_L V B) hrc G_lt' hc ck3_6 fun T' hT' a w hs => w4 fn hrc W _ (suf_ok hc) T' hT' a w hs
  · exact cut_wp (C := CL) mixed hF (cfgT_S doorH_ok G_lt VTL) (fun V B => cfgT_L V B) hrc G_lt' hc ck3_7 fun T' hT' a w hs => w4 fn hrc W _ (suf_ok hc) T' hT' a w hs
theorem w2 (fn : Func) (hrc : cRes Tryz.prog fn.results.toList = some af6.res) (W : World) (c : Code) (hc : cCode Tryz.prog c = some B2) : ∀ T ∈ Ts2, ∀ a w, Sat CL.G W T a w → c.wp Tryz.prog (bodyPost Tryz.prog fn (Done W)) a w := by
  intro T hT
  simp only [Ts2, List.mem_cons, List.not_mem_nil, or_false] at hT
  rcases hT with rfl | rfl | rfl | rfl | rfl | rfl | rfl | rfl
  · exact cut_wp (C := CL) mixed hF (cfgT_S doorH_ok G_lt VTL) (fun V B => cfgT_L V B) hrc G_lt' hc ck2_0 fun T' hT' a w hs => w3 fn hrc W _ (suf_ok hc) T' hT' a w hs
  · exact cut_wp (C := CL) mixed hF (cfgT_S doorH_ok G_lt VTL) (fun V B => cfgT_L V B) hrc G_lt' hc ck2_1 fun T' hT' a w hs => w3 fn hrc W _ (suf_ok hc) T' hT' a w hs
  · exact cut_wp (C := CL) mixed hF (cfgT_S doorH_ok G_lt VTL) (fun V B => cfgT_L V B) hrc G_lt' hc ck2_2 fun T' hT' a w hs => w3 fn hrc W _ (suf_ok hc) T' hT' a w hs
  · exact cut_wp (C := CL) mixed hF (cfgT_S doorH_ok G_lt VTL) (fun V B => cfgT_L V B) hrc G_lt' hc ck2_3 fun T' hT' a w hs => w3 fn hrc W _ (suf_ok hc) T' hT' a w hs
  · exact cut_wp (C := CL) mixed hF (cfgT_S doorH_ok G_lt VTL) (fun V B => cfgT_L V B) hrc G_lt' hc ck2_4 fun T' hT' a w hs => w3 fn hrc W _ (suf_ok hc) T' hT' a w hs
  · exact cut_wp (C := CL) mixed hF (cfgT_S doorH_ok G_lt VTL) (fun V B => cfgT_L V B) hrc G_lt' hc ck2_5 fun T' hT' a w hs => w3 fn hrc W _ (suf_ok hc) T' hT' a w hs
  · exact cut_wp (C := CL) mixed hF (cfgT_S doorH_ok G_lt VTL) (fun V B => cfgT_L V B) hrc G_lt' hc ck2_6 fun T' hT' a w hs => w3 fn hrc W _ (suf_ok hc) T' hT' a w hs
  · exact cut_wp (C := CL) mixed hF (cfgT_S doorH_ok G_lt VTL) (fun V B => cfgT_L V B) hrc G_lt' hc ck2_7 fun T' hT' a w hs => w3 fn hrc W _ (suf_ok hc) T' hT' a w hs
theorem w1 (fn : Func) (hrc : cRes Tryz.prog fn.results.toList = some af6.res) (W : World) (c : Code) (hc : cCode Tryz.prog c = some B1) : ∀ T ∈ Ts1, ∀ a w, Sat CL.G W T a w → c.wp Tryz.prog (bodyPost Tryz.prog fn (Done W)) a w := by
  intro T hT
  simp only [Ts1, List.mem_cons, List.not_mem_nil, or_false] at hT
  subst hT
  exact cut_wp (C := CL) mixed hF (cfgT_S doorH_ok G_lt VTL) (fun V B => cfgT_L V B) hrc G_lt' hc ck1_0 fun T' hT' a w hs => w2 fn hrc W _ (suf_ok hc) T' hT' a w hs
theorem w0 (fn : Func) (hrc : cRes Tryz.prog fn.results.toList = some af6.res) (W : World) (c : Code) (hc : cCode Tryz.prog c = some B0) : ∀ T ∈ Ts0, ∀ a w, Sat CL.G W T a w → c.wp Tryz.prog (bodyPost Tryz.prog fn (Done W)) a w := by
  intro T hT
  simp only [Ts0, List.mem_cons, List.not_mem_nil, or_false] at hT
  subst hT
  exact cut_wp (C := CL) mixed hF (cfgT_S doorH_ok G_lt VTL) (fun V B => cfgT_L V B) hrc G_lt' hc ck0_0 fun T' hT' a w hs => w1 fn hrc W _ (suf_ok hc) T' hT' a w hs
theorem walk (W : World) (base : Nat) (args : Array Value) (hl : args.size = Tryz.f6.params.size) (hval : ∀ (j : Nat) t v, Tryz.f6.params[j]? = some t → args[j]? = some v → Value.okWide Tryz.prog W .any base t v)
    (hD : ∀ V, ∃ ι, HRel V ι W.heap.size doorH W ∧ GRel G ι ∧ ∀ id cs, doorH.get id ≠ some (.cells cs false)) :
    Calls Tryz.prog 6 args W fun e w' => e = .returned (.bool true) ∧ Grown W w' := by
  obtain ⟨h1, h2⟩ := open_args (P := Tryz.prog) (W := W) (r := .any) (base := base) (all := cellsAll args.toList) (i := 0) (ss := shs) (ts := Tryz.f6.params.toList) (vs := args.toList) (by kernel_rfl) (by simpa using hl)
    (fun j t v h h' => hval j t v (by simpa using h) (by simpa using h')) (fun j v h => by simpa using h)
  have hf : Fits (valOf (cellsAll args.toList)) 0 (allK shs) := fits_of h2 (fun j v h => by simpa using h)
  obtain ⟨ι, d1, d2, d3⟩ := hD (valOf (cellsAll args.toList))
  have h3 : Calls Tryz.prog 6 args.toList.toArray W (Done W) := law_parts (C := CL) (W := W) hF (f := 6) (af := af6) rfl (args := symAs 0 shs) (D := doorH) (T0 := T0_0) (by kernel_rfl) rfl (by kernel_rfl) (fun j => rfl) rfl
    (fun fn c hc hrc a w hs => w0 fn hrc W c hc T0_0 (List.mem_cons_self ..) a w hs) (valOf (cellsAll args.toList)) (seeds_hold hf _) (VRels.mono (fun id l h => by cases h) _ _ h1) d1 d2
  have h4 : Calls Tryz.prog 6 args.toList.toArray W fun e w' => e = .returned (.bool true) ∧ Grown W w' := h3
  simpa using h4

theorem gtypes : ∃ ti te ts ms f, ErrTypes Tryz.prog ti 212 te ts ms f ∧ doorFits Tryz.prog ti doorL = true := by
  refine ⟨31, 228, 9, _, _, ⟨Tryz.underlying31, ?_, Tryz.underlying212, Tryz.underlying228, rfl, rfl, Tryz.underlying9, by kernel_rfl, by kernel_rfl⟩, by kernel_rfl⟩
  have e : "*" ++ "errors.errorString" = "*errors.errorString" := by decide
  intro u hu
  exact typeName_ptr_named (nm := "errors.errorString") (by rw [e]; kernel_rfl) (by kernel_rfl) (by decide) u (by rw [e]; exact hu)
theorem laid_eq : Rows.hartLoadsRow.laid = dlaid doorL := by rfl
set_option maxHeartbeats 0 in
set_option maxRecDepth 100000 in
theorem lifted (os : Os) (started : os.Started) (H : Type) (enc : TypeId × Value → H) :
    ReturnsInHanded {} Tryz.checked os 6 .any (fun w args => (Rows.hartLoadsSpec.pre enc Tryz.prog Tryz.f6 Rows.hartLoadsRow.domain false w args ∧ laidMetH Tryz.prog Rows.hartLoadsRow.laid w) ∧ sizedMet enc Tryz.prog Tryz.f6 (OpenSpec.ofChange Rows.hartLoadsSpec) false w args)
      (Rows.hartLoadsSpec.post enc Tryz.prog Tryz.f6 false true false false) := by
  refine returnsInHanded_of_change_and (C := Tryz.checked) (X := fun w _ => laidMetH Tryz.prog Rows.hartLoadsRow.laid w) (fun _ _ _ hh h => h.of_heap hh) own started (by kernel_rfl) Tryz.func6
    (ChangeSpec.witness_shaped (enc := enc) (C := Tryz.checked) (os := os) (X := fun w _ => laidMetH Tryz.prog Rows.hartLoadsRow.laid w) false (World.laidAll Tryz.prog os Rows.hartLoadsRow.laid) #[.int .i64 0, .int .u32 0, .int .u32 0, .bool false] 8 (World.laidAll_os _ _ _)
      (World.shaped_of_ZipB (by kernel_rfl) (by kernel_rfl)) (by kernel_rfl) (by kernel_rfl) (by kernel_rfl)
      (by rw [MakeChecks.laidMetH_plain _ _ _ (by kernel_rfl)]; exact laidMet_laidAll _ (by kernel_rfl) (by kernel_rfl))) ?_
  intro W base args ds gs before hval0 hW hcnd _ hL _
  have hW' := hW
  obtain ⟨p, q, hA0, hV, hpq, hfz, hnd⟩ := hW
  obtain ⟨rfl, rfl⟩ := trodVars_none (show DataW.TrodVars enc Tryz.prog W (fun _ => true) [] gs q from hV)
  have hl : args.size = Tryz.f6.params.size := by
    have := trodAll_len hA0
    simpa using this
  rw [MakeChecks.laidMetH_plain _ _ _ (by kernel_rfl), laid_eq] at hL
  obtain ⟨ti, te, ts, ms, fl, E, hfit⟩ := gtypes
  refine (walk W base args hl hval0 fun V => door_rel E hfit hL doorH_eq).mono fun e W' ⟨he, hg⟩ => ?_
  subst he
  exact ⟨_, rfl, post_plain (dep := 10) (rt := 4) hW' rfl (by kernel_rfl) (fun h => by
    match ds, h with
    | [_, _, _, _], _ => rfl) rfl Tryz.underlying4 hg⟩

theorem over : Rows.hartLoadsRow.holds Tryz.pinned (OpenSpec.ofChange Rows.hartLoadsSpec) :=
  OpenClaim.holds_of_wide 6 Tryz.f6 rfl rfl rfl rfl rfl rfl rfl ⟨rfl, rfl, rfl, rfl, rfl⟩ rfl rfl rfl rfl rfl (by kernel_rfl) Tryz.func6 (by kernel_rfl)
    (of_decide_eq_true (by kernel_rfl)) (by unfold Func.isWrapper; first | (rw [if_pos (by decide +kernel)]; kernel_rfl) | (rw [if_neg (by decide +kernel)]; exact ⟨rfl, rfl⟩))
    (fun os started H enc _ => lifted os started H enc)

theorem proved : Rows.HartLoadsCardSaid :=
  Claim7.holds_tied_plain_at .later [] [.sentinel] true (true, "0ba36d95a03b9579a1d5ba4b4fd82659981c0e4cb7266cccfcee37d622a7beeb") true
    over (fun _ h => by cases h) (by kernel_rfl) (fun _ h => by cases h) hartLoads_row_tie rfl ⟨rfl, rfl⟩ (by kernel_rfl) rfl
    (fun f fn hf hfn => by
      obtain rfl : f = 6 := Option.some.inj ((show Tryz.prog.funcNamed "corral/corrallaw10.HartLoads" = some 6 by kernel_rfl).symm.trans hf) |>.symm
      obtain rfl : fn = Tryz.f6 := (Option.some.inj (Tryz.func6.symm.trans hfn)).symm
      exact ⟨by kernel_rfl, fun j t ht => by
        have hall : (Tryz.f6.params.toList.all fun t => !(Tryz.prog.wantsStandIn t)) = true := by kernel_rfl
        have := List.all_eq_true.1 hall t (List.mem_of_getElem? (by simpa using ht))
        have h2 : Tryz.prog.wantsStandIn t = false := by simpa using this
        exact h2⟩)
    (by kernel_rfl)
#print axioms proved
end Go.Proofs.YtlpmhfgcbfjpfaaGreatDoor.hartLoads
