/- IsaNames: names, kinds and used fields are those of the table. No condition. -/
import Derived.Test.YtagaclifeoiepabDoorQIsaNames
import Derived.Test.YtagaclifeoiepabDoorPIsaNamesa
import Derived.Test.YtagaclifeoiepabDoorPIsaNamesb
import Derived.Test.YtagaclifeoiepabDoorPIsaNamesc
import Derived.Test.YtagaclifeoiepabDoorPIsaNamesd
import Derived.Test.YtagaclifeoiepabDoorPIsaNamese
import Derived.Test.YtagaclifeoiepabDoorPIsaNamesf
import Derived.Test.YtagaclifeoiepabDoorPIsaNamesg
import Derived.Test.YtagaclifeoiepabDoorPIsaNamesh
import Derived.Test.YtagaclifeoiepabDoorPIsaNamesi
import Derived.Test.YtagaclifeoiepabDoorPIsaNamesj
import Derived.Test.YtagaclifeoiepabDoorPIsaNamesk
import Derived.Test.YtagaclifeoiepabDoorPIsaNamesl
import Derived.Test.YtagaclifeoiepabDoorPIsaNameso
import Derived.Test.YtagaclifeoiepabDoorPIsaNamesp
import Derived.Test.YtagaclifeoiepabDoorPIsaNamesq
import Derived.Test.YtagaclifeoiepabDoorPIsaNamesr
import Derived.Test.YtagaclifeoiepabDoorPIsaNamess
import Derived.Test.YtagaclifeoiepabDoorPIsaNamesw
import Derived.Test.YtagaclifeoiepabDoorPIsaNamesu
namespace Go.Proofs.YtagaclifeoiepabDoor.isaNames
open Go.Sx Go.ChangeShapes Go.WideShapes Go.ChangeAt Go.RowKit
set_option linter.unusedVariables false
set_option linter.unusedSimpArgs false
set_option maxRecDepth 1000000

theorem sl1_0 : sk1_0.holes [] = [[true], [false, true], [false, false, true], [false, false, false, true], List.replicate 4 false ++ [true], List.replicate 5 false ++ [true], List.replicate 6 false ++ [true], List.replicate 7 false ++ [true], List.replicate 8 false ++ [true], List.replicate 9 false ++ [true], List.replicate 10 false ++ [true], List.replicate 11 false ++ [true], List.replicate 12 false ++ [true], List.replicate 13 false ++ [true], List.replicate 14 false ++ [true], List.replicate 15 false ++ [true], List.replicate 16 false ++ [true], List.replicate 17 false ++ [true], List.replicate 18 false ++ [true], List.replicate 19 false ++ [true], List.replicate 20 false ++ [true], List.replicate 21 false ++ [true], List.replicate 22 false ++ [true], List.replicate 23 false ++ [true], List.replicate 24 false ++ [true], List.replicate 25 false ++ [true], List.replicate 26 false ++ [true], List.replicate 27 false ++ [true], List.replicate 28 false ++ [true], List.replicate 29 false ++ [true], List.replicate 30 false ++ [true], List.replicate 31 false ++ [true], List.replicate 32 false ++ [true], List.replicate 33 false ++ [true], List.replicate 34 false ++ [true], List.replicate 35 false ++ [true], List.replicate 36 false ++ [true], List.replicate 37 false ++ [true], List.replicate 38 false ++ [true], List.replicate 39 false ++ [true], List.replicate 40 false ++ [true], List.replicate 41 false ++ [true], List.replicate 42 false ++ [true], List.replicate 43 false ++ [true], List.replicate 44 false ++ [true], List.replicate 45 false ++ [true], List.replicate 46 false ++ [true], List.replicate 47 false ++ [true], List.replicate 48 false ++ [true], List.replicate 49 false ++ [true], List.replicate 50 false ++ [true], List.replicate 51 false ++ [true], List.replicate 52 false ++ [true], List.replicate 53 false ++ [true], List.replicate 54 false ++ [true], List.replicate 55 false ++ [true], List.replicate 56 false ++ [true], List.replicate 57 false ++ [true], List.replicate 58 false ++ [true], List.replicate 59 false ++ [true], List.replicate 60 false ++ [true], List.replicate 61 false ++ [true], List.replicate 62 false ++ [true], List.replicate 63 false ++ [true], List.replicate 64 false] := by rfl
theorem ck1_0 : chkL pcX (accT G 22 64 af6.res Ts2) M1_0 T1_0.pc = true := chkSk_sound sc1_0 fun p hp => allP_mem (q := fun p => chkL pcX (accT G 22 64 af6.res Ts2) (M1_0.go p) (M1_0.pcGo p T1_0.pc) = true) (l := [[true], [false, true], [false, false, true], [false, false, false, true], List.replicate 4 false ++ [true], List.replicate 5 false ++ [true], List.replicate 6 false ++ [true], List.replicate 7 false ++ [true], List.replicate 8 false ++ [true], List.replicate 9 false ++ [true], List.replicate 10 false ++ [true], List.replicate 11 false ++ [true], List.replicate 12 false ++ [true], List.replicate 13 false ++ [true], List.replicate 14 false ++ [true], List.replicate 15 false ++ [true], List.replicate 16 false ++ [true], List.replicate 17 false ++ [true], List.replicate 18 false ++ [true], List.replicate 19 false ++ [true], List.replicate 20 false ++ [true], List.replicate 21 false ++ [true], List.replicate 22 false ++ [true], List.replicate 23 false ++ [true], List.replicate 24 false ++ [true], List.replicate 25 false ++ [true], List.replicate 26 false ++ [true], List.replicate 27 false ++ [true], List.replicate 28 false ++ [true], List.replicate 29 false ++ [true], List.replicate 30 false ++ [true], List.replicate 31 false ++ [true], List.replicate 32 false ++ [true], List.replicate 33 false ++ [true], List.replicate 34 false ++ [true], List.replicate 35 false ++ [true], List.replicate 36 false ++ [true], List.replicate 37 false ++ [true], List.replicate 38 false ++ [true], List.replicate 39 false ++ [true], List.replicate 40 false ++ [true], List.replicate 41 false ++ [true], List.replicate 42 false ++ [true], List.replicate 43 false ++ [true], List.replicate 44 false ++ [true], List.replicate 45 false ++ [true], List.replicate 46 false ++ [true], List.replicate 47 false ++ [true], List.replicate 48 false ++ [true], List.replicate 49 false ++ [true], List.replicate 50 false ++ [true], List.replicate 51 false ++ [true], List.replicate 52 false ++ [true], List.replicate 53 false ++ [true], List.replicate 54 false ++ [true], List.replicate 55 false ++ [true], List.replicate 56 false ++ [true], List.replicate 57 false ++ [true], List.replicate 58 false ++ [true], List.replicate 59 false ++ [true], List.replicate 60 false ++ [true], List.replicate 61 false ++ [true], List.replicate 62 false ++ [true], List.replicate 63 false ++ [true], List.replicate 64 false]) ⟨h1_0_0, h1_0_1, h1_0_2, h1_0_3, h1_0_4, h1_0_5, h1_0_6, h1_0_7, h1_0_8, h1_0_9, h1_0_10, h1_0_11, h1_0_12, h1_0_13, h1_0_14, h1_0_15, h1_0_16, h1_0_17, h1_0_18, h1_0_19, h1_0_20, h1_0_21, h1_0_22, h1_0_23, h1_0_24, h1_0_25, h1_0_26, h1_0_27, h1_0_28, h1_0_29, h1_0_30, h1_0_31, h1_0_32, h1_0_33, h1_0_34, h1_0_35, h1_0_36, h1_0_37, h1_0_38, h1_0_39, h1_0_40, h1_0_41, h1_0_42, h1_0_43, h1_0_44, h1_0_45, h1_0_46, h1_0_47, h1_0_48, h1_0_49, h1_0_50, h1_0_51, h1_0_52, h1_0_53, h1_0_54, h1_0_55, h1_0_56, h1_0_57, h1_0_58, h1_0_59, h1_0_60, h1_0_61, h1_0_62, h1_0_63, h1_0_64, trivial⟩ p (sl1_0 ▸ hp)
theorem sl2_0 : sk2_0.holes [] = [[true], [false, true], [false, false, true], [false, false, false, true], List.replicate 4 false ++ [true], List.replicate 5 false ++ [true], List.replicate 6 false ++ [true], List.replicate 7 false ++ [true], List.replicate 8 false ++ [true], List.replicate 9 false ++ [true], List.replicate 10 false ++ [true], List.replicate 11 false ++ [true], List.replicate 12 false ++ [true], List.replicate 13 false ++ [true], List.replicate 14 false ++ [true], List.replicate 15 false ++ [true], List.replicate 16 false ++ [true], List.replicate 17 false ++ [true], List.replicate 18 false ++ [true], List.replicate 19 false ++ [true], List.replicate 20 false ++ [true], List.replicate 21 false ++ [true], List.replicate 22 false ++ [true], List.replicate 23 false ++ [true], List.replicate 24 false ++ [true], List.replicate 25 false ++ [true], List.replicate 26 false ++ [true], List.replicate 27 false ++ [true], List.replicate 28 false ++ [true], List.replicate 29 false ++ [true], List.replicate 30 false ++ [true], List.replicate 31 false ++ [true], List.replicate 32 false ++ [true], List.replicate 33 false ++ [true], List.replicate 34 false ++ [true], List.replicate 35 false ++ [true], List.replicate 36 false ++ [true], List.replicate 37 false ++ [true], List.replicate 38 false ++ [true], List.replicate 39 false ++ [true], List.replicate 40 false ++ [true], List.replicate 41 false ++ [true], List.replicate 42 false ++ [true], List.replicate 43 false ++ [true], List.replicate 44 false ++ [true], List.replicate 45 false ++ [true], List.replicate 46 false ++ [true], List.replicate 47 false ++ [true], List.replicate 48 false ++ [true], List.replicate 49 false ++ [true], List.replicate 50 false ++ [true], List.replicate 51 false ++ [true], List.replicate 52 false ++ [true], List.replicate 53 false ++ [true], List.replicate 54 false ++ [true], List.replicate 55 false ++ [true], List.replicate 56 false ++ [true], List.replicate 57 false ++ [true], List.replicate 58 false ++ [true], List.replicate 59 false ++ [true], List.replicate 60 false ++ [true], List.replicate 61 false ++ [true], List.replicate 62 false] := by rfl
theorem ck2_0 : chkL pcX (accT G 22 64 af6.res Ts3) M2_0 T2_0.pc = true := chkSk_sound sc2_0 fun p hp => allP_mem (q := fun p => chkL pcX (accT G 22 64 af6.res Ts3) (M2_0.go p) (M2_0.pcGo p T2_0.pc) = true) (l := [[true], [false, true], [false, false, true], [false, false, false, true], List.replicate 4 false ++ [true], List.replicate 5 false ++ [true], List.replicate 6 false ++ [true], List.replicate 7 false ++ [true], List.replicate 8 false ++ [true], List.replicate 9 false ++ [true], List.replicate 10 false ++ [true], List.replicate 11 false ++ [true], List.replicate 12 false ++ [true], List.replicate 13 false ++ [true], List.replicate 14 false ++ [true], List.replicate 15 false ++ [true], List.replicate 16 false ++ [true], List.replicate 17 false ++ [true], List.replicate 18 false ++ [true], List.replicate 19 false ++ [true], List.replicate 20 false ++ [true], List.replicate 21 false ++ [true], List.replicate 22 false ++ [true], List.replicate 23 false ++ [true], List.replicate 24 false ++ [true], List.replicate 25 false ++ [true], List.replicate 26 false ++ [true], List.replicate 27 false ++ [true], List.replicate 28 false ++ [true], List.replicate 29 false ++ [true], List.replicate 30 false ++ [true], List.replicate 31 false ++ [true], List.replicate 32 false ++ [true], List.replicate 33 false ++ [true], List.replicate 34 false ++ [true], List.replicate 35 false ++ [true], List.replicate 36 false ++ [true], List.replicate 37 false ++ [true], List.replicate 38 false ++ [true], List.replicate 39 false ++ [true], List.replicate 40 false ++ [true], List.replicate 41 false ++ [true], List.replicate 42 false ++ [true], List.replicate 43 false ++ [true], List.replicate 44 false ++ [true], List.replicate 45 false ++ [true], List.replicate 46 false ++ [true], List.replicate 47 false ++ [true], List.replicate 48 false ++ [true], List.replicate 49 false ++ [true], List.replicate 50 false ++ [true], List.replicate 51 false ++ [true], List.replicate 52 false ++ [true], List.replicate 53 false ++ [true], List.replicate 54 false ++ [true], List.replicate 55 false ++ [true], List.replicate 56 false ++ [true], List.replicate 57 false ++ [true], List.replicate 58 false ++ [true], List.replicate 59 false ++ [true], List.replicate 60 false ++ [true], List.replicate 61 false ++ [true], List.replicate 62 false]) ⟨h2_0_0, h2_0_1, h2_0_2, h2_0_3, h2_0_4, h2_0_5, h2_0_6, h2_0_7, h2_0_8, h2_0_9, h2_0_10, h2_0_11, h2_0_12, h2_0_13, h2_0_14, h2_0_15, h2_0_16, h2_0_17, h2_0_18, h2_0_19, h2_0_20, h2_0_21, h2_0_22, h2_0_23, h2_0_24, h2_0_25, h2_0_26, h2_0_27, h2_0_28, h2_0_29, h2_0_30, h2_0_31, h2_0_32, h2_0_33, h2_0_34, h2_0_35, h2_0_36, h2_0_37, h2_0_38, h2_0_39, h2_0_40, h2_0_41, h2_0_42, h2_0_43, h2_0_44, h2_0_45, h2_0_46, h2_0_47, h2_0_48, h2_0_49, h2_0_50, h2_0_51, h2_0_52, h2_0_53, h2_0_54, h2_0_55, h2_0_56, h2_0_57, h2_0_58, h2_0_59, h2_0_60, h2_0_61, h2_0_62, trivial⟩ p (sl2_0 ▸ hp)
theorem sl2_1 : sk2_1.holes [] = [[true], [false, true], [false, false, true], [false, false, false, true], List.replicate 4 false ++ [true], List.replicate 5 false ++ [true], List.replicate 6 false ++ [true], List.replicate 7 false ++ [true], List.replicate 8 false ++ [true], List.replicate 9 false ++ [true], List.replicate 10 false ++ [true], List.replicate 11 false ++ [true], List.replicate 12 false ++ [true], List.replicate 13 false ++ [true], List.replicate 14 false ++ [true], List.replicate 15 false ++ [true], List.replicate 16 false ++ [true], List.replicate 17 false ++ [true], List.replicate 18 false ++ [true], List.replicate 19 false ++ [true], List.replicate 20 false ++ [true], List.replicate 21 false ++ [true], List.replicate 22 false ++ [true], List.replicate 23 false ++ [true], List.replicate 24 false ++ [true], List.replicate 25 false ++ [true], List.replicate 26 false ++ [true], List.replicate 27 false ++ [true], List.replicate 28 false ++ [true], List.replicate 29 false ++ [true], List.replicate 30 false ++ [true], List.replicate 31 false ++ [true], List.replicate 32 false ++ [true], List.replicate 33 false ++ [true], List.replicate 34 false ++ [true], List.replicate 35 false ++ [true], List.replicate 36 false ++ [true], List.replicate 37 false ++ [true], List.replicate 38 false ++ [true], List.replicate 39 false ++ [true], List.replicate 40 false ++ [true], List.replicate 41 false ++ [true], List.replicate 42 false ++ [true], List.replicate 43 false ++ [true], List.replicate 44 false ++ [true], List.replicate 45 false ++ [true], List.replicate 46 false ++ [true], List.replicate 47 false ++ [true], List.replicate 48 false ++ [true], List.replicate 49 false ++ [true], List.replicate 50 false ++ [true], List.replicate 51 false ++ [true], List.replicate 52 false ++ [true], List.replicate 53 false ++ [true], List.replicate 54 false ++ [true], List.replicate 55 false ++ [true], List.replicate 56 false ++ [true], List.replicate 57 false ++ [true], List.replicate 58 false ++ [true], List.replicate 59 false ++ [true], List.replicate 60 false ++ [true], List.replicate 61 false ++ [true], List.replicate 62 false] := by rfl
theorem ck2_1 : chkL pcX (accT G 22 64 af6.res Ts3) M2_1 T2_1.pc = true := chkSk_sound sc2_1 fun p hp => allP_mem (q := fun p => chkL pcX (accT G 22 64 af6.res Ts3) (M2_1.go p) (M2_1.pcGo p T2_1.pc) = true) (l := [[true], [false, true], [false, false, true], [false, false, false, true], List.replicate 4 false ++ [true], List.replicate 5 false ++ [true], List.replicate 6 false ++ [true], List.replicate 7 false ++ [true], List.replicate 8 false ++ [true], List.replicate 9 false ++ [true], List.replicate 10 false ++ [true], List.replicate 11 false ++ [true], List.replicate 12 false ++ [true], List.replicate 13 false ++ [true], List.replicate 14 false ++ [true], List.replicate 15 false ++ [true], List.replicate 16 false ++ [true], List.replicate 17 false ++ [true], List.replicate 18 false ++ [true], List.replicate 19 false ++ [true], List.replicate 20 false ++ [true], List.replicate 21 false ++ [true], List.replicate 22 false ++ [true], List.replicate 23 false ++ [true], List.replicate 24 false ++ [true], List.replicate 25 false ++ [true], List.replicate 26 false ++ [true], List.replicate 27 false ++ [true], List.replicate 28 false ++ [true], List.replicate 29 false ++ [true], List.replicate 30 false ++ [true], List.replicate 31 false ++ [true], List.replicate 32 false ++ [true], List.replicate 33 false ++ [true], List.replicate 34 false ++ [true], List.replicate 35 false ++ [true], List.replicate 36 false ++ [true], List.replicate 37 false ++ [true], List.replicate 38 false ++ [true], List.replicate 39 false ++ [true], List.replicate 40 false ++ [true], List.replicate 41 false ++ [true], List.replicate 42 false ++ [true], List.replicate 43 false ++ [true], List.replicate 44 false ++ [true], List.replicate 45 false ++ [true], List.replicate 46 false ++ [true], List.replicate 47 false ++ [true], List.replicate 48 false ++ [true], List.replicate 49 false ++ [true], List.replicate 50 false ++ [true], List.replicate 51 false ++ [true], List.replicate 52 false ++ [true], List.replicate 53 false ++ [true], List.replicate 54 false ++ [true], List.replicate 55 false ++ [true], List.replicate 56 false ++ [true], List.replicate 57 false ++ [true], List.replicate 58 false ++ [true], List.replicate 59 false ++ [true], List.replicate 60 false ++ [true], List.replicate 61 false ++ [true], List.replicate 62 false]) ⟨h2_1_0, h2_1_1, h2_1_2, h2_1_3, h2_1_4, h2_1_5, h2_1_6, h2_1_7, h2_1_8, h2_1_9, h2_1_10, h2_1_11, h2_1_12, h2_1_13, h2_1_14, h2_1_15, h2_1_16, h2_1_17, h2_1_18, h2_1_19, h2_1_20, h2_1_21, h2_1_22, h2_1_23, h2_1_24, h2_1_25, h2_1_26, h2_1_27, h2_1_28, h2_1_29, h2_1_30, h2_1_31, h2_1_32, h2_1_33, h2_1_34, h2_1_35, h2_1_36, h2_1_37, h2_1_38, h2_1_39, h2_1_40, h2_1_41, h2_1_42, h2_1_43, h2_1_44, h2_1_45, h2_1_46, h2_1_47, h2_1_48, h2_1_49, h2_1_50, h2_1_51, h2_1_52, h2_1_53, h2_1_54, h2_1_55, h2_1_56, h2_1_57, h2_1_58, h2_1_59, h2_1_60, h2_1_61, h2_1_62, trivial⟩ p (sl2_1 ▸ hp)
theorem w3 (fn : Func) (hrc : cRes Tryd.prog fn.results.toList = some af6.res) (W : World) (c : Code) (hc : cCode Tryd.prog c = some B3) : ∀ T ∈ Ts3, ∀ a w, Sat CL.G W T a w → c.wp Tryd.prog (bodyPost Tryd.prog fn (Done W)) a w := by
  intro T hT
  simp only [Ts3, List.mem_cons, List.not_mem_nil, or_false] at hT
  rcases hT with rfl | rfl | rfl | rfl | rfl | rfl | rfl | rfl | rfl | rfl | rfl | rfl | rfl | rfl | rfl | rfl | rfl | rfl | rfl | rfl | rfl | rfl | rfl | rfl | rfl | rfl | rfl | rfl | rfl | rfl | rfl | rfl | rfl | rfl | rfl | rfl | rfl | rfl | rfl | rfl | rfl | rfl | rfl | rfl | rfl | rfl | rfl | rfl | rfl | rfl | rfl | rfl | rfl | rfl | rfl | rfl | rfl | rfl | rfl | rfl | rfl | rfl | rfl | rfl | rfl | rfl | rfl | rfl | rfl | rfl | rfl | rfl | rfl | rfl | rfl | rfl | rfl | rfl | rfl | rfl | rfl | rfl | rfl | rfl | rfl | rfl | rfl | rfl | rfl | rfl | rfl | rfl | rfl | rfl | rfl | rfl | rfl | rfl | rfl | rfl | rfl | rfl | rfl | rfl | rfl | rfl | rfl | rfl | rfl | rfl | rfl | rfl | rfl | rfl | rfl | rfl | rfl | rfl | rfl | rfl | rfl | rfl | rfl | rfl | rfl | rfl | rfl | rfl | rfl | rfl | rfl | rfl | rfl | rfl | rfl | rfl | rfl | rfl | rfl | rfl
  · exact fin_wp (C := CL) mixed hF (cfgT_S doorH_ok G_lt VTL) (fun V B => cfgT_L V B) hrc hc ckF_0
  · exact fin_wp (C := CL) mixed hF (cfgT_S doorH_ok G_lt VTL) (fun V B => cfgT_L V B) hrc hc ckF_1
  · exact fin_wp (C := CL) mixed hF (cfgT_S doorH_ok G_lt VTL) (fun V B => cfgT_L V B) hrc hc ckF_2
  · exact fin_wp (C := CL) mixed hF (cfgT_S doorH_ok G_lt VTL) (fun V B => cfgT_L V B) hrc hc ckF_3
  · exact fin_wp (C := CL) mixed hF (cfgT_S doorH_ok G_lt VTL) (fun V B => cfgT_L V B) hrc hc ckF_4
  · exact fin_wp (C := CL) mixed hF (cfgT_S doorH_ok G_lt VTL) (fun V B => cfgT_L V B) hrc hc ckF_5
  · exact fin_wp (C := CL) mixed hF (cfgT_S doorH_ok G_lt VTL) (fun V B => cfgT_L V B) hrc hc ckF_6
  · exact fin_wp (C := CL) mixed hF (cfgT_S doorH_ok G_lt VTL) (fun V B => cfgT_L V B) hrc hc ckF_7
  · exact fin_wp (C := CL) mixed hF (cfgT_S doorH_ok G_lt VTL) (fun V B => cfgT_L V B) hrc hc ckF_8
  · exact fin_wp (C := CL) mixed hF (cfgT_S doorH_ok G_lt VTL) (fun V B => cfgT_L V B) hrc hc ckF_9
  · exact fin_wp (C := CL) mixed hF (cfgT_S doorH_ok G_lt VTL) (fun V B => cfgT_L V B) hrc hc ckF_10
  · exact fin_wp (C := CL) mixed hF (cfgT_S doorH_ok G_lt VTL) (fun V B => cfgT_L V B) hrc hc ckF_11
  · exact fin_wp (C := CL) mixed hF (cfgT_S doorH_ok G_lt VTL) (fun V B => cfgT_L V B) hrc hc ckF_12
  · exact fin_wp (C := CL) mixed hF (cfgT_S doorH_ok G_lt VTL) (fun V B => cfgT_L V B) hrc hc ckF_13
  · exact fin_wp (C := CL) mixed hF (cfgT_S doorH_ok G_lt VTL) (fun V B => cfgT_L V B) hrc hc ckF_14
  · exact fin_wp (C := CL) mixed hF (cfgT_S doorH_ok G_lt VTL) (fun V B => cfgT_L V B) hrc hc ckF_15
  · exact fin_wp (C := CL) mixed hF (cfgT_S doorH_ok G_lt VTL) (fun V B => cfgT_L V B) hrc hc ckF_16
  · exact fin_wp (C := CL) mixed hF (cfgT_S doorH_ok G_lt VTL) (fun V B => cfgT_L V B) hrc hc ckF_17
  · exact fin_wp (C := CL) mixed hF (cfgT_S doorH_ok G_lt VTL) (fun V B => cfgT_L V B) hrc hc ckF_18
  · exact fin_wp (C := CL) mixed hF (cfgT_S doorH_ok G_lt VTL) (fun V B => cfgT_L V B) hrc hc ckF_19
  · exact fin_wp (C := CL) mixed hF (cfgT_S doorH_ok G_lt VTL) (fun V B => cfgT_L V B) hrc hc ckF_20
  · exact fin_wp (C := CL) mixed hF (cfgT_S doorH_ok G_lt VTL) (fun V B => cfgT_L V B) hrc hc ckF_21
  · exact fin_wp (C := CL) mixed hF (cfgT_S doorH_ok G_lt VTL) (fun V B => cfgT_L V B) hrc hc ckF_22
  · exact fin_wp (C := CL) mixed hF (cfgT_S doorH_ok G_lt VTL) (fun V B => cfgT_L V B) hrc hc ckF_23
  · exact fin_wp (C := CL) mixed hF (cfgT_S doorH_ok G_lt VTL) (fun V B => cfgT_L V B) hrc hc ckF_24
  · exact fin_wp (C := CL) mixed hF (cfgT_S doorH_ok G_lt VTL) (fun V B => cfgT_L V B) hrc hc ckF_25
  · exact fin_wp (C := CL) mixed hF (cfgT_S doorH_ok G_lt VTL) (fun V B => cfgT_L V B) hrc hc ckF_26
  · exact fin_wp (C := CL) mixed hF (cfgT_S doorH_ok G_lt VTL) (fun V B => cfgT_L V B) hrc hc ckF_27
  · exact fin_wp (C := CL) mixed hF (cfgT_S doorH_ok G_lt VTL) (fun V B => cfgT_L V B) hrc hc ckF_28
  · exact fin_wp (C := CL) mixed hF (cfgT_S doorH_ok G_lt VTL) (fun V B => cfgT_L V B) hrc hc ckF_29
  · exact fin_wp (C := CL) mixed hF (cfgT_S doorH_ok G_lt VTL) (fun V B => cfgT_L V B) hrc hc ckF_30
  · exact fin_wp (C := CL) mixed hF (cfgT_S doorH_ok G_lt VTL) (fun V B => cfgT_L V B) hrc hc ckF_31
  · exact fin_wp (C := CL) mixed hF (cfgT_S doorH_ok G_lt VTL) (fun V B => cfgT_L V B) hrc hc ckF_32
  · exact fin_wp (C := CL) mixed hF (cfgT_S doorH_ok G_lt VTL) (fun V B => cfgT_L V B) hrc hc ckF_33
  · exact fin_wp (C := CL) mixed hF (cfgT_S doorH_ok G_lt VTL) (fun V B => cfgT_L V B) hrc hc ckF_34
  · exact fin_wp (C := CL) mixed hF (cfgT_S doorH_ok G_lt VTL) (fun V B => cfgT_L V B) hrc hc ckF_35
  · exact fin_wp (C := CL) mixed hF (cfgT_S doorH_ok G_lt VTL) (fun V B => cfgT_L V B) hrc hc ckF_36
  · exact fin_wp (C := CL) mixed hF (cfgT_S doorH_ok G_lt VTL) (fun V B => cfgT_L V B) hrc hc ckF_37
  · exact fin_wp (C := CL) mixed hF (cfgT_S doorH_ok G_lt VTL) (fun V B => cfgT_L V B) hrc hc ckF_38
  · exact fin_wp (C := CL) mixed hF (cfgT_S doorH_ok G_lt VTL) (fun V B => cfgT_L V B) hrc hc ckF_39
  · exact fin_wp (C := CL) mixed hF (cfgT_S doorH_ok G_lt VTL) (fun V B => cfgT_L V B) hrc hc ckF_40
  · exact fin_wp (C := CL) mixed hF (cfgT_S doorH_ok G_lt VTL) (fun V B => cfgT_L V B) hrc hc ckF_41
  · exact fin_wp (C := CL) mixed hF (cfgT_S doorH_ok G_lt VTL) (fun V B => cfgT_L V B) hrc hc ckF_42
  · exact fin_wp (C := CL) mixed hF (cfgT_S doorH_ok G_lt VTL) (fun V B => cfgT_L V B) hrc hc ckF_43
  · exact fin_wp (C := CL) mixed hF (cfgT_S doorH_ok G_lt VTL) (fun V B => cfgT_L V B) hrc hc ckF_44
  · exact fin_wp (C := CL) mixed hF (cfgT_S doorH_ok G_lt VTL) (fun V B => cfgT_L V B) hrc hc ckF_45
  · exact fin_wp (C := CL) mixed hF (cfgT_S doorH_ok G_lt VTL) (fun V B => cfgT_L V B) hrc hc ckF_46
  · exact fin_wp (C := CL) mixed hF (cfgT_S doorH_ok G_lt VTL) (fun V B => cfgT_L V B) hrc hc ckF_47
  · exact fin_wp (C := CL) mixed hF (cfgT_S doorH_ok G_lt VTL) (fun V B => cfgT_L V B) hrc hc ckF_48
  · exact fin_wp (C := CL) mixed hF (cfgT_S doorH_ok G_lt VTL) (fun V B => cfgT_L V B) hrc hc ckF_49
  · exact fin_wp (C := CL) mixed hF (cfgT_S doorH_ok G_lt VTL) (fun V B => cfgT_L V B) hrc hc ckF_50
  · exact fin_wp (C := CL) mixed hF (cfgT_S doorH_ok G_lt VTL) (fun V B => cfgT_L V B) hrc hc ckF_51
  · exact fin_wp (C := CL) mixed hF (cfgT_S doorH_ok G_lt VTL) (fun V B => cfgT_L V B) hrc hc ckF_52
  · exact fin_wp (C := CL) mixed hF (cfgT_S doorH_ok G_lt VTL) (fun V B => cfgT_L V B) hrc hc ckF_53
  · exact fin_wp (C := CL) mixed hF (cfgT_S doorH_ok G_lt VTL) (fun V B => cfgT_L V B) hrc hc ckF_54
  · exact fin_wp (C := CL) mixed hF (cfgT_S doorH_ok G_lt VTL) (fun V B => cfgT_L V B) hrc hc ckF_55
  · exact fin_wp (C := CL) mixed hF (cfgT_S doorH_ok G_lt VTL) (fun V B => cfgT_L V B) hrc hc ckF_56
  · exact fin_wp (C := CL) mixed hF (cfgT_S doorH_ok G_lt VTL) (fun V B => cfgT_L V B) hrc hc ckF_57
  · exact fin_wp (C := CL) mixed hF (cfgT_S doorH_ok G_lt VTL) (fun V B => cfgT_L V B) hrc hc ckF_58
  · exact fin_wp (C := CL) mixed hF (cfgT_S doorH_ok G_lt VTL) (fun V B => cfgT_L V B) hrc hc ckF_59
  · exact fin_wp (C := CL) mixed hF (cfgT_S doorH_ok G_lt VTL) (fun V B => cfgT_L V B) hrc hc ckF_60
  · exact fin_wp (C := CL) mixed hF (cfgT_S doorH_ok G_lt VTL) (fun V B => cfgT_L V B) hrc hc ckF_61
  · exact fin_wp (C := CL) mixed hF (cfgT_S doorH_ok G_lt VTL) (fun V B => cfgT_L V B) hrc hc ckF_62
  · exact fin_wp (C := CL) mixed hF (cfgT_S doorH_ok G_lt VTL) (fun V B => cfgT_L V B) hrc hc ckF_63
  · exact fin_wp (C := CL) mixed hF (cfgT_S doorH_ok G_lt VTL) (fun V B => cfgT_L V B) hrc hc ckF_64
  · exact fin_wp (C := CL) mixed hF (cfgT_S doorH_ok G_lt VTL) (fun V B => cfgT_L V B) hrc hc ckF_65
  · exact fin_wp (C := CL) mixed hF (cfgT_S doorH_ok G_lt VTL) (fun V B => cfgT_L V B) hrc hc ckF_66
  · exact fin_wp (C := CL) mixed hF (cfgT_S doorH_ok G_lt VTL) (fun V B => cfgT_L V B) hrc hc ckF_67
  · exact fin_wp (C := CL) mixed hF (cfgT_S doorH_ok G_lt VTL) (fun V B => cfgT_L V B) hrc hc ckF_68
  · exact fin_wp (C := CL) mixed hF (cfgT_S doorH_ok G_lt VTL) (fun V B => cfgT_L V B) hrc hc ckF_69
  · exact fin_wp (C := CL) mixed hF (cfgT_S doorH_ok G_lt VTL) (fun V B => cfgT_L V B) hrc hc ckF_70
  · exact fin_wp (C := CL) mixed hF (cfgT_S doorH_ok G_lt VTL) (fun V B => cfgT_L V B) hrc hc ckF_71
  · exact fin_wp (C := CL) mixed hF (cfgT_S doorH_ok G_lt VTL) (fun V B => cfgT_L V B) hrc hc ckF_72
  · exact fin_wp (C := CL) mixed hF (cfgT_S doorH_ok G_lt VTL) (fun V B => cfgT_L V B) hrc hc ckF_73
  · exact fin_wp (C := CL) mixed hF (cfgT_S doorH_ok G_lt VTL) (fun V B => cfgT_L V B) hrc hc ckF_74
  · exact fin_wp (C := CL) mixed hF (cfgT_S doorH_ok G_lt VTL) (fun V B => cfgT_L V B) hrc hc ckF_75
  · exact fin_wp (C := CL) mixed hF (cfgT_S doorH_ok G_lt VTL) (fun V B => cfgT_L V B) hrc hc ckF_76
  · exact fin_wp (C := CL) mixed hF (cfgT_S doorH_ok G_lt VTL) (fun V B => cfgT_L V B) hrc hc ckF_77
  · exact fin_wp (C := CL) mixed hF (cfgT_S doorH_ok G_lt VTL) (fun V B => cfgT_L V B) hrc hc ckF_78
  · exact fin_wp (C := CL) mixed hF (cfgT_S doorH_ok G_lt VTL) (fun V B => cfgT_L V B) hrc hc ckF_79
  · exact fin_wp (C := CL) mixed hF (cfgT_S doorH_ok G_lt VTL) (fun V B => cfgT_L V B) hrc hc ckF_80
  · exact fin_wp (C := CL) mixed hF (cfgT_S doorH_ok G_lt VTL) (fun V B => cfgT_L V B) hrc hc ckF_81
  · exact fin_wp (C := CL) mixed hF (cfgT_S doorH_ok G_lt VTL) (fun V B => cfgT_L V B) hrc hc ckF_82
  · exact fin_wp (C := CL) mixed hF (cfgT_S doorH_ok G_lt VTL) (fun V B => cfgT_L V B) hrc hc ckF_83
  · exact fin_wp (C := CL) mixed hF (cfgT_S doorH_ok G_lt VTL) (fun V B => cfgT_L V B) hrc hc ckF_84
  · exact fin_wp (C := CL) mixed hF (cfgT_S doorH_ok G_lt VTL) (fun V B => cfgT_L V B) hrc hc ckF_85
  · exact fin_wp (C := CL) mixed hF (cfgT_S doorH_ok G_lt VTL) (fun V B => cfgT_L V B) hrc hc ckF_86
  · exact fin_wp (C := CL) mixed hF (cfgT_S doorH_ok G_lt VTL) (fun V B => cfgT_L V B) hrc hc ckF_87
  · exact fin_wp (C := CL) mixed hF (cfgT_S doorH_ok G_lt VTL) (fun V B => cfgT_L V B) hrc hc ckF_88
  · exact fin_wp (C := CL) mixed hF (cfgT_S doorH_ok G_lt VTL) (fun V B => cfgT_L V B) hrc hc ckF_89
  · exact fin_wp (C := CL) mixed hF (cfgT_S doorH_ok G_lt VTL) (fun V B => cfgT_L V B) hrc hc ckF_90
  · exact fin_wp (C := CL) mixed hF (cfgT_S doorH_ok G_lt VTL) (fun V B => cfgT_L V B) hrc hc ckF_91
  · exact fin_wp (C := CL) mixed hF (cfgT_S doorH_ok G_lt VTL) (fun V B => cfgT_L V B) hrc hc ckF_92
  · exact fin_wp (C := CL) mixed hF (cfgT_S doorH_ok G_lt VTL) (fun V B => cfgT_L V B) hrc hc ckF_93
  · exact fin_wp (C := CL) mixed hF (cfgT_S doorH_ok G_lt VTL) (fun V B => cfgT_L V B) hrc hc ckF_94
  · exact fin_wp (C := CL) mixed hF (cfgT_S doorH_ok G_lt VTL) (fun V B => cfgT_L V B) hrc hc ckF_95
  · exact fin_wp (C := CL) mixed hF (cfgT_S doorH_ok G_lt VTL) (fun V B => cfgT_L V B) hrc hc ckF_96
  · exact fin_wp (C := CL) mixed hF (cfgT_S doorH_ok G_lt VTL) (fun V B => cfgT_L V B) hrc hc ckF_97
  · exact fin_wp (C := CL) mixed hF (cfgT_S doorH_ok G_lt VTL) (fun V B => cfgT_L V B) hrc hc ckF_98
  · exact fin_wp (C := CL) mixed hF (cfgT_S doorH_ok G_lt VTL) (fun V B => cfgT_L V B) hrc hc ckF_99
  · exact fin_wp (C := CL) mixed hF (cfgT_S doorH_ok G_lt VTL) (fun V B => cfgT_L V B) hrc hc ckF_100
  · exact fin_wp (C := CL) mixed hF (cfgT_S doorH_ok G_lt VTL) (fun V B => cfgT_L V B) hrc hc ckF_101
  · exact fin_wp (C := CL) mixed hF (cfgT_S doorH_ok G_lt VTL) (fun V B => cfgT_L V B) hrc hc ckF_102
  · exact fin_wp (C := CL) mixed hF (cfgT_S doorH_ok G_lt VTL) (fun V B => cfgT_L V B) hrc hc ckF_103
  · exact fin_wp (C := CL) mixed hF (cfgT_S doorH_ok G_lt VTL) (fun V B => cfgT_L V B) hrc hc ckF_104
  · exact fin_wp (C := CL) mixed hF (cfgT_S doorH_ok G_lt VTL) (fun V B => cfgT_L V B) hrc hc ckF_105
  · exact fin_wp (C := CL) mixed hF (cfgT_S doorH_ok G_lt VTL) (fun V B => cfgT_L V B) hrc hc ckF_106
  · exact fin_wp (C := CL) mixed hF (cfgT_S doorH_ok G_lt VTL) (fun V B => cfgT_L V B) hrc hc ckF_107
  · exact fin_wp (C := CL) mixed hF (cfgT_S doorH_ok G_lt VTL) (fun V B => cfgT_L V B) hrc hc ckF_108
  · exact fin_wp (C := CL) mixed hF (cfgT_S doorH_ok G_lt VTL) (fun V B => cfgT_L V B) hrc hc ckF_109
  · exact fin_wp (C := CL) mixed hF (cfgT_S doorH_ok G_lt VTL) (fun V B => cfgT_L V B) hrc hc ckF_110
  · exact fin_wp (C := CL) mixed hF (cfgT_S doorH_ok G_lt VTL) (fun V B => cfgT_L V B) hrc hc ckF_111
  · exact fin_wp (C := CL) mixed hF (cfgT_S doorH_ok G_lt VTL) (fun V B => cfgT_L V B) hrc hc ckF_112
  · exact fin_wp (C := CL) mixed hF (cfgT_S doorH_ok G_lt VTL) (fun V B => cfgT_L V B) hrc hc ckF_113
  · exact fin_wp (C := CL) mixed hF (cfgT_S doorH_ok G_lt VTL) (fun V B => cfgT_L V B) hrc hc ckF_114
  · exact fin_wp (C := CL) mixed hF (cfgT_S doorH_ok G_lt VTL) (fun V B => cfgT_L V B) hrc hc ckF_115
  · exact fin_wp (C := CL) mixed hF (cfgT_S doorH_ok G_lt VTL) (fun V B => cfgT_L V B) hrc hc ckF_116
  · exact fin_wp (C := CL) mixed hF (cfgT_S doorH_ok G_lt VTL) (fun V B => cfgT_L V B) hrc hc ckF_117
  · exact fin_wp (C := CL) mixed hF (cfgT_S doorH_ok G_lt VTL) (fun V B => cfgT_L V B) hrc hc ckF_118
  · exact fin_wp (C := CL) mixed hF (cfgT_S doorH_ok G_lt VTL) (fun V B => cfgT_L V B) hrc hc ckF_119
  · exact fin_wp (C := CL) mixed hF (cfgT_S doorH_ok G_lt VTL) (fun V B => cfgT_L V B) hrc hc ckF_120
  · exact fin_wp (C := CL) mixed hF (cfgT_S doorH_ok G_lt VTL) (fun V B => cfgT_L V B) hrc hc ckF_121
  · exact fin_wp (C := CL) mixed hF (cfgT_S doorH_ok G_lt VTL) (fun V B => cfgT_L V B) hrc hc ckF_122
  · exact fin_wp (C := CL) mixed hF (cfgT_S doorH_ok G_lt VTL) (fun V B => cfgT_L V B) hrc hc ckF_123
  · exact fin_wp (C := CL) mixed hF (cfgT_S doorH_ok G_lt VTL) (fun V B => cfgT_L V B) hrc hc ckF_124
  · exact fin_wp (C := CL) mixed hF (cfgT_S doorH_ok G_lt VTL) (fun V B => cfgT_L V B) hrc hc ckF_125
  · exact fin_wp (C := CL) mixed hF (cfgT_S doorH_ok G_lt VTL) (fun V B => cfgT_L V B) hrc hc ckF_126
  · exact fin_wp (C := CL) mixed hF (cfgT_S doorH_ok G_lt VTL) (fun V B => cfgT_L V B) hrc hc ckF_127
  · exact fin_wp (C := CL) mixed hF (cfgT_S doorH_ok G_lt VTL) (fun V B => cfgT_L V B) hrc hc ckF_128
  · exact fin_wp (C := CL) mixed hF (cfgT_S doorH_ok G_lt VTL) (fun V B => cfgT_L V B) hrc hc ckF_129
  · exact fin_wp (C := CL) mixed hF (cfgT_S doorH_ok G_lt VTL) (fun V B => cfgT_L V B) hrc hc ckF_130
  · exact fin_wp (C := CL) mixed hF (cfgT_S doorH_ok G_lt VTL) (fun V B => cfgT_L V B) hrc hc ckF_131
  · exact fin_wp (C := CL) mixed hF (cfgT_S doorH_ok G_lt VTL) (fun V B => cfgT_L V B) hrc hc ckF_132
  · exact fin_wp (C := CL) mixed hF (cfgT_S doorH_ok G_lt VTL) (fun V B => cfgT_L V B) hrc hc ckF_133
  · exact fin_wp (C := CL) mixed hF (cfgT_S doorH_ok G_lt VTL) (fun V B => cfgT_L V B) hrc hc ckF_134
  · exact fin_wp (C := CL) mixed hF (cfgT_S doorH_ok G_lt VTL) (fun V B => cfgT_L V B) hrc hc ckF_135
  · exact fin_wp (C := CL) mixed hF (cfgT_S doorH_ok G_lt VTL) (fun V B => cfgT_L V B) hrc hc ckF_136
  · exact fin_wp (C := CL) mixed hF (cfgT_S doorH_ok G_lt VTL) (fun V B => cfgT_L V B) hrc hc ckF_137
  · exact fin_wp (C := CL) mixed hF (cfgT_S doorH_ok G_lt VTL) (fun V B => cfgT_L V B) hrc hc ckF_138
  · exact fin_wp (C := CL) mixed hF (cfgT_S doorH_ok G_lt VTL) (fun V B => cfgT_L V B) hrc hc ckF_139
theorem w2 (fn : Func) (hrc : cRes Tryd.prog fn.results.toList = some af6.res) (W : World) (c : Code) (hc : cCode Tryd.prog c = some B2) : ∀ T ∈ Ts2, ∀ a w, Sat CL.G W T a w → c.wp Tryd.prog (bodyPost Tryd.prog fn (Done W)) a w := by
  intro T hT
  simp only [Ts2, List.mem_cons, List.not_mem_nil, or_false] at hT
  rcases hT with rfl | rfl
  · exact cut_wp (C := CL) mixed hF (cfgT_S doorH_ok G_lt VTL) (fun V B => cfgT_L V B) hrc G_lt' hc ck2_0 fun T' hT' a w hs => w3 fn hrc W _ (suf_ok hc) T' hT' a w hs
  · exact cut_wp (C := CL) mixed hF (cfgT_S doorH_ok G_lt VTL) (fun V B => cfgT_L V B) hrc G_lt' hc ck2_1 fun T' hT' a w hs => w3 fn hrc W _ (suf_ok hc) T' hT' a w hs
theorem w1 (fn : Func) (hrc : cRes Tryd.prog fn.results.toList = some af6.res) (W : World) (c : Code) (hc : cCode Tryd.prog c = some B1) : ∀ T ∈ Ts1, ∀ a w, Sat CL.G W T a w → c.wp Tryd.prog (bodyPost Tryd.prog fn (Done W)) a w := by
  intro T hT
  simp only [Ts1, List.mem_cons, List.not_mem_nil, or_false] at hT
  subst hT
  exact cut_wp (C := CL) mixed hF (cfgT_S doorH_ok G_lt VTL) (fun V B => cfgT_L V B) hrc G_lt' hc ck1_0 fun T' hT' a w hs => w2 fn hrc W _ (suf_ok hc) T' hT' a w hs
theorem w0 (fn : Func) (hrc : cRes Tryd.prog fn.results.toList = some af6.res) (W : World) (c : Code) (hc : cCode Tryd.prog c = some B0) : ∀ T ∈ Ts0, ∀ a w, Sat CL.G W T a w → c.wp Tryd.prog (bodyPost Tryd.prog fn (Done W)) a w := by
  intro T hT
  simp only [Ts0, List.mem_cons, List.not_mem_nil, or_false] at hT
  subst hT
  exact cut_wp (C := CL) mixed hF (cfgT_S doorH_ok G_lt VTL) (fun V B => cfgT_L V B) hrc G_lt' hc ck0_0 fun T' hT' a w hs => w1 fn hrc W _ (suf_ok hc) T' hT' a w hs
theorem walk (W : World) (base : Nat) (args : Array Value) (hl : args.size = Tryd.f6.params.size) (hval : ∀ (j : Nat) t v, Tryd.f6.params[j]? = some t → args[j]? = some v → Value.okWide Tryd.prog W .any base t v)
    (hD : ∀ V, ∃ ι, HRel V ι W.heap.size doorH W ∧ GRel G ι ∧ ∀ id cs, doorH.get id ≠ some (.cells cs false)) :
    Calls Tryd.prog 6 args W fun e w' => e = .returned (.bool true) ∧ Grown W w' := by
  obtain ⟨h1, h2⟩ := open_args (P := Tryd.prog) (W := W) (r := .any) (base := base) (all := cellsAll args.toList) (i := 0) (ss := shs) (ts := Tryd.f6.params.toList) (vs := args.toList) (by kernel_rfl) (by simpa using hl)
    (fun j t v h h' => hval j t v (by simpa using h) (by simpa using h')) (fun j v h => by simpa using h)
  have hf : Fits (valOf (cellsAll args.toList)) 0 (allK shs) := fits_of h2 (fun j v h => by simpa using h)
  obtain ⟨ι, d1, d2, d3⟩ := hD (valOf (cellsAll args.toList))
  have h3 : Calls Tryd.prog 6 args.toList.toArray W (Done W) := law_parts (C := CL) (W := W) hF (f := 6) (af := af6) rfl (args := symAs 0 shs) (D := doorH) (T0 := T0_0) (by kernel_rfl) rfl (by kernel_rfl) (fun j => rfl) rfl
    (fun fn c hc hrc a w hs => w0 fn hrc W c hc T0_0 (List.mem_cons_self ..) a w hs) (valOf (cellsAll args.toList)) (seeds_hold hf _) (VRels.mono (fun id l h => by cases h) _ _ h1) d1 d2
  have h4 : Calls Tryd.prog 6 args.toList.toArray W fun e w' => e = .returned (.bool true) ∧ Grown W w' := h3
  simpa using h4

theorem gtypes : ∃ ti te ts ms f, ErrTypes Tryd.prog ti 104 te ts ms f ∧ doorFits Tryd.prog ti doorL = true := by
  refine ⟨27, 121, 9, _, _, ⟨Tryd.underlying27, ?_, Tryd.underlying104, Tryd.underlying121, rfl, rfl, Tryd.underlying9, by kernel_rfl, by kernel_rfl⟩, by kernel_rfl⟩
  have e : "*" ++ "errors.errorString" = "*errors.errorString" := by decide
  intro u hu
  exact typeName_ptr_named (nm := "errors.errorString") (by rw [e]; kernel_rfl) (by kernel_rfl) (by decide) u (by rw [e]; exact hu)
theorem laid_eq : Rows.isaNamesRow.laid = dlaid doorL := by rfl
set_option maxHeartbeats 0 in
set_option maxRecDepth 100000 in
theorem lifted (os : Os) (started : os.Started) (H : Type) (enc : TypeId × Value → H) :
    ReturnsInHanded {} Tryd.checked os 6 .any (fun w args => (Rows.isaNamesSpec.pre enc Tryd.prog Tryd.f6 Rows.isaNamesRow.domain false w args ∧ laidMetH Tryd.prog Rows.isaNamesRow.laid w) ∧ sizedMet enc Tryd.prog Tryd.f6 (OpenSpec.ofChange Rows.isaNamesSpec) false w args)
      (Rows.isaNamesSpec.post enc Tryd.prog Tryd.f6 false true false false) := by
  refine returnsInHanded_of_change_and (C := Tryd.checked) (X := fun w _ => laidMetH Tryd.prog Rows.isaNamesRow.laid w) (fun _ _ _ hh h => h.of_heap hh) own started (by kernel_rfl) Tryd.func6
    (ChangeSpec.witness_shaped (enc := enc) (C := Tryd.checked) (os := os) (X := fun w _ => laidMetH Tryd.prog Rows.isaNamesRow.laid w) false (World.laidAll Tryd.prog os Rows.isaNamesRow.laid) #[.int .i64 0, .string ⟨#[]⟩] 8 (World.laidAll_os _ _ _)
      (World.shaped_of_ZipB (by kernel_rfl) (by kernel_rfl)) (by kernel_rfl) (by kernel_rfl) (by kernel_rfl)
      (by rw [MakeChecks.laidMetH_plain _ _ _ (by kernel_rfl)]; exact laidMet_laidAll _ (by kernel_rfl) (by kernel_rfl))) ?_
  intro W base args ds gs before hval0 hW hcnd _ hL _
  have hW' := hW
  obtain ⟨p, q, hA0, hV, hpq, hfz, hnd⟩ := hW
  obtain ⟨rfl, rfl⟩ := trodVars_none (show DataW.TrodVars enc Tryd.prog W (fun _ => true) [] gs q from hV)
  have hl : args.size = Tryd.f6.params.size := by
    have := trodAll_len hA0
    simpa using this
  rw [MakeChecks.laidMetH_plain _ _ _ (by kernel_rfl), laid_eq] at hL
  obtain ⟨ti, te, ts, ms, fl, E, hfit⟩ := gtypes
  refine (walk W base args hl hval0 fun V => door_rel E hfit hL doorH_eq).mono fun e W' ⟨he, hg⟩ => ?_
  subst he
  exact ⟨_, rfl, post_plain (dep := 10) (rt := 4) hW' rfl (by kernel_rfl) (fun h => by
    match ds, h with
    | [_, _], _ => rfl) rfl Tryd.underlying4 hg⟩

theorem over : Rows.isaNamesRow.holds Tryd.pinned (OpenSpec.ofChange Rows.isaNamesSpec) :=
  OpenClaim.holds_of_wide 6 Tryd.f6 rfl rfl rfl rfl rfl rfl rfl ⟨rfl, rfl, rfl, rfl, rfl⟩ rfl rfl rfl rfl rfl (by kernel_rfl) Tryd.func6 (by kernel_rfl)
    (of_decide_eq_true (by kernel_rfl)) (by unfold Func.isWrapper; first | (rw [if_pos (by decide +kernel)]; kernel_rfl) | (rw [if_neg (by decide +kernel)]; exact ⟨rfl, rfl⟩))
    (fun os started H enc _ => lifted os started H enc)

theorem proved : Rows.IsaNamesCardSaid :=
  Claim7.holds_tied_plain_at .later [] [.sentinel, .sentinel, .sentinel, .sentinel, .sentinel, .sentinel, .sentinel, .sentinel, .sentinel, .sentinel, .sentinel] true (true, "95613d5f9336c5ff66ff2bb8eefa277b027caa30e7b067d1c593d108637f2053") true
    over (fun _ h => by cases h) (by kernel_rfl) (fun _ h => by cases h) isaNames_row_tie rfl ⟨rfl, rfl⟩ (by kernel_rfl) rfl
    (fun f fn hf hfn => by
      obtain rfl : f = 6 := Option.some.inj ((show Tryd.prog.funcNamed "corral/corrallaw3.IsaNames" = some 6 by kernel_rfl).symm.trans hf) |>.symm
      obtain rfl : fn = Tryd.f6 := (Option.some.inj (Tryd.func6.symm.trans hfn)).symm
      exact ⟨by kernel_rfl, fun j t ht => by
        have hall : (Tryd.f6.params.toList.all fun t => !(Tryd.prog.wantsStandIn t)) = true := by kernel_rfl
        have := List.all_eq_true.1 hall t (List.mem_of_getElem? (by simpa using ht))
        have h2 : Tryd.prog.wantsStandIn t = false := by simpa using this
        exact h2⟩)
    (by kernel_rfl)
#print axioms proved
end Go.Proofs.YtagaclifeoiepabDoor.isaNames
