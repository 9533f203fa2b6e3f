/- SeqBells: a hart that waits goes on when its bell is rung. No condition. -/
import Derived.Test.YtaclekenckkgcaaGreatDoorQSeqBells
import Derived.Test.YtaclekenckkgcaaGreatDoorPSeqBellsb
import Derived.Test.YtaclekenckkgcaaGreatDoorPSeqBellsc
import Derived.Test.YtaclekenckkgcaaGreatDoorPSeqBellsd
import Derived.Test.YtaclekenckkgcaaGreatDoorPSeqBellse
import Derived.Test.YtaclekenckkgcaaGreatDoorPSeqBellsf
import Derived.Test.YtaclekenckkgcaaGreatDoorPSeqBellsg
import Derived.Test.YtaclekenckkgcaaGreatDoorPSeqBellsh
import Derived.Test.YtaclekenckkgcaaGreatDoorPSeqBellsi
import Derived.Test.YtaclekenckkgcaaGreatDoorPSeqBellsj
import Derived.Test.YtaclekenckkgcaaGreatDoorPSeqBellsk
import Derived.Test.YtaclekenckkgcaaGreatDoorPSeqBellsl
import Derived.Test.YtaclekenckkgcaaGreatDoorPSeqBellsm
import Derived.Test.YtaclekenckkgcaaGreatDoorPSeqBellsn
import Derived.Test.YtaclekenckkgcaaGreatDoorPSeqBellso
import Derived.Test.YtaclekenckkgcaaGreatDoorPSeqBellsp
import Derived.Test.YtaclekenckkgcaaGreatDoorPSeqBellsq
import Derived.Test.YtaclekenckkgcaaGreatDoorPSeqBellsr
import Derived.Test.YtaclekenckkgcaaGreatDoorPSeqBellss
import Derived.Test.YtaclekenckkgcaaGreatDoorPSeqBellst
import Derived.Test.YtaclekenckkgcaaGreatDoorPSeqBellsu
import Derived.Test.YtaclekenckkgcaaGreatDoorPSeqBellsv
namespace Go.Proofs.YtaclekenckkgcaaGreatDoor.seqBells
open Go.Sx Go.ChangeShapes Go.WideShapes Go.ChangeAt Go.RowKit
set_option linter.unusedVariables false
set_option linter.unusedSimpArgs false
set_option maxRecDepth 1000000

theorem sl1_0 : sk1_0.holes [] = [[true, true], [true, false], [false, true], [false, false]] := by rfl
theorem ck1_0 : chkL pcX (accT G 6 64 af6.res Ts2) M1_0 T1_0.pc = true := chkSk_sound sc1_0 fun p hp => allP_mem (q := fun p => chkL pcX (accT G 6 64 af6.res Ts2) (M1_0.go p) (M1_0.pcGo p T1_0.pc) = true) (l := [[true, true], [true, false], [false, true], [false, false]]) ⟨h1_0_0, h1_0_1, h1_0_2, h1_0_3, trivial⟩ p (sl1_0 ▸ hp)
theorem sl4_0 : sk4_0.holes [] = [[true], [false, true], [false, false, true], [false, false, false, true]] := by rfl
theorem ck4_0 : chkL pcX (accT G 6 64 af6.res Ts5) M4_0 T4_0.pc = true := chkSk_sound sc4_0 fun p hp => allP_mem (q := fun p => chkL pcX (accT G 6 64 af6.res Ts5) (M4_0.go p) (M4_0.pcGo p T4_0.pc) = true) (l := [[true], [false, true], [false, false, true], [false, false, false, true]]) ⟨h4_0_0, h4_0_1, h4_0_2, h4_0_3, trivial⟩ p (sl4_0 ▸ hp)
theorem sl4_1 : sk4_1.holes [] = [[true], [false, true], [false, false, true], [false, false, false, true]] := by rfl
theorem ck4_1 : chkL pcX (accT G 6 64 af6.res Ts5) M4_1 T4_1.pc = true := chkSk_sound sc4_1 fun p hp => allP_mem (q := fun p => chkL pcX (accT G 6 64 af6.res Ts5) (M4_1.go p) (M4_1.pcGo p T4_1.pc) = true) (l := [[true], [false, true], [false, false, true], [false, false, false, true]]) ⟨h4_1_0, h4_1_1, h4_1_2, h4_1_3, trivial⟩ p (sl4_1 ▸ hp)
theorem sl4_2 : sk4_2.holes [] = [[true], [false, true], [false, false, true], [false, false, false, true]] := by rfl
theorem ck4_2 : chkL pcX (accT G 6 64 af6.res Ts5) M4_2 T4_2.pc = true := chkSk_sound sc4_2 fun p hp => allP_mem (q := fun p => chkL pcX (accT G 6 64 af6.res Ts5) (M4_2.go p) (M4_2.pcGo p T4_2.pc) = true) (l := [[true], [false, true], [false, false, true], [false, false, false, true]]) ⟨h4_2_0, h4_2_1, h4_2_2, h4_2_3, trivial⟩ p (sl4_2 ▸ hp)
theorem sl4_3 : sk4_3.holes [] = [[true], [false, true], [false, false, true], [false, false, false, true]] := by rfl
theorem ck4_3 : chkL pcX (accT G 6 64 af6.res Ts5) M4_3 T4_3.pc = true := chkSk_sound sc4_3 fun p hp => allP_mem (q := fun p => chkL pcX (accT G 6 64 af6.res Ts5) (M4_3.go p) (M4_3.pcGo p T4_3.pc) = true) (l := [[true], [false, true], [false, false, true], [false, false, false, true]]) ⟨h4_3_0, h4_3_1, h4_3_2, h4_3_3, trivial⟩ p (sl4_3 ▸ hp)
theorem w8 (fn : Func) (hrc : cRes Tryz.prog fn.results.toList = some af6.res) (W : World) (c : Code) (hc : cCode Tryz.prog c = some B8) : ∀ T ∈ Ts8, ∀ a w, Sat CL.G W T a w → c.wp Tryz.prog (bodyPost Tryz.prog fn (Done W)) a w := by
  intro T hT
  simp only [Ts8, List.mem_cons, List.not_mem_nil, or_false] at hT
  rcases hT with rfl | rfl | rfl | rfl
  · exact fin_wp (C := CL) mixed hF (cfgT_S doorH_ok G_lt VTL) (fun V B => cfgT_L V B) hrc hc ckF_0
  · exact fin_wp (C := CL) mixed hF (cfgT_S doorH_ok G_lt VTL) (fun V B => cfgT_L V B) hrc hc ckF_1
  · exact fin_wp (C := CL) mixed hF (cfgT_S doorH_ok G_lt VTL) (fun V B => cfgT_L V B) hrc hc ckF_2
  · exact fin_wp (C := CL) mixed hF (cfgT_S doorH_ok G_lt VTL) (fun V B => cfgT_L V B) hrc hc ckF_3
theorem w7 (fn : Func) (hrc : cRes Tryz.prog fn.results.toList = some af6.res) (W : World) (c : Code) (hc : cCode Tryz.prog c = some B7) : ∀ T ∈ Ts7, ∀ a w, Sat CL.G W T a w → c.wp Tryz.prog (bodyPost Tryz.prog fn (Done W)) a w := by
  intro T hT
  simp only [Ts7, List.mem_cons, List.not_mem_nil, or_false] at hT
  rcases hT with rfl | rfl | rfl | rfl | rfl | rfl | rfl | rfl | rfl | rfl | rfl | rfl | rfl | rfl | rfl | rfl
  · exact cut_wp (C := CL) mixed hF (cfgT_S doorH_ok G_lt VTL) (fun V B => cfgT_L V B) hrc G_lt' hc ck7_0 fun T' hT' a w hs => w8 fn hrc W _ (suf_ok hc) T' hT' a w hs
  · exact cut_wp (C := CL) mixed hF (cfgT_S doorH_ok G_lt VTL) (fun V B => cfgT_L V B) hrc G_lt' hc ck7_1 fun T' hT' a w hs => w8 fn hrc W _ (suf_ok hc) T' hT' a w hs
  · exact cut_wp (C := CL) mixed hF (cfgT_S doorH_ok G_lt VTL) (fun V B => cfgT_L V B) hrc G_lt' hc ck7_2 fun T' hT' a w hs => w8 fn hrc W _ (suf_ok hc) T' hT' a w hs
  · exact cut_wp (C := CL) mixed hF (cfgT_S doorH_ok G_lt VTL) (fun V B => cfgT_L V B) hrc G_lt' hc ck7_3 fun T' hT' a w hs => w8 fn hrc W _ (suf_ok hc) T' hT' a w hs
  · exact cut_wp (C := CL) mixed hF (cfgT_S doorH_ok G_lt VTL) (fun V B => cfgT_L V B) hrc G_lt' hc ck7_4 fun T' hT' a w hs => w8 fn hrc W _ (suf_ok hc) T' hT' a w hs
  · exact cut_wp (C := CL) mixed hF (cfgT_S doorH_ok G_lt VTL) (fun V B => cfgT_L V B) hrc G_lt' hc ck7_5 fun T' hT' a w hs => w8 fn hrc W _ (suf_ok hc) T' hT' a w hs
  · exact cut_wp (C := CL) mixed hF (cfgT_S doorH_ok G_lt VTL) (fun V B => cfgT_L V B) hrc G_lt' hc ck7_6 fun T' hT' a w hs => w8 fn hrc W _ (suf_ok hc) T' hT' a w hs
  · exact cut_wp (C := CL) mixed hF (cfgT_S doorH_ok G_lt VTL) (fun V B => cfgT_L V B) hrc G_lt' hc ck7_7 fun T' hT' a w hs => w8 fn hrc W _ (suf_ok hc) T' hT' a w hs
  · exact cut_wp (C := CL) mixed hF (cfgT_S doorH_ok G_lt VTL) (fun V B => cfgT_L V B) hrc G_lt' hc ck7_8 fun T' hT' a w hs => w8 fn hrc W _ (suf_ok hc) T' hT' a w hs
  · exact cut_wp (C := CL) mixed hF (cfgT_S doorH_ok G_lt VTL) (fun V B => cfgT_L V B) hrc G_lt' hc ck7_9 fun T' hT' a w hs => w8 fn hrc W _ (suf_ok hc) T' hT' a w hs
  · exact cut_wp (C := CL) mixed hF (cfgT_S doorH_ok G_lt VTL) (fun V B => cfgT_L V B) hrc G_lt' hc ck7_10 fun T' hT' a w hs => w8 fn hrc W _ (suf_ok hc) T' hT' a w hs
  · exact cut_wp (C := CL) mixed hF (cfgT_S doorH_ok G_lt VTL) (fun V B => cfgT_L V B) hrc G_lt' hc ck7_11 fun T' hT' a w hs => w8 fn hrc W _ (suf_ok hc) T' hT' a w hs
  · exact cut_wp (C := CL) mixed hF (cfgT_S doorH_ok G_lt VTL) (fun V B => cfgT_L V B) hrc G_lt' hc ck7_12 fun T' hT' a w hs => w8 fn hrc W _ (suf_ok hc) T' hT' a w hs
  · exact cut_wp (C := CL) mixed hF (cfgT_S doorH_ok G_lt VTL) (fun V B => cfgT_L V B) hrc G_lt' hc ck7_13 fun T' hT' a w hs => w8 fn hrc W _ (suf_ok hc) T' hT' a w hs
  · exact cut_wp (C := CL) mixed hF (cfgT_S doorH_ok G_lt VTL) (fun V B => cfgT_L V B) hrc G_lt' hc ck7_14 fun T' hT' a w hs => w8 fn hrc W _ (suf_ok hc) T' hT' a w hs
  · exact cut_wp (C := CL) mixed hF (cfgT_S doorH_ok G_lt VTL) (fun V B => cfgT_L V B) hrc G_lt' hc ck7_15 fun T' hT' a w hs => w8 fn hrc W _ (suf_ok hc) T' hT' a w hs
theorem w6 (fn : Func) (hrc : cRes Tryz.prog fn.results.toList = some af6.res) (W : World) (c : Code) (hc : cCode Tryz.prog c = some B6) : ∀ T ∈ Ts6, ∀ a w, Sat CL.G W T a w → c.wp Tryz.prog (bodyPost Tryz.prog fn (Done W)) a w := by
  intro T hT
  simp only [Ts6, List.mem_cons, List.not_mem_nil, or_false] at hT
  rcases hT with rfl | rfl | rfl | rfl | rfl | rfl | rfl | rfl | rfl | rfl | rfl | rfl | rfl | rfl | rfl | rfl
  · exact cut_wp (C := CL) mixed hF (cfgT_S doorH_ok G_lt VTL) (fun V B => cfgT_L V B) hrc G_lt' hc ck6_0 fun T' hT' a w hs => w7 fn hrc W _ (suf_ok hc) T' hT' a w hs
  · exact cut_wp (C := CL) mixed hF (cfgT_S doorH_ok G_lt VTL) (fun V B => cfgT_L V B) hrc G_lt' hc ck6_1 fun T' hT' a w hs => w7 fn hrc W _ (suf_ok hc) T' hT' a w hs
  · exact cut_wp (C := CL) mixed hF (cfgT_S doorH_ok G_lt VTL) (fun V B => cfgT_L V B) hrc G_lt' hc ck6_2 fun T' hT' a w hs => w7 fn hrc W _ (suf_ok hc) T' hT' a w hs
  · exact cut_wp (C := CL) mixed hF (cfgT_S doorH_ok G_lt VTL) (fun V B => cfgT_L V B) hrc G_lt' hc ck6_3 fun T' hT' a w hs => w7 fn hrc W _ (suf_ok hc) T' hT' a w hs
  · exact cut_wp (C := CL) mixed hF (cfgT_S doorH_ok G_lt VTL) (fun V B => cfgT_L V B) hrc G_lt' hc ck6_4 fun T' hT' a w hs => w7 fn hrc W _ (suf_ok hc) T' hT' a w hs
  · exact cut_wp (C := CL) mixed hF (cfgT_S doorH_ok G_lt VTL) (fun V B => cfgT_L V B) hrc G_lt' hc ck6_5 fun T' hT' a w hs => w7 fn hrc W _ (suf_ok hc) T' hT' a w hs
  · exact cut_wp (C := CL) mixed hF (cfgT_S doorH_ok G_lt VTL) (fun V B => cfgT_L V B) hrc G_lt' hc ck6_6 fun T' hT' a w hs => w7 fn hrc W _ (suf_ok hc) T' hT' a w hs
  · exact cut_wp (C := CL) mixed hF (cfgT_S doorH_ok G_lt VTL) (fun V B => cfgT_L V B) hrc G_lt' hc ck6_7 fun T' hT' a w hs => w7 fn hrc W _ (suf_ok hc) T' hT' a w hs
  · exact cut_wp (C := CL) mixed hF (cfgT_S doorH_ok G_lt VTL) (fun V B => cfgT_L V B) hrc G_lt' hc ck6_8 fun T' hT' a w hs => w7 fn hrc W _ (suf_ok hc) T' hT' a w hs
  · exact cut_wp (C := CL) mixed hF (cfgT_S doorH_ok G_lt VTL) (fun V B => cfgT_L V B) hrc G_lt' hc ck6_9 fun T' hT' a w hs => w7 fn hrc W _ (suf_ok hc) T' hT' a w hs
  · exact cut_wp (C := CL) mixed hF (cfgT_S doorH_ok G_lt VTL) (fun V B => cfgT_L V B) hrc G_lt' hc ck6_10 fun T' hT' a w hs => w7 fn hrc W _ (suf_ok hc) T' hT' a w hs
  · exact cut_wp (C := CL) mixed hF (cfgT_S doorH_ok G_lt VTL) (fun V B => cfgT_L V B) hrc G_lt' hc ck6_11 fun T' hT' a w hs => w7 fn hrc W _ (suf_ok hc) T' hT' a w hs
  · exact cut_wp (C := CL) mixed hF (cfgT_S doorH_ok G_lt VTL) (fun V B => cfgT_L V B) hrc G_lt' hc ck6_12 fun T' hT' a w hs => w7 fn hrc W _ (suf_ok hc) T' hT' a w hs
  · exact cut_wp (C := CL) mixed hF (cfgT_S doorH_ok G_lt VTL) (fun V B => cfgT_L V B) hrc G_lt' hc ck6_13 fun T' hT' a w hs => w7 fn hrc W _ (suf_ok hc) T' hT' a w hs
  · exact cut_wp (C := CL) mixed hF (cfgT_S doorH_ok G_lt VTL) (fun V B => cfgT_L V B) hrc G_lt' hc ck6_14 fun T' hT' a w hs => w7 fn hrc W _ (suf_ok hc) T' hT' a w hs
  · exact cut_wp (C := CL) mixed hF (cfgT_S doorH_ok G_lt VTL) (fun V B => cfgT_L V B) hrc G_lt' hc ck6_15 fun T' hT' a w hs => w7 fn hrc W _ (suf_ok hc) T' hT' a w hs
theorem w5 (fn : Func) (hrc : cRes Tryz.prog fn.results.toList = some af6.res) (W : World) (c : Code) (hc : cCode Tryz.prog c = some B5) : ∀ T ∈ Ts5, ∀ a w, Sat CL.G W T a w → c.wp Tryz.prog (bodyPost Tryz.prog fn (Done W)) a w := by
  intro T hT
  simp only [Ts5, List.mem_cons, List.not_mem_nil, or_false] at hT
  rcases hT with rfl | rfl | rfl | rfl | rfl | rfl | rfl | rfl | rfl | rfl | rfl | rfl | rfl | rfl | rfl | rfl
  · exact cut_wp (C := CL) mixed hF (cfgT_S doorH_ok G_lt VTL) (fun V B => cfgT_L V B) hrc G_lt' hc ck5_0 fun T' hT' a w hs => w6 fn hrc W _ (suf_ok hc) T' hT' a w hs
  · exact cut_wp (C := CL) mixed hF (cfgT_S doorH_ok G_lt VTL) (fun V B => cfgT_L V B) hrc G_lt' hc ck5_1 fun T' hT' a w hs => w6 fn hrc W _ (suf_ok hc) T' hT' a w hs
  · exact cut_wp (C := CL) mixed hF (cfgT_S doorH_ok G_lt VTL) (fun V B => cfgT_L V B) hrc G_lt' hc ck5_2 fun T' hT' a w hs => w6 fn hrc W _ (suf_ok hc) T' hT' a w hs
  · exact cut_wp (C := CL) mixed hF (cfgT_S doorH_ok G_lt VTL) (fun V B => cfgT_L V B) hrc G_lt' hc ck5_3 fun T' hT' a w hs => w6 fn hrc W _ (suf_ok hc) T' hT' a w hs
  · exact cut_wp (C := CL) mixed hF (cfgT_S doorH_ok G_lt VTL) (fun V B => cfgT_L V B) hrc G_lt' hc ck5_4 fun T' hT' a w hs => w6 fn hrc W _ (suf_ok hc) T' hT' a w hs
  · exact cut_wp (C := CL) mixed hF (cfgT_S doorH_ok G_lt VTL) (fun V B => cfgT_L V B) hrc G_lt' hc ck5_5 fun T' hT' a w hs => w6 fn hrc W _ (suf_ok hc) T' hT' a w hs
  · exact cut_wp (C := CL) mixed hF (cfgT_S doorH_ok G_lt VTL) (fun V B => cfgT_L V B) hrc G_lt' hc ck5_6 fun T' hT' a w hs => w6 fn hrc W _ (suf_ok hc) T' hT' a w hs
  · exact cut_wp (C := CL) mixed hF (cfgT_S doorH_ok G_lt VTL) (fun V B => cfgT_L V B) hrc G_lt' hc ck5_7 fun T' hT' a w hs => w6 fn hrc W _ (suf_ok hc) T' hT' a w hs
  · exact cut_wp (C := CL) mixed hF (cfgT_S doorH_ok G_lt VTL) (fun V B => cfgT_L V B) hrc G_lt' hc ck5_8 fun T' hT' a w hs => w6 fn hrc W _ (suf_ok hc) T' hT' a w hs
  · exact cut_wp (C := CL) mixed hF (cfgT_S doorH_ok G_lt VTL) (fun V B => cfgT_L V B) hrc G_lt' hc ck5_9 fun T' hT' a w hs => w6 fn hrc W _ (suf_ok hc) T' hT' a w hs
  · exact cut_wp (C := CL) mixed hF (cfgT_S doorH_ok G_lt VTL) (fun V B => cfgT_L V B) hrc G_lt' hc ck5_10 fun T' hT' a w hs => w6 fn hrc W _ (suf_ok hc) T' hT' a w hs
  · exact cut_wp (C := CL) mixed hF (cfgT_S doorH_ok G_lt VTL) (fun V B => cfgT_L V B) hrc G_lt' hc ck5_11 fun T' hT' a w hs => w6 fn hrc W _ (suf_ok hc) T' hT' a w hs
  · exact cut_wp (C := CL) mixed hF (cfgT_S doorH_ok G_lt VTL) (fun V B => cfgT_L V B) hrc G_lt' hc ck5_12 fun T' hT' a w hs => w6 fn hrc W _ (suf_ok hc) T' hT' a w hs
  · exact cut_wp (C := CL) mixed hF (cfgT_S doorH_ok G_lt VTL) (fun V B => cfgT_L V B) hrc G_lt' hc ck5_13 fun T' hT' a w hs => w6 fn hrc W _ (suf_ok hc) T' hT' a w hs
  · exact cut_wp (C := CL) mixed hF (cfgT_S doorH_ok G_lt VTL) (fun V B => cfgT_L V B) hrc G_lt' hc ck5_14 fun T' hT' a w hs => w6 fn hrc W _ (suf_ok hc) T' hT' a w hs
  · exact cut_wp (C := CL) mixed hF (cfgT_S doorH_ok G_lt VTL) (fun V B => cfgT_L V B) hrc G_lt' hc ck5_15 fun T' hT' a w hs => w6 fn hrc W _ (suf_ok hc) T' hT' a w hs
theorem w4 (fn : Func) (hrc : cRes Tryz.prog fn.results.toList = some af6.res) (W : World) (c : Code) (hc : cCode Tryz.prog c = some B4) : ∀ T ∈ Ts4, ∀ a w, Sat CL.G W T a w → c.wp Tryz.prog (bodyPost Tryz.prog fn (Done W)) a w := by
  intro T hT
  simp only [Ts4, List.mem_cons, List.not_mem_nil, or_false] at hT
  rcases hT with rfl | rfl | rfl | rfl
  · exact cut_wpF (C := CL) mixed hF (cfgT_S doorH_ok G_lt VTL) (fun V B => cfgT_L V B) hrc G_lt' hc ck4_0 fun T' hT' a w hs => w5 fn hrc W _ (suf_ok hc) T' hT' a w hs
  · exact cut_wpF (C := CL) mixed hF (cfgT_S doorH_ok G_lt VTL) (fun V B => cfgT_L V B) hrc G_lt' hc ck4_1 fun T' hT' a w hs => w5 fn hrc W _ (suf_ok hc) T' hT' a w hs
  · exact cut_wpF (C := CL) mixed hF (cfgT_S doorH_ok G_lt VTL) (fun V B => cfgT_L V B) hrc G_lt' hc ck4_2 fun T' hT' a w hs => w5 fn hrc W _ (suf_ok hc) T' hT' a w hs
  · exact cut_wpF (C := CL) mixed hF (cfgT_S doorH_ok G_lt VTL) (fun V B => cfgT_L V B) hrc G_lt' hc ck4_3 fun T' hT' a w hs => w5 fn hrc W _ (suf_ok hc) T' hT' a w hs
theorem w3 (fn : Func) (hrc : cRes Tryz.prog fn.results.toList = some af6.res) (W : World) (c : Code) (hc : cCode Tryz.prog c = some B3) : ∀ T ∈ Ts3, ∀ a w, Sat CL.G W T a w → c.wp Tryz.prog (bodyPost Tryz.prog fn (Done W)) a w := by
  intro T hT
  simp only [Ts3, List.mem_cons, List.not_mem_nil, or_false] at hT
  rcases hT with rfl | rfl | rfl | rfl
  · exact cut_wp (C := CL) mixed hF (cfgT_S doorH_ok G_lt VTL) (fun V B => cfgT_L V B) hrc G_lt' hc ck3_0 fun T' hT' a w hs => w4 fn hrc W _ (suf_ok hc) T' hT' a w hs
  · exact cut_wp (C := CL) mixed hF (cfgT_S doorH_ok G_lt VTL) (fun V B => cfgT_L V B) hrc G_lt' hc ck3_1 fun T' hT' a w hs => w4 fn hrc W _ (suf_ok hc) T' hT' a w hs
  · exact cut_wp (C := CL) mixed hF (cfgT_S doorH_ok G_lt VTL) (fun V B => cfgT_L V B) hrc G_lt' hc ck3_2 fun T' hT' a w hs => w4 fn hrc W _ (suf_ok hc) T' hT' a w hs
  · exact cut_wp (C := CL) mixed hF (cfgT_S doorH_ok G_lt VTL) (fun V B => cfgT_L V B) hrc G_lt' hc ck3_3 fun T' hT' a w hs => w4 fn hrc W _ (suf_ok hc) T' hT' a w hs
theorem w2 (fn : Func) (hrc : cRes Tryz.prog fn.results.toList = some af6.res) (W : World) (c : Code) (hc : cCode Tryz.prog c = some B2) : ∀ T ∈ Ts2, ∀ a w, Sat CL.G W T a w → c.wp Tryz.prog (bodyPost Tryz.prog fn (Done W)) a w := by
  intro T hT
  simp only [Ts2, List.mem_cons, List.not_mem_nil, or_false] at hT
  rcases hT with rfl | rfl | rfl | rfl
  · exact cut_wp (C := CL) mixed hF (cfgT_S doorH_ok G_lt VTL) (fun V B => cfgT_L V B) hrc G_lt' hc ck2_0 fun T' hT' a w hs => w3 fn hrc W _ (suf_ok hc) T' hT' a w hs
  · exact cut_wp (C := CL) mixed hF (cfgT_S doorH_ok G_lt VTL) (fun V B => cfgT_L V B) hrc G_lt' hc ck2_1 fun T' hT' a w hs => w3 fn hrc W _ (suf_ok hc) T' hT' a w hs
  · exact cut_wp (C := CL) mixed hF (cfgT_S doorH_ok G_lt VTL) (fun V B => cfgT_L V B) hrc G_lt' hc ck2_2 fun T' hT' a w hs => w3 fn hrc W _ (suf_ok hc) T' hT' a w hs
  · exact cut_wp (C := CL) mixed hF (cfgT_S doorH_ok G_lt VTL) (fun V B => cfgT_L V B) hrc G_lt' hc ck2_3 fun T' hT' a w hs => w3 fn hrc W _ (suf_ok hc) T' hT' a w hs
theorem w1 (fn : Func) (hrc : cRes Tryz.prog fn.results.toList = some af6.res) (W : World) (c : Code) (hc : cCode Tryz.prog c = some B1) : ∀ T ∈ Ts1, ∀ a w, Sat CL.G W T a w → c.wp Tryz.prog (bodyPost Tryz.prog fn (Done W)) a w := by
  intro T hT
  simp only [Ts1, List.mem_cons, List.not_mem_nil, or_false] at hT
  subst hT
  exact cut_wp (C := CL) mixed hF (cfgT_S doorH_ok G_lt VTL) (fun V B => cfgT_L V B) hrc G_lt' hc ck1_0 fun T' hT' a w hs => w2 fn hrc W _ (suf_ok hc) T' hT' a w hs
theorem w0 (fn : Func) (hrc : cRes Tryz.prog fn.results.toList = some af6.res) (W : World) (c : Code) (hc : cCode Tryz.prog c = some B0) : ∀ T ∈ Ts0, ∀ a w, Sat CL.G W T a w → c.wp Tryz.prog (bodyPost Tryz.prog fn (Done W)) a w := by
  intro T hT
  simp only [Ts0, List.mem_cons, List.not_mem_nil, or_false] at hT
  subst hT
  exact cut_wp (C := CL) mixed hF (cfgT_S doorH_ok G_lt VTL) (fun V B => cfgT_L V B) hrc G_lt' hc ck0_0 fun T' hT' a w hs => w1 fn hrc W _ (suf_ok hc) T' hT' a w hs
theorem walk (W : World) (base : Nat) (args : Array Value) (hl : args.size = Tryz.f6.params.size) (hval : ∀ (j : Nat) t v, Tryz.f6.params[j]? = some t → args[j]? = some v → Value.okWide Tryz.prog W .any base t v)
    (hD : ∀ V, ∃ ι, HRel V ι W.heap.size doorH W ∧ GRel G ι ∧ ∀ id cs, doorH.get id ≠ some (.cells cs false)) :
    Calls Tryz.prog 6 args W fun e w' => e = .returned (.bool true) ∧ Grown W w' := by
  obtain ⟨h1, h2⟩ := open_args (P := Tryz.prog) (W := W) (r := .any) (base := base) (all := cellsAll args.toList) (i := 0) (ss := shs) (ts := Tryz.f6.params.toList) (vs := args.toList) (by kernel_rfl) (by simpa using hl)
    (fun j t v h h' => hval j t v (by simpa using h) (by simpa using h')) (fun j v h => by simpa using h)
  have hf : Fits (valOf (cellsAll args.toList)) 0 (allK shs) := fits_of h2 (fun j v h => by simpa using h)
  obtain ⟨ι, d1, d2, d3⟩ := hD (valOf (cellsAll args.toList))
  have h3 : Calls Tryz.prog 6 args.toList.toArray W (Done W) := law_parts (C := CL) (W := W) hF (f := 6) (af := af6) rfl (args := symAs 0 shs) (D := doorH) (T0 := T0_0) (by kernel_rfl) rfl (by kernel_rfl) (fun j => rfl) rfl
    (fun fn c hc hrc a w hs => w0 fn hrc W c hc T0_0 (List.mem_cons_self ..) a w hs) (valOf (cellsAll args.toList)) (seeds_hold hf _) (VRels.mono (fun id l h => by cases h) _ _ h1) d1 d2
  have h4 : Calls Tryz.prog 6 args.toList.toArray W fun e w' => e = .returned (.bool true) ∧ Grown W w' := h3
  simpa using h4

theorem gtypes : ∃ ti te ts ms f, ErrTypes Tryz.prog ti 199 te ts ms f ∧ doorFits Tryz.prog ti doorL = true := by
  refine ⟨29, 215, 9, _, _, ⟨Tryz.underlying29, ?_, Tryz.underlying199, Tryz.underlying215, rfl, rfl, Tryz.underlying9, by kernel_rfl, by kernel_rfl⟩, by kernel_rfl⟩
  have e : "*" ++ "errors.errorString" = "*errors.errorString" := by decide
  intro u hu
  exact typeName_ptr_named (nm := "errors.errorString") (by rw [e]; kernel_rfl) (by kernel_rfl) (by decide) u (by rw [e]; exact hu)
theorem laid_eq : Rows.seqBellsRow.laid = dlaid doorL := by rfl
set_option maxHeartbeats 0 in
set_option maxRecDepth 100000 in
theorem lifted (os : Os) (started : os.Started) (H : Type) (enc : TypeId × Value → H) :
    ReturnsInHanded {} Tryz.checked os 6 .any (fun w args => (Rows.seqBellsSpec.pre enc Tryz.prog Tryz.f6 Rows.seqBellsRow.domain false w args ∧ laidMetH Tryz.prog Rows.seqBellsRow.laid w) ∧ sizedMet enc Tryz.prog Tryz.f6 (OpenSpec.ofChange Rows.seqBellsSpec) false w args)
      (Rows.seqBellsSpec.post enc Tryz.prog Tryz.f6 false true false false) := by
  refine returnsInHanded_of_change_and (C := Tryz.checked) (X := fun w _ => laidMetH Tryz.prog Rows.seqBellsRow.laid w) (fun _ _ _ hh h => h.of_heap hh) own started (by kernel_rfl) Tryz.func6
    (ChangeSpec.witness_shaped (enc := enc) (C := Tryz.checked) (os := os) (X := fun w _ => laidMetH Tryz.prog Rows.seqBellsRow.laid w) false (World.laidAll Tryz.prog os Rows.seqBellsRow.laid) #[.bool false, .bool false, .int .u32 0, .int .i64 0] 8 (World.laidAll_os _ _ _)
      (World.shaped_of_ZipB (by kernel_rfl) (by kernel_rfl)) (by kernel_rfl) (by kernel_rfl) (by kernel_rfl)
      (by rw [MakeChecks.laidMetH_plain _ _ _ (by kernel_rfl)]; exact laidMet_laidAll _ (by kernel_rfl) (by kernel_rfl))) ?_
  intro W base args ds gs before hval0 hW hcnd _ hL _
  have hW' := hW
  obtain ⟨p, q, hA0, hV, hpq, hfz, hnd⟩ := hW
  obtain ⟨rfl, rfl⟩ := trodVars_none (show DataW.TrodVars enc Tryz.prog W (fun _ => true) [] gs q from hV)
  have hl : args.size = Tryz.f6.params.size := by
    have := trodAll_len hA0
    simpa using this
  rw [MakeChecks.laidMetH_plain _ _ _ (by kernel_rfl), laid_eq] at hL
  obtain ⟨ti, te, ts, ms, fl, E, hfit⟩ := gtypes
  refine (walk W base args hl hval0 fun V => door_rel E hfit hL doorH_eq).mono fun e W' ⟨he, hg⟩ => ?_
  subst he
  exact ⟨_, rfl, post_plain (dep := 10) (rt := 4) hW' rfl (by kernel_rfl) (fun h => by
    match ds, h with
    | [_, _, _, _], _ => rfl) rfl Tryz.underlying4 hg⟩

theorem over : Rows.seqBellsRow.holds Tryz.pinned (OpenSpec.ofChange Rows.seqBellsSpec) :=
  OpenClaim.holds_of_wide 6 Tryz.f6 rfl rfl rfl rfl rfl rfl rfl ⟨rfl, rfl, rfl, rfl, rfl⟩ rfl rfl rfl rfl rfl (by kernel_rfl) Tryz.func6 (by kernel_rfl)
    (of_decide_eq_true (by kernel_rfl)) (by unfold Func.isWrapper; first | (rw [if_pos (by decide +kernel)]; kernel_rfl) | (rw [if_neg (by decide +kernel)]; exact ⟨rfl, rfl⟩))
    (fun os started H enc _ => lifted os started H enc)

theorem proved : Rows.SeqBellsCardSaid :=
  Claim7.holds_tied_plain_at .later [] [.sentinel, .sentinel, .sentinel] true (true, "934eb5626043ee5ff1abe08853068aaa08326a30ef20c129a1ded5342a2c46cb") false
    over (fun _ h => by cases h) (by kernel_rfl) (fun _ h => by cases h) seqBells_row_tie rfl ⟨rfl, rfl⟩ (by kernel_rfl) rfl
    (fun f fn hf hfn => by
      obtain rfl : f = 6 := Option.some.inj ((show Tryz.prog.funcNamed "corral/corrallaw11.SeqBells" = some 6 by kernel_rfl).symm.trans hf) |>.symm
      obtain rfl : fn = Tryz.f6 := (Option.some.inj (Tryz.func6.symm.trans hfn)).symm
      exact ⟨by kernel_rfl, fun j t ht => by
        have hall : (Tryz.f6.params.toList.all fun t => !(Tryz.prog.wantsStandIn t)) = true := by kernel_rfl
        have := List.all_eq_true.1 hall t (List.mem_of_getElem? (by simpa using ht))
        have h2 : Tryz.prog.wantsStandIn t = false := by simpa using this
        exact h2⟩)
    (by kernel_rfl)
#print axioms proved
end Go.Proofs.YtaclekenckkgcaaGreatDoor.seqBells
