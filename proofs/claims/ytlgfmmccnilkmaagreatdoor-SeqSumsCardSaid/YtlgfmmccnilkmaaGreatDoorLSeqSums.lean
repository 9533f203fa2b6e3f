/- SeqSums: a loop that sums comes to its sum, in so many steps. No condition. -/
import Derived.Test.YtlgfmmccnilkmaaGreatDoorQSeqSums
import Derived.Test.YtlgfmmccnilkmaaGreatDoorPSeqSumsa
import Derived.Test.YtlgfmmccnilkmaaGreatDoorPSeqSumsb
import Derived.Test.YtlgfmmccnilkmaaGreatDoorPSeqSumsc
import Derived.Test.YtlgfmmccnilkmaaGreatDoorPSeqSumsd
import Derived.Test.YtlgfmmccnilkmaaGreatDoorPSeqSumse
import Derived.Test.YtlgfmmccnilkmaaGreatDoorPSeqSumsf
import Derived.Test.YtlgfmmccnilkmaaGreatDoorPSeqSumsg
import Derived.Test.YtlgfmmccnilkmaaGreatDoorPSeqSumsh
import Derived.Test.YtlgfmmccnilkmaaGreatDoorPSeqSumsi
import Derived.Test.YtlgfmmccnilkmaaGreatDoorPSeqSumsj
import Derived.Test.YtlgfmmccnilkmaaGreatDoorPSeqSumsk
import Derived.Test.YtlgfmmccnilkmaaGreatDoorPSeqSumsl
import Derived.Test.YtlgfmmccnilkmaaGreatDoorPSeqSumsm
import Derived.Test.YtlgfmmccnilkmaaGreatDoorPSeqSumsn
import Derived.Test.YtlgfmmccnilkmaaGreatDoorPSeqSumso
import Derived.Test.YtlgfmmccnilkmaaGreatDoorPSeqSumsp
import Derived.Test.YtlgfmmccnilkmaaGreatDoorPSeqSumsq
import Derived.Test.YtlgfmmccnilkmaaGreatDoorPSeqSumsr
namespace Go.Proofs.YtlgfmmccnilkmaaGreatDoor.seqSums
open Go.Sx Go.ChangeShapes Go.WideShapes Go.ChangeAt Go.RowKit
set_option linter.unusedVariables false
set_option linter.unusedSimpArgs false
set_option maxRecDepth 1000000

def GD (N : NT) : Prop := ∀ (fn : Func) (hrc : cRes Tryz.prog fn.results.toList = some af3.res) (W : World), ∀ ls w, SatN CL.G W N ls w → Rsm Tryz.prog N.m Dc (bodyPost Tryz.prog fn (Done W)) ls w
theorem st {N : NT} {Ns : List NT} (hn : ∀ N' ∈ Ns, N'.ok = true) (ck : chkL Out.pc (accO G 6 64 af3.res Ns) (evFrom CL 2000 N.m Dc N.frs N.T.sp) N.T.pc = true) (h : ∀ N' ∈ Ns, GD N') : GD N :=
  fun fn hrc W => node_ok (C := CL) mixed hF (cfgT_S doorH_ok G_lt VTL) (fun V B => cfgT_L V B) hrc G_lt' Dv Du hn ck (fun N' hN' => h N' hN' fn hrc W)
theorem nil_ok : ∀ N' ∈ ([] : List NT), N'.ok = true := fun _ h => by cases h
theorem nil_GD : ∀ N' ∈ ([] : List NT), GD N' := fun _ h => by cases h
theorem one_ok {N : NT} (h : N.ok = true) : ∀ N' ∈ [N], N'.ok = true := fun _ hN => by rcases List.mem_cons.1 hN with rfl | hN; exact h; cases hN
theorem one_GD {N : NT} (h : GD N) : ∀ N' ∈ [N], GD N' := fun _ hN => by rcases List.mem_cons.1 hN with rfl | hN; exact h; cases hN
theorem w13_0 : GD N13_0 := st nil_ok ck13_0 nil_GD
theorem w12_3 : GD N12_3 := st (one_ok ok13_0) ck12_3 (one_GD w13_0)
theorem w12_2 : GD N12_2 := st nil_ok ck12_2 nil_GD
theorem w12_1 : GD N12_1 := st nil_ok ck12_1 nil_GD
theorem w12_0 : GD N12_0 := st nil_ok ck12_0 nil_GD
theorem w11_6 : GD N11_6 := st (one_ok ok12_3) ck11_6 (one_GD w12_3)
theorem w11_5 : GD N11_5 := st (one_ok ok12_2) ck11_5 (one_GD w12_2)
theorem w11_4 : GD N11_4 := st (one_ok ok12_1) ck11_4 (one_GD w12_1)
theorem w11_3 : GD N11_3 := st (one_ok ok12_0) ck11_3 (one_GD w12_0)
theorem w11_2 : GD N11_2 := st nil_ok ck11_2 nil_GD
theorem w11_1 : GD N11_1 := st nil_ok ck11_1 nil_GD
theorem w11_0 : GD N11_0 := st nil_ok ck11_0 nil_GD
theorem w10_9 : GD N10_9 := st (one_ok ok11_6) ck10_9 (one_GD w11_6)
theorem w10_8 : GD N10_8 := st (one_ok ok11_5) ck10_8 (one_GD w11_5)
theorem w10_7 : GD N10_7 := st (one_ok ok11_4) ck10_7 (one_GD w11_4)
theorem w10_6 : GD N10_6 := st (one_ok ok11_3) ck10_6 (one_GD w11_3)
theorem w10_5 : GD N10_5 := st (one_ok ok11_2) ck10_5 (one_GD w11_2)
theorem w10_4 : GD N10_4 := st (one_ok ok11_1) ck10_4 (one_GD w11_1)
theorem w10_3 : GD N10_3 := st (one_ok ok11_0) ck10_3 (one_GD w11_0)
theorem w10_2 : GD N10_2 := st nil_ok ck10_2 nil_GD
theorem w10_1 : GD N10_1 := st nil_ok ck10_1 nil_GD
theorem w10_0 : GD N10_0 := st nil_ok ck10_0 nil_GD
theorem w9_12 : GD N9_12 := st (one_ok ok10_9) ck9_12 (one_GD w10_9)
theorem w9_11 : GD N9_11 := st (one_ok ok10_8) ck9_11 (one_GD w10_8)
theorem w9_10 : GD N9_10 := st (one_ok ok10_7) ck9_10 (one_GD w10_7)
theorem w9_9 : GD N9_9 := st (one_ok ok10_6) ck9_9 (one_GD w10_6)
theorem w9_8 : GD N9_8 := st (one_ok ok10_5) ck9_8 (one_GD w10_5)
theorem w9_7 : GD N9_7 := st (one_ok ok10_4) ck9_7 (one_GD w10_4)
theorem w9_6 : GD N9_6 := st (one_ok ok10_3) ck9_6 (one_GD w10_3)
theorem w9_5 : GD N9_5 := st (one_ok ok10_2) ck9_5 (one_GD w10_2)
theorem w9_4 : GD N9_4 := st (one_ok ok10_1) ck9_4 (one_GD w10_1)
theorem w9_3 : GD N9_3 := st (one_ok ok10_0) ck9_3 (one_GD w10_0)
theorem w9_2 : GD N9_2 := st nil_ok ck9_2 nil_GD
theorem w9_1 : GD N9_1 := st nil_ok ck9_1 nil_GD
theorem w9_0 : GD N9_0 := st nil_ok ck9_0 nil_GD
theorem w8_15 : GD N8_15 := st (one_ok ok9_12) ck8_15 (one_GD w9_12)
theorem w8_14 : GD N8_14 := st (one_ok ok9_11) ck8_14 (one_GD w9_11)
theorem w8_13 : GD N8_13 := st (one_ok ok9_10) ck8_13 (one_GD w9_10)
theorem w8_12 : GD N8_12 := st (one_ok ok9_9) ck8_12 (one_GD w9_9)
theorem w8_11 : GD N8_11 := st (one_ok ok9_8) ck8_11 (one_GD w9_8)
theorem w8_10 : GD N8_10 := st (one_ok ok9_7) ck8_10 (one_GD w9_7)
theorem w8_9 : GD N8_9 := st (one_ok ok9_6) ck8_9 (one_GD w9_6)
theorem w8_8 : GD N8_8 := st (one_ok ok9_5) ck8_8 (one_GD w9_5)
theorem w8_7 : GD N8_7 := st (one_ok ok9_4) ck8_7 (one_GD w9_4)
theorem w8_6 : GD N8_6 := st (one_ok ok9_3) ck8_6 (one_GD w9_3)
theorem w8_5 : GD N8_5 := st (one_ok ok9_2) ck8_5 (one_GD w9_2)
theorem w8_4 : GD N8_4 := st (one_ok ok9_1) ck8_4 (one_GD w9_1)
theorem w8_3 : GD N8_3 := st (one_ok ok9_0) ck8_3 (one_GD w9_0)
theorem w8_2 : GD N8_2 := st nil_ok ck8_2 nil_GD
theorem w8_1 : GD N8_1 := st nil_ok ck8_1 nil_GD
theorem w8_0 : GD N8_0 := st nil_ok ck8_0 nil_GD
theorem w7_18 : GD N7_18 := st (one_ok ok8_15) ck7_18 (one_GD w8_15)
theorem w7_17 : GD N7_17 := st (one_ok ok8_14) ck7_17 (one_GD w8_14)
theorem w7_16 : GD N7_16 := st (one_ok ok8_13) ck7_16 (one_GD w8_13)
theorem w7_15 : GD N7_15 := st (one_ok ok8_12) ck7_15 (one_GD w8_12)
theorem w7_14 : GD N7_14 := st (one_ok ok8_11) ck7_14 (one_GD w8_11)
theorem w7_13 : GD N7_13 := st (one_ok ok8_10) ck7_13 (one_GD w8_10)
theorem w7_12 : GD N7_12 := st (one_ok ok8_9) ck7_12 (one_GD w8_9)
theorem w7_11 : GD N7_11 := st (one_ok ok8_8) ck7_11 (one_GD w8_8)
theorem w7_10 : GD N7_10 := st (one_ok ok8_7) ck7_10 (one_GD w8_7)
theorem w7_9 : GD N7_9 := st (one_ok ok8_6) ck7_9 (one_GD w8_6)
theorem w7_8 : GD N7_8 := st (one_ok ok8_5) ck7_8 (one_GD w8_5)
theorem w7_7 : GD N7_7 := st (one_ok ok8_4) ck7_7 (one_GD w8_4)
theorem w7_6 : GD N7_6 := st (one_ok ok8_3) ck7_6 (one_GD w8_3)
theorem w7_5 : GD N7_5 := st (one_ok ok8_2) ck7_5 (one_GD w8_2)
theorem w7_4 : GD N7_4 := st (one_ok ok8_1) ck7_4 (one_GD w8_1)
theorem w7_3 : GD N7_3 := st (one_ok ok8_0) ck7_3 (one_GD w8_0)
theorem w7_2 : GD N7_2 := st nil_ok ck7_2 nil_GD
theorem w7_1 : GD N7_1 := st nil_ok ck7_1 nil_GD
theorem w7_0 : GD N7_0 := st nil_ok ck7_0 nil_GD
theorem w6_21 : GD N6_21 := st (one_ok ok7_18) ck6_21 (one_GD w7_18)
theorem w6_20 : GD N6_20 := st (one_ok ok7_17) ck6_20 (one_GD w7_17)
theorem w6_19 : GD N6_19 := st (one_ok ok7_16) ck6_19 (one_GD w7_16)
theorem w6_18 : GD N6_18 := st (one_ok ok7_15) ck6_18 (one_GD w7_15)
theorem w6_17 : GD N6_17 := st (one_ok ok7_14) ck6_17 (one_GD w7_14)
theorem w6_16 : GD N6_16 := st (one_ok ok7_13) ck6_16 (one_GD w7_13)
theorem w6_15 : GD N6_15 := st (one_ok ok7_12) ck6_15 (one_GD w7_12)
theorem w6_14 : GD N6_14 := st (one_ok ok7_11) ck6_14 (one_GD w7_11)
theorem w6_13 : GD N6_13 := st (one_ok ok7_10) ck6_13 (one_GD w7_10)
theorem w6_12 : GD N6_12 := st (one_ok ok7_9) ck6_12 (one_GD w7_9)
theorem w6_11 : GD N6_11 := st (one_ok ok7_8) ck6_11 (one_GD w7_8)
theorem w6_10 : GD N6_10 := st (one_ok ok7_7) ck6_10 (one_GD w7_7)
theorem w6_9 : GD N6_9 := st (one_ok ok7_6) ck6_9 (one_GD w7_6)
theorem w6_8 : GD N6_8 := st (one_ok ok7_5) ck6_8 (one_GD w7_5)
theorem w6_7 : GD N6_7 := st (one_ok ok7_4) ck6_7 (one_GD w7_4)
theorem w6_6 : GD N6_6 := st (one_ok ok7_3) ck6_6 (one_GD w7_3)
theorem w6_5 : GD N6_5 := st (one_ok ok7_2) ck6_5 (one_GD w7_2)
theorem w6_4 : GD N6_4 := st (one_ok ok7_1) ck6_4 (one_GD w7_1)
theorem w6_3 : GD N6_3 := st (one_ok ok7_0) ck6_3 (one_GD w7_0)
theorem w6_2 : GD N6_2 := st nil_ok ck6_2 nil_GD
theorem w6_1 : GD N6_1 := st nil_ok ck6_1 nil_GD
theorem w6_0 : GD N6_0 := st nil_ok ck6_0 nil_GD
theorem w5_24 : GD N5_24 := st (one_ok ok6_21) ck5_24 (one_GD w6_21)
theorem w5_23 : GD N5_23 := st (one_ok ok6_20) ck5_23 (one_GD w6_20)
theorem w5_22 : GD N5_22 := st (one_ok ok6_19) ck5_22 (one_GD w6_19)
theorem w5_21 : GD N5_21 := st (one_ok ok6_18) ck5_21 (one_GD w6_18)
theorem w5_20 : GD N5_20 := st (one_ok ok6_17) ck5_20 (one_GD w6_17)
theorem w5_19 : GD N5_19 := st (one_ok ok6_16) ck5_19 (one_GD w6_16)
theorem w5_18 : GD N5_18 := st (one_ok ok6_15) ck5_18 (one_GD w6_15)
theorem w5_17 : GD N5_17 := st (one_ok ok6_14) ck5_17 (one_GD w6_14)
theorem w5_16 : GD N5_16 := st (one_ok ok6_13) ck5_16 (one_GD w6_13)
theorem w5_15 : GD N5_15 := st (one_ok ok6_12) ck5_15 (one_GD w6_12)
theorem w5_14 : GD N5_14 := st (one_ok ok6_11) ck5_14 (one_GD w6_11)
theorem w5_13 : GD N5_13 := st (one_ok ok6_10) ck5_13 (one_GD w6_10)
theorem w5_12 : GD N5_12 := st (one_ok ok6_9) ck5_12 (one_GD w6_9)
theorem w5_11 : GD N5_11 := st (one_ok ok6_8) ck5_11 (one_GD w6_8)
theorem w5_10 : GD N5_10 := st (one_ok ok6_7) ck5_10 (one_GD w6_7)
theorem w5_9 : GD N5_9 := st (one_ok ok6_6) ck5_9 (one_GD w6_6)
theorem w5_8 : GD N5_8 := st (one_ok ok6_5) ck5_8 (one_GD w6_5)
theorem w5_7 : GD N5_7 := st (one_ok ok6_4) ck5_7 (one_GD w6_4)
theorem w5_6 : GD N5_6 := st (one_ok ok6_3) ck5_6 (one_GD w6_3)
theorem w5_5 : GD N5_5 := st (one_ok ok6_2) ck5_5 (one_GD w6_2)
theorem w5_4 : GD N5_4 := st (one_ok ok6_1) ck5_4 (one_GD w6_1)
theorem w5_3 : GD N5_3 := st (one_ok ok6_0) ck5_3 (one_GD w6_0)
theorem w5_2 : GD N5_2 := st nil_ok ck5_2 nil_GD
theorem w5_1 : GD N5_1 := st nil_ok ck5_1 nil_GD
theorem w5_0 : GD N5_0 := st nil_ok ck5_0 nil_GD
theorem w4_27 : GD N4_27 := st (one_ok ok5_24) ck4_27 (one_GD w5_24)
theorem w4_26 : GD N4_26 := st (one_ok ok5_23) ck4_26 (one_GD w5_23)
theorem w4_25 : GD N4_25 := st (one_ok ok5_22) ck4_25 (one_GD w5_22)
theorem w4_24 : GD N4_24 := st (one_ok ok5_21) ck4_24 (one_GD w5_21)
theorem w4_23 : GD N4_23 := st (one_ok ok5_20) ck4_23 (one_GD w5_20)
theorem w4_22 : GD N4_22 := st (one_ok ok5_19) ck4_22 (one_GD w5_19)
theorem w4_21 : GD N4_21 := st (one_ok ok5_18) ck4_21 (one_GD w5_18)
theorem w4_20 : GD N4_20 := st (one_ok ok5_17) ck4_20 (one_GD w5_17)
theorem w4_19 : GD N4_19 := st (one_ok ok5_16) ck4_19 (one_GD w5_16)
theorem w4_18 : GD N4_18 := st (one_ok ok5_15) ck4_18 (one_GD w5_15)
theorem w4_17 : GD N4_17 := st (one_ok ok5_14) ck4_17 (one_GD w5_14)
theorem w4_16 : GD N4_16 := st (one_ok ok5_13) ck4_16 (one_GD w5_13)
theorem w4_15 : GD N4_15 := st (one_ok ok5_12) ck4_15 (one_GD w5_12)
theorem w4_14 : GD N4_14 := st (one_ok ok5_11) ck4_14 (one_GD w5_11)
theorem w4_13 : GD N4_13 := st (one_ok ok5_10) ck4_13 (one_GD w5_10)
theorem w4_12 : GD N4_12 := st (one_ok ok5_9) ck4_12 (one_GD w5_9)
theorem w4_11 : GD N4_11 := st (one_ok ok5_8) ck4_11 (one_GD w5_8)
theorem w4_10 : GD N4_10 := st (one_ok ok5_7) ck4_10 (one_GD w5_7)
theorem w4_9 : GD N4_9 := st (one_ok ok5_6) ck4_9 (one_GD w5_6)
theorem w4_8 : GD N4_8 := st (one_ok ok5_5) ck4_8 (one_GD w5_5)
theorem w4_7 : GD N4_7 := st (one_ok ok5_4) ck4_7 (one_GD w5_4)
theorem w4_6 : GD N4_6 := st (one_ok ok5_3) ck4_6 (one_GD w5_3)
theorem w4_5 : GD N4_5 := st (one_ok ok5_2) ck4_5 (one_GD w5_2)
theorem w4_4 : GD N4_4 := st (one_ok ok5_1) ck4_4 (one_GD w5_1)
theorem w4_3 : GD N4_3 := st (one_ok ok5_0) ck4_3 (one_GD w5_0)
theorem w4_2 : GD N4_2 := st nil_ok ck4_2 nil_GD
theorem w4_1 : GD N4_1 := st nil_ok ck4_1 nil_GD
theorem w4_0 : GD N4_0 := st nil_ok ck4_0 nil_GD
theorem w3_29 : GD N3_29 := st (one_ok ok4_27) ck3_29 (one_GD w4_27)
theorem w3_28 : GD N3_28 := st (one_ok ok4_26) ck3_28 (one_GD w4_26)
theorem w3_27 : GD N3_27 := st (one_ok ok4_25) ck3_27 (one_GD w4_25)
theorem w3_26 : GD N3_26 := st (one_ok ok4_24) ck3_26 (one_GD w4_24)
theorem w3_25 : GD N3_25 := st (one_ok ok4_23) ck3_25 (one_GD w4_23)
theorem w3_24 : GD N3_24 := st (one_ok ok4_22) ck3_24 (one_GD w4_22)
theorem w3_23 : GD N3_23 := st (one_ok ok4_21) ck3_23 (one_GD w4_21)
theorem w3_22 : GD N3_22 := st (one_ok ok4_20) ck3_22 (one_GD w4_20)
theorem w3_21 : GD N3_21 := st (one_ok ok4_19) ck3_21 (one_GD w4_19)
theorem w3_20 : GD N3_20 := st (one_ok ok4_18) ck3_20 (one_GD w4_18)
theorem w3_19 : GD N3_19 := st (one_ok ok4_17) ck3_19 (one_GD w4_17)
theorem w3_18 : GD N3_18 := st (one_ok ok4_16) ck3_18 (one_GD w4_16)
theorem w3_17 : GD N3_17 := st (one_ok ok4_15) ck3_17 (one_GD w4_15)
theorem w3_16 : GD N3_16 := st (one_ok ok4_14) ck3_16 (one_GD w4_14)
theorem w3_15 : GD N3_15 := st (one_ok ok4_13) ck3_15 (one_GD w4_13)
theorem w3_14 : GD N3_14 := st (one_ok ok4_12) ck3_14 (one_GD w4_12)
theorem w3_13 : GD N3_13 := st (one_ok ok4_11) ck3_13 (one_GD w4_11)
theorem w3_12 : GD N3_12 := st (one_ok ok4_10) ck3_12 (one_GD w4_10)
theorem w3_11 : GD N3_11 := st (one_ok ok4_9) ck3_11 (one_GD w4_9)
theorem w3_10 : GD N3_10 := st (one_ok ok4_8) ck3_10 (one_GD w4_8)
theorem w3_9 : GD N3_9 := st (one_ok ok4_7) ck3_9 (one_GD w4_7)
theorem w3_8 : GD N3_8 := st (one_ok ok4_6) ck3_8 (one_GD w4_6)
theorem w3_7 : GD N3_7 := st (one_ok ok4_5) ck3_7 (one_GD w4_5)
theorem w3_6 : GD N3_6 := st (one_ok ok4_4) ck3_6 (one_GD w4_4)
theorem w3_5 : GD N3_5 := st (one_ok ok4_3) ck3_5 (one_GD w4_3)
theorem w3_4 : GD N3_4 := st (one_ok ok4_2) ck3_4 (one_GD w4_2)
theorem w3_3 : GD N3_3 := st (one_ok ok4_1) ck3_3 (one_GD w4_1)
theorem w3_2 : GD N3_2 := st (one_ok ok4_0) ck3_2 (one_GD w4_0)
theorem w3_1 : GD N3_1 := st nil_ok ck3_1 nil_GD
theorem w3_0 : GD N3_0 := st nil_ok ck3_0 nil_GD
theorem w2_29 : GD N2_29 := st (one_ok ok3_29) ck2_29 (one_GD w3_29)
theorem w2_28 : GD N2_28 := st (one_ok ok3_28) ck2_28 (one_GD w3_28)
theorem w2_27 : GD N2_27 := st (one_ok ok3_27) ck2_27 (one_GD w3_27)
theorem w2_26 : GD N2_26 := st (one_ok ok3_26) ck2_26 (one_GD w3_26)
theorem w2_25 : GD N2_25 := st (one_ok ok3_25) ck2_25 (one_GD w3_25)
theorem w2_24 : GD N2_24 := st (one_ok ok3_24) ck2_24 (one_GD w3_24)
theorem w2_23 : GD N2_23 := st (one_ok ok3_23) ck2_23 (one_GD w3_23)
theorem w2_22 : GD N2_22 := st (one_ok ok3_22) ck2_22 (one_GD w3_22)
theorem w2_21 : GD N2_21 := st (one_ok ok3_21) ck2_21 (one_GD w3_21)
theorem w2_20 : GD N2_20 := st (one_ok ok3_20) ck2_20 (one_GD w3_20)
theorem w2_19 : GD N2_19 := st (one_ok ok3_19) ck2_19 (one_GD w3_19)
theorem w2_18 : GD N2_18 := st (one_ok ok3_18) ck2_18 (one_GD w3_18)
theorem w2_17 : GD N2_17 := st (one_ok ok3_17) ck2_17 (one_GD w3_17)
theorem w2_16 : GD N2_16 := st (one_ok ok3_16) ck2_16 (one_GD w3_16)
theorem w2_15 : GD N2_15 := st (one_ok ok3_15) ck2_15 (one_GD w3_15)
theorem w2_14 : GD N2_14 := st (one_ok ok3_14) ck2_14 (one_GD w3_14)
theorem w2_13 : GD N2_13 := st (one_ok ok3_13) ck2_13 (one_GD w3_13)
theorem w2_12 : GD N2_12 := st (one_ok ok3_12) ck2_12 (one_GD w3_12)
theorem w2_11 : GD N2_11 := st (one_ok ok3_11) ck2_11 (one_GD w3_11)
theorem w2_10 : GD N2_10 := st (one_ok ok3_10) ck2_10 (one_GD w3_10)
theorem w2_9 : GD N2_9 := st (one_ok ok3_9) ck2_9 (one_GD w3_9)
theorem w2_8 : GD N2_8 := st (one_ok ok3_8) ck2_8 (one_GD w3_8)
theorem w2_7 : GD N2_7 := st (one_ok ok3_7) ck2_7 (one_GD w3_7)
theorem w2_6 : GD N2_6 := st (one_ok ok3_6) ck2_6 (one_GD w3_6)
theorem w2_5 : GD N2_5 := st (one_ok ok3_5) ck2_5 (one_GD w3_5)
theorem w2_4 : GD N2_4 := st (one_ok ok3_4) ck2_4 (one_GD w3_4)
theorem w2_3 : GD N2_3 := st (one_ok ok3_3) ck2_3 (one_GD w3_3)
theorem w2_2 : GD N2_2 := st (one_ok ok3_2) ck2_2 (one_GD w3_2)
theorem w2_1 : GD N2_1 := st (one_ok ok3_1) ck2_1 (one_GD w3_1)
theorem w2_0 : GD N2_0 := st (one_ok ok3_0) ck2_0 (one_GD w3_0)
theorem w1_0 : GD N1_0 := st (fun N' hN' => by
    rcases List.mem_cons.1 hN' with rfl | hN'
    · exact ok2_0
    rcases List.mem_cons.1 hN' with rfl | hN'
    · exact ok2_1
    rcases List.mem_cons.1 hN' with rfl | hN'
    · exact ok2_2
    rcases List.mem_cons.1 hN' with rfl | hN'
    · exact ok2_3
    rcases List.mem_cons.1 hN' with rfl | hN'
    · exact ok2_4
    rcases List.mem_cons.1 hN' with rfl | hN'
    · exact ok2_5
    rcases List.mem_cons.1 hN' with rfl | hN'
    · exact ok2_6
    rcases List.mem_cons.1 hN' with rfl | hN'
    · exact ok2_7
    rcases List.mem_cons.1 hN' with rfl | hN'
    · exact ok2_8
    rcases List.mem_cons.1 hN' with rfl | hN'
    · exact ok2_9
    rcases List.mem_cons.1 hN' with rfl | hN'
    · exact ok2_10
    rcases List.mem_cons.1 hN' with rfl | hN'
    · exact ok2_11
    rcases List.mem_cons.1 hN' with rfl | hN'
    · exact ok2_12
    rcases List.mem_cons.1 hN' with rfl | hN'
    · exact ok2_13
    rcases List.mem_cons.1 hN' with rfl | hN'
    · exact ok2_14
    rcases List.mem_cons.1 hN' with rfl | hN'
    · exact ok2_15
    rcases List.mem_cons.1 hN' with rfl | hN'
    · exact ok2_16
    rcases List.mem_cons.1 hN' with rfl | hN'
    · exact ok2_17
    rcases List.mem_cons.1 hN' with rfl | hN'
    · exact ok2_18
    rcases List.mem_cons.1 hN' with rfl | hN'
    · exact ok2_19
    rcases List.mem_cons.1 hN' with rfl | hN'
    · exact ok2_20
    rcases List.mem_cons.1 hN' with rfl | hN'
    · exact ok2_21
    rcases List.mem_cons.1 hN' with rfl | hN'
    · exact ok2_22
    rcases List.mem_cons.1 hN' with rfl | hN'
    · exact ok2_23
    rcases List.mem_cons.1 hN' with rfl | hN'
    · exact ok2_24
    rcases List.mem_cons.1 hN' with rfl | hN'
    · exact ok2_25
    rcases List.mem_cons.1 hN' with rfl | hN'
    · exact ok2_26
    rcases List.mem_cons.1 hN' with rfl | hN'
    · exact ok2_27
    rcases List.mem_cons.1 hN' with rfl | hN'
    · exact ok2_28
    rcases List.mem_cons.1 hN' with rfl | hN'
    · exact ok2_29
    cases hN') ck1_0 (fun N' hN' => by
    rcases List.mem_cons.1 hN' with rfl | hN'
    · exact w2_0
    rcases List.mem_cons.1 hN' with rfl | hN'
    · exact w2_1
    rcases List.mem_cons.1 hN' with rfl | hN'
    · exact w2_2
    rcases List.mem_cons.1 hN' with rfl | hN'
    · exact w2_3
    rcases List.mem_cons.1 hN' with rfl | hN'
    · exact w2_4
    rcases List.mem_cons.1 hN' with rfl | hN'
    · exact w2_5
    rcases List.mem_cons.1 hN' with rfl | hN'
    · exact w2_6
    rcases List.mem_cons.1 hN' with rfl | hN'
    · exact w2_7
    rcases List.mem_cons.1 hN' with rfl | hN'
    · exact w2_8
    rcases List.mem_cons.1 hN' with rfl | hN'
    · exact w2_9
    rcases List.mem_cons.1 hN' with rfl | hN'
    · exact w2_10
    rcases List.mem_cons.1 hN' with rfl | hN'
    · exact w2_11
    rcases List.mem_cons.1 hN' with rfl | hN'
    · exact w2_12
    rcases List.mem_cons.1 hN' with rfl | hN'
    · exact w2_13
    rcases List.mem_cons.1 hN' with rfl | hN'
    · exact w2_14
    rcases List.mem_cons.1 hN' with rfl | hN'
    · exact w2_15
    rcases List.mem_cons.1 hN' with rfl | hN'
    · exact w2_16
    rcases List.mem_cons.1 hN' with rfl | hN'
    · exact w2_17
    rcases List.mem_cons.1 hN' with rfl | hN'
    · exact w2_18
    rcases List.mem_cons.1 hN' with rfl | hN'
    · exact w2_19
    rcases List.mem_cons.1 hN' with rfl | hN'
    · exact w2_20
    rcases List.mem_cons.1 hN' with rfl | hN'
    · exact w2_21
    rcases List.mem_cons.1 hN' with rfl | hN'
    · exact w2_22
    rcases List.mem_cons.1 hN' with rfl | hN'
    · exact w2_23
    rcases List.mem_cons.1 hN' with rfl | hN'
    · exact w2_24
    rcases List.mem_cons.1 hN' with rfl | hN'
    · exact w2_25
    rcases List.mem_cons.1 hN' with rfl | hN'
    · exact w2_26
    rcases List.mem_cons.1 hN' with rfl | hN'
    · exact w2_27
    rcases List.mem_cons.1 hN' with rfl | hN'
    · exact w2_28
    rcases List.mem_cons.1 hN' with rfl | hN'
    · exact w2_29
    cases hN')
theorem w0 (fn : Func) (hrc : cRes Tryz.prog fn.results.toList = some af3.res) (W : World) (c : Code) (hc : cCode Tryz.prog c = some af3.body) : ∀ a w, Sat CL.G W T0_0 a w → c.wp Tryz.prog (bodyPost Tryz.prog fn (Done W)) a w :=
  have h : ∀ N' ∈ Ns0_0, GD N' := (one_GD w1_0)
  start_ok (C := CL) mixed hF (cfgT_S doorH_ok G_lt VTL) (fun V B => cfgT_L V B) hrc G_lt' Dv Du (Ns := Ns0_0) (one_ok ok1_0) ck0_0 (fun N' hN' => h N' hN' fn hrc W) (hc.trans (congrArg some De))
theorem walk (W : World) (base : Nat) (args : Array Value) (hl : args.size = Tryz.f3.params.size) (hval : ∀ (j : Nat) t v, Tryz.f3.params[j]? = some t → args[j]? = some v → Value.okWide Tryz.prog W .any base t v)
    (hD : ∀ V, ∃ ι, HRel V ι W.heap.size doorH W ∧ GRel G ι ∧ ∀ id cs, doorH.get id ≠ some (.cells cs false)) :
    Calls Tryz.prog 3 args W fun e w' => e = .returned (.bool true) ∧ Grown W w' := by
  obtain ⟨h1, h2⟩ := open_args (P := Tryz.prog) (W := W) (r := .any) (base := base) (all := cellsAll args.toList) (i := 0) (ss := shs) (ts := Tryz.f3.params.toList) (vs := args.toList) (by kernel_rfl) (by simpa using hl)
    (fun j t v h h' => hval j t v (by simpa using h) (by simpa using h')) (fun j v h => by simpa using h)
  have hf : Fits (valOf (cellsAll args.toList)) 0 (allK shs) := fits_of h2 (fun j v h => by simpa using h)
  obtain ⟨ι, d1, d2, d3⟩ := hD (valOf (cellsAll args.toList))
  have h3 : Calls Tryz.prog 3 args.toList.toArray W (Done W) := law_parts (C := CL) (W := W) hF (f := 3) (af := af3) rfl (args := symAs 0 shs) (D := doorH) (T0 := T0_0) (by kernel_rfl) rfl (by kernel_rfl) (fun j => rfl) rfl
    (fun fn c hc hrc a w hs => w0 fn hrc W c hc a w hs) (valOf (cellsAll args.toList)) (seeds_hold hf _) (VRels.mono (fun id l h => by cases h) _ _ h1) d1 d2
  have h4 : Calls Tryz.prog 3 args.toList.toArray W fun e w' => e = .returned (.bool true) ∧ Grown W w' := h3
  simpa using h4

theorem gtypes : ∃ ti te ts ms f, ErrTypes Tryz.prog ti 198 te ts ms f ∧ doorFits Tryz.prog ti doorL = true := by
  refine ⟨29, 214, 9, _, _, ⟨Tryz.underlying29, ?_, Tryz.underlying198, Tryz.underlying214, rfl, rfl, Tryz.underlying9, by kernel_rfl, by kernel_rfl⟩, by kernel_rfl⟩
  have e : "*" ++ "errors.errorString" = "*errors.errorString" := by decide
  intro u hu
  exact typeName_ptr_named (nm := "errors.errorString") (by rw [e]; kernel_rfl) (by kernel_rfl) (by decide) u (by rw [e]; exact hu)
theorem laid_eq : Rows.seqSumsRow.laid = dlaid doorL := by rfl
set_option maxHeartbeats 0 in
set_option maxRecDepth 100000 in
theorem lifted (os : Os) (started : os.Started) (H : Type) (enc : TypeId × Value → H) :
    ReturnsInHanded {} Tryz.checked os 3 .any (fun w args => (Rows.seqSumsSpec.pre enc Tryz.prog Tryz.f3 Rows.seqSumsRow.domain false w args ∧ laidMetH Tryz.prog Rows.seqSumsRow.laid w) ∧ sizedMet enc Tryz.prog Tryz.f3 (OpenSpec.ofChange Rows.seqSumsSpec) false w args)
      (Rows.seqSumsSpec.post enc Tryz.prog Tryz.f3 false true false false) := by
  refine returnsInHanded_of_change_and (C := Tryz.checked) (X := fun w _ => laidMetH Tryz.prog Rows.seqSumsRow.laid w) (fun _ _ _ hh h => h.of_heap hh) own started (by kernel_rfl) Tryz.func3
    (ChangeSpec.witness_shaped (enc := enc) (C := Tryz.checked) (os := os) (X := fun w _ => laidMetH Tryz.prog Rows.seqSumsRow.laid w) false (World.laidAll Tryz.prog os Rows.seqSumsRow.laid) #[.int .i64 0, .int .u32 0] 8 (World.laidAll_os _ _ _)
      (World.shaped_of_ZipB (by kernel_rfl) (by kernel_rfl)) (by kernel_rfl) (by kernel_rfl) (by kernel_rfl)
      (by rw [MakeChecks.laidMetH_plain _ _ _ (by kernel_rfl)]; exact laidMet_laidAll _ (by kernel_rfl) (by kernel_rfl))) ?_
  intro W base args ds gs before hval0 hW hcnd _ hL _
  have hW' := hW
  obtain ⟨p, q, hA0, hV, hpq, hfz, hnd⟩ := hW
  obtain ⟨rfl, rfl⟩ := trodVars_none (show DataW.TrodVars enc Tryz.prog W (fun _ => true) [] gs q from hV)
  have hl : args.size = Tryz.f3.params.size := by
    have := trodAll_len hA0
    simpa using this
  rw [MakeChecks.laidMetH_plain _ _ _ (by kernel_rfl), laid_eq] at hL
  obtain ⟨ti, te, ts, ms, fl, E, hfit⟩ := gtypes
  refine (walk W base args hl hval0 fun V => door_rel E hfit hL doorH_eq).mono fun e W' ⟨he, hg⟩ => ?_
  subst he
  exact ⟨_, rfl, post_plain (dep := 10) (rt := 4) hW' rfl (by kernel_rfl) (fun h => by
    match ds, h with
    | [_, _], _ => rfl) rfl Tryz.underlying4 hg⟩

theorem over : Rows.seqSumsRow.holds Tryz.pinned (OpenSpec.ofChange Rows.seqSumsSpec) :=
  OpenClaim.holds_of_wide 3 Tryz.f3 rfl rfl rfl rfl rfl rfl rfl ⟨rfl, rfl, rfl, rfl, rfl⟩ rfl rfl rfl rfl rfl (by kernel_rfl) Tryz.func3 (by kernel_rfl)
    (of_decide_eq_true (by kernel_rfl)) (by unfold Func.isWrapper; first | (rw [if_pos (by decide +kernel)]; kernel_rfl) | (rw [if_neg (by decide +kernel)]; exact ⟨rfl, rfl⟩))
    (fun os started H enc _ => lifted os started H enc)

theorem proved : Rows.SeqSumsCardSaid :=
  Claim7.holds_tied_plain_at .later [] [.sentinel, .sentinel, .sentinel] true (true, "ce3d53d51ab8de547d7f1344bae300472eaec57308df408c990954a4d8bc7a5d") false
    over (fun _ h => by cases h) (by kernel_rfl) (fun _ h => by cases h) seqSums_row_tie rfl ⟨rfl, rfl⟩ (by kernel_rfl) rfl
    (fun f fn hf hfn => by
      obtain rfl : f = 3 := Option.some.inj ((show Tryz.prog.funcNamed "corral/corrallaw11.SeqSums" = some 3 by kernel_rfl).symm.trans hf) |>.symm
      obtain rfl : fn = Tryz.f3 := (Option.some.inj (Tryz.func3.symm.trans hfn)).symm
      exact ⟨by kernel_rfl, fun j t ht => by
        have hall : (Tryz.f3.params.toList.all fun t => !(Tryz.prog.wantsStandIn t)) = true := by kernel_rfl
        have := List.all_eq_true.1 hall t (List.mem_of_getElem? (by simpa using ht))
        have h2 : Tryz.prog.wantsStandIn t = false := by simpa using this
        exact h2⟩)
    (by kernel_rfl)
#print axioms proved
end Go.Proofs.YtlgfmmccnilkmaaGreatDoor.seqSums
