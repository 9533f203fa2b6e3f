/- AluSays: any op of any two words, what it loads, stores and writes back, is what the chapter says. No condition. -/
import Derived.Test.YtagaclifeoiepaaSAluSaysa
import Derived.Test.YtagaclifeoiepaaSyAr
import Derived.Test.YtagaclifeoiepaaSyFin
namespace Go.Proofs.Ytagaclifeoiepaa.aluSays
open Go.Sx Go.ChangeShapes Go.WideShapes Go.ChangeAt Go.RowKit
set_option linter.unusedVariables false
set_option linter.unusedSimpArgs false
set_option maxRecDepth 1000000

theorem own : ownKnob Try.prog.godebug = none := by kernel_rfl
def shs : List (Bool × List CK) := [(false, [.int .i64]), (false, [.int .u32]), (false, [.int .u32])]
def pc0 : PC := seeds (allK shs) []
noncomputable def R : TT (SV × SP) := evFnD (cfgT F G doorH TL) 2000 12 (symAs 0 shs) ⟨doorH, pc0⟩

def pt0c0 : Pt := (.node (.cmp .eql (.cv .i64 (.var 0)) (.lit 28)) .fin
 (.node (.cmp .eql (.cv .i64 (.var 0)) (.lit 19)) .fin
 (.node (.cmp .eql (.cv .i64 (.var 0)) (.lit 29)) .fin
 (.node (.cmp .eql (.cv .i64 (.var 0)) (.lit 30)) .fin
 (.node (.cmp .eql (.cv .i64 (.var 0)) (.lit 25)) .fin
 (.node (.cmp .eql (.cv .i64 (.var 0)) (.lit 31)) (.node (.cmp .lss (.cv .i32 (.cv .u32 (.var 1))) (.cv .i32 (.cv .u32 (.var 2)))) .fin
 .fin)
 (.node (.cmp .eql (.cv .i64 (.var 0)) (.lit 20)) (.node (.cmp .lss (.cv .i32 (.cv .u32 (.var 1))) (.cv .i32 (.cv .u32 (.var 2)))) .fin
 .fin)
 (.node (.cmp .eql (.cv .i64 (.var 0)) (.lit 32)) (.node (.cmp .lss (.cv .u32 (.var 1)) (.cv .u32 (.var 2))) .fin
 .fin)
 .dead))))))))
theorem pt0k0 : pt0c0.okD R pc0 = true := by kernel_rfl
noncomputable def pt0M0 : TT (SV × SP) := R.go [false, false, false, false, false, false, false, false]
def pt0p0 : PC := pt0c0.pcAt [false, false, false, false, false, false, false, false] pc0
def pt1c0 : Pt := (.node (.cmp .eql (.cv .i64 (.var 0)) (.lit 21)) (.node (.cmp .lss (.cv .u32 (.var 1)) (.cv .u32 (.var 2))) .fin
 .fin)
 (.node (.cmp .eql (.cv .i64 (.var 0)) (.lit 33)) .fin
 (.node (.cmp .eql (.cv .i64 (.var 0)) (.lit 22)) .fin
 (.node (.cmp .eql (.cv .i64 (.var 0)) (.lit 34)) .fin
 (.node (.cmp .eql (.cv .i64 (.var 0)) (.lit 26)) .fin
 (.node (.cmp .eql (.cv .i64 (.var 0)) (.lit 35)) .fin
 (.node (.cmp .eql (.cv .i64 (.var 0)) (.lit 27)) .fin
 (.node (.cmp .eql (.cv .i64 (.var 0)) (.lit 36)) .fin
 (.node (.cmp .eql (.cv .i64 (.var 0)) (.lit 23)) .fin
 .dead)))))))))
theorem pt1k0 : pt1c0.okD pt0M0 pt0p0 = true := by kernel_rfl
noncomputable def pt1M0 : TT (SV × SP) := pt0M0.go [false, false, false, false, false, false, false, false, false]
def pt1p0 : PC := pt1c0.pcAt [false, false, false, false, false, false, false, false, false] pt0p0
def pt2c0 : Pt := (.node (.cmp .eql (.cv .i64 (.var 0)) (.lit 37)) .fin
 (.node (.cmp .eql (.cv .i64 (.var 0)) (.lit 24)) .fin
 (.node (.cmp .eql (.cv .i64 (.var 0)) (.lit 51)) .fin
 (.node (.cmp .eql (.cv .i64 (.var 0)) (.lit 52)) (.node (.cmp .lss (.cv .u32 (.var 1)) (.lit 2147483648)) (.node (.cmp .lss (.cv .u32 (.var 2)) (.lit 2147483648)) (.node (.cmp .eql (.bin .shr .u64 (.bin .mul .u64 (.cv .u64 (.cv .i32 (.cv .u32 (.var 1)))) (.cv .u64 (.cv .i32 (.cv .u32 (.var 2))))) (.lit 32)) (.bin .shr .u64 (.cv .u64 (.bin .mul .i64 (.cv .u32 (.var 1)) (.cv .u32 (.var 2)))) (.lit 32))) .fin
 .dead)
 (.node (.cmp .eql (.bin .shr .u64 (.bin .mul .u64 (.cv .u64 (.cv .i32 (.cv .u32 (.var 1)))) (.cv .u64 (.cv .i32 (.cv .u32 (.var 2))))) (.lit 32)) (.bin .shr .u64 (.cv .u64 (.bin .mul .i64 (.cv .u32 (.var 1)) (.bin .sub .i64 (.cv .u32 (.var 2)) (.lit 4294967296)))) (.lit 32))) .fin
 .dead))
 (.node (.cmp .lss (.cv .u32 (.var 2)) (.lit 2147483648)) (.node (.cmp .eql (.bin .shr .u64 (.bin .mul .u64 (.cv .u64 (.cv .i32 (.cv .u32 (.var 1)))) (.cv .u64 (.cv .i32 (.cv .u32 (.var 2))))) (.lit 32)) (.bin .shr .u64 (.cv .u64 (.bin .mul .i64 (.bin .sub .i64 (.cv .u32 (.var 1)) (.lit 4294967296)) (.cv .u32 (.var 2)))) (.lit 32))) .fin
 .dead)
 (.node (.cmp .eql (.bin .shr .u64 (.bin .mul .u64 (.cv .u64 (.cv .i32 (.cv .u32 (.var 1)))) (.cv .u64 (.cv .i32 (.cv .u32 (.var 2))))) (.lit 32)) (.bin .shr .u64 (.cv .u64 (.bin .mul .i64 (.bin .sub .i64 (.cv .u32 (.var 1)) (.lit 4294967296)) (.bin .sub .i64 (.cv .u32 (.var 2)) (.lit 4294967296)))) (.lit 32))) .fin
 .dead)))
 (.node (.cmp .eql (.cv .i64 (.var 0)) (.lit 53)) (.node (.cmp .lss (.cv .u32 (.var 1)) (.lit 2147483648)) (.node (.cmp .eql (.bin .shr .u64 (.bin .mul .u64 (.cv .u64 (.cv .i32 (.cv .u32 (.var 1)))) (.cv .u32 (.var 2))) (.lit 32)) (.bin .shr .u64 (.cv .u64 (.bin .mul .i64 (.cv .u32 (.var 1)) (.cv .u32 (.var 2)))) (.lit 32))) .fin
 .dead)
 (.node (.cmp .eql (.bin .shr .u64 (.bin .mul .u64 (.cv .u64 (.cv .i32 (.cv .u32 (.var 1)))) (.cv .u32 (.var 2))) (.lit 32)) (.bin .shr .u64 (.cv .u64 (.bin .mul .i64 (.bin .sub .i64 (.cv .u32 (.var 1)) (.lit 4294967296)) (.cv .u32 (.var 2)))) (.lit 32))) .fin
 .dead))
 (.node (.cmp .eql (.cv .i64 (.var 0)) (.lit 54)) .fin
 .dead))))))
theorem pt2k0 : pt2c0.okD pt1M0 pt1p0 = true := by kernel_rfl
noncomputable def pt2M0 : TT (SV × SP) := pt1M0.go [false, false, false, false, false, false]
def pt2p0 : PC := pt2c0.pcAt [false, false, false, false, false, false] pt1p0
def pt3c0 : Pt := (.node (.cmp .eql (.cv .i64 (.var 0)) (.lit 55)) (.node (.cmp .eql (.cv .u32 (.var 2)) (.lit 0)) .fin
 (.node (.cmp .eql (.cv .u32 (.var 2)) (.lit 4294967295)) .fin
 (.node (.cmp .eql (.cv .i32 (.cv .u32 (.var 2))) (.lit 0)) .dead
 .fin)))
 (.node (.cmp .eql (.cv .i64 (.var 0)) (.lit 56)) (.node (.cmp .eql (.cv .u32 (.var 2)) (.lit 0)) .fin
 .fin)
 (.node (.cmp .eql (.cv .i64 (.var 0)) (.lit 57)) (.node (.cmp .eql (.cv .u32 (.var 2)) (.lit 0)) .fin
 (.node (.cmp .eql (.cv .u32 (.var 2)) (.lit 4294967295)) .fin
 (.node (.cmp .eql (.cv .i32 (.cv .u32 (.var 2))) (.lit 0)) .dead
 .fin)))
 (.node (.cmp .eql (.cv .i64 (.var 0)) (.lit 58)) (.node (.cmp .eql (.cv .u32 (.var 2)) (.lit 0)) .fin
 .fin)
 .dead))))
theorem pt3k0 : pt3c0.okD pt2M0 pt2p0 = true := by kernel_rfl
noncomputable def pt3M0 : TT (SV × SP) := pt2M0.go [false, false, false, false]
def pt3p0 : PC := pt3c0.pcAt [false, false, false, false] pt2p0
def pt4c0 : Pt := (.node (.cmp .eql (.cv .i64 (.var 0)) (.lit 5)) .fin
 (.node (.cmp .eql (.cv .i64 (.var 0)) (.lit 6)) .fin
 (.node (.cmp .eql (.cv .i64 (.var 0)) (.lit 7)) .fin
 (.node (.cmp .eql (.cv .i64 (.var 0)) (.lit 9)) .fin
 (.node (.cmp .eql (.cv .i64 (.var 0)) (.lit 8)) .fin
 (.node (.cmp .eql (.cv .i64 (.var 0)) (.lit 10)) .fin
 (.node (.cmp .eql (.cv .i64 (.var 0)) (.lit 61)) .fin
 (.node (.cmp .eql (.cv .i64 (.var 0)) (.lit 62)) .fin
 (.node (.cmp .eql (.cv .i64 (.var 0)) (.lit 63)) .fin
 (.node (.cmp .eql (.cv .i64 (.var 0)) (.lit 64)) .fin
 .dead))))))))))
theorem pt4k0 : pt4c0.okD pt3M0 pt3p0 = true := by kernel_rfl
noncomputable def pt4M0 : TT (SV × SP) := pt3M0.go [false, false, false, false, false, false, false, false, false, false]
def pt4p0 : PC := pt4c0.pcAt [false, false, false, false, false, false, false, false, false, false] pt3p0
def pt5c0 : Pt := (.node (.cmp .eql (.cv .i64 (.var 0)) (.lit 65)) .fin
 (.node (.cmp .eql (.cv .i64 (.var 0)) (.lit 66)) (.node (.cmp .lss (.cv .i32 (.cv .u32 (.var 1))) (.cv .i32 (.cv .u32 (.var 2)))) .fin
 (.node (.cmp .lss (.cv .i32 (.cv .u32 (.var 2))) (.cv .i32 (.cv .u32 (.var 1)))) .fin
 (.node (.cmp .eql (.cv .u32 (.var 2)) (.cv .u32 (.var 1))) .fin
 .dead)))
 (.node (.cmp .eql (.cv .i64 (.var 0)) (.lit 68)) (.node (.cmp .lss (.cv .u32 (.var 1)) (.cv .u32 (.var 2))) .fin
 .fin)
 (.node (.cmp .eql (.cv .i64 (.var 0)) (.lit 67)) (.node (.cmp .lss (.cv .i32 (.cv .u32 (.var 2))) (.cv .i32 (.cv .u32 (.var 1)))) .fin
 (.node (.cmp .lss (.cv .i32 (.cv .u32 (.var 1))) (.cv .i32 (.cv .u32 (.var 2)))) .fin
 (.node (.cmp .eql (.cv .u32 (.var 2)) (.cv .u32 (.var 1))) .fin
 .dead)))
 (.node (.cmp .eql (.cv .i64 (.var 0)) (.lit 69)) (.node (.cmp .lss (.cv .u32 (.var 2)) (.cv .u32 (.var 1))) .fin
 .dead)
 .dead)))))
theorem pt5k0 : pt5c0.okD pt4M0 pt4p0 = true := by kernel_rfl
noncomputable def pt5M0 : TT (SV × SP) := pt4M0.go [false, false, false, false, true, false]
def pt5p0 : PC := pt5c0.pcAt [false, false, false, false, true, false] pt4p0
def pt6c0 : Pt := (.node (.cmp .lss (.cv .u32 (.var 1)) (.cv .u32 (.var 2))) .fin
 (.node (.cmp .eql (.cv .u32 (.var 2)) (.cv .u32 (.var 1))) .fin
 .dead))
theorem pt6k0 : pt6c0.okD pt5M0 pt5p0 = true := by kernel_rfl
def pt5c1 : Pt := pt5c0.plug [false, false, false, false, true, false] pt6c0
theorem pt5k1 : pt5c1.okD pt4M0 pt4p0 = true := Pt.okD_plug (p := [false, false, false, false, true, false]) pt5k0 pt6k0
noncomputable def pt5M1 : TT (SV × SP) := pt4M0.go [false, false, false, false, false]
def pt5p1 : PC := pt5c1.pcAt [false, false, false, false, false] pt4p0
def pt7c0 : Pt := (.node (.cmp .eql (.cv .i64 (.var 0)) (.lit 11)) (.node (.cmp .eql (.bin .shr .u32 (.bin .and .u32 (.cv .u32 (.var 1)) (.lit 255)) (.lit 7)) (.lit 1)) (.node (.cmp .eql (.cv .u32 (.bin .shr .i32 (.cv .i32 (.bin .shl .u32 (.cv .u32 (.var 1)) (.lit 24))) (.lit 24))) (.bin .or .u32 (.bin .and .u32 (.cv .u32 (.var 1)) (.lit 255)) (.lit 4294967040))) .fin
 .dead)
 (.node (.cmp .eql (.cv .u32 (.bin .shr .i32 (.cv .i32 (.bin .shl .u32 (.cv .u32 (.var 1)) (.lit 24))) (.lit 24))) (.bin .and .u32 (.cv .u32 (.var 1)) (.lit 255))) .fin
 .dead))
 (.node (.cmp .eql (.cv .i64 (.var 0)) (.lit 14)) .fin
 (.node (.cmp .eql (.cv .i64 (.var 0)) (.lit 16)) .fin
 (.node (.cmp .eql (.cv .i64 (.var 0)) (.lit 12)) (.node (.cmp .eql (.bin .shr .u32 (.bin .and .u32 (.cv .u32 (.var 1)) (.lit 65535)) (.lit 15)) (.lit 1)) (.node (.cmp .eql (.cv .u32 (.bin .shr .i32 (.cv .i32 (.bin .shl .u32 (.cv .u32 (.var 1)) (.lit 16))) (.lit 16))) (.bin .or .u32 (.bin .and .u32 (.cv .u32 (.var 1)) (.lit 65535)) (.lit 4294901760))) .fin
 .dead)
 (.node (.cmp .eql (.cv .u32 (.bin .shr .i32 (.cv .i32 (.bin .shl .u32 (.cv .u32 (.var 1)) (.lit 16))) (.lit 16))) (.bin .and .u32 (.cv .u32 (.var 1)) (.lit 65535))) .fin
 .dead))
 (.node (.cmp .eql (.cv .i64 (.var 0)) (.lit 15)) .fin
 (.node (.cmp .eql (.cv .i64 (.var 0)) (.lit 17)) .fin
 (.node (.cmp .eql (.cv .i64 (.var 0)) (.lit 13)) .fin
 (.node (.cmp .eql (.cv .i64 (.var 0)) (.lit 18)) .fin
 .dead))))))))
theorem pt7k0 : pt7c0.okD pt5M1 pt5p1 = true := by kernel_rfl
noncomputable def pt7M0 : TT (SV × SP) := pt5M1.go [false, false, false, false, false, false, false, false]
def pt7p0 : PC := pt7c0.pcAt [false, false, false, false, false, false, false, false] pt5p1
def pt8c0 : Pt := (.node (.cmp .eql (.cv .i64 (.var 0)) (.lit 59)) .fin
 (.node (.cmp .lss (.cv .i64 (.var 0)) (.lit 1)) .fin
 (.node (.cmp .lss (.lit 69) (.cv .i64 (.var 0))) .fin
 (.node (.cmp .eql (.cv .i64 (.var 0)) (.lit 1)) .fin
 (.node (.cmp .eql (.cv .i64 (.var 0)) (.lit 2)) .fin
 (.node (.cmp .eql (.cv .i64 (.var 0)) (.lit 3)) .fin
 (.node (.cmp .eql (.cv .i64 (.var 0)) (.lit 4)) .fin
 (.node (.cmp .eql (.cv .i64 (.var 0)) (.lit 38)) .fin
 (.node (.cmp .eql (.cv .i64 (.var 0)) (.lit 39)) .fin
 (.node (.cmp .eql (.cv .i64 (.var 0)) (.lit 40)) .fin
 .dead))))))))))
theorem pt8k0 : pt8c0.okD pt7M0 pt7p0 = true := by kernel_rfl
noncomputable def pt8M0 : TT (SV × SP) := pt7M0.go [false, false, false, false, false, false, false, false, false, false]
def pt8p0 : PC := pt8c0.pcAt [false, false, false, false, false, false, false, false, false, false] pt7p0
def pt9c0 : Pt := (.node (.cmp .eql (.cv .i64 (.var 0)) (.lit 41)) .fin
 (.node (.cmp .eql (.cv .i64 (.var 0)) (.lit 42)) .fin
 (.node (.cmp .eql (.cv .i64 (.var 0)) (.lit 43)) .fin
 (.node (.cmp .eql (.cv .i64 (.var 0)) (.lit 44)) .fin
 (.node (.cmp .eql (.cv .i64 (.var 0)) (.lit 45)) .fin
 (.node (.cmp .eql (.cv .i64 (.var 0)) (.lit 46)) .fin
 (.node (.cmp .eql (.cv .i64 (.var 0)) (.lit 47)) .fin
 (.node (.cmp .eql (.cv .i64 (.var 0)) (.lit 48)) .fin
 (.node (.cmp .eql (.cv .i64 (.var 0)) (.lit 49)) .fin
 (.node (.cmp .eql (.cv .i64 (.var 0)) (.lit 50)) .fin
 (.node (.cmp .eql (.cv .i64 (.var 0)) (.lit 60)) .fin
 .dead)))))))))))
theorem pt9k0 : pt9c0.okD pt8M0 pt8p0 = true := by kernel_rfl
def pt8c1 : Pt := pt8c0.plug [false, false, false, false, false, false, false, false, false, false] pt9c0
theorem pt8k1 : pt8c1.okD pt7M0 pt7p0 = true := Pt.okD_plug (p := [false, false, false, false, false, false, false, false, false, false]) pt8k0 pt9k0
def pt7c1 : Pt := pt7c0.plug [false, false, false, false, false, false, false, false] pt8c1
theorem pt7k1 : pt7c1.okD pt5M1 pt5p1 = true := Pt.okD_plug (p := [false, false, false, false, false, false, false, false]) pt7k0 pt8k1
def pt5c2 : Pt := pt5c1.plug [false, false, false, false, false] pt7c1
theorem pt5k2 : pt5c2.okD pt4M0 pt4p0 = true := Pt.okD_plug (p := [false, false, false, false, false]) pt5k1 pt7k1
def pt4c1 : Pt := pt4c0.plug [false, false, false, false, false, false, false, false, false, false] pt5c2
theorem pt4k1 : pt4c1.okD pt3M0 pt3p0 = true := Pt.okD_plug (p := [false, false, false, false, false, false, false, false, false, false]) pt4k0 pt5k2
def pt3c1 : Pt := pt3c0.plug [false, false, false, false] pt4c1
theorem pt3k1 : pt3c1.okD pt2M0 pt2p0 = true := Pt.okD_plug (p := [false, false, false, false]) pt3k0 pt4k1
def pt2c1 : Pt := pt2c0.plug [false, false, false, false, false, false] pt3c1
theorem pt2k1 : pt2c1.okD pt1M0 pt1p0 = true := Pt.okD_plug (p := [false, false, false, false, false, false]) pt2k0 pt3k1
def pt1c1 : Pt := pt1c0.plug [false, false, false, false, false, false, false, false, false] pt2c1
theorem pt1k1 : pt1c1.okD pt0M0 pt0p0 = true := Pt.okD_plug (p := [false, false, false, false, false, false, false, false, false]) pt1k0 pt2k1
def pt0c1 : Pt := pt0c0.plug [false, false, false, false, false, false, false, false] pt1c1
theorem pt0k1 : pt0c1.okD R pc0 = true := Pt.okD_plug (p := [false, false, false, false, false, false, false, false]) pt0k0 pt1k1
theorem u32_in (n : Int) : 0 ≤ IntKind.u32.wrap n ∧ IntKind.u32.wrap n < 4294967296 := by rw [IntKind.wrap_u32]; omega
theorem mulh (X Y : Int) : binI .shr .u64 (binI .mul .u64 (IntKind.u64.wrap X) (IntKind.u64.wrap Y)) 32 = binI .shr .u64 (IntKind.u64.wrap (binI .mul .i64 X Y)) 32 := by
  have e : binI .mul .u64 (IntKind.u64.wrap X) (IntKind.u64.wrap Y) = IntKind.u64.wrap (binI .mul .i64 X Y) := by
    simp only [binI, IntKind.wrap_u64, IntKind.wrap_i64]
    rw [← Int.mul_emod]
    generalize X * Y = z
    omega
  rw [e]
def xE : SE := .cv .u32 (.var 1)
def yE : SE := .cv .u32 (.var 2)
def sE (s : Bool) (e : SE) : SE := bif s then e else .bin .sub .i64 e (.lit 4294967296)
theorem sE_den (V : Val) (e : SE) (h : 0 ≤ e.den V ∧ e.den V < 4294967296) (s : Bool) (hs : (SB.cmp .lss e (.lit 2147483648)).den V = s) : (sE s e).den V = IntKind.i32.wrap (e.den V) := by
  have hs' : s = decide (e.den V < 2147483648) := hs.symm
  by_cases hlt : e.den V < 2147483648
  · have : s = true := by rw [hs']; exact decide_eq_true hlt
    subst this
    simp only [sE, cond_true, IntKind.wrap_i32]; omega
  · have : s = false := by rw [hs']; exact decide_eq_false hlt
    subst this
    simp only [sE, cond_false, SE.den, binI, IntKind.wrap_i32, IntKind.wrap_i64]; omega
def r52 (s t : Bool) : PC := [(.cmp .eql (.bin .shr .u64 (.bin .mul .u64 (.cv .u64 (.cv .i32 xE)) (.cv .u64 (.cv .i32 yE))) (.lit 32)) (.bin .shr .u64 (.cv .u64 (.bin .mul .i64 (sE s xE) (sE t yE))) (.lit 32)), false), (.cmp .lss yE (.lit 2147483648), t), (.cmp .lss xE (.lit 2147483648), s)]
def r53 (s : Bool) : PC := [(.cmp .eql (.bin .shr .u64 (.bin .mul .u64 (.cv .u64 (.cv .i32 xE)) yE) (.lit 32)) (.bin .shr .u64 (.cv .u64 (.bin .mul .i64 (sE s xE) yE)) (.lit 32)), false), (.cmp .lss xE (.lit 2147483648), s)]
def rdiv : PC := [(.cmp .eql (.cv .i32 yE) (.lit 0), true), (.cmp .eql yE (.lit 0), false)]
def rtri : PC := [(.cmp .eql yE xE, false), (.cmp .lss yE xE, false), (.cmp .lss xE yE, false)]
def rtriS : PC := [(.cmp .eql yE xE, false), (.cmp .lss (.cv .i32 yE) (.cv .i32 xE), false), (.cmp .lss (.cv .i32 xE) (.cv .i32 yE), false)]
def sg (n : Int) : SE := .cv .u32 (.bin .shr .i32 (.cv .i32 (.bin .shl .u32 xE (.lit n))) (.lit n))
def rsgT (n m hi b : Int) : PC := [(.cmp .eql (sg n) (.bin .or .u32 (.bin .and .u32 xE (.lit m)) (.lit hi)), false), (.cmp .eql (.bin .shr .u32 (.bin .and .u32 xE (.lit m)) (.lit b)) (.lit 1), true)]
def rsgF (n m b : Int) : PC := [(.cmp .eql (sg n) (.bin .and .u32 xE (.lit m)), false), (.cmp .eql (.bin .shr .u32 (.bin .and .u32 xE (.lit m)) (.lit b)) (.lit 1), false)]
def refs : List PC := [r52 true true, r52 true false, r52 false true, r52 false false, r53 true, r53 false, rdiv, rtri, rtriS, rsgT 24 255 4294967040 7, rsgF 24 255 7, rsgT 16 65535 4294901760 15, rsgF 16 65535 15]
theorem or_hi (r hi : Int) (j : Nat) (hj : j ≤ 32) (h0 : 0 ≤ r) (h1 : r < 2 ^ j) (hh : 0 ≤ hi ∧ hi < 4294967296) (hd : ∀ n : Nat, n < 2 ^ j → n &&& hi.toNat = 0) (hr : r < 4294967296) : binI .or .u32 r hi = r + hi := by
  rw [or32 r hi ⟨h0, hr⟩ hh]
  obtain ⟨n, rfl⟩ := Int.eq_ofNat_of_zero_le h0
  obtain ⟨m, rfl⟩ := Int.eq_ofNat_of_zero_le hh.1
  have hn : n < 2 ^ j := by
    have e : ((2 ^ j : Nat) : Int) = 2 ^ j := by simp
    rw [← e] at h1; omega
  have := and_or_nat j n m hn
  have h2 := hd n hn
  simp only [Int.toNat_natCast] at h2 ⊢
  omega
theorem and_hi (m j : Nat) : ∀ n : Nat, n < 2 ^ j → n &&& (m * 2 ^ j) = 0 := by
  intro n hn
  apply Nat.eq_of_testBit_eq
  intro i
  rw [Nat.testBit_and, Nat.zero_testBit]
  by_cases hi : i < j
  · have : (m * 2 ^ j).testBit i = false := by rw [Nat.mul_comm, Nat.testBit_two_pow_mul]; simp; omega
    rw [this, Bool.and_false]
  · have : n.testBit i = false := Nat.testBit_lt_two_pow (Nat.lt_of_lt_of_le hn (Nat.pow_le_pow_right (by omega) (by omega)))
    rw [this, Bool.false_and]
theorem h2 {V : Val} {a b : SB} {x y : Bool} (h : PC.holds V [(a, x), (b, y)]) : a.den V = x ∧ b.den V = y := ⟨h (a, x) (by simp), h (b, y) (by simp)⟩
theorem h3 {V : Val} {a b c : SB} {x y z : Bool} (h : PC.holds V [(a, x), (b, y), (c, z)]) : a.den V = x ∧ b.den V = y ∧ c.den V = z := ⟨h (a, x) (by simp), h (b, y) (by simp), h (c, z) (by simp)⟩
theorem cne {x y : Int} (h : (x == y) = false) : x ≠ y := by simpa using h
theorem no52 (V : Val) (s t : Bool) : ¬ PC.holds V (r52 s t) := by
  intro h
  obtain ⟨k1, k2, k3⟩ := h3 h
  have ex := sE_den V xE (u32_in _) s k3
  have ey := sE_den V yE (u32_in _) t k2
  have := mulh (IntKind.i32.wrap (xE.den V)) (IntKind.i32.wrap (yE.den V))
  simp only [SB.den, cmpI, SE.den] at k1
  rw [ex, ey] at k1
  exact cne k1 this
theorem no53 (V : Val) (s : Bool) : ¬ PC.holds V (r53 s) := by
  intro h
  obtain ⟨k1, k3⟩ := h2 h
  have ex := sE_den V xE (u32_in _) s k3
  have hy : 0 ≤ yE.den V ∧ yE.den V < 4294967296 := u32_in _
  have := mulh (IntKind.i32.wrap (xE.den V)) (yE.den V)
  have e2 : IntKind.u64.wrap (yE.den V) = yE.den V := by rw [IntKind.wrap_u64]; omega
  rw [e2] at this
  simp only [SB.den, cmpI, SE.den] at k1
  rw [ex] at k1
  exact cne k1 this
theorem i32_of (x : Int) : IntKind.i32.wrap x = (x + 2147483648) % 4294967296 - 2147483648 := by rw [IntKind.wrap_i32]
theorem nodiv (V : Val) : ¬ PC.holds V rdiv := by
  intro h
  obtain ⟨k1, k3⟩ := h2 h
  have hy : 0 ≤ yE.den V ∧ yE.den V < 4294967296 := u32_in _
  simp only [SB.den, cmpI, SE.den, i32_of] at k1 k3
  have a := cne k3
  simp only [beq_iff_eq] at k1
  omega
theorem notri (V : Val) : ¬ PC.holds V rtri := by
  intro h
  obtain ⟨k1, k2, k3⟩ := h3 h
  have k1 : (yE.den V == xE.den V) = false := k1
  have k2 : decide (yE.den V < xE.den V) = false := k2
  have k3 : decide (xE.den V < yE.den V) = false := k3
  have a := cne k1
  simp only [decide_eq_false_iff_not] at k2 k3
  omega
theorem notriS (V : Val) : ¬ PC.holds V rtriS := by
  intro h
  obtain ⟨k1, k2, k3⟩ := h3 h
  have hx : 0 ≤ xE.den V ∧ xE.den V < 4294967296 := u32_in _
  have hy : 0 ≤ yE.den V ∧ yE.den V < 4294967296 := u32_in _
  have k1 : (yE.den V == xE.den V) = false := k1
  have k2 : decide (IntKind.i32.wrap (yE.den V) < IntKind.i32.wrap (xE.den V)) = false := k2
  have k3 : decide (IntKind.i32.wrap (xE.den V) < IntKind.i32.wrap (yE.den V)) = false := k3
  have a := cne k1
  simp only [decide_eq_false_iff_not, i32_of] at k2 k3
  omega
theorem sg_den (V : Val) (j : Nat) (hj : j = 24 ∨ j = 16) : (sg (j : Int)).den V = if 2 ^ (31 - j) ≤ xE.den V % 2 ^ (32 - j) then xE.den V % 2 ^ (32 - j) + (4294967296 - 2 ^ (32 - j)) else xE.den V % 2 ^ (32 - j) := by
  have hx : 0 ≤ xE.den V ∧ xE.den V < 4294967296 := u32_in _
  have e : (sg (j : Int)).den V = IntKind.u32.wrap (binI .shr .i32 (IntKind.i32.wrap (binI .shl .u32 (xE.den V) (j : Int))) (j : Int)) := rfl
  rw [e, shl32 _ j (by omega), shr_any .i32 _ j (by rcases hj with rfl | rfl <;> decide), i32_of, IntKind.wrap_u32]
  generalize xE.den V = x at hx
  rcases hj with rfl | rfl <;> simp <;> split <;> omega
theorem nosg (V : Val) (j : Nat) (m hi b : Int) (hj : j = 24 ∨ j = 16) (hm : m = 2 ^ (32 - j) - 1) (hhi : hi = 4294967296 - 2 ^ (32 - j)) (hb : b = ((31 - j : Nat) : Int)) : ¬ PC.holds V (rsgT (j : Int) m hi b) ∧ ¬ PC.holds V (rsgF (j : Int) m b) := by
  have hx : 0 ≤ xE.den V ∧ xE.den V < 4294967296 := u32_in _
  have es := sg_den V j hj
  have ea : binI .and .u32 (xE.den V) m = xE.den V % 2 ^ (32 - j) := mask32 _ _ (32 - j) (by omega) hm
  have eb : binI .shr .u32 (xE.den V % 2 ^ (32 - j)) b = xE.den V % 2 ^ (32 - j) / 2 ^ (31 - j) := by rw [hb]; exact shr_any .u32 _ (31 - j) (by rcases hj with rfl | rfl <;> decide)
  have eo : binI .or .u32 (xE.den V % 2 ^ (32 - j)) hi = xE.den V % 2 ^ (32 - j) + hi := by
    refine or_hi _ _ (32 - j) (by omega) ?_ ?_ ?_ ?_ ?_
    · rcases hj with rfl | rfl <;> simp <;> omega
    · rcases hj with rfl | rfl <;> simp <;> omega
    · subst hhi; rcases hj with rfl | rfl <;> simp
    · have : hi.toNat = (2 ^ j - 1) * 2 ^ (32 - j) := by subst hhi; rcases hj with rfl | rfl <;> decide
      rw [this]; exact and_hi _ _
    · rcases hj with rfl | rfl <;> simp <;> omega
  constructor
  · intro h
    obtain ⟨k1, k2⟩ := h2 h
    have k1 : ((sg (j : Int)).den V == binI .or .u32 (binI .and .u32 (xE.den V) m) hi) = false := k1
    have k2 : (binI .shr .u32 (binI .and .u32 (xE.den V) m) b == 1) = true := k2
    rw [ea, eb] at k2
    rw [ea, eo, es] at k1
    have a := cne k1
    simp only [beq_iff_eq] at k2
    generalize xE.den V = x at hx a k2
    subst hhi
    rcases hj with rfl | rfl <;> simp at a k2 <;> omega
  · intro h
    obtain ⟨k1, k2⟩ := h2 h
    have k1 : ((sg (j : Int)).den V == binI .and .u32 (xE.den V) m) = false := k1
    have k2 : (binI .shr .u32 (binI .and .u32 (xE.den V) m) b == 1) = false := k2
    rw [ea, eb] at k2
    rw [ea, es] at k1
    have a := cne k1
    have c := cne k2
    generalize xE.den V = x at hx a c
    rcases hj with rfl | rfl <;> simp at a c <;> omega
theorem refs_no (V : Val) : ∀ R ∈ refs, ¬ PC.holds V R := by
  intro R hR
  have s8 := nosg V 24 255 4294967040 7 (.inl rfl) (by decide) (by decide) (by decide)
  have s16 := nosg V 16 65535 4294901760 15 (.inr rfl) (by decide) (by decide) (by decide)
  simp only [refs, List.mem_cons, List.not_mem_nil, or_false] at hR
  rcases hR with rfl | rfl | rfl | rfl | rfl | rfl | rfl | rfl | rfl | rfl | rfl | rfl | rfl
  · exact no52 V _ _
  · exact no52 V _ _
  · exact no52 V _ _
  · exact no52 V _ _
  · exact no53 V _
  · exact no53 V _
  · exact nodiv V
  · exact notri V
  · exact notriS V
  · exact s8.1
  · exact s8.2
  · exact s16.1
  · exact s16.2
theorem due (V : Val) (h : Fits V 0 (allK shs)) : pt0c1.due V := by
  exact Pt.dueR_sound (Rs := refs) (pc := pc0) (refs_no V) (by kernel_rfl) (seeds_hold h _)

theorem walk (W : World) (base : Nat) (args : Array Value) (hl : args.size = Try.f12.params.size) (hval : ∀ (j : Nat) t v, Try.f12.params[j]? = some t → args[j]? = some v → Value.okWide Try.prog W .any base t v)
    (hD : ∀ V, ∃ ι, HRel V ι W.heap.size doorH W ∧ GRel G ι ∧ ∀ id cs, doorH.get id ≠ some (.cells cs false)) :
    Calls Try.prog 12 args W fun e w' => e = .returned (.bool true) ∧ Grown W w' := by
  obtain ⟨h1, h2⟩ := open_args (P := Try.prog) (W := W) (r := .any) (base := base) (all := cellsAll args.toList) (i := 0) (ss := shs) (ts := Try.f12.params.toList) (vs := args.toList) (by kernel_rfl) (by simpa using hl)
    (fun j t v h h' => hval j t v (by simpa using h) (by simpa using h')) (fun j v h => by simpa using h)
  have hf : Fits (valOf (cellsAll args.toList)) 0 (allK shs) := fits_of h2 (fun j v h => by simpa using h)
  obtain ⟨ι, d1, d2, d3⟩ := hD (valOf (cellsAll args.toList))
  have h3 := law_callsU (R := R) mixed hF doorH_ok G_lt VTL rfl pt0k1 (valOf (cellsAll args.toList)) (due _ hf) (seeds_hold hf _) h1 W d1 d2 d3
  simpa using h3

set_option maxRecDepth 100000 in
theorem lifted (os : Os) (started : os.Started) (H : Type) (enc : TypeId × Value → H) :
    ReturnsInHanded {} Try.checked os 12 .any (Rows.aluSaysSpec.pre6 enc Try.prog Try.f12 Rows.aluSaysRow.domain false) (Rows.aluSaysSpec.post enc Try.prog Try.f12 false true false false) := by
  refine returnsInHanded_of_change (C := Try.checked) own started (by kernel_rfl) Try.func12
    (ChangeSpec.witness6 (enc := enc) (C := Try.checked) false ⟨#[], #[.int .i64 0, .int .u32 0, .int .u32 0], []⟩ 8 (by kernel_rfl) (by kernel_rfl) (by kernel_rfl) (by kernel_rfl)) ?_
  intro W base args ds gs before hval0 hW hcnd _
  have hW' := hW
  obtain ⟨p, q, hA0, hV, hpq, hfz, hnd⟩ := hW
  obtain ⟨rfl, rfl⟩ := trodVars_none (show DataW.TrodVars enc Try.prog W (fun _ => true) [] gs q from hV)
  have hl : args.size = Try.f12.params.size := by
    have := trodAll_len hA0
    simpa using this
  refine (walk W base args hl hval0 fun V => ⟨no, HRel.start V W, (fun g id h => by cases h), fun id cs h => by rw [show doorH = hp0 from rfl, get_hp0] at h; cases h⟩).mono fun e W' ⟨he, hg⟩ => ?_
  subst he
  exact ⟨_, rfl, post_plain (dep := 10) (rt := 4) hW' rfl (by kernel_rfl) (fun h => by
    match ds, h with
    | [_, _, _], _ => rfl) rfl Try.underlying4 hg⟩

theorem over : Rows.aluSaysRow.holds Try.pinned (OpenSpec.ofChange Rows.aluSaysSpec) :=
  OpenClaim.holds_of_wide 12 Try.f12 rfl rfl rfl rfl rfl rfl rfl ⟨rfl, rfl, rfl, rfl, rfl⟩ rfl rfl rfl rfl rfl (by kernel_rfl) Try.func12 (by kernel_rfl)
    (of_decide_eq_true (by kernel_rfl)) (by unfold Func.isWrapper; first | (rw [if_pos (by decide +kernel)]; kernel_rfl) | (rw [if_neg (by decide +kernel)]; exact ⟨rfl, rfl⟩))
    (fun os started H enc _ => lifted os started H enc)

theorem proved : Rows.AluSaysSaid :=
  over
#print axioms proved
end Go.Proofs.Ytagaclifeoiepaa.aluSays
