/- AluMuls: the product's halves belong together; quotient, rest and product, too, at every input. No condition. -/
import Derived.Test.YtagaclifeoiepaaFAluMuls
import Derived.Test.YtagaclifeoiepaaSxAr
namespace Go.Proofs.Ytagaclifeoiepaa.aluMuls
open Go.Sx Go.ChangeShapes Go.WideShapes Go.ChangeAt Go.RowKit
set_option linter.unusedVariables false
set_option linter.unusedSimpArgs false
set_option maxRecDepth 1000000

theorem own : ownKnob Try.prog.godebug = none := by kernel_rfl
def shs : List (Bool × List CK) := [(false, [.int .u32]), (false, [.int .u32])]
def pc0 : PC := seeds (allK shs) [0, 1]
def R : List Bool → Option (SV × St) := runH ⟨F, fun _ => none⟩ hp0 pc0 600 7 (symAs 0 shs)
def at0 : SB := (.cmp .eql (.var 1) (.lit 0))
def pcT0 : PC := (at0, true) :: pc0
def pcF0 : PC := (at0, false) :: pc0
def pt1 : Pt := (.node (.cmp .eql (.bin .mul .u32 (.var 0) (.var 1)) (.cv .u32 (.bin .mul .u64 (.cv .u64 (.var 0)) (.cv .u64 (.var 1))))) (.node (.cmp .eql (.bin .shr .u32 (.var 0) (.lit 31)) (.lit 1)) (.node (.cmp .eql (.cv .u32 (.bin .shr .u64 (.bin .mul .u64 (.cv .u64 (.cv .i64 (.cv .i32 (.var 0)))) (.cv .u64 (.var 1))) (.lit 32))) (.bin .sub .u32 (.cv .u32 (.bin .shr .u64 (.bin .mul .u64 (.cv .u64 (.var 0)) (.cv .u64 (.var 1))) (.lit 32))) (.var 1))) (.node (.cmp .eql (.bin .shr .u32 (.var 1) (.lit 31)) (.lit 1)) (.node (.cmp .eql (.cv .u32 (.bin .shr .u64 (.bin .mul .u64 (.cv .u64 (.cv .i64 (.cv .i32 (.var 0)))) (.cv .u64 (.cv .i64 (.cv .i32 (.var 1))))) (.lit 32))) (.bin .sub .u32 (.bin .sub .u32 (.cv .u32 (.bin .shr .u64 (.bin .mul .u64 (.cv .u64 (.var 0)) (.cv .u64 (.var 1))) (.lit 32))) (.var 1)) (.var 0))) (.node (.cmp .eql (.bin .add .u32 (.bin .mul .u32 (.lit 4294967295) (.var 1)) (.var 0)) (.var 0)) (.res (.cmp .eql (.bin .add .u32 (.bin .mul .u32 (.lit 4294967295) (.var 1)) (.var 0)) (.var 0)))
 .dead)
 .dead)
 (.node (.cmp .eql (.cv .u32 (.bin .shr .u64 (.bin .mul .u64 (.cv .u64 (.cv .i64 (.cv .i32 (.var 0)))) (.cv .u64 (.cv .i64 (.cv .i32 (.var 1))))) (.lit 32))) (.bin .sub .u32 (.cv .u32 (.bin .shr .u64 (.bin .mul .u64 (.cv .u64 (.var 0)) (.cv .u64 (.var 1))) (.lit 32))) (.var 1))) (.node (.cmp .eql (.bin .add .u32 (.bin .mul .u32 (.lit 4294967295) (.var 1)) (.var 0)) (.var 0)) (.res (.cmp .eql (.bin .add .u32 (.bin .mul .u32 (.lit 4294967295) (.var 1)) (.var 0)) (.var 0)))
 .dead)
 .dead))
 .dead)
 (.node (.cmp .eql (.cv .u32 (.bin .shr .u64 (.bin .mul .u64 (.cv .u64 (.cv .i64 (.cv .i32 (.var 0)))) (.cv .u64 (.var 1))) (.lit 32))) (.cv .u32 (.bin .shr .u64 (.bin .mul .u64 (.cv .u64 (.var 0)) (.cv .u64 (.var 1))) (.lit 32)))) (.node (.cmp .eql (.bin .shr .u32 (.var 1) (.lit 31)) (.lit 1)) (.node (.cmp .eql (.cv .u32 (.bin .shr .u64 (.bin .mul .u64 (.cv .u64 (.cv .i64 (.cv .i32 (.var 0)))) (.cv .u64 (.cv .i64 (.cv .i32 (.var 1))))) (.lit 32))) (.bin .sub .u32 (.cv .u32 (.bin .shr .u64 (.bin .mul .u64 (.cv .u64 (.var 0)) (.cv .u64 (.var 1))) (.lit 32))) (.var 0))) (.node (.cmp .eql (.bin .add .u32 (.bin .mul .u32 (.lit 4294967295) (.var 1)) (.var 0)) (.var 0)) (.res (.cmp .eql (.bin .add .u32 (.bin .mul .u32 (.lit 4294967295) (.var 1)) (.var 0)) (.var 0)))
 .dead)
 .dead)
 (.node (.cmp .eql (.cv .u32 (.bin .shr .u64 (.bin .mul .u64 (.cv .u64 (.cv .i64 (.cv .i32 (.var 0)))) (.cv .u64 (.cv .i64 (.cv .i32 (.var 1))))) (.lit 32))) (.cv .u32 (.bin .shr .u64 (.bin .mul .u64 (.cv .u64 (.var 0)) (.cv .u64 (.var 1))) (.lit 32)))) (.node (.cmp .eql (.bin .add .u32 (.bin .mul .u32 (.lit 4294967295) (.var 1)) (.var 0)) (.var 0)) (.res (.cmp .eql (.bin .add .u32 (.bin .mul .u32 (.lit 4294967295) (.var 1)) (.var 0)) (.var 0)))
 .dead)
 .dead))
 .dead))
 .dead)
theorem ok1 : pt1.ok R [true] pcT0 = true := by kernel_rfl
def at2 : SB := (.cmp .eql (.var 1) (.lit 4294967295))
def pcT2 : PC := (at2, true) :: pcF0
def pcF2 : PC := (at2, false) :: pcF0
def pt3 : Pt := (.node (.cmp .eql (.bin .mul .u32 (.var 0) (.var 1)) (.cv .u32 (.bin .mul .u64 (.cv .u64 (.var 0)) (.cv .u64 (.var 1))))) (.node (.cmp .eql (.bin .shr .u32 (.var 0) (.lit 31)) (.lit 1)) (.node (.cmp .eql (.cv .u32 (.bin .shr .u64 (.bin .mul .u64 (.cv .u64 (.cv .i64 (.cv .i32 (.var 0)))) (.cv .u64 (.var 1))) (.lit 32))) (.bin .sub .u32 (.cv .u32 (.bin .shr .u64 (.bin .mul .u64 (.cv .u64 (.var 0)) (.cv .u64 (.var 1))) (.lit 32))) (.var 1))) (.node (.cmp .eql (.bin .shr .u32 (.var 1) (.lit 31)) (.lit 1)) (.node (.cmp .eql (.cv .u32 (.bin .shr .u64 (.bin .mul .u64 (.cv .u64 (.cv .i64 (.cv .i32 (.var 0)))) (.cv .u64 (.cv .i64 (.cv .i32 (.var 1))))) (.lit 32))) (.bin .sub .u32 (.bin .sub .u32 (.cv .u32 (.bin .shr .u64 (.bin .mul .u64 (.cv .u64 (.var 0)) (.cv .u64 (.var 1))) (.lit 32))) (.var 1)) (.var 0))) (.node (.cmp .eql (.bin .add .u32 (.bin .mul .u32 (.bin .sub .u32 (.lit 0) (.var 0)) (.var 1)) (.lit 0)) (.var 0)) (.res (.cmp .eql (.bin .add .u32 (.bin .mul .u32 (.bin .quo .u32 (.var 0) (.var 1)) (.var 1)) (.bin .rem .u32 (.var 0) (.var 1))) (.var 0)))
 .dead)
 .dead)
 (.node (.cmp .eql (.cv .u32 (.bin .shr .u64 (.bin .mul .u64 (.cv .u64 (.cv .i64 (.cv .i32 (.var 0)))) (.cv .u64 (.cv .i64 (.cv .i32 (.var 1))))) (.lit 32))) (.bin .sub .u32 (.cv .u32 (.bin .shr .u64 (.bin .mul .u64 (.cv .u64 (.var 0)) (.cv .u64 (.var 1))) (.lit 32))) (.var 1))) (.node (.cmp .eql (.bin .add .u32 (.bin .mul .u32 (.bin .sub .u32 (.lit 0) (.var 0)) (.var 1)) (.lit 0)) (.var 0)) (.res (.cmp .eql (.bin .add .u32 (.bin .mul .u32 (.bin .quo .u32 (.var 0) (.var 1)) (.var 1)) (.bin .rem .u32 (.var 0) (.var 1))) (.var 0)))
 .dead)
 .dead))
 .dead)
 (.node (.cmp .eql (.cv .u32 (.bin .shr .u64 (.bin .mul .u64 (.cv .u64 (.cv .i64 (.cv .i32 (.var 0)))) (.cv .u64 (.var 1))) (.lit 32))) (.cv .u32 (.bin .shr .u64 (.bin .mul .u64 (.cv .u64 (.var 0)) (.cv .u64 (.var 1))) (.lit 32)))) (.node (.cmp .eql (.bin .shr .u32 (.var 1) (.lit 31)) (.lit 1)) (.node (.cmp .eql (.cv .u32 (.bin .shr .u64 (.bin .mul .u64 (.cv .u64 (.cv .i64 (.cv .i32 (.var 0)))) (.cv .u64 (.cv .i64 (.cv .i32 (.var 1))))) (.lit 32))) (.bin .sub .u32 (.cv .u32 (.bin .shr .u64 (.bin .mul .u64 (.cv .u64 (.var 0)) (.cv .u64 (.var 1))) (.lit 32))) (.var 0))) (.node (.cmp .eql (.bin .add .u32 (.bin .mul .u32 (.bin .sub .u32 (.lit 0) (.var 0)) (.var 1)) (.lit 0)) (.var 0)) (.res (.cmp .eql (.bin .add .u32 (.bin .mul .u32 (.bin .quo .u32 (.var 0) (.var 1)) (.var 1)) (.bin .rem .u32 (.var 0) (.var 1))) (.var 0)))
 .dead)
 .dead)
 (.node (.cmp .eql (.cv .u32 (.bin .shr .u64 (.bin .mul .u64 (.cv .u64 (.cv .i64 (.cv .i32 (.var 0)))) (.cv .u64 (.cv .i64 (.cv .i32 (.var 1))))) (.lit 32))) (.cv .u32 (.bin .shr .u64 (.bin .mul .u64 (.cv .u64 (.var 0)) (.cv .u64 (.var 1))) (.lit 32)))) (.node (.cmp .eql (.bin .add .u32 (.bin .mul .u32 (.bin .sub .u32 (.lit 0) (.var 0)) (.var 1)) (.lit 0)) (.var 0)) (.res (.cmp .eql (.bin .add .u32 (.bin .mul .u32 (.bin .quo .u32 (.var 0) (.var 1)) (.var 1)) (.bin .rem .u32 (.var 0) (.var 1))) (.var 0)))
 .dead)
 .dead))
 .dead))
 .dead)
theorem ok3 : pt3.ok R [true, false] pcT2 = true := by kernel_rfl
def pt4 : Pt := (.node (.cmp .eql (.cv .i32 (.var 1)) (.lit 0)) .dead
 (.node (.cmp .eql (.bin .mul .u32 (.var 0) (.var 1)) (.cv .u32 (.bin .mul .u64 (.cv .u64 (.var 0)) (.cv .u64 (.var 1))))) (.node (.cmp .eql (.bin .shr .u32 (.var 0) (.lit 31)) (.lit 1)) (.node (.cmp .eql (.cv .u32 (.bin .shr .u64 (.bin .mul .u64 (.cv .u64 (.cv .i64 (.cv .i32 (.var 0)))) (.cv .u64 (.var 1))) (.lit 32))) (.bin .sub .u32 (.cv .u32 (.bin .shr .u64 (.bin .mul .u64 (.cv .u64 (.var 0)) (.cv .u64 (.var 1))) (.lit 32))) (.var 1))) (.node (.cmp .eql (.bin .shr .u32 (.var 1) (.lit 31)) (.lit 1)) (.node (.cmp .eql (.cv .u32 (.bin .shr .u64 (.bin .mul .u64 (.cv .u64 (.cv .i64 (.cv .i32 (.var 0)))) (.cv .u64 (.cv .i64 (.cv .i32 (.var 1))))) (.lit 32))) (.bin .sub .u32 (.bin .sub .u32 (.cv .u32 (.bin .shr .u64 (.bin .mul .u64 (.cv .u64 (.var 0)) (.cv .u64 (.var 1))) (.lit 32))) (.var 1)) (.var 0))) (.node (.cmp .eql (.bin .add .u32 (.bin .mul .u32 (.cv .u32 (.bin .quo .i32 (.cv .i32 (.var 0)) (.cv .i32 (.var 1)))) (.var 1)) (.cv .u32 (.bin .rem .i32 (.cv .i32 (.var 0)) (.cv .i32 (.var 1))))) (.var 0)) (.res (.cmp .eql (.bin .add .u32 (.bin .mul .u32 (.bin .quo .u32 (.var 0) (.var 1)) (.var 1)) (.bin .rem .u32 (.var 0) (.var 1))) (.var 0)))
 .dead)
 .dead)
 (.node (.cmp .eql (.cv .u32 (.bin .shr .u64 (.bin .mul .u64 (.cv .u64 (.cv .i64 (.cv .i32 (.var 0)))) (.cv .u64 (.cv .i64 (.cv .i32 (.var 1))))) (.lit 32))) (.bin .sub .u32 (.cv .u32 (.bin .shr .u64 (.bin .mul .u64 (.cv .u64 (.var 0)) (.cv .u64 (.var 1))) (.lit 32))) (.var 1))) (.node (.cmp .eql (.bin .add .u32 (.bin .mul .u32 (.cv .u32 (.bin .quo .i32 (.cv .i32 (.var 0)) (.cv .i32 (.var 1)))) (.var 1)) (.cv .u32 (.bin .rem .i32 (.cv .i32 (.var 0)) (.cv .i32 (.var 1))))) (.var 0)) (.res (.cmp .eql (.bin .add .u32 (.bin .mul .u32 (.bin .quo .u32 (.var 0) (.var 1)) (.var 1)) (.bin .rem .u32 (.var 0) (.var 1))) (.var 0)))
 .dead)
 .dead))
 .dead)
 (.node (.cmp .eql (.cv .u32 (.bin .shr .u64 (.bin .mul .u64 (.cv .u64 (.cv .i64 (.cv .i32 (.var 0)))) (.cv .u64 (.var 1))) (.lit 32))) (.cv .u32 (.bin .shr .u64 (.bin .mul .u64 (.cv .u64 (.var 0)) (.cv .u64 (.var 1))) (.lit 32)))) (.node (.cmp .eql (.bin .shr .u32 (.var 1) (.lit 31)) (.lit 1)) (.node (.cmp .eql (.cv .u32 (.bin .shr .u64 (.bin .mul .u64 (.cv .u64 (.cv .i64 (.cv .i32 (.var 0)))) (.cv .u64 (.cv .i64 (.cv .i32 (.var 1))))) (.lit 32))) (.bin .sub .u32 (.cv .u32 (.bin .shr .u64 (.bin .mul .u64 (.cv .u64 (.var 0)) (.cv .u64 (.var 1))) (.lit 32))) (.var 0))) (.node (.cmp .eql (.bin .add .u32 (.bin .mul .u32 (.cv .u32 (.bin .quo .i32 (.cv .i32 (.var 0)) (.cv .i32 (.var 1)))) (.var 1)) (.cv .u32 (.bin .rem .i32 (.cv .i32 (.var 0)) (.cv .i32 (.var 1))))) (.var 0)) (.res (.cmp .eql (.bin .add .u32 (.bin .mul .u32 (.bin .quo .u32 (.var 0) (.var 1)) (.var 1)) (.bin .rem .u32 (.var 0) (.var 1))) (.var 0)))
 .dead)
 .dead)
 (.node (.cmp .eql (.cv .u32 (.bin .shr .u64 (.bin .mul .u64 (.cv .u64 (.cv .i64 (.cv .i32 (.var 0)))) (.cv .u64 (.cv .i64 (.cv .i32 (.var 1))))) (.lit 32))) (.cv .u32 (.bin .shr .u64 (.bin .mul .u64 (.cv .u64 (.var 0)) (.cv .u64 (.var 1))) (.lit 32)))) (.node (.cmp .eql (.bin .add .u32 (.bin .mul .u32 (.cv .u32 (.bin .quo .i32 (.cv .i32 (.var 0)) (.cv .i32 (.var 1)))) (.var 1)) (.cv .u32 (.bin .rem .i32 (.cv .i32 (.var 0)) (.cv .i32 (.var 1))))) (.var 0)) (.res (.cmp .eql (.bin .add .u32 (.bin .mul .u32 (.bin .quo .u32 (.var 0) (.var 1)) (.var 1)) (.bin .rem .u32 (.var 0) (.var 1))) (.var 0)))
 .dead)
 .dead))
 .dead))
 .dead))
theorem ok4 : pt4.ok R [false, false] pcF2 = true := by kernel_rfl
def pt2 : Pt := .node at2 pt3 pt4
theorem ok2 : pt2.ok R [false] pcF0 = true := Pt.ok_node ok3 ok4
def pt0 : Pt := .node at0 pt1 pt2
theorem ok0 : pt0.ok R [] pc0 = true := Pt.ok_node ok1 ok2
theorem mul_mod_congr {a b c d n : Int} (h : a % n = b % n) (h' : c % n = d % n) : (a * c) % n = (b * d) % n := by
  rw [Int.mul_emod, h, h', ← Int.mul_emod]
theorem mul_facts (x y : Int) (hx : 0 ≤ x ∧ x < 4294967296) (hy : 0 ≤ y ∧ y < 4294967296) :
    IntKind.u32.wrap (binI .mul .u64 (IntKind.u64.wrap x) (IntKind.u64.wrap y)) = binI .mul .u32 x y ∧
    (IntKind.u32.wrap (binI .shr .u64 (binI .mul .u64 (IntKind.u64.wrap (IntKind.i64.wrap (IntKind.i32.wrap x))) (IntKind.u64.wrap y)) 32) = if 2147483648 ≤ x then binI .sub .u32 (IntKind.u32.wrap (binI .shr .u64 (binI .mul .u64 (IntKind.u64.wrap x) (IntKind.u64.wrap y)) 32)) y else IntKind.u32.wrap (binI .shr .u64 (binI .mul .u64 (IntKind.u64.wrap x) (IntKind.u64.wrap y)) 32)) ∧
    (IntKind.u32.wrap (binI .shr .u64 (binI .mul .u64 (IntKind.u64.wrap (IntKind.i64.wrap (IntKind.i32.wrap x))) (IntKind.u64.wrap (IntKind.i64.wrap (IntKind.i32.wrap y)))) 32) =
      (if 2147483648 ≤ y then binI .sub .u32 (if 2147483648 ≤ x then binI .sub .u32 (IntKind.u32.wrap (binI .shr .u64 (binI .mul .u64 (IntKind.u64.wrap x) (IntKind.u64.wrap y)) 32)) y else IntKind.u32.wrap (binI .shr .u64 (binI .mul .u64 (IntKind.u64.wrap x) (IntKind.u64.wrap y)) 32)) x
        else (if 2147483648 ≤ x then binI .sub .u32 (IntKind.u32.wrap (binI .shr .u64 (binI .mul .u64 (IntKind.u64.wrap x) (IntKind.u64.wrap y)) 32)) y else IntKind.u32.wrap (binI .shr .u64 (binI .mul .u64 (IntKind.u64.wrap x) (IntKind.u64.wrap y)) 32)))) := by
  have s32 := fun z => shr_any .u64 z 32 (by decide)
  simp at s32
  have m64 : ∀ a b, binI .mul .u64 a b = (a * b) % 18446744073709551616 := fun a b => by simp [binI, IntKind.wrap_u64]
  have i64 : ∀ a : Int, IntKind.i64.wrap a = (a + 9223372036854775808) % 18446744073709551616 - 9223372036854775808 := fun a => by simp [IntKind.wrap, IntKind.bits, IntKind.signed]; split <;> omega
  have x64 : IntKind.u64.wrap x = x := by rw [IntKind.wrap_u64]; omega
  have y64 : IntKind.u64.wrap y = y := by rw [IntKind.wrap_u64]; omega
  have sx : IntKind.i32.wrap x = if 2147483648 ≤ x then x - 4294967296 else x := by rw [IntKind.wrap_i32]; split <;> omega
  have sy : IntKind.i32.wrap y = if 2147483648 ≤ y then y - 4294967296 else y := by rw [IntKind.wrap_i32]; split <;> omega
  have hm0 : 0 ≤ x * y := Int.mul_nonneg hx.1 hy.1
  have hm1 : x * y ≤ 4294967295 * 4294967295 := Int.mul_le_mul (by omega) (by omega) hy.1 (by omega)
  have ux : IntKind.u64.wrap (IntKind.i64.wrap (IntKind.i32.wrap x)) = (if 2147483648 ≤ x then x - 4294967296 else x) % 18446744073709551616 := by
    rw [sx, i64, IntKind.wrap_u64]; split <;> omega
  have uy : IntKind.u64.wrap (IntKind.i64.wrap (IntKind.i32.wrap y)) = (if 2147483648 ≤ y then y - 4294967296 else y) % 18446744073709551616 := by
    rw [sy, i64, IntKind.wrap_u64]; split <;> omega
  rw [ux, uy, x64, y64]
  simp only [m64, s32, IntKind.wrap_u32, mul32, sub32]
  have e1 : ∀ a b : Int, (a % 18446744073709551616 * b) % 18446744073709551616 = (a * b) % 18446744073709551616 := fun a b => mul_mod_congr (by omega) rfl
  have e2 : ∀ a b : Int, (a % 18446744073709551616 * (b % 18446744073709551616)) % 18446744073709551616 = (a * b) % 18446744073709551616 := fun a b => mul_mod_congr (by omega) (by omega)
  rw [e1, e2]
  have d1 : (x - 4294967296) * y = x * y - 4294967296 * y := by rw [Int.sub_mul]
  have d2 : x * (y - 4294967296) = x * y - 4294967296 * x := by rw [Int.mul_sub]; omega
  have d3 : (x - 4294967296) * (y - 4294967296) = x * y - 4294967296 * x - 4294967296 * y + 18446744073709551616 := by
    rw [Int.sub_mul, Int.mul_sub]; omega
  refine ⟨by omega, ?_, ?_⟩
  · split
    · rw [d1]; omega
    · omega
  · split <;> split
    · rw [d3]; omega
    · first | (rw [d1]; omega) | (rw [d2]; omega)
    · first | (rw [d2]; omega) | (rw [d1]; omega)
    · omega
theorem div_u32 (x y : Int) (hx : 0 ≤ x ∧ x < 4294967296) (hy : 0 ≤ y ∧ y < 4294967296) (h0 : y ≠ 0) : binI .add .u32 (binI .mul .u32 (binI .quo .u32 x y) y) (binI .rem .u32 x y) = x := by
  have hq : binI .quo .u32 x y = x.tdiv y % 4294967296 := by simp [binI, IntKind.wrap_u32]
  have hr : binI .rem .u32 x y = x.tmod y := rfl
  rw [add32, mul32, hq, hr]
  have e : (x.tdiv y % 4294967296 * y) % 4294967296 = (x.tdiv y * y) % 4294967296 := mul_mod_congr (by omega) rfl
  rw [e]
  have := Int.mul_tdiv_add_tmod x y
  rw [Int.mul_comm] at this
  generalize x.tdiv y * y = a at *
  generalize x.tmod y = b at *
  omega
theorem div_i32 (x y : Int) (hx : 0 ≤ x ∧ x < 4294967296) (hy : 0 ≤ y ∧ y < 4294967296) (h0 : y ≠ 0) :
    binI .add .u32 (binI .mul .u32 (IntKind.u32.wrap (binI .quo .i32 (IntKind.i32.wrap x) (IntKind.i32.wrap y))) y) (IntKind.u32.wrap (binI .rem .i32 (IntKind.i32.wrap x) (IntKind.i32.wrap y))) = x := by
  have hq : binI .quo .i32 (IntKind.i32.wrap x) (IntKind.i32.wrap y) = ((IntKind.i32.wrap x).tdiv (IntKind.i32.wrap y) + 2147483648) % 4294967296 - 2147483648 := by simp only [binI, IntKind.wrap_i32]
  have hr : binI .rem .i32 (IntKind.i32.wrap x) (IntKind.i32.wrap y) = (IntKind.i32.wrap x).tmod (IntKind.i32.wrap y) := rfl
  rw [add32, mul32, hq, hr, IntKind.wrap_u32, IntKind.wrap_u32]
  have sx : IntKind.i32.wrap x % 4294967296 = x := by rw [IntKind.wrap_i32]; omega
  have sy : y % 4294967296 = IntKind.i32.wrap y % 4294967296 := by rw [IntKind.wrap_i32]; omega
  generalize IntKind.i32.wrap x = a at *
  generalize IntKind.i32.wrap y = b at *
  have e : ((((a.tdiv b + 2147483648) % 4294967296 - 2147483648) % 4294967296) * y) % 4294967296 = (a.tdiv b * b) % 4294967296 := mul_mod_congr (by omega) sy
  rw [e]
  have := Int.mul_tdiv_add_tmod a b
  rw [Int.mul_comm] at this
  generalize a.tdiv b * b = c at *
  generalize a.tmod b = d at *
  omega
theorem due (V : Val) (h : Fits V 0 (allK shs)) : pt0.due V := by
  have hx : 0 ≤ V.i 0 ∧ V.i 0 < 4294967296 := by
    have := h.1
    simp only [IntKind.has, IntKind.min, IntKind.max, IntKind.bits, IntKind.signed] at this
    simp at this
    omega
  have hy : 0 ≤ V.i 1 ∧ V.i 1 < 4294967296 := by
    have := h.2.1
    simp only [IntKind.has, IntKind.min, IntKind.max, IntKind.bits, IntKind.signed] at this
    simp at this
    omega
  obtain ⟨vi, vb⟩ := V
  simp only at hx hy ⊢
  obtain ⟨f1, f2, f3⟩ := mul_facts _ _ hx hy
  have s31 := fun z => shr_any .u32 z 31 (by decide)
  simp at s31
  have g0 : vi 1 = 0 → binI .add .u32 (binI .mul .u32 4294967295 (vi 1)) (vi 0) = vi 0 := fun h => by rw [h, add32, mul32]; omega
  have g1 : vi 1 = 4294967295 → binI .add .u32 (binI .mul .u32 (binI .sub .u32 0 (vi 0)) (vi 1)) 0 = vi 0 := fun h => by rw [h, add32, mul32, sub32]; omega
  have g2 : vi 1 ≠ 0 → binI .add .u32 (binI .mul .u32 (binI .quo .u32 (vi 0) (vi 1)) (vi 1)) (binI .rem .u32 (vi 0) (vi 1)) = vi 0 := fun h => div_u32 _ _ hx hy h
  have g3 : vi 1 ≠ 0 → binI .add .u32 (binI .mul .u32 (IntKind.u32.wrap (binI .quo .i32 (IntKind.i32.wrap (vi 0)) (IntKind.i32.wrap (vi 1)))) (vi 1)) (IntKind.u32.wrap (binI .rem .i32 (IntKind.i32.wrap (vi 0)) (IntKind.i32.wrap (vi 1)))) = vi 0 := fun h => div_i32 _ _ hx hy h
  have g4 : vi 1 ≠ 0 → ¬ IntKind.i32.wrap (vi 1) = 0 := fun h => by rw [IntKind.wrap_i32]; omega
  have t0 : (vi 0 / 2147483648 = 1) ↔ 2147483648 ≤ vi 0 := by omega
  have t1 : (vi 1 / 2147483648 = 1) ↔ 2147483648 ≤ vi 1 := by omega
  simp only [pt0, pt1, pt2, pt3, pt4, at2, at0, Pt.due, SB.den, SE.den, cmpI, f1, f2, f3, s31]
  clear f1 f2 f3 s31 hx hy
  by_cases c0 : vi 1 = 0
  · have k := g0 c0
    by_cases c2 : 2147483648 ≤ vi 0 <;> by_cases c3 : 2147483648 ≤ vi 1 <;> simp [c0, c2, c3, t0, t1] <;> (try rw [c0] at k) <;> (try simp [k]) <;> omega
  · by_cases c1 : vi 1 = 4294967295
    · have k := g1 c1
      have k2 := g2 c0
      rw [c1] at k k2
      by_cases c2 : 2147483648 ≤ vi 0 <;> simp [c1, c2, t0, k, k2]
    · by_cases c2 : 2147483648 ≤ vi 0 <;> by_cases c3 : 2147483648 ≤ vi 1 <;> simp [c0, c1, c2, c3, t0, t1, g2 c0, g3 c0, g4 c0]

theorem walk (W : World) (base : Nat) (args : Array Value) (hl : args.size = Try.f7.params.size) (hval : ∀ (j : Nat) t v, Try.f7.params[j]? = some t → args[j]? = some v → Value.okWide Try.prog W .any base t v) :
    Calls Try.prog 7 args W fun e w' => e = .returned (.bool true) ∧ Grown W w' := by
  obtain ⟨h1, h2⟩ := open_args (P := Try.prog) (W := W) (r := .any) (base := base) (all := cellsAll args.toList) (i := 0) (ss := shs) (ts := Try.f7.params.toList) (vs := args.toList) (by kernel_rfl) (by simpa using hl)
    (fun j t v h h' => hval j t v (by simpa using h) (by simpa using h')) (fun j v h => by simpa using h)
  have hf : Fits (valOf (cellsAll args.toList)) 0 (allK shs) := fits_of h2 (fun j v h => by simpa using h)
  have h3 := law_calls2 (t := pt0) (σ := hp0) (G := fun _ => none) (pc := pc0) mixed hF ok0 (valOf (cellsAll args.toList)) (due _ hf) (seeds_hold hf _) h1 W (HRel.start _ W) (fun g id h => by cases h) (fun id cs h => by rw [get_hp0] at h; cases h)
  simpa using h3

set_option maxRecDepth 100000 in
theorem lifted (os : Os) (started : os.Started) (H : Type) (enc : TypeId × Value → H) :
    ReturnsInHanded {} Try.checked os 7 .any (Rows.aluMulsSpec.pre6 enc Try.prog Try.f7 Rows.aluMulsRow.domain false) (Rows.aluMulsSpec.post enc Try.prog Try.f7 false true false false) := by
  refine returnsInHanded_of_change (C := Try.checked) own started (by kernel_rfl) Try.func7
    (ChangeSpec.witness6 (enc := enc) (C := Try.checked) false ⟨#[], #[.int .u32 0, .int .u32 0], []⟩ 8 (by kernel_rfl) (by kernel_rfl) (by kernel_rfl) (by kernel_rfl)) ?_
  intro W base args ds gs before hval0 hW hcnd _
  have hW' := hW
  obtain ⟨p, q, hA0, hV, hpq, hfz, hnd⟩ := hW
  have hV0 := hV
  obtain ⟨rfl, rfl⟩ := trodVars_none (show DataW.TrodVars enc Try.prog W (fun _ => true) [] gs q from hV)
  have hl : args.size = Try.f7.params.size := by
    have := trodAll_len hA0
    simpa using this
  refine (walk W base args hl hval0).mono fun e W' ⟨he, hg⟩ => ?_
  subst he
  exact ⟨_, rfl, post_plain (dep := 10) (rt := 4) hW' rfl (by kernel_rfl) (fun h => by
    match ds, h with
    | [_, _], _ => rfl) rfl Try.underlying4 hg⟩

theorem over : Rows.aluMulsRow.holds Try.pinned (OpenSpec.ofChange Rows.aluMulsSpec) :=
  OpenClaim.holds_of_wide 7 Try.f7 rfl rfl rfl rfl rfl rfl rfl ⟨rfl, rfl, rfl, rfl, rfl⟩ rfl rfl rfl rfl rfl (by kernel_rfl) Try.func7 (by kernel_rfl)
    (of_decide_eq_true (by kernel_rfl)) (by unfold Func.isWrapper; first | (rw [if_pos (by decide +kernel)]; kernel_rfl) | (rw [if_neg (by decide +kernel)]; exact ⟨rfl, rfl⟩))
    (fun os started H enc _ => lifted os started H enc)

theorem proved : Rows.AluMulsSaid :=
  over
#print axioms proved
end Go.Proofs.Ytagaclifeoiepaa.aluMuls
