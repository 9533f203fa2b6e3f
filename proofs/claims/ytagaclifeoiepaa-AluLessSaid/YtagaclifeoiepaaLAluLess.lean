/- AluLess: less, with signs and without, is by the borrow and the sign, at every input. No condition. -/
import Derived.Test.YtagaclifeoiepaaFAluLess
import Derived.Test.YtagaclifeoiepaaSxAr
namespace Go.Proofs.Ytagaclifeoiepaa.aluLess
open Go.Sx Go.ChangeShapes Go.WideShapes Go.ChangeAt Go.RowKit
set_option linter.unusedVariables false
set_option maxRecDepth 1000000

theorem own : ownKnob Try.prog.godebug = none := by kernel_rfl
def shs : List (Bool × List CK) := [(false, [.int .u32]), (false, [.int .u32])]
def pt : Pt := (.node (.cmp .lss (.var 0) (.var 1)) (.node (.cmp .lss (.cv .i32 (.var 0)) (.cv .i32 (.var 1))) (.node (.cmp .lss (.cv .u64 (.var 0)) (.cv .u64 (.var 1))) (.node (.eq (.cmp .eql (.bin .shr .u32 (.bin .sub .u32 (.var 0) (.var 1)) (.lit 31)) (.lit 1)) (.cmp .eql (.bin .shr .u32 (.bin .and .u32 (.bin .xor .u32 (.var 0) (.var 1)) (.bin .xor .u32 (.var 0) (.bin .sub .u32 (.var 0) (.var 1)))) (.lit 31)) (.lit 1))) .dead
 (.node (.eq (.cmp .eql (.var 0) (.var 1)) (.cmp .eql (.bin .sub .u32 (.var 0) (.var 1)) (.lit 0))) .fin
 .dead))
 .dead)
 (.node (.cmp .lss (.cv .u64 (.var 0)) (.cv .u64 (.var 1))) (.node (.eq (.cmp .eql (.bin .shr .u32 (.bin .sub .u32 (.var 0) (.var 1)) (.lit 31)) (.lit 1)) (.cmp .eql (.bin .shr .u32 (.bin .and .u32 (.bin .xor .u32 (.var 0) (.var 1)) (.bin .xor .u32 (.var 0) (.bin .sub .u32 (.var 0) (.var 1)))) (.lit 31)) (.lit 1))) (.node (.eq (.cmp .eql (.var 0) (.var 1)) (.cmp .eql (.bin .sub .u32 (.var 0) (.var 1)) (.lit 0))) .fin
 .dead)
 .dead)
 .dead))
 (.node (.cmp .lss (.cv .i32 (.var 0)) (.cv .i32 (.var 1))) (.node (.cmp .lss (.cv .u64 (.var 0)) (.cv .u64 (.var 1))) .dead
 (.node (.eq (.cmp .eql (.bin .shr .u32 (.bin .sub .u32 (.var 0) (.var 1)) (.lit 31)) (.lit 1)) (.cmp .eql (.bin .shr .u32 (.bin .and .u32 (.bin .xor .u32 (.var 0) (.var 1)) (.bin .xor .u32 (.var 0) (.bin .sub .u32 (.var 0) (.var 1)))) (.lit 31)) (.lit 1))) .dead
 (.node (.eq (.cmp .eql (.var 0) (.var 1)) (.cmp .eql (.bin .sub .u32 (.var 0) (.var 1)) (.lit 0))) .fin
 .dead)))
 (.node (.cmp .lss (.cv .u64 (.var 0)) (.cv .u64 (.var 1))) .dead
 (.node (.eq (.cmp .eql (.bin .shr .u32 (.bin .sub .u32 (.var 0) (.var 1)) (.lit 31)) (.lit 1)) (.cmp .eql (.bin .shr .u32 (.bin .and .u32 (.bin .xor .u32 (.var 0) (.var 1)) (.bin .xor .u32 (.var 0) (.bin .sub .u32 (.var 0) (.var 1)))) (.lit 31)) (.lit 1))) (.node (.eq (.cmp .eql (.var 0) (.var 1)) (.cmp .eql (.bin .sub .u32 (.var 0) (.var 1)) (.lit 0))) .fin
 .dead)
 .dead))))
theorem ok : pt.ok (runL ⟨F, fun _ => none⟩ 600 11 (symAs 0 shs)) [] [] = true := by kernel_rfl
theorem due (V : Val) (h : Fits V 0 (allK shs)) : pt.due V := by
  have hx : 0 ≤ V.i 0 ∧ V.i 0 < 4294967296 := by
    have := h.1
    simp only [IntKind.has, IntKind.min, IntKind.max, IntKind.bits, IntKind.signed] at this
    simp at this
    omega
  have hy : 0 ≤ V.i 1 ∧ V.i 1 < 4294967296 := by
    have := h.2.1
    simp only [IntKind.has, IntKind.min, IntKind.max, IntKind.bits, IntKind.signed] at this
    simp at this
    omega
  simp only [pt, Pt.due, SB.den, SE.den, cmpI]
  obtain ⟨vi, vb⟩ := V
  simp only at hx hy ⊢
  have key : ∀ x y : Int, (0 ≤ x ∧ x < 4294967296) → (0 ≤ y ∧ y < 4294967296) →
    (binI .shr .u32 (binI .and .u32 (binI .xor .u32 x y) (binI .xor .u32 x (binI .sub .u32 x y))) 31 = if (2147483648 ≤ x) ≠ (2147483648 ≤ y) ∧ (2147483648 ≤ x) ≠ (2147483648 ≤ (x - y) % 4294967296) then 1 else 0) := by
   intro x y hx hy
   have s31 := fun x => shr_any .u32 x 31 (by decide)
   simp at s31
   have hd := range32 .sub x y (by simp)
   have hxy := range32 .xor x y (by simp)
   have hxd := range32 .xor x (binI .sub .u32 x y) (by simp)
   have ha := range32 .and (binI .xor .u32 x y) (binI .xor .u32 x (binI .sub .u32 x y)) (by simp)
   have e1 := bit_xor x y hx hy 31
   have e2 := bit_xor x (binI .sub .u32 x y) hx hd 31
   have e3 := bit_and (binI .xor .u32 x y) (binI .xor .u32 x (binI .sub .u32 x y)) hxy hxd 31
   have e4 : (binI .xor .u32 x y / 2 ^ 31 % 2 = 0 ∨ binI .xor .u32 x y / 2 ^ 31 % 2 = 1) := by omega
   have e5 := sub32 x y
   rw [s31]
   rcases e4 with e4 | e4 <;> rw [e4] at e3 <;> simp at e1 e2 e3 e4 <;> by_cases c2 : 2147483648 ≤ x <;> by_cases c3 : 2147483648 ≤ y <;> by_cases c4 : 2147483648 ≤ (x - y) % 4294967296 <;> simp [c2, c3, c4] <;> omega
  have s31 := fun x => shr_any .u32 x 31 (by decide)
  simp at s31
  have k := key _ _ hx hy
  simp only [k]
  simp only [s31, sub32, IntKind.wrap_u64, IntKind.wrap_i32]
  clear k key s31
  have w : ∀ x : Int, (0 ≤ x ∧ x < 4294967296) → (x + 2147483648) % 4294967296 - 2147483648 = if 2147483648 ≤ x then x - 4294967296 else x := by intro x h; split <;> omega
  have q0 : vi 0 % 18446744073709551616 = vi 0 := by omega
  have q1 : vi 1 % 18446744073709551616 = vi 1 := by omega
  have d0 : ((vi 0 - vi 1) % 4294967296 / 2147483648 == 1) = decide (2147483648 ≤ (vi 0 - vi 1) % 4294967296) := by
    rw [Bool.eq_iff_iff]; simp; omega
  have d1 : ((vi 0 - vi 1) % 4294967296 == 0) = (vi 0 == vi 1) := by rw [Bool.eq_iff_iff]; simp; omega
  have d2 : (vi 0 - vi 1) % 4294967296 = if vi 0 < vi 1 then vi 0 - vi 1 + 4294967296 else vi 0 - vi 1 := by split <;> omega
  rw [w _ hx, w _ hy, q0, q1, d0, d1, d2]
  clear w q0 q1 d0 d1 d2
  by_cases c1 : vi 0 < vi 1 <;> by_cases c2 : 2147483648 ≤ vi 0 <;> by_cases c3 : 2147483648 ≤ vi 1 <;> by_cases c4 : 2147483648 ≤ (vi 0 - vi 1) <;> by_cases c5 : 2147483648 ≤ (vi 0 - vi 1) + 4294967296 <;> simp [c1, c2, c3, c4, c5] <;> omega
theorem walk (W : World) (base : Nat) (args : Array Value) (hl : args.size = Try.f11.params.size) (hval : ∀ (j : Nat) t v, Try.f11.params[j]? = some t → args[j]? = some v → Value.okWide Try.prog W .any base t v) :
    Calls Try.prog 11 args W fun e w' => e = .returned (.bool true) ∧ Grown W w' := by
  obtain ⟨h1, h2⟩ := open_args (P := Try.prog) (W := W) (r := .any) (base := base) (all := cellsAll args.toList) (i := 0) (ss := shs) (ts := Try.f11.params.toList) (vs := args.toList) (by kernel_rfl) (by simpa using hl)
    (fun j t v h h' => hval j t v (by simpa using h) (by simpa using h')) (fun j v h => by simpa using h)
  have h3 := law_calls mixed hF ok (valOf (cellsAll args.toList)) (due _ (fits_of h2 (fun j v h => by simpa using h))) h1 W
  simpa using h3

set_option maxRecDepth 100000 in
theorem lifted (os : Os) (started : os.Started) (H : Type) (enc : TypeId × Value → H) :
    ReturnsInHanded {} Try.checked os 11 .any (Rows.aluLessSpec.pre6 enc Try.prog Try.f11 Rows.aluLessRow.domain false) (Rows.aluLessSpec.post enc Try.prog Try.f11 false true false false) := by
  refine returnsInHanded_of_change (C := Try.checked) own started (by kernel_rfl) Try.func11
    (ChangeSpec.witness6 (enc := enc) (C := Try.checked) false ⟨#[], #[.int .u32 0, .int .u32 0], []⟩ 8 (by kernel_rfl) (by kernel_rfl) (by kernel_rfl) (by kernel_rfl)) ?_
  intro W base args ds gs before hval0 hW hcnd _
  have hW' := hW
  obtain ⟨p, q, hA0, hV, hpq, hfz, hnd⟩ := hW
  have hV0 := hV
  obtain ⟨rfl, rfl⟩ := trodVars_none (show DataW.TrodVars enc Try.prog W (fun _ => true) [] gs q from hV)
  have hl : args.size = Try.f11.params.size := by
    have := trodAll_len hA0
    simpa using this
  refine (walk W base args hl hval0).mono fun e W' ⟨he, hg⟩ => ?_
  subst he
  exact ⟨_, rfl, post_plain (dep := 10) (rt := 4) hW' rfl (by kernel_rfl) (fun h => by
    match ds, h with
    | [_, _], _ => rfl) rfl Try.underlying4 hg⟩

theorem over : Rows.aluLessRow.holds Try.pinned (OpenSpec.ofChange Rows.aluLessSpec) :=
  OpenClaim.holds_of_wide 11 Try.f11 rfl rfl rfl rfl rfl rfl rfl ⟨rfl, rfl, rfl, rfl, rfl⟩ rfl rfl rfl rfl rfl (by kernel_rfl) Try.func11 (by kernel_rfl)
    (of_decide_eq_true (by kernel_rfl)) (by unfold Func.isWrapper; first | (rw [if_pos (by decide +kernel)]; kernel_rfl) | (rw [if_neg (by decide +kernel)]; exact ⟨rfl, rfl⟩))
    (fun os started H enc _ => lifted os started H enc)

theorem proved : Rows.AluLessSaid :=
  over
#print axioms proved
end Go.Proofs.Ytagaclifeoiepaa.aluLess
