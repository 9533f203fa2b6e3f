/- AluParts: what a store cuts off and a load extends is as the load says, at every input. No condition. -/
import Derived.Test.YtagaclifeoiepaaFAluParts
import Derived.Test.YtagaclifeoiepaaSxAr
namespace Go.Proofs.Ytagaclifeoiepaa.aluParts
open Go.Sx Go.ChangeShapes Go.WideShapes Go.ChangeAt Go.RowKit
set_option linter.unusedVariables false
set_option maxRecDepth 1000000

theorem own : ownKnob Try.prog.godebug = none := by kernel_rfl
def shs : List (Bool × List CK) := [(false, [.int .u32])]
def pt : Pt := (.node (.cmp .neq (.bin .and .u32 (.bin .shr .u32 (.var 0) (.lit 0)) (.lit 255)) (.bin .and .u32 (.var 0) (.lit 255))) .dead
 (.node (.cmp .neq (.bin .and .u32 (.bin .shr .u32 (.var 0) (.lit 0)) (.lit 65535)) (.bin .and .u32 (.var 0) (.lit 65535))) .dead
 (.node (.cmp .neq (.bin .and .u32 (.bin .shr .u32 (.var 0) (.lit 0)) (.lit 4294967295)) (.var 0)) .dead
 (.node (.cmp .eql (.bin .and .u32 (.bin .shr .u32 (.bin .and .u32 (.bin .shr .u32 (.var 0) (.lit 0)) (.lit 255)) (.lit 0)) (.lit 255)) (.bin .and .u32 (.bin .shr .u32 (.var 0) (.lit 0)) (.lit 255))) (.node (.cmp .eql (.bin .and .u32 (.bin .shr .u32 (.bin .and .u32 (.bin .shr .u32 (.var 0) (.lit 0)) (.lit 65535)) (.lit 0)) (.lit 65535)) (.bin .and .u32 (.bin .shr .u32 (.var 0) (.lit 0)) (.lit 65535))) (.node (.cmp .eql (.bin .and .u32 (.bin .shr .u32 (.bin .and .u32 (.bin .shr .u32 (.var 0) (.lit 0)) (.lit 4294967295)) (.lit 0)) (.lit 4294967295)) (.bin .and .u32 (.bin .shr .u32 (.var 0) (.lit 0)) (.lit 4294967295))) (.node (.cmp .eql (.bin .and .u32 (.cv .u32 (.bin .shr .i32 (.cv .i32 (.bin .shl .u32 (.bin .and .u32 (.bin .shr .u32 (.var 0) (.lit 0)) (.lit 255)) (.lit 24))) (.lit 24))) (.lit 255)) (.bin .and .u32 (.bin .shr .u32 (.var 0) (.lit 0)) (.lit 255))) (.node (.cmp .eql (.bin .and .u32 (.cv .u32 (.bin .shr .i32 (.cv .i32 (.bin .shl .u32 (.bin .and .u32 (.bin .shr .u32 (.var 0) (.lit 0)) (.lit 65535)) (.lit 16))) (.lit 16))) (.lit 65535)) (.bin .and .u32 (.bin .shr .u32 (.var 0) (.lit 0)) (.lit 65535))) (.node (.eq (.cmp .eql (.cv .u32 (.bin .shr .i32 (.cv .i32 (.bin .shl .u32 (.bin .and .u32 (.bin .shr .u32 (.var 0) (.lit 0)) (.lit 255)) (.lit 24))) (.lit 24))) (.bin .and .u32 (.bin .shr .u32 (.var 0) (.lit 0)) (.lit 255))) (.cmp .lss (.bin .and .u32 (.bin .shr .u32 (.var 0) (.lit 0)) (.lit 255)) (.lit 128))) (.node (.eq (.cmp .eql (.cv .u32 (.bin .shr .i32 (.cv .i32 (.bin .shl .u32 (.bin .and .u32 (.bin .shr .u32 (.var 0) (.lit 0)) (.lit 65535)) (.lit 16))) (.lit 16))) (.bin .and .u32 (.bin .shr .u32 (.var 0) (.lit 0)) (.lit 65535))) (.cmp .lss (.bin .and .u32 (.bin .shr .u32 (.var 0) (.lit 0)) (.lit 65535)) (.lit 32768))) (.node (.cmp .eql (.bin .and .u32 (.bin .shr .u32 (.var 0) (.lit 0)) (.lit 4294967295)) (.var 0)) .fin
 .dead)
 .dead)
 .dead)
 .dead)
 .dead)
 .dead)
 .dead)
 .dead))))
theorem ok : pt.ok (runL ⟨F, fun _ => none⟩ 600 9 (symAs 0 shs)) [] [] = true := by kernel_rfl
theorem due (V : Val) (h : Fits V 0 (allK shs)) : pt.due V := by
  have hx : 0 ≤ V.i 0 ∧ V.i 0 < 4294967296 := by
    have := h.1
    simp only [IntKind.has, IntKind.min, IntKind.max, IntKind.bits, IntKind.signed] at this
    simp at this
    omega
  have m8 := fun x => mask32 x 255 8 (by decide) (by decide)
  have m16 := fun x => mask32 x 65535 16 (by decide) (by decide)
  have m32 := fun x => mask32 x 4294967295 32 (by decide) (by decide)
  have s0 := fun x => shr_any .u32 x 0 (by decide)
  have s24 := fun x => shr_any .i32 x 24 (by decide)
  have s16 := fun x => shr_any .i32 x 16 (by decide)
  have l24 := fun x => shl32 x 24 (by decide)
  have l16 := fun x => shl32 x 16 (by decide)
  simp at m8 m16 m32 s0 s24 s16 l24 l16
  simp only [pt, Pt.due, SB.den, SE.den, cmpI, m8, m16, m32, s0, s24, s16, l24, l16, IntKind.wrap_u32, IntKind.wrap_i32]
  have k8 : ∀ y : Int, 0 ≤ y → y < 256 → (y * 16777216 % 4294967296 + 2147483648) % 4294967296 - 2147483648 = 16777216 * (if y < 128 then y else y - 256) := by intro y h1 h2; split <;> omega
  have k16 : ∀ y : Int, 0 ≤ y → y < 65536 → (y * 65536 % 4294967296 + 2147483648) % 4294967296 - 2147483648 = 65536 * (if y < 32768 then y else y - 65536) := by intro y h1 h2; split <;> omega
  have e8 := k8 (V.i 0 % 256) (by omega) (by omega)
  have e16 := k16 (V.i 0 % 65536) (by omega) (by omega)
  have r8 : ∀ z : Int, 16777216 * z / 16777216 = z := fun z => by omega
  have r16 : ∀ z : Int, 65536 * z / 65536 = z := fun z => by omega
  simp only [e8, e16, r8, r16]
  by_cases c8 : V.i 0 % 256 < 128 <;> by_cases c16 : V.i 0 % 65536 < 32768 <;> simp [c8, c16] <;> omega
theorem walk (W : World) (base : Nat) (args : Array Value) (hl : args.size = Try.f9.params.size) (hval : ∀ (j : Nat) t v, Try.f9.params[j]? = some t → args[j]? = some v → Value.okWide Try.prog W .any base t v) :
    Calls Try.prog 9 args W fun e w' => e = .returned (.bool true) ∧ Grown W w' := by
  obtain ⟨h1, h2⟩ := open_args (P := Try.prog) (W := W) (r := .any) (base := base) (all := cellsAll args.toList) (i := 0) (ss := shs) (ts := Try.f9.params.toList) (vs := args.toList) (by kernel_rfl) (by simpa using hl)
    (fun j t v h h' => hval j t v (by simpa using h) (by simpa using h')) (fun j v h => by simpa using h)
  have h3 := law_calls mixed hF ok (valOf (cellsAll args.toList)) (due _ (fits_of h2 (fun j v h => by simpa using h))) h1 W
  simpa using h3

set_option maxRecDepth 100000 in
theorem lifted (os : Os) (started : os.Started) (H : Type) (enc : TypeId × Value → H) :
    ReturnsInHanded {} Try.checked os 9 .any (Rows.aluPartsSpec.pre6 enc Try.prog Try.f9 Rows.aluPartsRow.domain false) (Rows.aluPartsSpec.post enc Try.prog Try.f9 false true false false) := by
  refine returnsInHanded_of_change (C := Try.checked) own started (by kernel_rfl) Try.func9
    (ChangeSpec.witness6 (enc := enc) (C := Try.checked) false ⟨#[], #[.int .u32 0], []⟩ 8 (by kernel_rfl) (by kernel_rfl) (by kernel_rfl) (by kernel_rfl)) ?_
  intro W base args ds gs before hval0 hW hcnd _
  have hW' := hW
  obtain ⟨p, q, hA0, hV, hpq, hfz, hnd⟩ := hW
  have hV0 := hV
  obtain ⟨rfl, rfl⟩ := trodVars_none (show DataW.TrodVars enc Try.prog W (fun _ => true) [] gs q from hV)
  have hl : args.size = Try.f9.params.size := by
    have := trodAll_len hA0
    simpa using this
  refine (walk W base args hl hval0).mono fun e W' ⟨he, hg⟩ => ?_
  subst he
  exact ⟨_, rfl, post_plain (dep := 10) (rt := 4) hW' rfl (by kernel_rfl) (fun h => by
    match ds, h with
    | [_], _ => rfl) rfl Try.underlying4 hg⟩

theorem over : Rows.aluPartsRow.holds Try.pinned (OpenSpec.ofChange Rows.aluPartsSpec) :=
  OpenClaim.holds_of_wide 9 Try.f9 rfl rfl rfl rfl rfl rfl rfl ⟨rfl, rfl, rfl, rfl, rfl⟩ rfl rfl rfl rfl rfl (by kernel_rfl) Try.func9 (by kernel_rfl)
    (of_decide_eq_true (by kernel_rfl)) (by unfold Func.isWrapper; first | (rw [if_pos (by decide +kernel)]; kernel_rfl) | (rw [if_neg (by decide +kernel)]; exact ⟨rfl, rfl⟩))
    (fun os started H enc _ => lifted os started H enc)

theorem proved : Rows.AluPartsSaid :=
  over
#print axioms proved
end Go.Proofs.Ytagaclifeoiepaa.aluParts
