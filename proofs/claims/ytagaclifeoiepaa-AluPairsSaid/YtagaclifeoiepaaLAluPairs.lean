/- AluPairs: branches come in pairs, the lesser and the greater of two are these two, an immediate is as a register, at every input. No condition. -/
import Derived.Test.YtagaclifeoiepaaFAluPairs
import Derived.Test.YtagaclifeoiepaaSxAr
namespace Go.Proofs.Ytagaclifeoiepaa.aluPairs
open Go.Sx Go.ChangeShapes Go.WideShapes Go.ChangeAt Go.RowKit
set_option linter.unusedVariables false
set_option maxRecDepth 1000000

theorem own : ownKnob Try.prog.godebug = none := by kernel_rfl
def shs : List (Bool × List CK) := [(false, [.int .u32]), (false, [.int .u32])]
def pc0 : PC := seeds (allK shs) [0, 1]
def R : List Bool → Option (SV × St) := runH ⟨F, fun _ => none⟩ hp0 pc0 600 10 (symAs 0 shs)
def at0 : SB := (.eq (.cmp .eql (.var 0) (.var 1)) (.not (.cmp .eql (.var 0) (.var 1))))
def pcT0 : PC := (at0, true) :: pc0
def pcF0 : PC := (at0, false) :: pc0
def pt1 : Pt := .dead
theorem ok1 : pt1.ok R [true] pcT0 = true := by kernel_rfl
def at2 : SB := (.eq (.cmp .lss (.cv .i32 (.var 0)) (.cv .i32 (.var 1))) (.not (.cmp .lss (.cv .i32 (.var 0)) (.cv .i32 (.var 1)))))
def pcT2 : PC := (at2, true) :: pcF0
def pcF2 : PC := (at2, false) :: pcF0
def pt3 : Pt := .dead
theorem ok3 : pt3.ok R [true, false] pcT2 = true := by kernel_rfl
def at4 : SB := (.eq (.cmp .lss (.var 0) (.var 1)) (.not (.cmp .lss (.var 0) (.var 1))))
def pcT4 : PC := (at4, true) :: pcF2
def pcF4 : PC := (at4, false) :: pcF2
def pt5 : Pt := .dead
theorem ok5 : pt5.ok R [true, false, false] pcT4 = true := by kernel_rfl
def at6 : SB := (.cmp .lss (.cv .i32 (.var 0)) (.cv .i32 (.var 1)))
def pcT6 : PC := (at6, true) :: pcF4
def pcF6 : PC := (at6, false) :: pcF4
def pt7 : Pt := (.node (.cmp .lss (.var 0) (.var 1)) (.node (.cmp .eql (.bin .add .u32 (.bin .sub .u32 (.var 0) (.var 1)) (.var 1)) (.var 0)) (.res (.cmp .eql (.bin .add .u32 (.bin .sub .u32 (.var 0) (.var 1)) (.var 1)) (.var 0)))
 .dead)
 (.node (.cmp .lss (.var 1) (.var 0)) (.node (.cmp .eql (.bin .xor .u32 (.var 1) (.var 0)) (.bin .xor .u32 (.var 0) (.var 1))) (.node (.cmp .eql (.bin .add .u32 (.var 1) (.var 0)) (.bin .add .u32 (.var 0) (.var 1))) (.node (.cmp .eql (.var 1) (.var 0)) (.node (.cmp .eql (.bin .add .u32 (.bin .sub .u32 (.var 0) (.var 1)) (.var 1)) (.var 0)) (.res (.cmp .eql (.bin .add .u32 (.bin .sub .u32 (.var 0) (.var 1)) (.var 1)) (.var 0)))
 .dead)
 (.node (.cmp .eql (.bin .add .u32 (.bin .sub .u32 (.var 0) (.var 1)) (.var 1)) (.var 0)) (.res (.cmp .eql (.bin .add .u32 (.bin .sub .u32 (.var 0) (.var 1)) (.var 1)) (.var 0)))
 .dead))
 .dead)
 .dead)
 (.node (.cmp .eql (.bin .xor .u32 (.var 1) (.var 1)) (.bin .xor .u32 (.var 0) (.var 1))) (.node (.cmp .eql (.bin .add .u32 (.var 1) (.var 1)) (.bin .add .u32 (.var 0) (.var 1))) (.node (.cmp .eql (.var 1) (.var 0)) (.node (.cmp .eql (.bin .add .u32 (.bin .sub .u32 (.var 0) (.var 1)) (.var 1)) (.var 0)) (.res (.cmp .eql (.bin .add .u32 (.bin .sub .u32 (.var 0) (.var 1)) (.var 1)) (.var 0)))
 .dead)
 (.node (.cmp .eql (.bin .add .u32 (.bin .sub .u32 (.var 0) (.var 1)) (.var 1)) (.var 0)) (.res (.cmp .eql (.bin .add .u32 (.bin .sub .u32 (.var 0) (.var 1)) (.var 1)) (.var 0)))
 .dead))
 .dead)
 .dead)))
theorem ok7 : pt7.ok R [true, false, false, false] pcT6 = true := by kernel_rfl
def at8 : SB := (.cmp .lss (.cv .i32 (.var 1)) (.cv .i32 (.var 0)))
def pcT8 : PC := (at8, true) :: pcF6
def pcF8 : PC := (at8, false) :: pcF6
def pt9 : Pt := (.node (.cmp .eql (.bin .xor .u32 (.var 1) (.var 0)) (.bin .xor .u32 (.var 0) (.var 1))) (.node (.cmp .eql (.bin .add .u32 (.var 1) (.var 0)) (.bin .add .u32 (.var 0) (.var 1))) (.node (.cmp .eql (.var 1) (.var 0)) (.node (.cmp .lss (.var 0) (.var 1)) (.node (.cmp .eql (.bin .add .u32 (.bin .sub .u32 (.var 0) (.var 1)) (.var 1)) (.var 0)) (.res (.cmp .eql (.bin .add .u32 (.bin .sub .u32 (.var 0) (.var 1)) (.var 1)) (.var 0)))
 .dead)
 (.node (.cmp .lss (.var 1) (.var 0)) (.node (.cmp .eql (.bin .add .u32 (.bin .sub .u32 (.var 0) (.var 1)) (.var 1)) (.var 0)) (.res (.cmp .eql (.bin .add .u32 (.bin .sub .u32 (.var 0) (.var 1)) (.var 1)) (.var 0)))
 .dead)
 (.node (.cmp .eql (.bin .xor .u32 (.var 1) (.var 1)) (.bin .xor .u32 (.var 0) (.var 1))) (.node (.cmp .eql (.bin .add .u32 (.var 1) (.var 1)) (.bin .add .u32 (.var 0) (.var 1))) (.node (.cmp .eql (.bin .add .u32 (.bin .sub .u32 (.var 0) (.var 1)) (.var 1)) (.var 0)) (.res (.cmp .eql (.bin .add .u32 (.bin .sub .u32 (.var 0) (.var 1)) (.var 1)) (.var 0)))
 .dead)
 .dead)
 .dead)))
 (.node (.cmp .lss (.var 0) (.var 1)) (.node (.cmp .eql (.bin .add .u32 (.bin .sub .u32 (.var 0) (.var 1)) (.var 1)) (.var 0)) (.res (.cmp .eql (.bin .add .u32 (.bin .sub .u32 (.var 0) (.var 1)) (.var 1)) (.var 0)))
 .dead)
 (.node (.cmp .lss (.var 1) (.var 0)) (.node (.cmp .eql (.bin .add .u32 (.bin .sub .u32 (.var 0) (.var 1)) (.var 1)) (.var 0)) (.res (.cmp .eql (.bin .add .u32 (.bin .sub .u32 (.var 0) (.var 1)) (.var 1)) (.var 0)))
 .dead)
 (.node (.cmp .eql (.bin .xor .u32 (.var 1) (.var 1)) (.bin .xor .u32 (.var 0) (.var 1))) (.node (.cmp .eql (.bin .add .u32 (.var 1) (.var 1)) (.bin .add .u32 (.var 0) (.var 1))) (.node (.cmp .eql (.bin .add .u32 (.bin .sub .u32 (.var 0) (.var 1)) (.var 1)) (.var 0)) (.res (.cmp .eql (.bin .add .u32 (.bin .sub .u32 (.var 0) (.var 1)) (.var 1)) (.var 0)))
 .dead)
 .dead)
 .dead))))
 .dead)
 .dead)
theorem ok9 : pt9.ok R [true, false, false, false, false] pcT8 = true := by kernel_rfl
def pt10 : Pt := (.node (.cmp .eql (.bin .xor .u32 (.var 1) (.var 1)) (.bin .xor .u32 (.var 0) (.var 1))) (.node (.cmp .eql (.bin .add .u32 (.var 1) (.var 1)) (.bin .add .u32 (.var 0) (.var 1))) (.node (.cmp .eql (.var 1) (.var 0)) (.node (.cmp .lss (.var 0) (.var 1)) (.node (.cmp .eql (.bin .add .u32 (.bin .sub .u32 (.var 0) (.var 1)) (.var 1)) (.var 0)) (.res (.cmp .eql (.bin .add .u32 (.bin .sub .u32 (.var 0) (.var 1)) (.var 1)) (.var 0)))
 .dead)
 (.node (.cmp .lss (.var 1) (.var 0)) (.node (.cmp .eql (.bin .xor .u32 (.var 1) (.var 0)) (.bin .xor .u32 (.var 0) (.var 1))) (.node (.cmp .eql (.bin .add .u32 (.var 1) (.var 0)) (.bin .add .u32 (.var 0) (.var 1))) (.node (.cmp .eql (.bin .add .u32 (.bin .sub .u32 (.var 0) (.var 1)) (.var 1)) (.var 0)) (.res (.cmp .eql (.bin .add .u32 (.bin .sub .u32 (.var 0) (.var 1)) (.var 1)) (.var 0)))
 .dead)
 .dead)
 .dead)
 (.node (.cmp .eql (.bin .add .u32 (.bin .sub .u32 (.var 0) (.var 1)) (.var 1)) (.var 0)) (.res (.cmp .eql (.bin .add .u32 (.bin .sub .u32 (.var 0) (.var 1)) (.var 1)) (.var 0)))
 .dead)))
 (.node (.cmp .lss (.var 0) (.var 1)) (.node (.cmp .eql (.bin .add .u32 (.bin .sub .u32 (.var 0) (.var 1)) (.var 1)) (.var 0)) (.res (.cmp .eql (.bin .add .u32 (.bin .sub .u32 (.var 0) (.var 1)) (.var 1)) (.var 0)))
 .dead)
 (.node (.cmp .lss (.var 1) (.var 0)) (.node (.cmp .eql (.bin .xor .u32 (.var 1) (.var 0)) (.bin .xor .u32 (.var 0) (.var 1))) (.node (.cmp .eql (.bin .add .u32 (.var 1) (.var 0)) (.bin .add .u32 (.var 0) (.var 1))) (.node (.cmp .eql (.bin .add .u32 (.bin .sub .u32 (.var 0) (.var 1)) (.var 1)) (.var 0)) (.res (.cmp .eql (.bin .add .u32 (.bin .sub .u32 (.var 0) (.var 1)) (.var 1)) (.var 0)))
 .dead)
 .dead)
 .dead)
 (.node (.cmp .eql (.bin .add .u32 (.bin .sub .u32 (.var 0) (.var 1)) (.var 1)) (.var 0)) (.res (.cmp .eql (.bin .add .u32 (.bin .sub .u32 (.var 0) (.var 1)) (.var 1)) (.var 0)))
 .dead))))
 .dead)
 .dead)
theorem ok10 : pt10.ok R [false, false, false, false, false] pcF8 = true := by kernel_rfl
def pt8 : Pt := .node at8 pt9 pt10
theorem ok8 : pt8.ok R [false, false, false, false] pcF6 = true := Pt.ok_node ok9 ok10
def pt6 : Pt := .node at6 pt7 pt8
theorem ok6 : pt6.ok R [false, false, false] pcF4 = true := Pt.ok_node ok7 ok8
def pt4 : Pt := .node at4 pt5 pt6
theorem ok4 : pt4.ok R [false, false] pcF2 = true := Pt.ok_node ok5 ok6
def pt2 : Pt := .node at2 pt3 pt4
theorem ok2 : pt2.ok R [false] pcF0 = true := Pt.ok_node ok3 ok4
def pt0 : Pt := .node at0 pt1 pt2
theorem ok0 : pt0.ok R [] pc0 = true := Pt.ok_node ok1 ok2
theorem due (V : Val) (h : Fits V 0 (allK shs)) : pt0.due V := by
  have hx : 0 ≤ V.i 0 ∧ V.i 0 < 4294967296 := by
    have := h.1
    simp only [IntKind.has, IntKind.min, IntKind.max, IntKind.bits, IntKind.signed] at this
    simp at this
    omega
  have hy : 0 ≤ V.i 1 ∧ V.i 1 < 4294967296 := by
    have := h.2.1
    simp only [IntKind.has, IntKind.min, IntKind.max, IntKind.bits, IntKind.signed] at this
    simp at this
    omega
  obtain ⟨vi, vb⟩ := V
  simp only at hx hy ⊢
  have e1 : binI .add .u32 (binI .sub .u32 (vi 0) (vi 1)) (vi 1) = vi 0 := by rw [add32, sub32]; omega
  have e2 := xor_comm32 (vi 1) (vi 0)
  have e3 : binI .add .u32 (vi 1) (vi 0) = binI .add .u32 (vi 0) (vi 1) := by rw [add32, add32, Int.add_comm]
  have e4 : ¬ (vi 0 < vi 1) → ¬ (vi 1 < vi 0) → vi 0 = vi 1 := fun a b => by omega
  have e5 : vi 0 < vi 1 → ¬ (vi 1 < vi 0) := fun a b => by omega
  have e6 : ¬ (IntKind.i32.wrap (vi 0) < IntKind.i32.wrap (vi 1)) → ¬ (IntKind.i32.wrap (vi 1) < IntKind.i32.wrap (vi 0)) → vi 0 = vi 1 := fun a b => by
    rw [IntKind.wrap_i32, IntKind.wrap_i32] at a b; omega
  have e7 : IntKind.i32.wrap (vi 0) < IntKind.i32.wrap (vi 1) → ¬ (IntKind.i32.wrap (vi 1) < IntKind.i32.wrap (vi 0)) := fun a b => by omega
  simp only [pt0, pt1, pt2, pt3, pt4, pt5, pt6, pt7, pt8, pt9, pt10, at8, at6, at4, at2, at0, Pt.due, SB.den, SE.den, cmpI, e1, e2, e3]
  clear hx hy e1 e2 e3
  by_cases c1 : vi 0 < vi 1 <;> by_cases c2 : vi 1 < vi 0 <;> by_cases c3 : IntKind.i32.wrap (vi 0) < IntKind.i32.wrap (vi 1) <;> by_cases c4 : IntKind.i32.wrap (vi 1) < IntKind.i32.wrap (vi 0) <;>
    first
    | exact (e5 c1 c2).elim
    | exact (e7 c3 c4).elim
    | (have e := e4 c1 c2; simp [e])
    | (have e := e6 c3 c4; simp [e])
    | (simp [c1, c2, c3, c4]; done)
    | (cases h9 : (vi 0 == vi 1) <;> simp [c1, c2, c3, c4, bne, h9])
theorem walk (W : World) (base : Nat) (args : Array Value) (hl : args.size = Try.f10.params.size) (hval : ∀ (j : Nat) t v, Try.f10.params[j]? = some t → args[j]? = some v → Value.okWide Try.prog W .any base t v) :
    Calls Try.prog 10 args W fun e w' => e = .returned (.bool true) ∧ Grown W w' := by
  obtain ⟨h1, h2⟩ := open_args (P := Try.prog) (W := W) (r := .any) (base := base) (all := cellsAll args.toList) (i := 0) (ss := shs) (ts := Try.f10.params.toList) (vs := args.toList) (by kernel_rfl) (by simpa using hl)
    (fun j t v h h' => hval j t v (by simpa using h) (by simpa using h')) (fun j v h => by simpa using h)
  have hf : Fits (valOf (cellsAll args.toList)) 0 (allK shs) := fits_of h2 (fun j v h => by simpa using h)
  have h3 := law_calls2 (t := pt0) (σ := hp0) (G := fun _ => none) (pc := pc0) mixed hF ok0 (valOf (cellsAll args.toList)) (due _ hf) (seeds_hold hf _) h1 W (HRel.start _ W) (fun g id h => by cases h) (fun id cs h => by rw [get_hp0] at h; cases h)
  simpa using h3

set_option maxRecDepth 100000 in
theorem lifted (os : Os) (started : os.Started) (H : Type) (enc : TypeId × Value → H) :
    ReturnsInHanded {} Try.checked os 10 .any (Rows.aluPairsSpec.pre6 enc Try.prog Try.f10 Rows.aluPairsRow.domain false) (Rows.aluPairsSpec.post enc Try.prog Try.f10 false true false false) := by
  refine returnsInHanded_of_change (C := Try.checked) own started (by kernel_rfl) Try.func10
    (ChangeSpec.witness6 (enc := enc) (C := Try.checked) false ⟨#[], #[.int .u32 0, .int .u32 0], []⟩ 8 (by kernel_rfl) (by kernel_rfl) (by kernel_rfl) (by kernel_rfl)) ?_
  intro W base args ds gs before hval0 hW hcnd _
  have hW' := hW
  obtain ⟨p, q, hA0, hV, hpq, hfz, hnd⟩ := hW
  have hV0 := hV
  obtain ⟨rfl, rfl⟩ := trodVars_none (show DataW.TrodVars enc Try.prog W (fun _ => true) [] gs q from hV)
  have hl : args.size = Try.f10.params.size := by
    have := trodAll_len hA0
    simpa using this
  refine (walk W base args hl hval0).mono fun e W' ⟨he, hg⟩ => ?_
  subst he
  exact ⟨_, rfl, post_plain (dep := 10) (rt := 4) hW' rfl (by kernel_rfl) (fun h => by
    match ds, h with
    | [_, _], _ => rfl) rfl Try.underlying4 hg⟩

theorem over : Rows.aluPairsRow.holds Try.pinned (OpenSpec.ofChange Rows.aluPairsSpec) :=
  OpenClaim.holds_of_wide 10 Try.f10 rfl rfl rfl rfl rfl rfl rfl ⟨rfl, rfl, rfl, rfl, rfl⟩ rfl rfl rfl rfl rfl (by kernel_rfl) Try.func10 (by kernel_rfl)
    (of_decide_eq_true (by kernel_rfl)) (by unfold Func.isWrapper; first | (rw [if_pos (by decide +kernel)]; kernel_rfl) | (rw [if_neg (by decide +kernel)]; exact ⟨rfl, rfl⟩))
    (fun os started H enc _ => lifted os started H enc)

theorem proved : Rows.AluPairsSaid :=
  over
#print axioms proved
end Go.Proofs.Ytagaclifeoiepaa.aluPairs
