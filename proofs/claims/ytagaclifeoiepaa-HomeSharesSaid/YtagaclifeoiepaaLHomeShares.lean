/- HomeShares: of so many that only read all are sharers, or the one alone that came first, at every input. No condition. -/
import Derived.Test.YtagaclifeoiepaaSHomeSharesa
import Derived.Test.YtagaclifeoiepaaSyAr
import Derived.Test.YtagaclifeoiepaaSyFin
namespace Go.Proofs.Ytagaclifeoiepaa.homeShares
open Go.Sx Go.ChangeShapes Go.WideShapes Go.ChangeAt Go.RowKit
set_option linter.unusedVariables false
set_option linter.unusedSimpArgs false
set_option maxRecDepth 1000000

theorem own : ownKnob Try.prog.godebug = none := by kernel_rfl
def shs : List (Bool × List CK) := [(false, [.int .i64]), (false, [.int .i64]), (true, [.int .u32, .int .u32, .int .u32, .int .u32])]
def pc0 : PC := seeds (allK shs) []
noncomputable def R : TT (SV × SP) := evFnD (cfgT F G doorH TL) 2000 5 (symAs 0 shs) ⟨doorH, pc0⟩
def e0 : SE := .bin .and .i64 (.var 0) (.lit 14)
def e1 : SE := .bin .or .i64 e0 (.lit 1)
def e2 : SE := .bin .shr .i64 e1 (.lit 3)
def e3 : SE := .bin .shr .i64 e1 (.lit 2)
def e4 : SE := .bin .and .i64 e2 (.lit 1)
def e5 : SE := .bin .and .i64 e3 (.lit 1)
def e6 : SE := .bin .and .i64 (.bin .shr .i64 e1 (.lit 1)) (.lit 1)
def pt0c0 : Pt := (.node (.cmp .eql (.bin .and .i64 e1 (.lit 1)) (.lit 0)) (.node (.cmp .eql e6 (.lit 0)) (.node (.cmp .eql e5 (.lit 0)) (.node (.cmp .eql e4 (.lit 0)) (.node (.cmp .eql (.bin .and .i64 (.var 1) (.lit 3)) (.lit 0)) .fin
 (.node (.cmp .eql (.bin .and .i64 (.var 1) (.lit 3)) (.lit 1)) .fin
 (.node (.cmp .eql (.bin .and .i64 (.var 1) (.lit 3)) (.lit 2)) .fin
 (.node (.cmp .eql (.bin .and .i64 (.var 1) (.lit 3)) (.lit 3)) .fin
 .fin))))
 .dead)
 (.node (.cmp .eql e4 (.lit 0)) .dead
 .dead))
 (.node (.cmp .eql e5 (.lit 0)) (.node (.cmp .eql e4 (.lit 0)) .dead
 .dead)
 .dead))
 (.node (.cmp .eql e6 (.lit 0)) (.node (.cmp .eql e5 (.lit 0)) (.node (.cmp .eql e4 (.lit 0)) .fin
 (.node (.cmp .eql (.bin .and .i64 (.var 1) (.lit 3)) (.lit 0)) (.node (.cmp .eql e4 (.lit 1)) .fin
 .dead)
 (.node (.cmp .eql (.bin .and .i64 (.var 1) (.lit 3)) (.lit 3)) (.node (.cmp .eql (.bin .and .i64 e1 (.lit 1)) (.lit 1)) .fin
 .dead)
 (.node (.cmp .eql (.bin .and .i64 e1 (.lit 1)) (.lit 1)) (.node (.cmp .eql (.bin .and .i64 (.var 1) (.lit 3)) (.lit 1)) (.node (.cmp .eql e4 (.lit 1)) .fin
 .dead)
 (.node (.cmp .eql (.bin .and .i64 (.var 1) (.lit 3)) (.lit 2)) (.node (.cmp .eql e4 (.lit 1)) .fin
 .dead)
 (.node (.cmp .eql e4 (.lit 1)) .fin
 .dead)))
 (.node (.cmp .eql (.bin .and .i64 (.var 1) (.lit 3)) (.lit 1)) (.node (.cmp .eql e4 (.lit 1)) .dead
 .dead)
 (.node (.cmp .eql (.bin .and .i64 (.var 1) (.lit 3)) (.lit 2)) (.node (.cmp .eql e4 (.lit 1)) .dead
 .dead)
 (.node (.cmp .eql e4 (.lit 1)) .dead
 .dead)))))))
 (.node (.cmp .eql e4 (.lit 0)) (.node (.cmp .eql (.bin .and .i64 (.var 1) (.lit 3)) (.lit 0)) (.node (.cmp .eql e5 (.lit 1)) .fin
 .dead)
 (.node (.cmp .eql (.bin .and .i64 (.var 1) (.lit 3)) (.lit 2)) (.node (.cmp .eql (.bin .and .i64 e1 (.lit 1)) (.lit 1)) .fin
 .dead)
 (.node (.cmp .eql (.bin .and .i64 e1 (.lit 1)) (.lit 1)) (.node (.cmp .eql (.bin .and .i64 (.var 1) (.lit 3)) (.lit 1)) (.node (.cmp .eql e5 (.lit 1)) .fin
 .dead)
 (.node (.cmp .eql e5 (.lit 1)) (.node (.cmp .eql (.bin .and .i64 (.var 1) (.lit 3)) (.lit 3)) .fin
 .fin)
 (.node (.cmp .eql (.bin .and .i64 (.var 1) (.lit 3)) (.lit 3)) .dead
 .dead)))
 (.node (.cmp .eql (.bin .and .i64 (.var 1) (.lit 3)) (.lit 1)) (.node (.cmp .eql e5 (.lit 1)) .dead
 .dead)
 (.node (.cmp .eql e5 (.lit 1)) .dead
 (.node (.cmp .eql (.bin .and .i64 (.var 1) (.lit 3)) (.lit 3)) .dead
 .dead))))))
 (.node (.cmp .eql (.bin .and .i64 (.var 1) (.lit 3)) (.lit 0)) (.node (.cmp .eql e5 (.lit 1)) (.node (.cmp .eql e4 (.lit 1)) .fin
 .dead)
 (.node (.cmp .eql e4 (.lit 1)) .dead
 .dead))
 (.node (.cmp .eql (.bin .and .i64 (.var 1) (.lit 3)) (.lit 2)) (.node (.cmp .eql (.bin .and .i64 e1 (.lit 1)) (.lit 1)) (.node (.cmp .eql e4 (.lit 1)) .fin
 .dead)
 (.node (.cmp .eql e4 (.lit 1)) .dead
 .dead))
 (.node (.cmp .eql (.bin .and .i64 (.var 1) (.lit 3)) (.lit 3)) (.node (.cmp .eql (.bin .and .i64 e1 (.lit 1)) (.lit 1)) (.node (.cmp .eql e5 (.lit 1)) .fin
 .dead)
 (.node (.cmp .eql e5 (.lit 1)) .dead
 .dead))
 (.node (.cmp .eql (.bin .and .i64 e1 (.lit 1)) (.lit 1)) (.node (.cmp .eql (.bin .and .i64 (.var 1) (.lit 3)) (.lit 1)) (.node (.cmp .eql e5 (.lit 1)) (.node (.cmp .eql e4 (.lit 1)) .fin
 .dead)
 (.node (.cmp .eql e4 (.lit 1)) .dead
 .dead))
 (.node (.cmp .eql e5 (.lit 1)) (.node (.cmp .eql e4 (.lit 1)) .fin
 .dead)
 (.node (.cmp .eql e4 (.lit 1)) .dead
 .dead)))
 (.node (.cmp .eql (.bin .and .i64 (.var 1) (.lit 3)) (.lit 1)) (.node (.cmp .eql e5 (.lit 1)) .dead
 (.node (.cmp .eql e4 (.lit 1)) .dead
 .dead))
 (.node (.cmp .eql e5 (.lit 1)) .dead
 (.node (.cmp .eql e4 (.lit 1)) .dead
 .dead)))))))))
 (.node (.cmp .eql e5 (.lit 0)) (.node (.cmp .eql e4 (.lit 0)) (.node (.cmp .eql (.bin .and .i64 (.var 1) (.lit 3)) (.lit 0)) (.node (.cmp .eql e6 (.lit 1)) .fin
 .dead)
 (.node (.cmp .eql (.bin .and .i64 (.var 1) (.lit 3)) (.lit 1)) (.node (.cmp .eql (.bin .and .i64 e1 (.lit 1)) (.lit 1)) .fin
 .dead)
 (.node (.cmp .eql (.bin .and .i64 e1 (.lit 1)) (.lit 1)) (.node (.cmp .eql e6 (.lit 1)) (.node (.cmp .eql (.bin .and .i64 (.var 1) (.lit 3)) (.lit 2)) .fin
 (.node (.cmp .eql (.bin .and .i64 (.var 1) (.lit 3)) (.lit 3)) .fin
 .fin))
 (.node (.cmp .eql (.bin .and .i64 (.var 1) (.lit 3)) (.lit 2)) .dead
 (.node (.cmp .eql (.bin .and .i64 (.var 1) (.lit 3)) (.lit 3)) .dead
 .dead)))
 (.node (.cmp .eql e6 (.lit 1)) .dead
 (.node (.cmp .eql (.bin .and .i64 (.var 1) (.lit 3)) (.lit 2)) .dead
 (.node (.cmp .eql (.bin .and .i64 (.var 1) (.lit 3)) (.lit 3)) .dead
 .dead))))))
 (.node (.cmp .eql (.bin .and .i64 (.var 1) (.lit 3)) (.lit 0)) (.node (.cmp .eql e6 (.lit 1)) (.node (.cmp .eql e4 (.lit 1)) .fin
 .dead)
 (.node (.cmp .eql e4 (.lit 1)) .dead
 .dead))
 (.node (.cmp .eql (.bin .and .i64 (.var 1) (.lit 3)) (.lit 1)) (.node (.cmp .eql (.bin .and .i64 e1 (.lit 1)) (.lit 1)) (.node (.cmp .eql e4 (.lit 1)) .fin
 .dead)
 (.node (.cmp .eql e4 (.lit 1)) .dead
 .dead))
 (.node (.cmp .eql (.bin .and .i64 (.var 1) (.lit 3)) (.lit 3)) (.node (.cmp .eql (.bin .and .i64 e1 (.lit 1)) (.lit 1)) (.node (.cmp .eql e6 (.lit 1)) .fin
 .dead)
 (.node (.cmp .eql e6 (.lit 1)) .dead
 .dead))
 (.node (.cmp .eql (.bin .and .i64 e1 (.lit 1)) (.lit 1)) (.node (.cmp .eql e6 (.lit 1)) (.node (.cmp .eql (.bin .and .i64 (.var 1) (.lit 3)) (.lit 2)) (.node (.cmp .eql e4 (.lit 1)) .fin
 .dead)
 (.node (.cmp .eql e4 (.lit 1)) .fin
 .dead))
 (.node (.cmp .eql (.bin .and .i64 (.var 1) (.lit 3)) (.lit 2)) (.node (.cmp .eql e4 (.lit 1)) .dead
 .dead)
 (.node (.cmp .eql e4 (.lit 1)) .dead
 .dead)))
 (.node (.cmp .eql e6 (.lit 1)) .dead
 (.node (.cmp .eql (.bin .and .i64 (.var 1) (.lit 3)) (.lit 2)) (.node (.cmp .eql e4 (.lit 1)) .dead
 .dead)
 (.node (.cmp .eql e4 (.lit 1)) .dead
 .dead))))))))
 (.node (.cmp .eql e4 (.lit 0)) (.node (.cmp .eql (.bin .and .i64 (.var 1) (.lit 3)) (.lit 0)) (.node (.cmp .eql e6 (.lit 1)) (.node (.cmp .eql e5 (.lit 1)) .fin
 .dead)
 (.node (.cmp .eql e5 (.lit 1)) .dead
 .dead))
 (.node (.cmp .eql (.bin .and .i64 (.var 1) (.lit 3)) (.lit 1)) (.node (.cmp .eql (.bin .and .i64 e1 (.lit 1)) (.lit 1)) (.node (.cmp .eql e5 (.lit 1)) .fin
 .dead)
 (.node (.cmp .eql e5 (.lit 1)) .dead
 .dead))
 (.node (.cmp .eql (.bin .and .i64 (.var 1) (.lit 3)) (.lit 2)) (.node (.cmp .eql (.bin .and .i64 e1 (.lit 1)) (.lit 1)) (.node (.cmp .eql e6 (.lit 1)) .fin
 .dead)
 (.node (.cmp .eql e6 (.lit 1)) .dead
 .dead))
 (.node (.cmp .eql (.bin .and .i64 e1 (.lit 1)) (.lit 1)) (.node (.cmp .eql e6 (.lit 1)) (.node (.cmp .eql e5 (.lit 1)) (.node (.cmp .eql (.bin .and .i64 (.var 1) (.lit 3)) (.lit 3)) .fin
 .fin)
 (.node (.cmp .eql (.bin .and .i64 (.var 1) (.lit 3)) (.lit 3)) .dead
 .dead))
 (.node (.cmp .eql e5 (.lit 1)) .dead
 (.node (.cmp .eql (.bin .and .i64 (.var 1) (.lit 3)) (.lit 3)) .dead
 .dead)))
 (.node (.cmp .eql e6 (.lit 1)) .dead
 (.node (.cmp .eql e5 (.lit 1)) .dead
 (.node (.cmp .eql (.bin .and .i64 (.var 1) (.lit 3)) (.lit 3)) .dead
 .dead)))))))
 (.node (.cmp .eql (.bin .and .i64 (.var 1) (.lit 3)) (.lit 0)) (.node (.cmp .eql e6 (.lit 1)) (.node (.cmp .eql e5 (.lit 1)) (.node (.cmp .eql e4 (.lit 1)) .fin
 .dead)
 (.node (.cmp .eql e4 (.lit 1)) .dead
 .dead))
 (.node (.cmp .eql e5 (.lit 1)) .dead
 (.node (.cmp .eql e4 (.lit 1)) .dead
 .dead)))
 (.node (.cmp .eql (.bin .and .i64 (.var 1) (.lit 3)) (.lit 1)) (.node (.cmp .eql (.bin .and .i64 e1 (.lit 1)) (.lit 1)) (.node (.cmp .eql e5 (.lit 1)) (.node (.cmp .eql e4 (.lit 1)) .fin
 .dead)
 (.node (.cmp .eql e4 (.lit 1)) .dead
 .dead))
 (.node (.cmp .eql e5 (.lit 1)) .dead
 (.node (.cmp .eql e4 (.lit 1)) .dead
 .dead)))
 (.node (.cmp .eql (.bin .and .i64 (.var 1) (.lit 3)) (.lit 2)) (.node (.cmp .eql (.bin .and .i64 e1 (.lit 1)) (.lit 1)) (.node (.cmp .eql e6 (.lit 1)) (.node (.cmp .eql e4 (.lit 1)) .fin
 .dead)
 (.node (.cmp .eql e4 (.lit 1)) .dead
 .dead))
 (.node (.cmp .eql e6 (.lit 1)) .dead
 (.node (.cmp .eql e4 (.lit 1)) .dead
 .dead)))
 (.node (.cmp .eql (.bin .and .i64 (.var 1) (.lit 3)) (.lit 3)) (.node (.cmp .eql (.bin .and .i64 e1 (.lit 1)) (.lit 1)) (.node (.cmp .eql e6 (.lit 1)) (.node (.cmp .eql e5 (.lit 1)) .fin
 .dead)
 (.node (.cmp .eql e5 (.lit 1)) .dead
 .dead))
 (.node (.cmp .eql e6 (.lit 1)) .dead
 (.node (.cmp .eql e5 (.lit 1)) .dead
 .dead)))
 (.node (.cmp .eql (.bin .and .i64 e1 (.lit 1)) (.lit 1)) (.node (.cmp .eql e6 (.lit 1)) (.node (.cmp .eql e5 (.lit 1)) (.node (.cmp .eql e4 (.lit 1)) .fin
 .dead)
 (.node (.cmp .eql e4 (.lit 1)) .dead
 .dead))
 (.node (.cmp .eql e5 (.lit 1)) .dead
 (.node (.cmp .eql e4 (.lit 1)) .dead
 .dead)))
 (.node (.cmp .eql e6 (.lit 1)) .dead
 (.node (.cmp .eql e5 (.lit 1)) .dead
 (.node (.cmp .eql e4 (.lit 1)) .dead
 .dead))))))))))))
theorem pt0k0 : pt0c0.okD R pc0 = true := by kernel_rfl
theorem and_lit (x n : Int) (h0 : 0 ≤ n) (h1 : n ≤ 100) : 0 ≤ binI .and .i64 x n ∧ binI .and .i64 x n ≤ n := and_max .i64 x n h0 (by simp [IntKind.max, IntKind.bits, IntKind.signed]; omega)
theorem mask_cases (x : Int) : ∃ e : Nat, e < 8 ∧ binI .or .i64 (binI .and .i64 x 14) 1 = 2 * (e : Int) + 1 := by
  obtain ⟨h0, h1⟩ := and_lit x 14 (by decide) (by decide)
  obtain ⟨a, ha⟩ := Int.eq_ofNat_of_zero_le h0
  rw [ha] at h0 h1 ⊢
  have : ∀ a : Nat, a ≤ 14 → ∃ e : Nat, e < 8 ∧ binI .or .i64 (a : Int) 1 = 2 * (e : Int) + 1 := by
    intro a h
    refine ⟨a / 2, by omega, ?_⟩
    have hall : ∀ a : Fin 15, binI .or .i64 ((a.1 : Nat) : Int) 1 = 2 * ((a.1 / 2 : Nat) : Int) + 1 := by decide
    exact hall ⟨a, by omega⟩
  exact this a (by omega)
theorem writer_cases (x : Int) : ∃ e : Nat, e < 4 ∧ binI .and .i64 x 3 = (e : Int) := by
  obtain ⟨h0, h1⟩ := and_lit x 3 (by decide) (by decide)
  obtain ⟨a, ha⟩ := Int.eq_ofNat_of_zero_le h0
  exact ⟨a, by omega, ha⟩
def maskT : SE := .bin .or .i64 (.bin .and .i64 (.var 0) (.lit 14)) (.lit 1)
def writerT : SE := .bin .and .i64 (.var 1) (.lit 3)
def env (e w : Nat) : Env := [(maskT, 2 * (e : Int) + 1), (writerT, (w : Int))]
theorem all : ∀ (e : Fin 8) (w : Fin 4), Pt.dueB (env e.1 w.1) pt0c0 = true := by decide +kernel
theorem due (V : Val) (h : Fits V 0 (allK shs)) : pt0c0.due V := by
  obtain ⟨e, he, hm⟩ := mask_cases (V.i 0)
  obtain ⟨w, hw, hn⟩ := writer_cases (V.i 1)
  refine Pt.due_of (s := env e w) ?_ (all ⟨e, he⟩ ⟨w, hw⟩)
  intro p hp
  simp only [env, List.mem_cons, List.not_mem_nil, or_false] at hp
  rcases hp with rfl | rfl
  · exact hm
  · exact hn

theorem walk (W : World) (base : Nat) (args : Array Value) (hl : args.size = Try.f5.params.size) (hval : ∀ (j : Nat) t v, Try.f5.params[j]? = some t → args[j]? = some v → Value.okWide Try.prog W .any base t v)
    (hD : ∀ V, ∃ ι, HRel V ι W.heap.size doorH W ∧ GRel G ι ∧ ∀ id cs, doorH.get id ≠ some (.cells cs false)) :
    Calls Try.prog 5 args W fun e w' => e = .returned (.bool true) ∧ Grown W w' := by
  obtain ⟨h1, h2⟩ := open_args (P := Try.prog) (W := W) (r := .any) (base := base) (all := cellsAll args.toList) (i := 0) (ss := shs) (ts := Try.f5.params.toList) (vs := args.toList) (by kernel_rfl) (by simpa using hl)
    (fun j t v h h' => hval j t v (by simpa using h) (by simpa using h')) (fun j v h => by simpa using h)
  have hf : Fits (valOf (cellsAll args.toList)) 0 (allK shs) := fits_of h2 (fun j v h => by simpa using h)
  obtain ⟨ι, d1, d2, d3⟩ := hD (valOf (cellsAll args.toList))
  have h3 := law_callsU (R := R) mixed hF doorH_ok G_lt VTL rfl pt0k0 (valOf (cellsAll args.toList)) (due _ hf) (seeds_hold hf _) h1 W d1 d2 d3
  simpa using h3

set_option maxRecDepth 100000 in
theorem lifted (os : Os) (started : os.Started) (H : Type) (enc : TypeId × Value → H) :
    ReturnsInHanded {} Try.checked os 5 .any (Rows.homeSharesSpec.pre6 enc Try.prog Try.f5 Rows.homeSharesRow.domain false) (Rows.homeSharesSpec.post enc Try.prog Try.f5 false true false false) := by
  refine returnsInHanded_of_change (C := Try.checked) own started (by kernel_rfl) Try.func5
    (ChangeSpec.witness6 (enc := enc) (C := Try.checked) false ⟨#[], #[.int .i64 0, .int .i64 0, .agg #[.int .u32 0, .int .u32 0, .int .u32 0, .int .u32 0]], []⟩ 8 (by kernel_rfl) (by kernel_rfl) (by kernel_rfl) (by kernel_rfl)) ?_
  intro W base args ds gs before hval0 hW hcnd _
  have hW' := hW
  obtain ⟨p, q, hA0, hV, hpq, hfz, hnd⟩ := hW
  obtain ⟨rfl, rfl⟩ := trodVars_none (show DataW.TrodVars enc Try.prog W (fun _ => true) [] gs q from hV)
  have hl : args.size = Try.f5.params.size := by
    have := trodAll_len hA0
    simpa using this
  refine (walk W base args hl hval0 fun V => ⟨no, HRel.start V W, (fun g id h => by cases h), fun id cs h => by rw [show doorH = hp0 from rfl, get_hp0] at h; cases h⟩).mono fun e W' ⟨he, hg⟩ => ?_
  subst he
  exact ⟨_, rfl, post_plain (dep := 10) (rt := 4) hW' rfl (by kernel_rfl) (fun h => by
    match ds, h with
    | [_, _, _], _ => rfl) rfl Try.underlying4 hg⟩

theorem over : Rows.homeSharesRow.holds Try.pinned (OpenSpec.ofChange Rows.homeSharesSpec) :=
  OpenClaim.holds_of_wide 5 Try.f5 rfl rfl rfl rfl rfl rfl rfl ⟨rfl, rfl, rfl, rfl, rfl⟩ rfl rfl rfl rfl rfl (by kernel_rfl) Try.func5 (by kernel_rfl)
    (of_decide_eq_true (by kernel_rfl)) (by unfold Func.isWrapper; first | (rw [if_pos (by decide +kernel)]; kernel_rfl) | (rw [if_neg (by decide +kernel)]; exact ⟨rfl, rfl⟩))
    (fun os started H enc _ => lifted os started H enc)

theorem proved : Rows.HomeSharesSaid :=
  over
#print axioms proved
end Go.Proofs.Ytagaclifeoiepaa.homeShares
