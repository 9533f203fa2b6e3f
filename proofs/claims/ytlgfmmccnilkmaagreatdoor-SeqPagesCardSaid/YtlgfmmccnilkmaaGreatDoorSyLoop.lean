/- The symbolic machine: a law's loop, by templates of its head and a number that rises to a bound. No condition: lemmas of the machine. -/
import Derived.Test.YtlgfmmccnilkmaaGreatDoorSyCut
namespace Go.Sx
set_option linter.unusedVariables false
set_option linter.unusedSimpArgs false
open Go.RowKit

structure LT where
  T : Tp
  lo : SE
  hi : SE
def LT.pc (L : LT) : PC := (.cmp .lss L.lo (.lit 0), false) :: (.cmp .lss L.hi L.lo, false) :: L.T.pc
def LT.sp (L : LT) : SP := ⟨L.T.hp, L.pc⟩
def isF (o : Option Bool) : Bool := match o with
  | some b => !b
  | none => false
def headF (d nv : Nat) (L : LT) (fr : Fr) (p : SP) (f : Fnd) : Bool := matchOK d L.T fr p (listT f nv []) (listR f L.T.objs.length []) && isF (sbK p.pc (mkCmp .lss (L.lo.sub (listT f nv [])) (.lit 0))) && isF (sbK p.pc (mkCmp .lss (L.hi.sub (listT f nv [])) (L.lo.sub (listT f nv []))))
def headT (d nv : Nat) (L : LT) (fr : Fr) (p : SP) : Bool := headF d nv L fr p (find3 nv d L.T fr p)
def ltOK (L : LT) (pc : PC) : Bool := rngIn .i64 L.lo && leO (pc.hi L.hi) (some 4000000000000000000) && (match sbK pc (mkCmp .lss L.lo L.hi) with
  | some b => b
  | none => false)
def nextF (d nv : Nat) (L L' : LT) (fr : Fr) (p : SP) (f : Fnd) : Bool := matchOK d L'.T fr p (listT f nv []) (listR f L'.T.objs.length []) && (L'.hi.sub (listT f nv [])).same L.hi && (L'.lo.sub (listT f nv [])).same (mkBin .add .i64 L.lo (.lit 1))
def nextT (d nv : Nat) (L L' : LT) (fr : Fr) (p : SP) : Bool := nextF d nv L L' fr p (find3 nv d L'.T fr p)
def anyN (d nv : Nat) (L : LT) (fr : Fr) (p : SP) : List LT → Bool
  | [] => false
  | L' :: l => nextT d nv L L' fr p || anyN d nv L fr p l
def accL (G : Nat → Option Nat) (d nv : Nat) (res : List ARes) (id : Nat) (Ls : List LT) (Xs : List Tp) (L : LT) (x : Ex × Fr × SP) : Bool := match x with
  | (.normal, fr, p) => ltOK L p.pc && anyN d nv L fr p Ls
  | (.ret, fr, p) => retOK G res fr p
  | (.exit k, fr, p) => Nat.beq k id && anyT d nv fr p Xs
def anyH (d nv : Nat) (fr : Fr) (p : SP) : List LT → Bool
  | [] => false
  | L :: l => headT d nv L fr p || anyH d nv fr p l
def accH (G : Nat → Option Nat) (d nv : Nat) (res : List ARes) (Ls : List LT) (x : Ex × Fr × SP) : Bool := match x with
  | (.normal, fr, p) => anyH d nv fr p Ls
  | (.ret, fr, p) => retOK G res fr p
  | _ => false
theorem anyH_mem {d nv : Nat} {fr : Fr} {p : SP} : ∀ {l : List LT}, anyH d nv fr p l = true → ∃ L ∈ l, headT d nv L fr p = true
  | [], h => by cases h
  | L :: l, h => by
    simp only [anyH, Bool.or_eq_true] at h
    rcases h with h | h
    · exact ⟨L, List.mem_cons_self .., h⟩
    · obtain ⟨x, h1, h2⟩ := anyH_mem h
      exact ⟨x, List.mem_cons_of_mem _ h1, h2⟩
theorem anyN_mem {d nv : Nat} {L : LT} {fr : Fr} {p : SP} : ∀ {l : List LT}, anyN d nv L fr p l = true → ∃ L' ∈ l, nextT d nv L L' fr p = true
  | [], h => by cases h
  | L' :: l, h => by
    simp only [anyN, Bool.or_eq_true] at h
    rcases h with h | h
    · exact ⟨L', List.mem_cons_self .., h⟩
    · obtain ⟨x, h1, h2⟩ := anyN_mem h
      exact ⟨x, List.mem_cons_of_mem _ h1, h2⟩
def SatM (G : Nat → Option Nat) (W : World) (L : LT) (m : Nat) (a : Act) (w : World) : Prop :=
  ∃ V ι, L.pc.holds V ∧ FrRel V ι L.T.fr a ∧ HRel V ι W.heap.size L.T.hp w ∧ GRel G ι ∧ Kept W w ∧ (L.hi.den V - L.lo.den V).toNat = m
theorem LT.pc_mk {L : LT} {V : Val} (h : L.T.pc.holds V) (h0 : 0 ≤ L.lo.den V) (h1 : L.lo.den V ≤ L.hi.den V) : L.pc.holds V := by
  intro q hq
  simp only [LT.pc, List.mem_cons] at hq
  rcases hq with rfl | rfl | hq
  · exact decide_eq_false (by simp only [SE.den]; omega)
  · exact decide_eq_false (by omega)
  · exact h q hq
theorem isF_den {V : Val} {pc : PC} (hp : pc.holds V) {a b : SE} (h : isF (sbK pc (mkCmp .lss a b)) = true) : b.den V ≤ a.den V := by
  unfold isF at h
  split at h
  · rename_i c hc
    have := sbK_den hp hc
    rw [mkCmp_den] at this
    cases c
    · simp only [cmpI, decide_eq_false_iff_not] at this
      omega
    · cases h
  · cases h
theorem head_sat {G : Nat → Option Nat} {W : World} {d nv : Nat} (hG : ∀ g id, G g = some id → id < d) {L : LT} {fr : Fr} {p : SP} (hm : headT d nv L fr p = true) {V : Val} (hpc : p.pc.holds V)
    {ι : Nat → Option Loc} {a : Act} {w : World} (hfr : FrRel V ι fr a) (hh : HRel V ι W.heap.size p.h w) (hg : GRel G ι) (hk : Kept W w) : ∃ m, SatM G W L m a w := by
  unfold headT headF at hm
  simp only [Bool.and_eq_true] at hm
  obtain ⟨⟨e1, e2⟩, e3⟩ := hm
  obtain ⟨V', ι'', s1, s2, s3, s4, s5, hV⟩ := match_sat' hG e1 hpc hfr hh hg hk
  have d2 := isF_den hpc e2
  have d3 := isF_den hpc e3
  simp only [SE.sub_den, SE.den, ← hV] at d2 d3
  exact ⟨_, V', ι'', LT.pc_mk s1 d2 d3, s2, s3, s4, s5, rfl⟩
section
variable {P : Program} {C : Cfg} {fn : Func} {res : List ARes} {W : World}
theorem loop_rounds (hmix : P.follows .mixedOrders = true) (hF : ∀ f af, C.F f = some af → cFunc P f = some af) (hS : ∀ V B, SOK P V B C) (hL : ∀ V B, LOK P V B C) (hrc : cRes P fn.results.toList = some res) {d nv : Nat} (hG : ∀ g id, C.G g = some id → id < d) {n id : Nat} {c : Code} {ac : ACode} (hc : cCode P c = some ac) {Ls : List LT} {Xs : List Tp}
    (hok : ∀ L ∈ Ls, chkL pcX (accL C.G d nv res id Ls Xs L) (evCodeD C n ac L.T.fr L.sp) L.pc = true) {Q : Exit → Act → World → Prop}
    (hX : ∀ X ∈ Xs, ∀ a w, Sat C.G W X a w → Q (.exit id) a w) (hR : ∀ a w, bodyPost P fn (Done W) .ret a w → Q .ret a w) : ∀ (m : Nat), ∀ L ∈ Ls, ∀ a w, SatM C.G W L m a w → loopWp P c Q a w := by
  intro m
  induction m using Nat.strongRecOn with
  | _ m ih =>
  rintro L hLs a w ⟨V, ι, hpc, hfr, hh, hg, hk, hm⟩
  obtain ⟨o, ⟨x, fr', p'⟩, h1, h2, h3⟩ := chkL_sound (hok L hLs) hpc
  have ev := evCodeD_sim (C := C) n _ _ _ _ _ _ _ _ h1
  obtain ⟨_, k2⟩ := evCode_ok hmix hF (hS V _) (hL V _) n _ _ _ _ _ _ _ hc ev h3
  refine loopWp_round (k2 ι w a hfr hh hg _ fun a' w' ι' q1 q2 q3 => ?_)
  have hg' := hg.mono (q3.mono hh)
  have hk' := hk.step hh q3
  cases x with
  | normal =>
    show loopWp P c Q a' w'
    simp only [accL, Bool.and_eq_true] at h2
    obtain ⟨b1, b2⟩ := h2
    unfold ltOK at b1
    simp only [Bool.and_eq_true] at b1
    obtain ⟨⟨c1, c2⟩, c3⟩ := b1
    obtain ⟨L', l1, l2⟩ := anyN_mem b2
    unfold nextT nextF at l2
    simp only [Bool.and_eq_true] at l2
    obtain ⟨⟨e1, e2⟩, e3⟩ := l2
    have hlt : L.lo.den V < L.hi.den V := by
      split at c3
      · rename_i b hb
        have := sbK_den h3 hb
        rw [mkCmp_den] at this
        subst c3
        simpa [cmpI] using this
      · cases c3
    have hhi : L.hi.den V ≤ 4000000000000000000 := leO_den c2 (PC.hi_den h3) (isLo_some (Int.le_refl _))
    have hlo := rngIn_den V c1
    have m1 : IntKind.i64.min = -9223372036854775808 := by decide
    have m2 : IntKind.i64.max = 9223372036854775807 := by decide
    obtain ⟨V', ι'', s1, s2, s3, s4, s5, hV⟩ := match_sat' hG e1 h3 q1 q2 hg' hk'
    have d1 : L'.hi.den V' = L.hi.den V := by rw [hV, ← SE.sub_den, SE.same_eq e2]
    have d2 : L'.lo.den V' = L.lo.den V + 1 := by
      rw [hV, ← SE.sub_den, SE.same_eq e3, mkBin_den]
      simp only [binI, SE.den]
      exact wrap_of_in (by rw [m1]; omega) (by rw [m2]; omega)
    have hlo0 : 0 ≤ L.lo.den V := by
      have := hpc (.cmp .lss L.lo (.lit 0), false) (List.mem_cons_self ..)
      have h3 : ¬ (L.lo.den V < 0) := of_decide_eq_false this
      omega
    exact ih _ (by rw [← hm]; omega) L' l1 a' w' ⟨V', ι'', LT.pc_mk s1 (by omega) (by omega), s2, s3, s4, s5, rfl⟩
  | ret => exact hR a' w' (ret_done (C := C) hrc h2 h3 q1 q2 hg' hk' (.inr rfl))
  | exit k =>
    simp only [accL, Bool.and_eq_true] at h2
    obtain rfl := Nat.eq_of_beq_eq_true h2.1
    obtain ⟨X, x1, x2⟩ := anyT_mem h2.2
    exact hX X x1 a' w' (match_sat hG x2 h3 q1 q2 hg' hk')
theorem loop_wp (hmix : P.follows .mixedOrders = true) (hF : ∀ f af, C.F f = some af → cFunc P f = some af) (hS : ∀ V B, SOK P V B C) (hL : ∀ V B, LOK P V B C) (hrc : cRes P fn.results.toList = some res) {d nv : Nat} (hG : ∀ g id, C.G g = some id → id < d) {n id : Nat} {c : Code} {r ac rest : ACode} (hc : cCode P c = some (.seq (.seq r (.block id (.loop ac))) rest)) {T : Tp} {Ls : List LT} {Xs : List Tp}
    (h1 : chkL pcX (accH C.G d nv res Ls) (evCodeD C n r T.fr T.sp) T.pc = true)
    (h2 : ∀ L ∈ Ls, chkL pcX (accL C.G d nv res id Ls Xs L) (evCodeD C n ac L.T.fr L.sp) L.pc = true)
    (hX : ∀ c', cCode P c' = some rest → ∀ X ∈ Xs, ∀ a w, Sat C.G W X a w → c'.wp P (bodyPost P fn (Done W)) a w) : ∀ a w, Sat C.G W T a w → c.wp P (bodyPost P fn (Done W)) a w := by
  obtain ⟨x, c', rfl, hx, hc'⟩ := cCode_seq hc
  obtain ⟨r', b', rfl, hr, hb⟩ := cCode_seq hx
  obtain ⟨l', rfl, hl⟩ : ∃ l', b' = .block id (.loop l') ∧ cCode P l' = some ac := by
    cases b' <;> (try (simp [cCode] at hb; done))
    case block i q =>
      simp only [cCode] at hb
      split at hb
      · rename_i y hy
        cases hb
        cases q <;> (try (simp [cCode] at hy; done))
        case loop q' =>
          simp only [cCode] at hy
          split at hy
          · rename_i z hz
            cases hy
            exact ⟨q', rfl, hz⟩
          · cases hy
        case region i ops m => cases m <;> simp only [cCode] at hy <;> split at hy <;> cases hy
        all_goals (simp only [cCode] at hy; split at hy <;> cases hy)
      · cases hb
    case region i ops m => cases m <;> simp only [cCode] at hb <;> split at hb <;> cases hb
    all_goals (simp only [cCode] at hb; split at hb <;> cases hb)
  rintro a w ⟨V, ι, hpc, hfr, hh, hg, hk⟩
  obtain ⟨o, ⟨x, fr', p'⟩, i1, i2, i3⟩ := chkL_sound h1 hpc
  have ev := evCodeD_sim (C := C) n _ _ _ _ _ _ _ _ i1
  obtain ⟨_, k2⟩ := evCode_ok hmix hF (hS V _) (hL V _) n _ _ _ _ _ _ _ hr ev i3
  refine wp_seq (wp_seq (k2 ι w a hfr hh hg _ fun a' w' ι' q1 q2 q3 => ?_))
  have hg' := hg.mono (q3.mono hh)
  have hk' := hk.step hh q3
  cases x with
  | normal =>
    obtain ⟨L, l1, l2⟩ := anyH_mem (show anyH d nv fr' p' Ls = true from i2)
    obtain ⟨m, hm⟩ := head_sat (W := W) hG l2 i3 q1 q2 hg' hk'
    refine wp_block (loopWp_wp (loop_rounds hmix hF hS hL hrc hG hl h2 (Q := Exit.inBlock id (Exit.then (c'.wp P (bodyPost P fn (Done W))) (bodyPost P fn (Done W)))) ?_ ?_ m L l1 a' w' hm))
    · intro X hXm a w hs
      simpa [Exit.inBlock, Exit.then] using hX c' hc' X hXm a w hs
    · intro a w hd
      exact hd
  | ret => exact ret_done (C := C) hrc i2 i3 q1 q2 hg' hk' (.inr rfl)
  | exit k => cases i2
end
end Go.Sx
