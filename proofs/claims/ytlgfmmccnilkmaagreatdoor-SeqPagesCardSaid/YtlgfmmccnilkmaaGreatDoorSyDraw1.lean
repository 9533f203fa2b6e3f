/- The symbolic machine: statements whose order is open: whatever the order, the end is the text's. No condition: lemmas of the machine. -/
import Derived.Test.YtlgfmmccnilkmaaGreatDoorSyDraw0
namespace Go.Sx
set_option linter.unusedVariables false
set_option linter.unusedSimpArgs false

def frv (fr : Fr) (t : Nat) : SV := (fr.t.get t).getD sundef
open Classical in
noncomputable def rdl (G : Nat → Option Nat) (fr : Fr) (q : AOp) (x : X) : Option SV := if x ∈ q.xs then rdX G fr x else none
structure DT where
  n : Nat
  O : Nat → Oper
  A : Nat → AOper
  g : Nat → Bool
  v : Nat → SV
  fr : Nat → Fr
  h : Nat → Hp
  pre : Nat → List Nat
  cs : Nat → List SV
  yv : Nat → Nat → SV
structure DF (P : Program) (V : Val) (B : Nat) (C : Cfg) (ops : Array Oper) (D : DT) : Prop where
  size : ops.size = D.n
  opAt : ∀ i, i < D.n → ops[i]? = some (D.O i)
  dst : ∀ i, i < D.n → (D.A i).dst = (D.O i).dst
  want : ∀ i, i < D.n → ∀ ι (a : Act), (∀ t w, (D.A i).guard = some (t, w) → VRel V ι (frv (D.fr i) t) (a.tmps.getD t undef)) → Region.wanted (D.O i) (yielded ops a.tmps) = D.g i
  unw : ∀ i, i < D.n → D.g i = false → D.v i = sundef ∧ D.h (i + 1) = D.h i
  c0 : ∀ i, i < D.n → D.g i = true → (D.A i).op.cls = 0 → D.h (i + 1) = D.h i ∧ ∀ ι (a : Act), RdRel V ι (rdl C.G (D.fr i) (D.A i).op) a.eval → Gives P V ι a.eval (D.O i) (D.v i)
  c1 : ∀ i, i < D.n → D.g i = true → (D.A i).op.cls = 1 → D.h (i + 1) = D.h i ∧ cOp P (D.O i) = some (D.A i).op ∧ evM (rdl C.G (D.fr i) (D.A i).op) (D.h i) (D.A i).op = some (D.v i, D.h i) ∧ ∀ x ∈ (D.A i).op.xs, ∀ u, rdX C.G (D.fr i) x = some u → u.bnd (D.h i).sz = true
  c2 : ∀ i, i < D.n → D.g i = true → (D.A i).op.cls = 2 → cOp P (D.O i) = some (D.A i).op ∧ aParts (rdl C.G (D.fr i) (D.A i).op) (D.A i).op = some (D.cs i, D.yv i) ∧ nwo (D.h i) (D.cs i) = some (D.h (i + 1)) ∧
    D.v i = D.yv i (D.h i).sz ∧ SVs.bnd (D.h i).sz (D.cs i) = true
  c3 : ∀ i, i < D.n → D.g i = true → (D.A i).op.cls = 3 → (∀ x ∈ (D.A i).op.xs, ∀ u, rdX C.G (D.fr i) x = some u → u.bnd (D.h i).sz = true) ∧
    ∀ ι w (a : Act), RdRel V ι (rdl C.G (D.fr i) (D.A i).op) a.eval → HRel V ι B (D.h i) w → GRel C.G ι → ∀ (K : Act → World → Prop) (Q : Exit → Act → World → Prop),
      (∀ c w' ι', VRel V ι' (D.v i) c → HRel V ι' B (D.h (i + 1)) w' → Ext ι (D.h i) w ι' (D.h (i + 1)) w' → K (a.put (D.O i).dst c) w') → (D.O i).wp P a w K Q
  mono : ∀ i, i < D.n → (D.h i).sz ≤ (D.h (i + 1)).sz
  put : ∀ i, i < D.n → (D.fr i).put (D.A i).dst (D.v i) = some (D.fr (i + 1))
  pairs : ∀ i j, i < j → j < D.n → i ∈ D.pre j ∨ (apartB (D.A i) (D.A j) = true ∧ ¬ ((D.A i).op.cls = 3 ∧ (D.A j).op.cls = 3))
  pred : ∀ j, j < D.n → ∀ x ∈ D.pre j, ∃ e ∈ (D.O j).after.toList, Region.binds .any e = true ∧ e.on < j ∧ (x = e.on ∨ x ∈ D.pre e.on)
  back : ∀ j, j < D.n → ∀ e ∈ (D.O j).after.toList, Region.binds .any e = true → e.on < j
  chk : ∀ i, i < D.n → D.g i = true → (D.A i).op.cls = 1 → ∀ e, e < D.n → (D.A e).op.cls = 3 → ((e < i ∧ e ∉ D.pre i) ∨ (i < e ∧ i ∉ D.pre e)) →
    (∀ x ∈ (D.A i).op.xs, ∀ u, rdX C.G (D.fr i) x = some u → u.bnd (D.h e).sz = true) ∧ (∃ h', evM (rdl C.G (D.fr i) (D.A i).op) (D.h e) (D.A i).op = some (D.v i, h')) ∧ ∃ h', evM (rdl C.G (D.fr i) (D.A i).op) (D.h (e + 1)) (D.A i).op = some (D.v i, h')

section
variable {P : Program} {V : Val} {B : Nat} {C : Cfg} {ops : Array Oper} {D : DT}

theorem cls_le (q : AOp) : q.cls = 0 ∨ q.cls = 1 ∨ q.cls = 2 ∨ q.cls = 3 := by cases q <;> simp [AOp.cls]
theorem push_more {h h' : Hp} {x : SObj} (hp : h.push x = some h') : ∀ id y, h.get id = some y → h'.get id = some y := by
  intro id y hy
  rw [Hp.get_push hp, if_neg (by have := Hp.get_lt hy; omega)]; exact hy
theorem DF.more1 (F : DF P V B C ops D) {i : Nat} (hi : i < D.n) (hc : (D.A i).op.cls ≠ 3) : (∀ id y, (D.h i).get id = some y → (D.h (i + 1)).get id = some y) ∧ (D.h i).sz ≤ (D.h (i + 1)).sz := by
  cases hg : D.g i
  · rw [(F.unw i hi hg).2]; exact ⟨fun _ _ h => h, Nat.le_refl _⟩
  · rcases cls_le (D.A i).op with h | h | h | h
    · rw [(F.c0 i hi hg h).1]; exact ⟨fun _ _ h => h, Nat.le_refl _⟩
    · rw [(F.c1 i hi hg h).1]; exact ⟨fun _ _ h => h, Nat.le_refl _⟩
    · obtain ⟨_, hp⟩ := nwo_push (F.c2 i hi hg h).2.2.1
      exact ⟨push_more hp, by rw [Hp.push_sz hp]; omega⟩
    · exact absurd h hc
theorem DF.more (F : DF P V B C ops D) {i j : Nat} (hij : i ≤ j) (hj : j ≤ D.n) (hc : ∀ e, i ≤ e → e < j → (D.A e).op.cls ≠ 3) : (∀ id y, (D.h i).get id = some y → (D.h j).get id = some y) ∧ (D.h i).sz ≤ (D.h j).sz := by
  induction j with
  | zero => obtain rfl : i = 0 := by omega
            exact ⟨fun _ _ h => h, Nat.le_refl _⟩
  | succ j ih =>
    by_cases e : i = j + 1
    · subst e; exact ⟨fun _ _ h => h, Nat.le_refl _⟩
    · have h1 := ih (by omega) (by omega) (fun e he he' => hc e he (by omega))
      have h2 := F.more1 (i := j) (by omega) (hc j (by omega) (by omega))
      exact ⟨fun id y hy => h2.1 id y (h1.1 id y hy), Nat.le_trans h1.2 h2.2⟩

theorem apart_spec {x y : AOper} (h : apartB x y = true) : (∀ d, x.dst = some d → y.reads d = false ∧ y.dst ≠ some d) ∧ ∀ d, y.dst = some d → x.reads d = false := by
  unfold apartB at h
  simp only [Bool.and_eq_true] at h
  refine ⟨fun d hd => ?_, fun d hd => ?_⟩
  · rw [hd] at h
    simp only [Bool.and_eq_true, Bool.not_eq_true'] at h
    refine ⟨h.1.1, fun e => ?_⟩
    have := h.1.2
    simp [AOper.writes, e] at this
  · rw [hd] at h
    simpa using h.2

theorem DF.frame (F : DF P V B C ops D) (t : Nat) : ∀ i, i ≤ D.n → (D.fr i).n = (D.fr 0).n ∧
    ((∃ j, j < i ∧ (D.A j).dst = some t ∧ (∀ k, k < i → (D.A k).dst = some t → k ≤ j) ∧ frv (D.fr i) t = D.v j) ∨ ((∀ j, j < i → (D.A j).dst ≠ some t) ∧ frv (D.fr i) t = frv (D.fr 0) t))
  | 0, _ => ⟨rfl, .inr ⟨fun j hj => by omega, rfl⟩⟩
  | i + 1, hi => by
    obtain ⟨ih1, ih2⟩ := F.frame t i (by omega)
    have hp := F.put i (by omega)
    unfold Fr.put at hp
    split at hp
    · rename_i hd
      rw [← Option.some.inj hp]
      refine ⟨ih1, ?_⟩
      rcases ih2 with ⟨j, j1, j2, j3, j4⟩ | ⟨j1, j2⟩
      · refine .inl ⟨j, by omega, j2, fun k hk hkd => ?_, j4⟩
        by_cases e : k = i
        · subst e; rw [hd] at hkd; cases hkd
        · exact j3 k (by omega) hkd
      · refine .inr ⟨fun j hj => ?_, j2⟩
        by_cases e : j = i
        · subst e; rw [hd]; simp
        · exact j1 j (by omega)
    · rename_i d hd
      cases hb : Nat.blt d (D.fr i).n <;> simp only [hb, cond_true, cond_false] at hp
      · cases hp
      split at hp
      case h_2 => cases hp
      rename_i tr htr
      have hfr := (Option.some.inj hp).symm
      refine ⟨by rw [hfr]; exact ih1, ?_⟩
      have hval : frv (D.fr (i + 1)) t = if t = d then D.v i else frv (D.fr i) t := by
        rw [hfr]
        unfold frv
        simp only [Tr.get_set 48 _ _ _ _ htr t]
        split <;> rfl
      by_cases e : t = d
      · subst e
        refine .inl ⟨i, by omega, hd, fun k hk _ => by omega, by rw [hval, if_pos rfl]⟩
      · rw [if_neg e] at hval
        rcases ih2 with ⟨j, j1, j2, j3, j4⟩ | ⟨j1, j2⟩
        · refine .inl ⟨j, by omega, j2, fun k hk hkd => ?_, hval.trans j4⟩
          by_cases ek : k = i
          · subst ek; rw [hd] at hkd; simp at hkd; exact absurd hkd.symm e
          · exact j3 k (by omega) hkd
        · refine .inr ⟨fun j hj => ?_, hval.trans j2⟩
          by_cases ek : j = i
          · subst ek; rw [hd]; simp; exact fun h => e h.symm
          · exact j1 j (by omega)

def TM (V : Val) (D : DT) (L : Nat → Prop) (ι : Nat → Option Loc) (a : Act) : Prop := ∀ t,
  (∀ i, i < D.n → L i → (D.A i).dst = some t → (∀ j, j < D.n → L j → (D.A j).dst = some t → j ≤ i) → VRel V ι (D.v i) (a.tmps.getD t undef)) ∧
  ((∀ i, i < D.n → L i → (D.A i).dst ≠ some t) → VRel V ι (frv (D.fr 0) t) (a.tmps.getD t undef))
def Closed (D : DT) (L : Nat → Prop) : Prop := ∀ j, j < D.n → L j → ∀ x ∈ D.pre j, L x
theorem DF.reads_ok (F : DF P V B C ops D) {L : Nat → Prop} {ι : Nat → Option Loc} {a : Act} (ht : TM V D L ι a) (hcl : Closed D L) {i : Nat} (hi : i < D.n) (hnl : ¬ L i) (hpre : ∀ x ∈ D.pre i, L x) {t : Nat} (hr : (D.A i).reads t = true) :
    VRel V ι (frv (D.fr i) t) (a.tmps.getD t undef) := by
  have later : ∀ j, j < D.n → L j → (D.A j).dst = some t → j < i := by
    intro j hj hl hd
    rcases Nat.lt_trichotomy j i with h | h | h
    · exact h
    · subst h; exact absurd hl hnl
    · rcases F.pairs i j h hj with hp | ⟨hp, _⟩
      · exact absurd (hcl j hj hl i hp) hnl
      · have := (apart_spec hp).2 t hd
        rw [hr] at this; cases this
  rcases (F.frame t i (by omega)).2 with ⟨j, j1, j2, j3, j4⟩ | ⟨j1, j2⟩
  · rw [j4]
    have hl : L j := by
      rcases F.pairs j i j1 hi with hp | ⟨hp, _⟩
      · exact hpre j hp
      · have := ((apart_spec hp).1 t j2).1
        rw [hr] at this; cases this
    exact (ht t).1 j (by omega) hl j2 fun k hk hlk hkd => j3 k (later k hk hlk hkd) hkd
  · rw [j2]
    exact (ht t).2 fun k hk hlk hkd => j1 k (later k hk hlk hkd) hkd
theorem DF.rd_ok (F : DF P V B C ops D) {L : Nat → Prop} {ι : Nat → Option Loc} {a : Act} (ht : TM V D L ι a) (hcl : Closed D L) (hg : GRel C.G ι) {i : Nat} (hi : i < D.n) (hnl : ¬ L i) (hpre : ∀ x ∈ D.pre i, L x) :
    RdRel V ι (rdl C.G (D.fr i) (D.A i).op) a.eval := by
  intro x y v hx hv
  unfold rdl at hv
  split at hv
  case isFalse => cases hv
  rename_i hmem
  cases x with
  | tmp t =>
    simp only [cX, Option.some.injEq] at hx
    subst hx
    have := F.reads_ok ht hcl hi hnl hpre (t := t) (by simp [AOper.reads, hasT_mem hmem])
    simp only [rdX] at hv
    unfold frv at this
    split at hv
    · rename_i v' hgt
      cases hl : v'.isLost <;> simp only [hl, cond_true, cond_false] at hv
      · cases hv
        rw [hgt] at this
        exact this
      · cases hv
    · rename_i hgt
      cases hv
      rw [hgt] at this
      exact this
  | const c =>
    simp only [cX] at hx
    split at hx <;> simp at hx
    subst hx
    simp only [rdX, Option.some.injEq] at hv
    subst hv
    exact cval_rel ‹_›
  | func f =>
    simp only [cX, Option.some.injEq] at hx
    subst hx
    simp only [rdX, Option.some.injEq] at hv
    subst hv
    exact ⟨#[], #[], rfl, by simp [VRels], by simp [VRels]⟩
  | global gg =>
    simp only [cX, Option.some.injEq] at hx
    subst hx
    simp only [rdX] at hv
    split at hv <;> simp at hv
    subst hv
    obtain ⟨l, h1, h2, h3⟩ := hg gg _ ‹_›
    exact ⟨l, h1, by simp [Act.eval, h2, h3]⟩
theorem DF.write_ok (F : DF P V B C ops D) {L L' : Nat → Prop} {ι ι' : Nat → Option Loc} {a : Act} (ht : TM V D L ι a) (hcl : Closed D L) {i : Nat} (hi : i < D.n) (hnl : ¬ L i) (hL : ∀ j, L' j ↔ L j ∨ j = i)
    (hm : ∀ id l, ι id = some l → ι' id = some l) (hsz : a.tmps.size = (D.fr 0).n) {c : Value} (hv : VRel V ι' (D.v i) c) : TM V D L' ι' (a.put (D.O i).dst c) := by
  have hdst := F.dst i hi
  intro t
  by_cases e : (D.A i).dst = some t
  · have hlt : t < a.tmps.size := by
      have hp := F.put i hi
      unfold Fr.put at hp
      rw [e] at hp
      simp only at hp
      cases hb : Nat.blt t (D.fr i).n <;> simp only [hb, cond_true, cond_false] at hp
      · cases hp
      · rw [hsz, ← (F.frame 0 i (by omega)).1]; exact lt_of_blt hb
    have hval : (a.put (D.O i).dst c).tmps.getD t undef = c := by
      rw [← hdst, e]; simp [Act.put, hlt]
    refine ⟨fun j hj hl hd hmax => ?_, fun h => absurd e (h i hi ((hL i).2 (.inr rfl)))⟩
    have hij := hmax i hi ((hL i).2 (.inr rfl)) e
    have : j = i := by
      rcases (hL j).1 hl with hl | h
      · rcases Nat.lt_or_ge i j with h | h
        · rcases F.pairs i j h hj with hp | ⟨hp, _⟩
          · exact absurd (hcl j hj hl i hp) hnl
          · exact absurd hd ((apart_spec hp).1 t e).2
        · omega
      · exact h
    subst this
    rw [hval]; exact hv
  · have hval : (a.put (D.O i).dst c).tmps.getD t undef = a.tmps.getD t undef := by
      rw [← hdst]
      cases hd : (D.A i).dst with
      | none => rfl
      | some d =>
        have hne : d ≠ t := fun h => e (by rw [hd, h])
        simp [Act.put, Array.getElem?_setIfInBounds_ne hne]
    rw [hval]
    refine ⟨fun j hj hl hd hmax => ?_, fun h => ?_⟩
    · have hlj : L j := by
        rcases (hL j).1 hl with h | h
        · exact h
        · subst h; exact absurd hd e
      exact VRel.mono hm _ _ ((ht t).1 j hj hlj hd fun k hk hlk hkd => hmax k hk ((hL k).2 (.inl hlk)) hkd)
    · exact VRel.mono hm _ _ ((ht t).2 fun j hj hl => h j hj ((hL j).2 (.inl hl)))
end
end Go.Sx
