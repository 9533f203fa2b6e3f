/- The symbolic machine: statements whose order is open: the invariant, and each step of it. No condition: lemmas of the machine. -/
import Derived.Test.YtlgfmmccnilkmaaGreatDoorSyDraw1
namespace Go.Sx
set_option linter.unusedVariables false
set_option linter.unusedSimpArgs false

section
variable {P : Program} {V : Val} {B : Nat} {C : Cfg} {ops : Array Oper} {D : DT} {ι : Nat → Option Loc} {σ : Hp} {w : World}

theorem HRel.alloc (h : HRel V ι B σ w) (o : Obj) : HRel V ι B σ (w.alloc o) := by
  refine ⟨by have := h.base; simp; omega, fun id x l h1 h2 => ?_, h.inj, h.dom⟩
  have := h.obj id x l h1 h2
  cases x with
  | dead => trivial
  | cells cs ro =>
    obtain ⟨c, e, fr, hb, rest⟩ := this
    exact ⟨c, e, fr, by rw [heap_alloc_old w _ _ (Array.getElem?_eq_some_iff.1 hb).1]; exact hb, rest⟩
  | big t n z =>
    obtain ⟨c, e, hb, rest⟩ := this
    exact ⟨c, e, by rw [heap_alloc_old w _ _ (Array.getElem?_eq_some_iff.1 hb).1]; exact hb, rest⟩
  | map es =>
    obtain ⟨ms, hb, rest⟩ := this
    exact ⟨ms, by rw [heap_alloc_old w _ _ (Array.getElem?_eq_some_iff.1 hb).1]; exact hb, rest⟩
  | arr s k' n' =>
    obtain ⟨N, h1, h2⟩ := this
    exact ⟨N, h1, h2.imp (fun x => x) fun ⟨c, e, fr, hb, hlt, rest⟩ => ⟨c, e, fr, by rw [heap_alloc_old w _ _ (Array.getElem?_eq_some_iff.1 hb).1]; exact hb, hlt, rest⟩⟩
theorem Ext.alloc (cc : Array Value) (e : TypeId) : Ext ι σ w ι σ (w.alloc (.cells cc e)) :=
  ⟨fun _ _ => rfl, Nat.le_refl _, by simp, rfl, rfl, rfl, fun b hb _ => heap_alloc_old w _ b hb, fun _ _ h => h, fun _ _ _ => rfl, frozen_alloc⟩

structure Early (V : Val) (B : Nat) (D : DT) (w0 : World) (ι : Nat → Option Loc) (m : Nat) (w : World) (cs : List SV) (l : Loc) : Prop where
  base : B ≤ l.blk
  old : w0.heap.size ≤ l.blk
  off : l.off = 0
  obj : ∃ c e, w.heap[l.blk]? = some (.cells c e (0, 0)) ∧ l.ext = c.size ∧ cs.length ≤ c.size ∧ CRel V ι cs c 0
  free : ¬ Owned (lim ι (D.h m).sz) (D.h m) l.blk
structure IsE (D : DT) (L : Nat → Prop) (m i : Nat) : Prop where
  ge : m ≤ i
  lt : i < D.n
  cls : (D.A i).op.cls = 2
  g : D.g i = true
  l : L i
structure DInv (V : Val) (B : Nat) (D : DT) (ι0 : Nat → Option Loc) (w0 : World) (L : Nat → Prop) (ι : Nat → Option Loc) (m : Nat) (a : Act) (w : World) : Prop where
  cl : Closed D L
  size : a.tmps.size = (D.fr 0).n
  defers : a.defers = []
  tm : TM V D L ι a
  m_le : m ≤ D.n
  es : ∀ e, e < D.n → (D.A e).op.cls = 3 → (L e ↔ e < m)
  hr : HRel V (lim ι (D.h m).sz) B (D.h m) w
  ex : Ext ι0 (D.h 0) w0 (lim ι (D.h m).sz) (D.h m) w
  early : ∀ i, IsE D L m i → ∃ l, ι (D.h i).sz = some l ∧ Early V B D w0 ι m w (D.cs i) l
  dist : ∀ i j, IsE D L m i → IsE D L m j → i ≠ j → ∀ l l', ι (D.h i).sz = some l → ι (D.h j).sz = some l' → l.blk ≠ l'.blk
  late : ∀ i, i < m → (D.A i).op.cls = 2 → D.g i = true → ¬ L i → ι (D.h i).sz = none ∧ (D.h m).get (D.h i).sz = some (.cells (D.cs i) false)
  young : ∀ id l, (D.h m).sz ≤ id → ι id = some l → ∃ i, IsE D L m i ∧ id = (D.h i).sz

theorem DF.sizes (F : DF P V B C ops D) {i : Nat} : ∀ {j : Nat}, i ≤ j → j ≤ D.n → (D.h i).sz ≤ (D.h j).sz
  | 0, h, _ => by obtain rfl : i = 0 := by omega
                  exact Nat.le_refl _
  | j + 1, h, hj => by
    by_cases e : i = j + 1
    · subst e; exact Nat.le_refl _
    · exact Nat.le_trans (F.sizes (by omega) (by omega)) (F.mono j (by omega))
theorem DF.push (F : DF P V B C ops D) {i : Nat} (hi : i < D.n) (hg : D.g i = true) (hc : (D.A i).op.cls = 2) : (D.h i).push (.cells (D.cs i) false) = some (D.h (i + 1)) ∧ (D.h (i + 1)).sz = (D.h i).sz + 1 ∧ ∀ v ∈ D.cs i, v.one = true := by
  obtain ⟨h1, hp⟩ := nwo_push (F.c2 i hi hg hc).2.2.1
  exact ⟨hp, Hp.push_sz hp, h1⟩
theorem DF.ids (F : DF P V B C ops D) {i j : Nat} (hi : i < D.n) (hgi : D.g i = true) (hci : (D.A i).op.cls = 2) (hj : j < D.n) (h : i < j) : (D.h i).sz < (D.h j).sz := by
  have h1 := (F.push hi hgi hci).2.1
  have h2 := F.sizes (i := i + 1) (j := j) (by omega) (by omega)
  omega
theorem DF.ids_ne (F : DF P V B C ops D) {i j : Nat} (hi : i < D.n) (hgi : D.g i = true) (hci : (D.A i).op.cls = 2) (hj : j < D.n) (hgj : D.g j = true) (hcj : (D.A j).op.cls = 2) (h : (D.h i).sz = (D.h j).sz) : i = j := by
  rcases Nat.lt_trichotomy i j with e | e | e
  · have := F.ids hi hgi hci hj e; omega
  · exact e
  · have := F.ids hj hgj hcj hi e; omega
theorem CRel.lim {n : Nat} {cs : List SV} {c : Array Value} {off : Nat} (hb : SVs.bnd n cs = true) (h : CRel V ι cs c off) : CRel V (lim ι n) cs c off :=
  fun j v hj => let ⟨h1, u, h2, h3⟩ := h j v hj; ⟨h1, u, h2, VRel.lim v _ (SVs.bnd_mem hb (List.mem_of_getElem? hj)) h3⟩
theorem lim_le {n k : Nat} (h : n ≤ k) : ∀ id l, lim ι n id = some l → lim ι k id = some l := by
  intro id l hl
  obtain ⟨h1, h2⟩ := lim_some hl
  rw [lim_of (by omega)]; exact h2

variable {ι0 : Nat → Option Loc} {w0 : World} {L L' : Nat → Prop} {m : Nat} {a : Act}

theorem DInv.shift1 (F : DF P V B C ops D) (h : DInv V B D ι0 w0 L ι m a w) (hm : m < D.n) (hc : (D.A m).op.cls ≠ 3) : DInv V B D ι0 w0 L ι (m + 1) a w := by
  have hes : ∀ e, e < D.n → (D.A e).op.cls = 3 → (L e ↔ e < m + 1) := by
    intro e he hce
    rw [h.es e he hce]
    constructor
    · intro; omega
    · intro hlt
      rcases Nat.lt_or_ge e m with h1 | h1
      · exact h1
      · obtain rfl : e = m := by omega
        exact absurd hce hc
  have hisE : ∀ i, IsE D L (m + 1) i → IsE D L m i := fun i hi => ⟨by have := hi.ge; omega, hi.lt, hi.cls, hi.g, hi.l⟩
  by_cases hA : (D.A m).op.cls = 2 ∧ D.g m = true
  · obtain ⟨hA, hg⟩ := hA
    obtain ⟨hp, hsz, hone⟩ := F.push hm hg hA
    have hbnd := (F.c2 m hm hg hA).2.2.2.2
    have hget := Hp.get_push hp
    have hlimle := lim_le (ι := ι) (show (D.h m).sz ≤ (D.h (m + 1)).sz by omega)
    have hown : ∀ b, Owned (lim ι (D.h (m + 1)).sz) (D.h (m + 1)) b → Owned (lim ι (D.h m).sz) (D.h m) b ∨ ∃ l, ι (D.h m).sz = some l ∧ l.blk = b := by
      rintro b ⟨k, ks, l, h1, h0, h2, h3⟩
      rw [hget] at h1
      obtain ⟨k1, k2⟩ := lim_some h2
      split at h1
      · rename_i e; subst e; exact .inr ⟨l, k2, h3⟩
      · exact .inl ⟨k, ks, l, h1, h0, by rw [lim_of (Hp.get_lt h1)]; exact k2, h3⟩
    by_cases hl : L m
    · obtain ⟨l, hl1, hl2⟩ := h.early m ⟨Nat.le_refl _, hm, hA, hg, hl⟩
      refine ⟨h.cl, h.size, h.defers, h.tm, hm, hes, ?_, ?_, ?_, ?_, ?_, ?_⟩
      · refine ⟨h.hr.base, ?_, ?_, fun id hid => lim_ge hid⟩
        · intro id o l' hg' hl'
          rw [hget] at hg'
          obtain ⟨k1, k2⟩ := lim_some hl'
          split at hg'
          · rename_i e; subst e
            rw [hl1] at k2; cases k2; cases hg'
            obtain ⟨c, e, c1, c2, c3, c4⟩ := hl2.obj
            refine ⟨c, e, (0, 0), c1, fun _ => ⟨rfl, hl2.base, by rw [hl2.off, c2]; omega⟩, ⟨by rw [c2]; exact c3, fun h => by cases h⟩, ?_⟩
            rw [hl2.off]
            exact (CRel.lim hbnd c4).mono hlimle
          · exact ORel.mono hlimle (h.hr.obj id o l' hg' (by rw [lim_of (Hp.get_lt hg')]; exact k2))
        · intro k k' o1 o2 lk lk' hk hk' n1 n2 hne hlk hlk'
          rw [hget] at hk hk'
          obtain ⟨q1, q2⟩ := lim_some hlk
          obtain ⟨q3, q4⟩ := lim_some hlk'
          have a1 := knd_le o1
          have a2 := knd_le o2
          by_cases e1 : k = (D.h m).sz
          · subst e1
            rw [hl1] at q2; cases q2
            rw [if_neg (fun e => hne e.symm)] at hk'
            have hlk2 : lim ι (D.h m).sz k' = some lk' := by rw [lim_of (Hp.get_lt hk')]; exact q4
            by_cases h2 : o2.knd = 2
            · exact .inl (fun e => hl2.free ⟨k', o2, lk', hk', h2, hlk2, e.symm⟩)
            · left
              have := h.hr.ro_lt hk' (by omega) hlk2
              have := hl2.base
              omega
          · rw [if_neg e1] at hk
            have hlk1 : lim ι (D.h m).sz k = some lk := by rw [lim_of (Hp.get_lt hk)]; exact q2
            by_cases e2 : k' = (D.h m).sz
            · subst e2
              rw [hl1] at q4; cases q4
              by_cases h1 : o1.knd = 2
              · exact .inl (fun e => hl2.free ⟨k, o1, lk, hk, h1, hlk1, e⟩)
              · left
                have := h.hr.ro_lt hk (by omega) hlk1
                have := hl2.base
                omega
            · rw [if_neg e2] at hk'
              exact h.hr.inj k k' o1 o2 lk lk' hk hk' n1 n2 hne hlk1 (by rw [lim_of (Hp.get_lt hk')]; exact q4)
      · have hs0 := F.sizes (i := 0) (j := m) (by omega) (by omega)
        refine ⟨fun id hid => ?_, by omega, h.ex.size, h.ex.os, h.ex.tape, h.ex.output, h.ex.frame, ?_, ?_, h.ex.frz⟩
        · rw [← h.ex.keep id hid, lim_of (by omega), lim_of (by omega)]
        · intro b hb ho
          rcases hown b ho with ho | ⟨l', e1, e2⟩
          · exact h.ex.own b hb ho
          · rw [hl1] at e1; cases e1
            have := hl2.old; omega
        · intro id hid hn
          rw [hget, if_neg (by omega)]
          exact h.ex.untouched id hid hn
      · intro i hi
        obtain ⟨l', e1, e2⟩ := h.early i (hisE i hi)
        refine ⟨l', e1, e2.base, e2.old, e2.off, e2.obj, fun ho => ?_⟩
        rcases hown _ ho with ho | ⟨l'', f1, f2⟩
        · exact e2.free ho
        · exact h.dist m i ⟨Nat.le_refl _, hm, hA, hg, hl⟩ (hisE i hi) (by have := hi.ge; omega) l'' l' f1 e1 f2
      · exact fun i j hi hj hne => h.dist i j (hisE i hi) (hisE j hj) hne
      · intro i hi hci hgi hnl
        have him : i ≠ m := fun e => hnl (e ▸ hl)
        obtain ⟨e1, e2⟩ := h.late i (by omega) hci hgi hnl
        exact ⟨e1, push_more hp _ _ e2⟩
      · intro id l' hid hl'
        obtain ⟨i, hi, rfl⟩ := h.young id l' (by omega) hl'
        refine ⟨i, ⟨?_, hi.lt, hi.cls, hi.g, hi.l⟩, rfl⟩
        rcases Nat.lt_or_ge m i with e | e
        · omega
        · obtain rfl : i = m := by have := hi.ge; omega
          omega
    · have hnone : ι (D.h m).sz = none := by
        cases hx : ι (D.h m).sz with
        | none => rfl
        | some l =>
          obtain ⟨i, hi, e⟩ := h.young _ l (Nat.le_refl _) hx
          have := F.ids_ne hm hg hA hi.lt hi.g hi.cls e
          subst this
          exact absurd hi.l hl
      have hlimeq : lim ι (D.h (m + 1)).sz = lim ι (D.h m).sz := by
        funext id
        by_cases e1 : id < (D.h m).sz
        · rw [lim_of e1, lim_of (by omega)]
        · by_cases e2 : id = (D.h m).sz
          · subst e2; rw [lim_of (by omega), lim_ge (Nat.le_refl _), hnone]
          · rw [lim_ge (by omega), lim_ge (by omega)]
      have hown' : ∀ b, Owned (lim ι (D.h (m + 1)).sz) (D.h (m + 1)) b → Owned (lim ι (D.h m).sz) (D.h m) b := by
        intro b ho
        rcases hown b ho with ho | ⟨l, e, _⟩
        · exact ho
        · rw [hnone] at e; cases e
      refine ⟨h.cl, h.size, h.defers, h.tm, hm, hes, ?_, ?_, ?_, ?_, ?_, ?_⟩
      · rw [hlimeq]
        refine ⟨h.hr.base, ?_, ?_, fun id hid => lim_ge (by omega)⟩
        · intro id o l' hg' hl'
          have := (lim_some hl').1
          rw [hget, if_neg (by omega)] at hg'
          exact h.hr.obj id o l' hg' hl'
        · intro k k' o1 o2 lk lk' hk hk' n1 n2 hne hlk hlk'
          have g1 := (lim_some hlk).1
          have g2 := (lim_some hlk').1
          rw [hget, if_neg (by omega)] at hk hk'
          exact h.hr.inj k k' o1 o2 lk lk' hk hk' n1 n2 hne hlk hlk'
      · have hs0 := F.sizes (i := 0) (j := m) (by omega) (by omega)
        refine ⟨fun id hid => ?_, by omega, h.ex.size, h.ex.os, h.ex.tape, h.ex.output, h.ex.frame, fun b hb ho => h.ex.own b hb (hown' b ho), ?_, h.ex.frz⟩
        · rw [← h.ex.keep id hid, hlimeq]
        · intro id hid hn
          rw [hget, if_neg (by omega)]
          exact h.ex.untouched id hid hn
      · intro i hi
        obtain ⟨l', e1, e2⟩ := h.early i (hisE i hi)
        exact ⟨l', e1, e2.base, e2.old, e2.off, e2.obj, fun ho => e2.free (hown' _ ho)⟩
      · exact fun i j hi hj hne => h.dist i j (hisE i hi) (hisE j hj) hne
      · intro i hi hci hgi hnl
        by_cases him : i = m
        · subst him
          exact ⟨hnone, by rw [hget, if_pos rfl]⟩
        · obtain ⟨e1, e2⟩ := h.late i (by omega) hci hgi hnl
          exact ⟨e1, push_more hp _ _ e2⟩
      · intro id l' hid hl'
        obtain ⟨i, hi, rfl⟩ := h.young id l' (by omega) hl'
        refine ⟨i, ⟨?_, hi.lt, hi.cls, hi.g, hi.l⟩, rfl⟩
        rcases Nat.lt_or_ge m i with e | e
        · omega
        · obtain rfl : i = m := by have := hi.ge; omega
          omega
  · have hh : D.h (m + 1) = D.h m := by
      cases hg : D.g m
      · exact (F.unw m hm hg).2
      · rcases cls_le (D.A m).op with e | e | e | e
        · exact (F.c0 m hm hg e).1
        · exact (F.c1 m hm hg e).1
        · exact absurd ⟨e, hg⟩ hA
        · exact absurd e hc
    have hne : ∀ i, (D.A i).op.cls = 2 → D.g i = true → i ≠ m := fun i h1 h2 e => hA (e ▸ ⟨h1, h2⟩)
    refine ⟨h.cl, h.size, h.defers, h.tm, hm, hes, by rw [hh]; exact h.hr, by rw [hh]; exact h.ex, ?_, ?_, ?_, ?_⟩
    · intro i hi
      obtain ⟨l', e1, e2⟩ := h.early i (hisE i hi)
      exact ⟨l', e1, e2.base, e2.old, e2.off, e2.obj, by rw [hh]; exact e2.free⟩
    · exact fun i j hi hj hne => h.dist i j (hisE i hi) (hisE j hj) hne
    · intro i hi hci hgi hnl
      have := hne i hci hgi
      rw [hh]
      exact h.late i (by omega) hci hgi hnl
    · intro id l' hid hl'
      rw [hh] at hid
      obtain ⟨i, hi, rfl⟩ := h.young id l' hid hl'
      have := hne i hi.cls hi.g
      exact ⟨i, ⟨by have := hi.ge; omega, hi.lt, hi.cls, hi.g, hi.l⟩, rfl⟩
theorem DInv.shift (F : DF P V B C ops D) (h : DInv V B D ι0 w0 L ι m a w) : ∀ {k : Nat}, m ≤ k → k ≤ D.n → (∀ e, m ≤ e → e < k → (D.A e).op.cls ≠ 3) → DInv V B D ι0 w0 L ι k a w
  | 0, h1, _, _ => by obtain rfl : m = 0 := by omega
                      exact h
  | k + 1, h1, h2, h3 => by
    by_cases e : m = k + 1
    · subst e; exact h
    · exact (h.shift F (k := k) (by omega) (by omega) fun e he he' => h3 e he (by omega)).shift1 F (by omega) (h3 k (by omega) (by omega))
end
end Go.Sx
