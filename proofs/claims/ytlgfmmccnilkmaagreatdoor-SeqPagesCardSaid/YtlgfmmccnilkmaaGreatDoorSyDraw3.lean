/- The symbolic machine: statements whose order is open: each step keeps the invariant; the walk in any order. No condition: lemmas of the machine. -/
import Derived.Test.YtlgfmmccnilkmaaGreatDoorSyDraw2
namespace Go.Sx
set_option linter.unusedVariables false
set_option linter.unusedSimpArgs false

section
variable {P : Program} {V : Val} {B : Nat} {C : Cfg} {ops : Array Oper} {D : DT} {ι : Nat → Option Loc} {σ : Hp} {w : World}
variable {ι0 : Nat → Option Loc} {w0 : World} {L L' : Nat → Prop} {m : Nat} {a : Act}

theorem closed_add (hcl : Closed D L) {i : Nat} (hpre : ∀ x ∈ D.pre i, L x) (hL : ∀ j, L' j ↔ L j ∨ j = i) : Closed D L' := by
  intro j hj hl x hx
  rcases (hL j).1 hl with h | h
  · exact (hL x).2 (.inl (hcl j hj h x hx))
  · subst h; exact (hL x).2 (.inl (hpre x hx))
theorem DInv.step_same (F : DF P V B C ops D) (h : DInv V B D ι0 w0 L ι m a w) {i : Nat} (hi : i < D.n) (hnl : ¬ L i) (hpre : ∀ x ∈ D.pre i, L x) (hL : ∀ j, L' j ↔ L j ∨ j = i)
    (h3 : (D.A i).op.cls ≠ 3) (h2 : (D.A i).op.cls = 2 → D.g i = false) {c : Value} (hv : VRel V ι (D.v i) c) : DInv V B D ι0 w0 L' ι m (a.put (D.O i).dst c) w := by
  have hisE : ∀ j, IsE D L' m j → IsE D L m j := by
    intro j hj
    refine ⟨hj.ge, hj.lt, hj.cls, hj.g, ?_⟩
    rcases (hL j).1 hj.l with e | e
    · exact e
    · subst e
      have := h2 hj.cls
      rw [hj.g] at this; cases this
  refine ⟨closed_add h.cl hpre hL, ?_, ?_, F.write_ok h.tm h.cl hi hnl hL (fun _ _ h => h) h.size hv, h.m_le, ?_, h.hr, h.ex, ?_, ?_, ?_, ?_⟩
  · rw [← F.dst i hi]
    unfold Act.put
    split <;> simp [h.size]
  · rw [← F.dst i hi]
    unfold Act.put
    split <;> simp [h.defers]
  · intro e he hce
    rw [hL, ← h.es e he hce]
    constructor
    · rintro (q | q)
      · exact q
      · subst q; exact absurd hce h3
    · exact .inl
  · exact fun j hj => h.early j (hisE j hj)
  · exact fun j k hj hk => h.dist j k (hisE j hj) (hisE k hk)
  · exact fun j hj hcj hgj hn => h.late j hj hcj hgj fun q => hn ((hL j).2 (.inl q))
  · intro id l hid hl
    obtain ⟨j, hj, e⟩ := h.young id l hid hl
    exact ⟨j, ⟨hj.ge, hj.lt, hj.cls, hj.g, (hL j).2 (.inl hj.l)⟩, e⟩
theorem DInv.step_E (F : DF P V B C ops D) {i : Nat} (h : DInv V B D ι0 w0 L ι i a w) (hi : i < D.n) (hnl : ¬ L i) (hpre : ∀ x ∈ D.pre i, L x) (hL : ∀ j, L' j ↔ L j ∨ j = i)
    (h3 : (D.A i).op.cls = 3) {c : Value} {w' : World} {κ : Nat → Option Loc} (hv : VRel V κ (D.v i) c) (hh : HRel V κ B (D.h (i + 1)) w') (hx : Ext (lim ι (D.h i).sz) (D.h i) w κ (D.h (i + 1)) w') :
    DInv V B D ι0 w0 L' (fun id => if id < (D.h (i + 1)).sz then κ id else ι id) (i + 1) (a.put (D.O i).dst c) w' := by
  have hsz := F.mono i hi
  have hearly : ∀ j, IsE D L i j → (D.h (i + 1)).sz ≤ (D.h j).sz := by
    intro j hj
    have hne : j ≠ i := fun e => by have := hj.cls; rw [e, h3] at this; cases this
    have := hj.ge
    exact F.sizes (by omega) (by have := hj.lt; omega)
  have hlim : lim (fun id => if id < (D.h (i + 1)).sz then κ id else ι id) (D.h (i + 1)).sz = κ := by
    funext id
    by_cases e : id < (D.h (i + 1)).sz
    · rw [lim_of e, if_pos e]
    · rw [lim_ge (by omega), hh.dom id (by omega)]
  have hmono : ∀ id l, ι id = some l → (if id < (D.h (i + 1)).sz then κ id else ι id) = some l := by
    intro id l hl
    by_cases e : id < (D.h (i + 1)).sz
    · rw [if_pos e]
      by_cases e2 : id < (D.h i).sz
      · rw [hx.keep id e2, lim_of e2]; exact hl
      · obtain ⟨j, hj, e3⟩ := h.young id l (by omega) hl
        have := hearly j hj; omega
    · rw [if_neg e]; exact hl
  have hkm : ∀ id l, κ id = some l → (if id < (D.h (i + 1)).sz then κ id else ι id) = some l := by
    intro id l hl
    by_cases e : id < (D.h (i + 1)).sz
    · rw [if_pos e]; exact hl
    · rw [hh.dom id (by omega)] at hl; cases hl
  have hisE : ∀ j, IsE D L' (i + 1) j → IsE D L i j := by
    intro j hj
    refine ⟨by have := hj.ge; omega, hj.lt, hj.cls, hj.g, ?_⟩
    rcases (hL j).1 hj.l with e | e
    · exact e
    · subst e; have := hj.ge; omega
  have hval : ∀ j, IsE D L i j → (if (D.h j).sz < (D.h (i + 1)).sz then κ (D.h j).sz else ι (D.h j).sz) = ι (D.h j).sz := fun j hj => by
    rw [if_neg (by have := hearly j hj; omega)]
  refine ⟨closed_add h.cl hpre hL, ?_, ?_, F.write_ok h.tm h.cl hi hnl hL hmono h.size (VRel.mono hkm _ _ hv), by omega, ?_, by rw [hlim]; exact hh, by rw [hlim]; exact h.ex.trans hx, ?_, ?_, ?_, ?_⟩
  · rw [← F.dst i hi]
    unfold Act.put
    split <;> simp [h.size]
  · rw [← F.dst i hi]
    unfold Act.put
    split <;> simp [h.defers]
  · intro e he hce
    rw [hL, h.es e he hce]
    omega
  · intro j hj
    have hj' := hisE j hj
    obtain ⟨l, e1, e2⟩ := h.early j hj'
    refine ⟨l, by simp only [hval j hj']; exact e1, e2.base, e2.old, e2.off, ?_, ?_⟩
    · obtain ⟨cc, e, c1, c2, c3, c4⟩ := e2.obj
      refine ⟨cc, e, ?_, c2, c3, c4.mono hmono⟩
      rw [hx.frame l.blk (Array.getElem?_eq_some_iff.1 c1).1 e2.free]
      exact c1
    · rw [hlim]
      obtain ⟨cc, e, c1, _⟩ := e2.obj
      exact fun ho => e2.free (hx.own l.blk (Array.getElem?_eq_some_iff.1 c1).1 ho)
  · intro j k hj hk hne l l' hl hl'
    simp only [hval j (hisE j hj)] at hl
    simp only [hval k (hisE k hk)] at hl'
    exact h.dist j k (hisE j hj) (hisE k hk) hne l l' hl hl'
  · intro j hj hcj hgj hn
    have hji : j ≠ i := fun e => by rw [e, h3] at hcj; cases hcj
    obtain ⟨e1, e2⟩ := h.late j (by omega) hcj hgj fun q => hn ((hL j).2 (.inl q))
    have hlt := Hp.get_lt e2
    refine ⟨?_, ?_⟩
    · rw [if_pos (by omega), hx.keep _ hlt, lim_of hlt]; exact e1
    · rw [hx.untouched _ hlt (by rw [lim_of hlt]; exact e1)]; exact e2
  · intro id l hid hl
    rw [if_neg (by omega)] at hl
    obtain ⟨j, hj, e⟩ := h.young id l (by omega) hl
    have := hearly j hj
    refine ⟨j, ⟨?_, hj.lt, hj.cls, hj.g, (hL j).2 (.inl hj.l)⟩, e⟩
    have hne : j ≠ i := fun e => by have := hj.cls; rw [e, h3] at this; cases this
    have := hj.ge; omega
theorem DInv.step_A (F : DF P V B C ops D) (h : DInv V B D ι0 w0 L ι m a w) {i : Nat} (hi : i < D.n) (hnl : ¬ L i) (hpre : ∀ x ∈ D.pre i, L x) (hL : ∀ j, L' j ↔ L j ∨ j = i)
    (h2 : (D.A i).op.cls = 2) (hg : D.g i = true) {arr : Array Value} {e : TypeId} {us rest : List Value} (harr : arr.toList = us ++ rest) (hus : VRels V ι (D.cs i) us)
    {c : Value} (hv : ∀ ι' : Nat → Option Loc, ι' (D.h i).sz = some ⟨w.heap.size, 0, arr.size⟩ → VRel V ι' (D.v i) c) :
    DInv V B D ι0 w0 L' (upd ι (D.h i).sz ⟨w.heap.size, 0, arr.size⟩) m (a.put (D.O i).dst c) (w.alloc (.cells arr e)) := by
  obtain ⟨hp, hsz1, hone⟩ := F.push hi hg h2
  have hbnd := (F.c2 i hi hg h2).2.2.2.2
  have hnone : ι (D.h i).sz = none := by
    rcases Nat.lt_or_ge i m with him | him
    · exact (h.late i him h2 hg hnl).1
    · cases hx : ι (D.h i).sz with
      | none => rfl
      | some l =>
        obtain ⟨j, hj, e1⟩ := h.young _ l (F.sizes him (by omega)) hx
        have := F.ids_ne hi hg h2 hj.lt hj.g hj.cls e1
        subst this
        exact absurd hj.l hnl
  have hmono : ∀ id l, ι id = some l → upd ι (D.h i).sz ⟨w.heap.size, 0, arr.size⟩ id = some l := by
    intro id l hl
    unfold upd
    split
    · rename_i e1; subst e1; rw [hnone] at hl; cases hl
    · exact hl
  have hupd : ∀ id, id ≠ (D.h i).sz → upd ι (D.h i).sz ⟨w.heap.size, 0, arr.size⟩ id = ι id := fun id hid => if_neg hid
  have hnew : upd ι (D.h i).sz ⟨w.heap.size, 0, arr.size⟩ (D.h i).sz = some ⟨w.heap.size, 0, arr.size⟩ := if_pos rfl
  have hcs : CRel V ι (D.cs i) arr 0 := by
    intro j v hj
    obtain ⟨u, k1, k2⟩ := hus.get j v hj
    refine ⟨hone v (List.mem_of_getElem? hj), u, ?_, k2⟩
    rw [Nat.zero_add, ← Array.getElem?_toList, harr, List.getElem?_append_left (List.getElem?_eq_some_iff.1 k1).1]
    exact k1
  have hcl : (D.cs i).length ≤ arr.size := by
    have k1 := hus.length
    have k2 : arr.size = us.length + rest.length := by rw [← Array.length_toList, harr, List.length_append]
    omega
  have hlimm : ∀ id l, lim ι (D.h m).sz id = some l → lim (upd ι (D.h i).sz ⟨w.heap.size, 0, arr.size⟩) (D.h m).sz id = some l := by
    intro id l hl
    obtain ⟨q1, q2⟩ := lim_some hl
    rw [lim_of q1]; exact hmono _ _ q2
  have hblk : ∀ id o l, (D.h m).get id = some o → lim ι (D.h m).sz id = some l → o.knd ≠ 0 → l.blk < w.heap.size := fun id o l hg hl hk => h.hr.blk_lt hg hk hl
  have hw0 := h.ex.size
  -- which locations the new map has below the heap's size
  have hlims : ∀ id l, lim (upd ι (D.h i).sz ⟨w.heap.size, 0, arr.size⟩) (D.h m).sz id = some l → lim ι (D.h m).sz id = some l ∨ (id = (D.h i).sz ∧ l = ⟨w.heap.size, 0, arr.size⟩ ∧ id < (D.h m).sz) := by
    intro id l hl
    obtain ⟨q1, q2⟩ := lim_some hl
    by_cases e1 : id = (D.h i).sz
    · subst e1; rw [hnew] at q2; cases q2; exact .inr ⟨rfl, rfl, q1⟩
    · rw [hupd id e1] at q2; exact .inl (by rw [lim_of q1]; exact q2)
  have hidm : (D.h i).sz < (D.h m).sz → i < m := by
    intro hlt
    rcases Nat.lt_or_ge i m with him | him
    · exact him
    · have := F.sizes him (by omega); omega
  have hownb : ∀ b, b < w.heap.size → Owned (lim (upd ι (D.h i).sz ⟨w.heap.size, 0, arr.size⟩) (D.h m).sz) (D.h m) b → Owned (lim ι (D.h m).sz) (D.h m) b := by
    rintro b hb ⟨k, ks, l, q1, q0, q2, q3⟩
    rcases hlims k l q2 with q | ⟨_, rfl, _⟩
    · exact ⟨k, ks, l, q1, q0, q, q3⟩
    · simp only at q3; omega
  have hold : ∀ b, b < w.heap.size → (w.alloc (.cells arr e)).heap[b]? = w.heap[b]? := fun b hb => heap_alloc_old w _ b hb
  have hisE : ∀ j, IsE D L' m j → IsE D L m j ∨ j = i := by
    intro j hj
    rcases (hL j).1 hj.l with q | q
    · exact .inl ⟨hj.ge, hj.lt, hj.cls, hj.g, q⟩
    · exact .inr q
  have hblkE : ∀ j l, IsE D L m j → ι (D.h j).sz = some l → l.blk < w.heap.size := by
    intro j l hj hl
    obtain ⟨l', q1, q2⟩ := h.early j hj
    rw [hl] at q1; cases q1
    obtain ⟨cc, e1, c1, _⟩ := q2.obj
    exact (Array.getElem?_eq_some_iff.1 c1).1
  refine ⟨closed_add h.cl hpre hL, ?_, ?_, F.write_ok h.tm h.cl hi hnl hL hmono h.size (hv _ hnew), h.m_le, ?_, ?_, ?_, ?_, ?_, ?_, ?_⟩
  · rw [← F.dst i hi]
    unfold Act.put
    split <;> simp [h.size]
  · rw [← F.dst i hi]
    unfold Act.put
    split <;> simp [h.defers]
  · intro e1 he hce
    rw [hL, ← h.es e1 he hce]
    constructor
    · rintro (q | q)
      · exact q
      · subst q; rw [h2] at hce; cases hce
    · exact .inl
  · refine ⟨by have := h.hr.base; simp; omega, ?_, ?_, fun id hid => lim_ge hid⟩
    · intro id o l hgo hlo
      rcases hlims id l hlo with q | ⟨q1, q2, q3⟩
      · have := (h.hr.obj id o l hgo q).mono hlimm
        cases o with
        | dead => trivial
        | cells ks ro =>
          obtain ⟨c1, e1, f1, hb, r⟩ := this
          exact ⟨c1, e1, f1, by rw [hold _ (Array.getElem?_eq_some_iff.1 hb).1]; exact hb, r⟩
        | big t n z =>
          obtain ⟨c1, e1, hb, r⟩ := this
          exact ⟨c1, e1, by rw [hold _ (Array.getElem?_eq_some_iff.1 hb).1]; exact hb, r⟩
        | map es =>
          obtain ⟨ms, hb, r⟩ := this
          exact ⟨ms, by rw [hold _ (Array.getElem?_eq_some_iff.1 hb).1]; exact hb, r⟩
        | arr s k' n' =>
          obtain ⟨N, h1, h2⟩ := this
          exact ⟨N, h1, h2.imp (fun x => x) fun ⟨c1, e1, f1, hb, hlt, r⟩ => ⟨c1, e1, f1, by rw [hold _ (Array.getElem?_eq_some_iff.1 hb).1]; exact hb, hlt, r⟩⟩
      · subst q1; subst q2
        have him := hidm q3
        rw [(h.late i him h2 hg hnl).2] at hgo
        cases hgo
        refine ⟨arr, e, (0, 0), heap_alloc_new w _, fun _ => ⟨rfl, h.hr.base, by simp⟩, ⟨hcl, fun h => by cases h⟩, ?_⟩
        have hb' : SVs.bnd (D.h m).sz (D.cs i) = true → CRel V (lim (upd ι (D.h i).sz ⟨w.heap.size, 0, arr.size⟩) (D.h m).sz) (D.cs i) arr 0 := fun hb => (hcs.mono hmono).lim hb
        have hle := lim_le (ι := upd ι (D.h i).sz ⟨w.heap.size, 0, arr.size⟩) (show (D.h i).sz ≤ (D.h m).sz by omega)
        exact ((hcs.mono hmono).lim hbnd).mono hle
    · intro k k' o1 o2 lk lk' hk hk' n1 n2 hne hlk hlk'
      rcases hlims k lk hlk with q | ⟨q1, q2, q3⟩
      · have b1 := hblk k _ lk hk q n1
        rcases hlims k' lk' hlk' with r | ⟨r1, r2, r3⟩
        · exact h.hr.inj k k' o1 o2 lk lk' hk hk' n1 n2 hne q r
        · subst r2; simp only; omega
      · rcases hlims k' lk' hlk' with r | ⟨r1, r2, r3⟩
        · have b1 := hblk k' _ lk' hk' r n2
          subst q2; simp only; omega
        · exact absurd (q1.trans r1.symm) hne
  · have hs0 := F.sizes (i := 0) (j := i) (by omega) (by omega)
    refine ⟨fun id hid => ?_, h.ex.slen, by simp; omega, h.ex.os, h.ex.tape, h.ex.output, ?_, ?_, h.ex.untouched, fun a => (frozen_alloc a).trans (h.ex.frz a)⟩
    · rw [← h.ex.keep id hid]
      unfold lim
      split
      · exact hupd id (by omega)
      · rfl
    · intro b hb hno
      rw [hold b (by omega)]
      exact h.ex.frame b hb hno
    · intro b hb ho
      exact h.ex.own b hb (hownb b (by omega) ho)
  · intro j hj
    rcases hisE j hj with q | q
    · obtain ⟨l, q1, q2⟩ := h.early j q
      have hb := hblkE j l q q1
      refine ⟨l, hmono _ _ q1, q2.base, q2.old, q2.off, ?_, fun ho => q2.free (hownb _ hb ho)⟩
      obtain ⟨cc, e1, c1, c2, c3, c4⟩ := q2.obj
      exact ⟨cc, e1, by rw [hold _ hb]; exact c1, c2, c3, c4.mono hmono⟩
    · subst q
      refine ⟨_, hnew, h.hr.base, hw0, rfl, ⟨arr, e, heap_alloc_new w _, rfl, hcl, hcs.mono hmono⟩, ?_⟩
      rintro ⟨k, ks, l, q1, q0, q2, q3⟩
      rcases hlims k l q2 with q | ⟨r1, _, r3⟩
      · have := hblk k _ l q1 q (by omega)
        simp only at q3; omega
      · subst r1
        have := hidm r3
        have := hj.ge
        omega
  · intro j k hj hk hne l l' hl hl'
    rcases hisE j hj with q | q <;> rcases hisE k hk with r | r
    · rw [hupd _ (fun e1 => ?_)] at hl
      · rw [hupd _ (fun e1 => ?_)] at hl'
        · exact h.dist j k q r hne l l' hl hl'
        · have := F.ids_ne r.lt r.g r.cls hi hg h2 e1
          subst this; exact hnl r.l
      · have := F.ids_ne q.lt q.g q.cls hi hg h2 e1
        subst this; exact hnl q.l
    · subst r
      rw [hnew] at hl'; cases hl'
      rw [hupd _ (fun e1 => hne (F.ids_ne q.lt q.g q.cls hi hg h2 e1))] at hl
      have := hblkE j l q hl
      simp only; omega
    · subst q
      rw [hnew] at hl; cases hl
      rw [hupd _ (fun e1 => hne (F.ids_ne r.lt r.g r.cls hi hg h2 e1).symm)] at hl'
      have := hblkE k l' r hl'
      simp only; omega
    · exact absurd (q.trans r.symm) hne
  · intro j hj hcj hgj hn
    have hnlj : ¬ L j := fun q => hn ((hL j).2 (.inl q))
    have hji : j ≠ i := fun e1 => hn ((hL j).2 (.inr e1))
    obtain ⟨q1, q2⟩ := h.late j hj hcj hgj hnlj
    refine ⟨?_, q2⟩
    rw [hupd _ (fun e1 => hji (F.ids_ne (by have := h.m_le; omega) hgj hcj hi hg h2 e1))]
    exact q1
  · intro id l hid hl
    by_cases e1 : id = (D.h i).sz
    · refine ⟨i, ⟨?_, hi, h2, hg, (hL i).2 (.inr rfl)⟩, e1⟩
      rcases Nat.lt_or_ge i m with him | him
      · have := Hp.get_lt (h.late i him h2 hg hnl).2; omega
      · exact him
    · rw [hupd id e1] at hl
      obtain ⟨j, hj, e2⟩ := h.young id l hid hl
      exact ⟨j, ⟨hj.ge, hj.lt, hj.cls, hj.g, (hL j).2 (.inl hj.l)⟩, e2⟩

theorem DInv.reads (F : DF P V B C ops D) (h : DInv V B D ι0 w0 L ι m a w) {i : Nat} (hi : i < D.n) (hnl : ¬ L i) (hpre : ∀ x ∈ D.pre i, L x) (hg : D.g i = true) (h1 : (D.A i).op.cls = 1) :
    ∃ m', DInv V B D ι0 w0 L ι m' a w ∧ evM (rdl C.G (D.fr i) (D.A i).op) (D.h m') (D.A i).op = some (D.v i, D.h m') ∧ ∀ x ∈ (D.A i).op.xs, ∀ u, rdX C.G (D.fr i) x = some u → u.bnd (D.h m').sz = true := by
  obtain ⟨hh, hcop, hev, hyg⟩ := F.c1 i hi hg h1
  by_cases hmi : m ≤ i
  · by_cases hE : ∃ e, m ≤ e ∧ e < i ∧ (D.A e).op.cls = 3
    · obtain ⟨e, ⟨he1, he2, he3⟩, hmin⟩ := exists_least hE
      have hle : ¬ L e := fun q => by have := (h.es e (by omega) he3).1 q; omega
      obtain ⟨hy, ⟨h', q⟩, _⟩ := F.chk i hi hg h1 e (by omega) he3 (.inl ⟨he2, fun q => hle (hpre e q)⟩)
      refine ⟨e, h.shift F he1 (by omega) fun e' k1 k2 k3 => ?_, ?_⟩
      · have := hmin e' ⟨k1, by omega, k3⟩; omega
      · exact ⟨evM_more h1 (fun _ _ x => x) q, hy⟩
    · refine ⟨i, h.shift F hmi (by omega) fun e k1 k2 k3 => hE ⟨e, k1, k2, k3⟩, hev, hyg⟩
  · by_cases hE : ∃ e, i < e ∧ e < m ∧ (D.A e).op.cls = 3
    · -- the last one
      have hlast : ∃ e, (i < e ∧ e < m ∧ (D.A e).op.cls = 3) ∧ ∀ e', i < e' → e' < m → (D.A e').op.cls = 3 → e' ≤ e := by
        obtain ⟨d, ⟨e, hd, he⟩, hmin⟩ := exists_least (p := fun d => ∃ e, d = m - e ∧ (i < e ∧ e < m ∧ (D.A e).op.cls = 3)) (let ⟨e, he⟩ := hE; ⟨m - e, e, rfl, he⟩)
        refine ⟨e, he, fun e' k1 k2 k3 => ?_⟩
        have := hmin (m - e') ⟨e', rfl, k1, k2, k3⟩
        omega
      obtain ⟨e, ⟨he1, he2, he3⟩, hmax⟩ := hlast
      have hml := h.m_le
      have hle : L e := (h.es e (by omega) he3).2 he2
      obtain ⟨hy, _, ⟨h', q⟩⟩ := F.chk i hi hg h1 e (by omega) he3 (.inr ⟨he1, fun q => hnl (h.cl e (by omega) hle i q)⟩)
      have hmore := F.more (i := e + 1) (j := m) (by omega) hml fun e' k1 k2 k3 => by have := hmax e' (by omega) k2 k3; omega
      exact ⟨m, h, evM_more h1 hmore.1 q, fun x hx u hu => SV.bnd_le (F.sizes (by omega) hml) u (hy x hx u hu)⟩
    · have hmore := F.more (i := i) (j := m) (by omega) h.m_le fun e' k1 k2 k3 => by
        by_cases e : e' = i
        · subst e; rw [h1] at k3; cases k3
        · exact hE ⟨e', by omega, k2, k3⟩
      exact ⟨m, h, evM_more h1 hmore.1 hev, fun x hx u hu => SV.bnd_le hmore.2 u (hyg x hx u hu)⟩
end
end Go.Sx
