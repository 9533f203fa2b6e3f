/- The symbolic machine's memory: loads, stores and new objects of the abstract heap, and that the world follows. No condition: lemmas of the machine. -/
import Derived.Test.YtlgfmmccnilkmaaGreatDoorSyBase
namespace Go.Sx
set_option linter.unusedVariables false

theorem addr_add (b o j : Nat) : (⟨b, o, none⟩ : Addr).add j = ⟨b, o + j, none⟩ := by unfold Addr.add; split <;> simp_all

/-- Load cells. -/
def ldc (σ : Hp) (id o n : Nat) : Option (List SV) :=
  match σ.get id with
  | some (.cells cs _) => bif Nat.ble (o + n) cs.length then some ((cs.drop o).take n) else none
  | _ => none
/-- Store cells. -/
def stc (σ : Hp) (id o : Nat) (vs : List SV) : Option Hp :=
  match σ.get id with
  | some (.cells cs false) => bif Nat.ble (o + vs.length) cs.length && vs.all SV.one then σ.set id (.cells (cs.take o ++ vs ++ cs.drop (o + vs.length)) false) else none
  | _ => none
/-- A new object. -/
def nwo (σ : Hp) (vs : List SV) : Option Hp := bif vs.all SV.one then σ.push (.cells vs false) else none
/-- What is left of an array that is appended to beyond the room that is known: nothing; what it had, and more, is a new object. -/
def apo (σ : Hp) (id : Nat) (vs : List SV) : Option Hp :=
  match σ.get id with
  | some (.cells _ false) => match σ.set id .dead with
    | some s => nwo s vs
    | none => none
  | _ => none

section
variable {P : Program} {V : Val} {ι : Nat → Option Loc} {B : Nat} {σ σ' : Hp} {w : World}

theorem frozen_setRow {w : World} {g : Nat} {c c' : Array Value} {e : TypeId} (h : w.heap[g]? = some (.cells c e (0, 0))) (a : Addr) : (w.setRow g c').frozen? a = w.frozen? a := by
  by_cases ha : a.block = g
  · have h1 := setRow_heap w g c c' e (0, 0) h
    simp [World.frozen?, ha, h, h1]
  · simp [World.frozen?, setRow_other w g a.block c' ha]
theorem frozen_alloc {w : World} {c : Array Value} {e : TypeId} (a : Addr) : (w.alloc (.cells c e)).frozen? a = w.frozen? a := by
  rcases Nat.lt_trichotomy a.block w.heap.size with h | h | h
  · simp [World.frozen?, heap_alloc_old w (.cells c e) a.block h]
  · have h1 : (w.alloc (.cells c e)).heap[a.block]? = some (.cells c e) := by rw [h]; exact heap_alloc_new w _
    have h2 : w.heap[a.block]? = none := by rw [h]; simp
    simp [World.frozen?, h1, h2]
  · have h1 : (w.alloc (.cells c e)).heap[a.block]? = none := by
      rw [Array.getElem?_eq_none_iff]; simp; omega
    have h2 : w.heap[a.block]? = none := by rw [Array.getElem?_eq_none_iff]; omega
    simp [World.frozen?, h1, h2]
theorem ldc_cells {id o n : Nat} {vs : List SV} (he : ldc σ id o n = some vs) : ∃ cs ro, σ.get id = some (.cells cs ro) ∧ o + n ≤ cs.length ∧ vs = (cs.drop o).take n := by
  unfold ldc at he
  split at he
  · rename_i cs ro hg
    cases hb : Nat.ble (o + n) cs.length <;> simp only [hb, cond_true, cond_false] at he
    · cases he
    · exact ⟨cs, ro, hg, Nat.le_of_ble_eq_true hb, (Option.some.inj he).symm⟩
  · cases he
theorem CRel.sub {cs : List SV} {c : Array Value} {off : Nat} (h : CRel V ι cs c off) (o n : Nat) (hn : o + n ≤ cs.length) :
    ∃ us, VRels V ι ((cs.drop o).take n) us ∧ us.length = n ∧ (∀ j u, us[j]? = some u → c[off + o + j]? = some u) ∧ ∀ v ∈ (cs.drop o).take n, v.one = true := by
  have hsz : ∀ j, j < n → ∃ v u, cs[o + j]? = some v ∧ v.one = true ∧ c[off + (o + j)]? = some u ∧ VRel V ι v u := by
    intro j hj
    have hlt : o + j < cs.length := by omega
    obtain ⟨h1, u, h2, h3⟩ := h (o + j) _ (List.getElem?_eq_getElem hlt)
    exact ⟨_, u, List.getElem?_eq_getElem hlt, h1, h2, h3⟩
  refine ⟨(c.toList.drop (off + o)).take n, ?_, ?_, ?_, ?_⟩
  · refine VRels.of_get ?_ fun j v hj => ?_
    · simp only [List.length_take, List.length_drop, Array.length_toList]
      have : 0 < n → off + (o + (n - 1)) < c.size := fun hn0 => by
        obtain ⟨_, u, _, _, h2, _⟩ := hsz (n - 1) (by omega)
        exact (Array.getElem?_eq_some_iff.1 h2).1
      omega
    · rw [List.getElem?_take] at hj
      split at hj
      · rename_i hlt
        rw [List.getElem?_drop] at hj
        obtain ⟨v', u, h1, h2, h3, h4⟩ := hsz j hlt
        rw [h1] at hj; cases hj
        refine ⟨u, ?_, h4⟩
        rw [List.getElem?_take, if_pos hlt, List.getElem?_drop, Array.getElem?_toList, Nat.add_assoc]
        exact h3
      · cases hj
  · simp only [List.length_take, List.length_drop, Array.length_toList]
    have : 0 < n → off + (o + (n - 1)) < c.size := fun hn0 => by
      obtain ⟨_, u, _, _, h2, _⟩ := hsz (n - 1) (by omega)
      exact (Array.getElem?_eq_some_iff.1 h2).1
    omega
  · intro j u hj
    rw [List.getElem?_take] at hj
    split at hj
    · rwa [List.getElem?_drop, Array.getElem?_toList] at hj
    · cases hj
  · intro v hv
    obtain ⟨j, hj⟩ := List.getElem?_of_mem hv
    rw [List.getElem?_take] at hj
    split at hj
    · rw [List.getElem?_drop] at hj
      exact (h _ v hj).1
    · cases hj
theorem ldc_sound (h : HRel V ι B σ w) {id o n : Nat} {vs : List SV} (he : ldc σ id o n = some vs) {l : Loc} (hl : ι id = some l) :
    ∃ us, VRels V ι vs us ∧ us.length = n ∧ (∀ j u, us[j]? = some u → w.cell? ((⟨l.blk, l.off + o, none⟩ : Addr).add j) = some u) ∧ (∀ v ∈ vs, v.one = true) ∧ (w.shape? l.blk).isSome = true := by
  obtain ⟨cs, ro, hg, hn, rfl⟩ := ldc_cells he
  obtain ⟨c, e, fr, hb, _, _, hc⟩ := h.obj id _ l hg hl
  obtain ⟨us, h1, h2, h3, h4⟩ := hc.sub o n hn
  refine ⟨us, h1, h2, fun j u hj => ?_, h4, by simp [World.shape?, hb]⟩
  rw [addr_add, cell_of_row w _ _ c e fr hb]
  exact h3 j u hj
theorem run_load_cells {us : List Value} {a : Addr} {n : Nat} (hn : us.length = n) (h : ∀ j u, us[j]? = some u → w.cell? (a.add j) = some u) : (loadCells a n).run P w = .ok us.toArray w := by
  subst hn; exact run_loadCells_list w a us h

theorem list_mid {α : Type} (cs vs : List α) (o j : Nat) (hl : o + vs.length ≤ cs.length) :
    (cs.take o ++ vs ++ cs.drop (o + vs.length))[j]? = if j < o then cs[j]? else if j < o + vs.length then vs[j - o]? else cs[j]? := by
  have ho : (cs.take o).length = o := by simp; omega
  by_cases h1 : j < o
  · rw [if_pos h1, List.append_assoc, List.getElem?_append_left (by omega), List.getElem?_take, if_pos h1]
  · rw [if_neg h1]
    by_cases h2 : j < o + vs.length
    · rw [if_pos h2, List.getElem?_append_left (by simp; omega), List.getElem?_append_right (by omega), ho]
    · rw [if_neg h2, List.getElem?_append_right (by simp; omega), List.getElem?_drop]
      congr 1
      simp only [List.length_append, ho]
      omega
theorem owned_set {id : Nat} {cs cs' : List SV} (hs : σ.set id (.cells cs' false) = some σ') (hg : σ.get id = some (.cells cs false)) (b : Nat) : Owned ι σ' b → Owned ι σ b := by
  rintro ⟨k, ks, l, h1, h2, h3⟩
  rw [Hp.get_set hs] at h1
  split at h1
  · rename_i e; subst e; exact ⟨k, cs, l, hg, h2, h3⟩
  · exact ⟨k, ks, l, h1, h2, h3⟩
theorem stc_sound (h : HRel V ι B σ w) {id o : Nat} {vs : List SV} (he : stc σ id o vs = some σ') {l : Loc} (hl : ι id = some l) {us : List Value} (hv : VRels V ι vs us) :
    ∃ w', (storeCells ⟨l.blk, l.off + o, none⟩ us).run P w = .ok () w' ∧ HRel V ι B σ' w' ∧ Ext ι σ w ι σ' w' := by
  unfold stc at he
  split at he
  case h_2 => cases he
  rename_i cs hg
  cases hb : (Nat.ble (o + vs.length) cs.length && vs.all SV.one) <;> simp only [hb, cond_true, cond_false] at he
  · cases he
  simp only [Bool.and_eq_true] at hb
  obtain ⟨hb1, hb2⟩ := hb
  have hlen : o + vs.length ≤ cs.length := Nat.le_of_ble_eq_true hb1
  have hone : ∀ v ∈ vs, v.one = true := fun v hm => List.all_eq_true.1 hb2 v hm
  obtain ⟨c, e, fr, hblk, hown, ⟨hext, _⟩, hc⟩ := h.obj id _ l hg hl
  obtain ⟨rfl, hB, hsz⟩ := hown rfl
  have hul := hv.length
  have h1 : ∀ u ∈ us, u.oneCell' = true := by
    intro u hu
    obtain ⟨j, hj⟩ := List.getElem?_of_mem hu
    have hjl : j < vs.length := by
      have := (List.getElem?_eq_some_iff.1 hj).1; omega
    obtain ⟨u', h2, h3⟩ := hv.get j _ (List.getElem?_eq_getElem hjl)
    rw [hj] at h2; cases h2
    exact h3.one (hone _ (List.getElem_mem hjl))
  have hrun := run_storeCells_at P l.blk (l.off + o) e us 0 c w hblk (by omega) h1
  simp only [Nat.add_zero] at hrun
  let c' : Array Value := (c.toList.take (l.off + o) ++ us ++ c.toList.drop (l.off + o + us.length)).toArray
  have hc' : (c.toList.take (l.off + o) ++ us ++ c.toList.drop (l.off + o + us.length)).toArray = c' := rfl
  rw [hc'] at hrun
  have hcs : c'.size = c.size := by
    simp only [c', List.size_toArray, List.length_append, List.length_take, List.length_drop, Array.length_toList]; omega
  have hget : ∀ j, c'[j]? = if j < l.off + o then c[j]? else if j < l.off + o + us.length then us[j - (l.off + o)]? else c[j]? := by
    intro j
    have := list_mid c.toList us (l.off + o) j (by simp only [Array.length_toList]; omega)
    simpa only [c', List.getElem?_toArray, Array.getElem?_toList] using this
  have hw' : (w.setRow l.blk c').heap[l.blk]? = some (.cells c' e (0, 0)) := setRow_heap w l.blk c c' e (0, 0) hblk
  have hoth : ∀ k, k ≠ l.blk → (w.setRow l.blk c').heap[k]? = w.heap[k]? := fun k hk => setRow_other w l.blk k c' hk
  refine ⟨_, hrun, ?_, ?_⟩
  · refine ⟨by simpa using h.base, ?_, ?_, ?_⟩
    · intro k ob lk hk hlk
      rw [Hp.get_set he] at hk
      split at hk
      · rename_i ek; subst ek
        rw [hl] at hlk; cases hlk; cases hk
        refine ⟨c', e, (0, 0), hw', fun _ => ⟨rfl, hB, by omega⟩, ⟨?_, fun h => by cases h⟩, ?_⟩
        · simp only [List.length_append, List.length_take, List.length_drop]; omega
        · intro j v hj
          rw [list_mid cs vs o j hlen] at hj
          rw [hget]
          split at hj
          · rename_i hjo
            rw [if_pos (by omega)]
            exact hc j v hj
          · rename_i hjo
            rw [if_neg (by omega)]
            split at hj
            · rename_i hj2
              rw [if_pos (by omega)]
              obtain ⟨u, h2, h3⟩ := hv.get _ v hj
              refine ⟨hone _ (List.mem_of_getElem? hj), u, ?_, h3⟩
              rw [← h2]; congr 1; omega
            · rename_i hj2
              rw [if_neg (by omega)]
              exact hc j v hj
      · rename_i hne
        cases ob with
        | dead => trivial
        | cells ks ro =>
          obtain ⟨ck, ek, frk, hbk, rest⟩ := h.obj k _ lk hk hlk
          have hnb : lk.blk ≠ l.blk := fun e => ((h.inj id k cs ks false ro l lk hg hk (fun e => hne e.symm) hl hlk).resolve_right (fun x => by cases x.1)) e.symm
          exact ⟨ck, ek, frk, by rw [hoth _ hnb]; exact hbk, rest⟩
        | arr s k' n' =>
          obtain ⟨N, h1, h2⟩ := h.obj k _ lk hk hlk
          refine ⟨N, h1, h2.imp (fun x => x) fun ⟨ck, ek, frk, hbk, hlt, rest⟩ => ⟨ck, ek, frk, by rw [hoth _ (by omega)]; exact hbk, hlt, rest⟩⟩
    · intro k k' ks ks' ro0 ro' lk lk' hk hk' hne hlk hlk'
      rw [Hp.get_set he] at hk hk'
      have a1 : ∃ xs, σ.get k = some (.cells xs ro0) := by
        split at hk
        · rename_i ek; subst ek; cases hk; exact ⟨cs, hg⟩
        · exact ⟨ks, hk⟩
      have a2 : ∃ xs, σ.get k' = some (.cells xs ro') := by
        split at hk'
        · rename_i ek; subst ek; cases hk'; exact ⟨cs, hg⟩
        · exact ⟨ks', hk'⟩
      obtain ⟨xs, b1⟩ := a1
      obtain ⟨ys, b2⟩ := a2
      exact h.inj k k' xs ys ro0 ro' lk lk' b1 b2 hne hlk hlk'
    · intro k hk
      exact h.dom k (by rw [← Hp.set_sz he]; exact hk)
  · refine ⟨fun _ _ => rfl, by rw [Hp.set_sz he]; exact Nat.le_refl _, by simp, rfl, rfl, rfl, ?_, ?_, ?_, frozen_setRow hblk⟩
    · intro b hb hno
      refine hoth b fun e => hno ⟨id, cs, l, hg, hl, e.symm⟩
    · intro b hb ho
      exact owned_set he hg b ho
    · intro k hk hn
      rw [Hp.get_set he]
      split
      · rename_i ek; subst ek; rw [hl] at hn; cases hn
      · rfl

/-- The map, and one more. -/
def upd (ι : Nat → Option Loc) (i : Nat) (l : Loc) : Nat → Option Loc := fun j => if j = i then some l else ι j
theorem HRel.upd_mono (h : HRel V ι B σ w) (l : Loc) : ∀ id x, ι id = some x → upd ι σ.sz l id = some x := by
  intro id x hx
  unfold upd
  split
  · rename_i e; subst e; rw [h.dom _ (Nat.le_refl _)] at hx; cases hx
  · exact hx
theorem CRel.mono {ι' : Nat → Option Loc} (hm : ∀ id l, ι id = some l → ι' id = some l) {cs : List SV} {c : Array Value} {off : Nat} (h : CRel V ι cs c off) : CRel V ι' cs c off :=
  fun j v hj => let ⟨h1, u, h2, h3⟩ := h j v hj; ⟨h1, u, h2, VRel.mono hm _ _ h3⟩
theorem ORel.mono {ι' : Nat → Option Loc} (hm : ∀ id l, ι id = some l → ι' id = some l) {l : Loc} {o : SObj} (h : ORel V ι B w l o) : ORel V ι' B w l o := by
  cases o with
  | dead => trivial
  | cells cs ro => obtain ⟨c, e, fr, h1, h2, h3, h4⟩ := h; exact ⟨c, e, fr, h1, h2, h3, h4.mono hm⟩
  | arr s k n => exact h
theorem nwo_push {vs : List SV} (he : nwo σ vs = some σ') : (∀ v ∈ vs, v.one = true) ∧ σ.push (.cells vs false) = some σ' := by
  unfold nwo at he
  cases hb : vs.all SV.one <;> simp only [hb, cond_true, cond_false] at he
  · cases he
  · exact ⟨fun v hm => List.all_eq_true.1 hb v hm, he⟩
/-- A new block for a new object. -/
theorem nwo_sound (h : HRel V ι B σ w) {vs : List SV} (he : nwo σ vs = some σ') {us : List Value} (hv : VRels V ι vs us) {c : Array Value} {e : TypeId} {rest : List Value} (hc : c.toList = us ++ rest) :
    HRel V (upd ι σ.sz ⟨w.heap.size, 0, c.size⟩) B σ' (w.alloc (.cells c e)) ∧ Ext ι σ w (upd ι σ.sz ⟨w.heap.size, 0, c.size⟩) σ' (w.alloc (.cells c e)) := by
  obtain ⟨hone, hp⟩ := nwo_push he
  have hm := h.upd_mono ⟨w.heap.size, 0, c.size⟩
  have hlt : ∀ id o l, σ.get id = some o → ι id = some l → (∃ cs ro, o = .cells cs ro) → l.blk < w.heap.size := by
    rintro id o l hg hl ⟨cs, ro, rfl⟩
    obtain ⟨c1, e1, fr, hb, _⟩ := h.obj id _ l hg hl
    exact (Array.getElem?_eq_some_iff.1 hb).1
  have hupd : ∀ k, k < σ.sz → upd ι σ.sz ⟨w.heap.size, 0, c.size⟩ k = ι k := fun k hk => by unfold upd; rw [if_neg (by omega)]
  have hnew : upd ι σ.sz ⟨w.heap.size, 0, c.size⟩ σ.sz = some ⟨w.heap.size, 0, c.size⟩ := by simp [upd]
  constructor
  · refine ⟨by have := h.base; simp; omega, ?_, ?_, ?_⟩
    · intro k o l hk hlk
      rw [Hp.get_push hp] at hk
      split at hk
      · rename_i ek; subst ek
        rw [hnew] at hlk; cases hlk; cases hk
        refine ⟨c, e, (0, 0), heap_alloc_new w _, fun _ => ⟨rfl, h.base, by simp⟩, ⟨?_, fun h => by cases h⟩, ?_⟩
        · have : c.size = us.length + rest.length := by rw [← Array.length_toList, hc, List.length_append]
          have := hv.length; simp only; omega
        · intro j v hj
          obtain ⟨u, h2, h3⟩ := hv.get j v hj
          refine ⟨hone v (List.mem_of_getElem? hj), u, ?_, VRel.mono hm _ _ h3⟩
          rw [Nat.zero_add, ← Array.getElem?_toList, hc, List.getElem?_append_left (List.getElem?_eq_some_iff.1 h2).1]
          exact h2
      · have hk' := Hp.get_lt hk
        rw [hupd k hk'] at hlk
        have hr := h.obj k o l hk hlk
        cases o with
        | dead => trivial
        | cells cs ro =>
          obtain ⟨c1, e1, fr, hb, rest⟩ := hr.mono hm
          exact ⟨c1, e1, fr, by rw [heap_alloc_old w _ _ (Array.getElem?_eq_some_iff.1 hb).1]; exact hb, rest⟩
        | arr s k' n' =>
          obtain ⟨N, h1, h2⟩ := hr
          refine ⟨N, h1, h2.imp (fun x => x) fun ⟨c1, e1, fr, hb, hlt, rest⟩ => ⟨c1, e1, fr, by rw [heap_alloc_old w _ _ (Array.getElem?_eq_some_iff.1 hb).1]; exact hb, hlt, rest⟩⟩
    · intro k k' ks ks' ro0 ro' lk lk' hk hk' hne hlk hlk'
      rw [Hp.get_push hp] at hk hk'
      by_cases e1 : k = σ.sz
      · subst e1
        rw [if_neg (fun e => hne e.symm)] at hk'
        rw [hnew] at hlk; cases hlk
        rw [hupd k' (Hp.get_lt hk')] at hlk'
        have := hlt k' _ lk' hk' hlk' ⟨_, _, rfl⟩
        left; simp only; omega
      · rw [if_neg e1] at hk
        rw [hupd k (Hp.get_lt hk)] at hlk
        have h1 := hlt k _ lk hk hlk ⟨_, _, rfl⟩
        by_cases e2 : k' = σ.sz
        · subst e2
          rw [hnew] at hlk'; cases hlk'
          left; simp only; omega
        · rw [if_neg e2] at hk'
          rw [hupd k' (Hp.get_lt hk')] at hlk'
          exact h.inj k k' ks ks' ro0 ro' lk lk' hk hk' hne hlk hlk'
    · intro k hk
      rw [Hp.push_sz hp] at hk
      unfold upd
      rw [if_neg (by omega)]
      exact h.dom k (by omega)
  · refine ⟨hupd, by rw [Hp.push_sz hp]; omega, by simp, rfl, rfl, rfl, ?_, ?_, ?_, frozen_alloc⟩
    · intro b hb _; exact heap_alloc_old w _ b hb
    · rintro b hb ⟨k, ks, l, h1, h2, h3⟩
      rw [Hp.get_push hp] at h1
      split at h1
      · rename_i ek; subst ek; rw [hnew] at h2; cases h2; simp only at h3; omega
      · rw [hupd k (Hp.get_lt h1)] at h2; exact ⟨k, ks, l, h1, h2, h3⟩
    · intro k hk _
      rw [Hp.get_push hp, if_neg (by omega)]
end
end Go.Sx
