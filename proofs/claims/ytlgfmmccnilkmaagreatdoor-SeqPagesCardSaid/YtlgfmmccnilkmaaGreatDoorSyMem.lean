/- The symbolic machine's memory: loads, stores and new objects of the abstract heap, and that the world follows. No condition: lemmas of the machine. -/
import Derived.Test.YtlgfmmccnilkmaaGreatDoorSyBase
import Derived.MapKept
namespace Go.Sx
set_option linter.unusedVariables false

theorem addr_add (b o j : Nat) : (⟨b, o, none⟩ : Addr).add j = ⟨b, o + j, none⟩ := by unfold Addr.add; split <;> simp_all

def bigL (t : Tr SV) (z : SV) : Nat → Nat → List SV
  | _, 0 => []
  | o, n + 1 => bigAt t z o :: bigL t z (o + 1) n
def litSame : SV → SV → Bool
  | .int k (.lit a), .int k' (.lit b) => decide (k = k') && decide (a = b)
  | _, _ => false
theorem litSame_eq {a b : SV} (h : litSame a b = true) : a = b := by
  unfold litSame at h
  split at h
  · simp only [Bool.and_eq_true, decide_eq_true_eq] at h
    rw [h.1, h.2]
  · cases h
def stb1 (t : Tr SV) (z : SV) (o : Nat) (v : SV) : Option (Tr SV) := match t.get o with
  | some _ => Tr.set 48 t o v
  | none => bif litSame v z then some t else Tr.set 48 t o v
def stb (z : SV) : Nat → List SV → Tr SV → Option (Tr SV)
  | _, [], t => some t
  | o, v :: vs, t => match stb1 t z o v with
    | some t' => stb z (o + 1) vs t'
    | none => none
theorem stb1_at {t t' : Tr SV} {z v : SV} {o : Nat} (h : stb1 t z o v = some t') (j : Nat) : bigAt t' z j = if j = o then v else bigAt t z j := by
  have hset : Tr.set 48 t o v = some t' → bigAt t' z j = if j = o then v else bigAt t z j := by
    intro hs
    unfold bigAt
    rw [Tr.get_set 48 t t' o v hs j]
    by_cases e : j = o
    · rw [if_pos e, if_pos e]
    · rw [if_neg e, if_neg e]
  unfold stb1 at h
  split at h
  · exact hset h
  · rename_i hn
    cases hb : litSame v z <;> simp only [hb, cond_true, cond_false] at h
    · exact hset h
    · cases h
      by_cases e : j = o
      · subst e
        rw [if_pos rfl, litSame_eq hb]
        unfold bigAt
        rw [hn]
      · rw [if_neg e]
theorem stb_at {z : SV} : ∀ {vs : List SV} {o : Nat} {t t' : Tr SV}, stb z o vs t = some t' → ∀ j, bigAt t' z j = if j < o then bigAt t z j else if j < o + vs.length then (vs[j - o]?).getD z else bigAt t z j
  | [], o, t, t', h, j => by
    simp only [stb, Option.some.injEq] at h
    subst h
    by_cases e : j < o
    · rw [if_pos e]
    · rw [if_neg e, if_neg (by simpa using e)]
  | v :: vs, o, t, t', h, j => by
    simp only [stb] at h
    split at h
    case h_2 => cases h
    rename_i t1 h1
    rw [stb_at h j, stb1_at h1 j]
    simp only [List.length_cons]
    by_cases e1 : j < o
    · rw [if_pos (by omega), if_neg (by omega), if_pos e1]
    · by_cases e2 : j = o
      · subst e2
        rw [if_pos (by omega), if_pos rfl, if_neg (by omega), if_pos (by omega)]
        simp
      · rw [if_neg (by omega), if_neg e1]
        by_cases e3 : j < o + 1 + vs.length
        · rw [if_pos e3, if_pos (by omega), show j - o = (j - (o + 1)) + 1 by omega, List.getElem?_cons_succ]
        · rw [if_neg e3, if_neg e2, if_neg (by omega)]
theorem bigL_len {t : Tr SV} {z : SV} : ∀ {n o : Nat}, (bigL t z o n).length = n
  | 0, o => rfl
  | n + 1, o => by simp [bigL, bigL_len (n := n)]
theorem bigL_get {t : Tr SV} {z : SV} : ∀ {n o j : Nat}, (bigL t z o n)[j]? = if j < n then some (bigAt t z (o + j)) else none
  | 0, o, j => by simp [bigL]
  | n + 1, o, 0 => by simp [bigL]
  | n + 1, o, j + 1 => by
    simp only [bigL, List.getElem?_cons_succ]
    rw [bigL_get (n := n), show o + 1 + j = o + (j + 1) by omega]
    by_cases e : j < n
    · rw [if_pos e, if_pos (by omega)]
    · rw [if_neg e, if_neg (by omega)]
def trOf : List (Nat × SV) → Tr SV
  | [] => .e
  | (i, v) :: l => match Tr.set 48 (trOf l) i v with
    | some t => t
    | none => trOf l
def ldc (σ : Hp) (id o n : Nat) : Option (List SV) :=
  match σ.get id with
  | some (.cells cs _) => bif Nat.ble (o + n) cs.length then some ((cs.drop o).take n) else none
  | some (.big t m z) => bif Nat.ble (o + n) m then some (bigL t z o n) else none
  | _ => none
def stc (σ : Hp) (id o : Nat) (vs : List SV) : Option Hp :=
  match σ.get id with
  | some (.cells cs false) => bif Nat.ble (o + vs.length) cs.length && vs.all SV.one then σ.set id (.cells (cs.take o ++ vs ++ cs.drop (o + vs.length)) false) else none
  | some (.big t m z) => bif Nat.ble (o + vs.length) m && vs.all SV.one then (match stb z o vs t with
    | some t' => σ.set id (.big t' m z)
    | none => none) else none
  | _ => none
def nwo (σ : Hp) (vs : List SV) : Option Hp := bif vs.all SV.one then σ.push (.cells vs false) else none
def apo (σ : Hp) (id : Nat) (vs : List SV) : Option Hp :=
  match σ.get id with
  | some (.cells _ false) => match σ.set id .dead with
    | some s => nwo s vs
    | none => none
  | _ => none

section
variable {P : Program} {V : Val} {ι : Nat → Option Loc} {B : Nat} {σ σ' : Hp} {w : World}

theorem frozen_setRow {w : World} {g : Nat} {c c' : Array Value} {e : TypeId} (h : w.heap[g]? = some (.cells c e (0, 0))) (a : Addr) : (w.setRow g c').frozen? a = w.frozen? a := by
  by_cases ha : a.block = g
  · have h1 := setRow_heap w g c c' e (0, 0) h
    simp [World.frozen?, ha, h, h1]
  · simp [World.frozen?, setRow_other w g a.block c' ha]
theorem frozen_alloc {w : World} {c : Array Value} {e : TypeId} (a : Addr) : (w.alloc (.cells c e)).frozen? a = w.frozen? a := by
  rcases Nat.lt_trichotomy a.block w.heap.size with h | h | h
  · simp [World.frozen?, heap_alloc_old w (.cells c e) a.block h]
  · have h1 : (w.alloc (.cells c e)).heap[a.block]? = some (.cells c e) := by rw [h]; exact heap_alloc_new w _
    have h2 : w.heap[a.block]? = none := by rw [h]; simp
    simp [World.frozen?, h1, h2]
  · have h1 : (w.alloc (.cells c e)).heap[a.block]? = none := by
      rw [Array.getElem?_eq_none_iff]; simp; omega
    have h2 : w.heap[a.block]? = none := by rw [Array.getElem?_eq_none_iff]; omega
    simp [World.frozen?, h1, h2]
theorem ldc_cells {id o n : Nat} {vs cs : List SV} {ro : Bool} (hg : σ.get id = some (.cells cs ro)) (he : ldc σ id o n = some vs) : o + n ≤ cs.length ∧ vs = (cs.drop o).take n := by
  unfold ldc at he
  rw [hg] at he
  simp only at he
  cases hb : Nat.ble (o + n) cs.length <;> simp only [hb, cond_true, cond_false] at he
  · cases he
  · exact ⟨Nat.le_of_ble_eq_true hb, (Option.some.inj he).symm⟩
theorem ldc_big {id o n m : Nat} {vs : List SV} {t : Tr SV} {z : SV} (hg : σ.get id = some (.big t m z)) (he : ldc σ id o n = some vs) : o + n ≤ m ∧ vs = bigL t z o n := by
  unfold ldc at he
  rw [hg] at he
  simp only at he
  cases hb : Nat.ble (o + n) m <;> simp only [hb, cond_true, cond_false] at he
  · cases he
  · exact ⟨Nat.le_of_ble_eq_true hb, (Option.some.inj he).symm⟩
theorem ldc_obj {id o n : Nat} {vs : List SV} (he : ldc σ id o n = some vs) : (∃ cs ro, σ.get id = some (.cells cs ro)) ∨ ∃ t m z, σ.get id = some (.big t m z) := by
  unfold ldc at he
  split at he
  · exact .inl ⟨_, _, ‹_›⟩
  · exact .inr ⟨_, _, _, ‹_›⟩
  · cases he
theorem ldc_ext (h : HRel V ι B σ w) {id o n : Nat} {vs : List SV} (he : ldc σ id o n = some vs) {l : Loc} (hl : ι id = some l) : o + n ≤ l.ext := by
  rcases ldc_obj he with ⟨cs, ro, hg⟩ | ⟨t, m, z, hg⟩
  · obtain ⟨h1, _⟩ := ldc_cells hg he
    obtain ⟨c, e', fr, hblk, _, ⟨hext, _⟩, _⟩ := h.obj id _ l hg hl
    omega
  · obtain ⟨h1, _⟩ := ldc_big hg he
    obtain ⟨c, e', hblk, _, _, hext, _⟩ := h.obj id _ l hg hl
    omega
theorem CRel.sub {cs : List SV} {c : Array Value} {off : Nat} (h : CRel V ι cs c off) (o n : Nat) (hn : o + n ≤ cs.length) :
    ∃ us, VRels V ι ((cs.drop o).take n) us ∧ us.length = n ∧ (∀ j u, us[j]? = some u → c[off + o + j]? = some u) ∧ ∀ v ∈ (cs.drop o).take n, v.one = true := by
  have hsz : ∀ j, j < n → ∃ v u, cs[o + j]? = some v ∧ v.one = true ∧ c[off + (o + j)]? = some u ∧ VRel V ι v u := by
    intro j hj
    have hlt : o + j < cs.length := by omega
    obtain ⟨h1, u, h2, h3⟩ := h (o + j) _ (List.getElem?_eq_getElem hlt)
    exact ⟨_, u, List.getElem?_eq_getElem hlt, h1, h2, h3⟩
  refine ⟨(c.toList.drop (off + o)).take n, ?_, ?_, ?_, ?_⟩
  · refine VRels.of_get ?_ fun j v hj => ?_
    · simp only [List.length_take, List.length_drop, Array.length_toList]
      have : 0 < n → off + (o + (n - 1)) < c.size := fun hn0 => by
        obtain ⟨_, u, _, _, h2, _⟩ := hsz (n - 1) (by omega)
        exact (Array.getElem?_eq_some_iff.1 h2).1
      omega
    · rw [List.getElem?_take] at hj
      split at hj
      · rename_i hlt
        rw [List.getElem?_drop] at hj
        obtain ⟨v', u, h1, h2, h3, h4⟩ := hsz j hlt
        rw [h1] at hj; cases hj
        refine ⟨u, ?_, h4⟩
        rw [List.getElem?_take, if_pos hlt, List.getElem?_drop, Array.getElem?_toList, Nat.add_assoc]
        exact h3
      · cases hj
  · simp only [List.length_take, List.length_drop, Array.length_toList]
    have : 0 < n → off + (o + (n - 1)) < c.size := fun hn0 => by
      obtain ⟨_, u, _, _, h2, _⟩ := hsz (n - 1) (by omega)
      exact (Array.getElem?_eq_some_iff.1 h2).1
    omega
  · intro j u hj
    rw [List.getElem?_take] at hj
    split at hj
    · rwa [List.getElem?_drop, Array.getElem?_toList] at hj
    · cases hj
  · intro v hv
    obtain ⟨j, hj⟩ := List.getElem?_of_mem hv
    rw [List.getElem?_take] at hj
    split at hj
    · rw [List.getElem?_drop] at hj
      exact (h _ v hj).1
    · cases hj
theorem ldc_sound (h : HRel V ι B σ w) {id o n : Nat} {vs : List SV} (he : ldc σ id o n = some vs) {l : Loc} (hl : ι id = some l) :
    ∃ us, VRels V ι vs us ∧ us.length = n ∧ (∀ j u, us[j]? = some u → w.cell? ((⟨l.blk, l.off + o, none⟩ : Addr).add j) = some u) ∧ (∀ v ∈ vs, v.one = true) ∧ (w.shape? l.blk).isSome = true := by
  rcases ldc_obj he with ⟨cs, ro, hg⟩ | ⟨t, m, z, hg⟩
  · obtain ⟨hn, rfl⟩ := ldc_cells hg he
    obtain ⟨c, e, fr, hb, _, _, hc⟩ := h.obj id _ l hg hl
    obtain ⟨us, h1, h2, h3, h4⟩ := hc.sub o n hn
    refine ⟨us, h1, h2, fun j u hj => ?_, h4, by simp [World.shape?, hb]⟩
    rw [addr_add, cell_of_row w _ _ c e fr hb]
    exact h3 j u hj
  · obtain ⟨hn, rfl⟩ := ldc_big hg he
    obtain ⟨c, e, hb, _, _, _, hc⟩ := h.obj id _ l hg hl
    have hcr : CRel V ι (bigL t z 0 m) c l.off := by
      intro j v hj
      rw [bigL_get] at hj
      split at hj
      · rename_i hlt
        cases hj
        rw [Nat.zero_add]
        exact hc j hlt
      · cases hj
    obtain ⟨us, h1, h2, h3, h4⟩ := hcr.sub o n (by rw [bigL_len]; exact hn)
    have hsub : ((bigL t z 0 m).drop o).take n = bigL t z o n := by
      apply List.ext_getElem?
      intro j
      rw [List.getElem?_take, bigL_get]
      by_cases hj : j < n
      · rw [if_pos hj, if_pos hj, List.getElem?_drop, bigL_get, if_pos (by omega), Nat.zero_add]
      · rw [if_neg hj, if_neg hj]
    rw [hsub] at h1 h4
    refine ⟨us, h1, h2, fun j u hj => ?_, h4, by simp [World.shape?, hb]⟩
    rw [addr_add, cell_of_row w _ _ c e (0, 0) hb]
    exact h3 j u hj
theorem run_load_cells {us : List Value} {a : Addr} {n : Nat} (hn : us.length = n) (h : ∀ j u, us[j]? = some u → w.cell? (a.add j) = some u) : (loadCells a n).run P w = .ok us.toArray w := by
  subst hn; exact run_loadCells_list w a us h

theorem list_mid {α : Type} (cs vs : List α) (o j : Nat) (hl : o + vs.length ≤ cs.length) :
    (cs.take o ++ vs ++ cs.drop (o + vs.length))[j]? = if j < o then cs[j]? else if j < o + vs.length then vs[j - o]? else cs[j]? := by
  have ho : (cs.take o).length = o := by simp; omega
  by_cases h1 : j < o
  · rw [if_pos h1, List.append_assoc, List.getElem?_append_left (by omega), List.getElem?_take, if_pos h1]
  · rw [if_neg h1]
    by_cases h2 : j < o + vs.length
    · rw [if_pos h2, List.getElem?_append_left (by simp; omega), List.getElem?_append_right (by omega), ho]
    · rw [if_neg h2, List.getElem?_append_right (by simp; omega), List.getElem?_drop]
      congr 1
      simp only [List.length_append, ho]
      omega
theorem owned_set {id : Nat} {cs cs' : List SV} (hs : σ.set id (.cells cs' false) = some σ') (hg : σ.get id = some (.cells cs false)) (b : Nat) : Owned ι σ' b → Owned ι σ b := Owned.set hs hg (fun _ => rfl) b
structure Stored (V : Val) (B : Nat) (σ σ' : Hp) (id o : Nat) (vs : List SV) : Prop where
  ex : ∃ x y, σ.get id = some x ∧ σ.set id y = some σ' ∧ x.knd = 2 ∧ y.knd = 2 ∧ (∀ v ∈ vs, v.one = true) ∧
    ∀ (ι : Nat → Option Loc) (w : World) (l : Loc), ORel V ι B w l x → ∃ c e, w.heap[l.blk]? = some (.cells c e (0, 0)) ∧ B ≤ l.blk ∧ l.off + l.ext ≤ c.size ∧ o + vs.length ≤ l.ext ∧
      ∀ (w' : World) (c' : Array Value) (us : List Value), w'.heap[l.blk]? = some (.cells c' e (0, 0)) → c'.size = c.size → VRels V ι vs us →
        (∀ j, c'[j]? = if j < l.off + o then c[j]? else if j < l.off + o + us.length then us[j - (l.off + o)]? else c[j]?) → ORel V ι B w' l y
theorem stored_of {id o : Nat} {vs : List SV} (he : stc σ id o vs = some σ') : Stored V B σ σ' id o vs := by
  unfold stc at he
  split at he
  · rename_i cs hg
    cases hb : (Nat.ble (o + vs.length) cs.length && vs.all SV.one) <;> simp only [hb, cond_true, cond_false] at he
    · cases he
    simp only [Bool.and_eq_true] at hb
    have hlen : o + vs.length ≤ cs.length := Nat.le_of_ble_eq_true hb.1
    have hone : ∀ v ∈ vs, v.one = true := fun v hm => List.all_eq_true.1 hb.2 v hm
    refine ⟨_, _, hg, he, rfl, rfl, hone, fun ι w l hx => ?_⟩
    obtain ⟨c, e, fr, hblk, hown, ⟨hext, _⟩, hc⟩ := hx
    obtain ⟨rfl, hB, hsz⟩ := hown rfl
    refine ⟨c, e, hblk, hB, hsz, by omega, fun w' c' us hw' hcs hv hget => ?_⟩
    have hul := hv.length
    refine ⟨c', e, (0, 0), hw', fun _ => ⟨rfl, hB, by omega⟩, ⟨?_, fun h => by cases h⟩, ?_⟩
    · simp only [List.length_append, List.length_take, List.length_drop]; omega
    · intro j v hj
      rw [list_mid cs vs o j hlen] at hj
      rw [hget]
      split at hj
      · rename_i hjo
        rw [if_pos (by omega)]
        exact hc j v hj
      · rename_i hjo
        rw [if_neg (by omega)]
        split at hj
        · rename_i hj2
          rw [if_pos (by omega)]
          obtain ⟨u, h2, h3⟩ := hv.get _ v hj
          refine ⟨hone _ (List.mem_of_getElem? hj), u, ?_, h3⟩
          rw [← h2]; congr 1; omega
        · rename_i hj2
          rw [if_neg (by omega)]
          exact hc j v hj
  · rename_i t m z hg
    cases hb : (Nat.ble (o + vs.length) m && vs.all SV.one) <;> simp only [hb, cond_true, cond_false] at he
    · cases he
    simp only [Bool.and_eq_true] at hb
    have hlen : o + vs.length ≤ m := Nat.le_of_ble_eq_true hb.1
    have hone : ∀ v ∈ vs, v.one = true := fun v hm => List.all_eq_true.1 hb.2 v hm
    split at he
    case h_2 => cases he
    rename_i t' ht'
    refine ⟨_, _, hg, he, rfl, rfl, hone, fun ι w l hx => ?_⟩
    obtain ⟨c, e, hblk, hB, hsz, hext, hc⟩ := hx
    refine ⟨c, e, hblk, hB, hsz, by omega, fun w' c' us hw' hcs hv hget => ?_⟩
    have hul := hv.length
    refine ⟨c', e, hw', hB, by omega, hext, fun j hj => ?_⟩
    rw [stb_at ht' j, hget]
    by_cases e1 : j < o
    · rw [if_pos e1, if_pos (show l.off + j < l.off + o by omega)]
      exact hc j hj
    · rw [if_neg e1]
      by_cases e2 : j < o + vs.length
      · rw [if_pos e2, if_neg (show ¬ (l.off + j < l.off + o) by omega), if_pos (show l.off + j < l.off + o + us.length by omega)]
        have hlt : j - o < vs.length := by omega
        rw [List.getElem?_eq_getElem hlt, Option.getD_some]
        obtain ⟨u, h2, h3⟩ := hv.get _ _ (List.getElem?_eq_getElem hlt)
        refine ⟨hone _ (List.getElem_mem hlt), u, ?_, h3⟩
        rw [← h2]; congr 1; omega
      · rw [if_neg e2, if_neg (show ¬ (l.off + j < l.off + o) by omega), if_neg (show ¬ (l.off + j < l.off + o + us.length) by omega)]
        exact hc j hj
  · cases he
theorem stc_sound (h : HRel V ι B σ w) {id o : Nat} {vs : List SV} (he : stc σ id o vs = some σ') {l : Loc} (hl : ι id = some l) {us : List Value} (hv : VRels V ι vs us) :
    ∃ w', (storeCells ⟨l.blk, l.off + o, none⟩ us).run P w = .ok () w' ∧ HRel V ι B σ' w' ∧ Ext ι σ w ι σ' w' := by
  obtain ⟨⟨x, y, hg, he, kx, ky, hone, hob⟩⟩ := stored_of (V := V) (B := B) he
  obtain ⟨c, e, hblk, hB, hsz, hext, hnew⟩ := hob ι w l (h.obj id _ l hg hl)
  have hul := hv.length
  have h1 : ∀ u ∈ us, u.oneCell' = true := by
    intro u hu
    obtain ⟨j, hj⟩ := List.getElem?_of_mem hu
    have hjl : j < vs.length := by
      have := (List.getElem?_eq_some_iff.1 hj).1; omega
    obtain ⟨u', h2, h3⟩ := hv.get j _ (List.getElem?_eq_getElem hjl)
    rw [hj] at h2; cases h2
    exact h3.one (hone _ (List.getElem_mem hjl))
  have hrun := run_storeCells_at P l.blk (l.off + o) e us 0 c w hblk (by omega) h1
  simp only [Nat.add_zero] at hrun
  let c' : Array Value := (c.toList.take (l.off + o) ++ us ++ c.toList.drop (l.off + o + us.length)).toArray
  have hc' : (c.toList.take (l.off + o) ++ us ++ c.toList.drop (l.off + o + us.length)).toArray = c' := rfl
  rw [hc'] at hrun
  have hcs : c'.size = c.size := by
    simp only [c', List.size_toArray, List.length_append, List.length_take, List.length_drop, Array.length_toList]; omega
  have hget : ∀ j, c'[j]? = if j < l.off + o then c[j]? else if j < l.off + o + us.length then us[j - (l.off + o)]? else c[j]? := by
    intro j
    have := list_mid c.toList us (l.off + o) j (by simp only [Array.length_toList]; omega)
    simpa only [c', List.getElem?_toArray, Array.getElem?_toList] using this
  have hw' : (w.setRow l.blk c').heap[l.blk]? = some (.cells c' e (0, 0)) := setRow_heap w l.blk c c' e (0, 0) hblk
  have hoth : ∀ k, k ≠ l.blk → (w.setRow l.blk c').heap[k]? = w.heap[k]? := fun k hk => setRow_other w l.blk k c' hk
  refine ⟨_, hrun, ?_, ?_⟩
  · refine ⟨by simpa using h.base, ?_, ?_, ?_⟩
    · intro k ob lk hk hlk
      rw [Hp.get_set he] at hk
      split at hk
      · rename_i ek; subst ek
        rw [hl] at hlk; cases hlk; cases hk
        exact hnew _ c' us hw' hcs hv hget
      · rename_i hne
        cases ob with
        | dead => trivial
        | cells ks ro =>
          obtain ⟨ck, ek, frk, hbk, rest⟩ := h.obj k _ lk hk hlk
          have hnb : lk.blk ≠ l.blk := fun e => (h.inj.own hg hk kx knd_cells (fun e => hne e.symm) hl hlk) e.symm
          exact ⟨ck, ek, frk, by rw [hoth _ hnb]; exact hbk, rest⟩
        | big tk mk zk =>
          obtain ⟨ck, ek, hbk, rest⟩ := h.obj k _ lk hk hlk
          have hnb : lk.blk ≠ l.blk := fun e => (h.inj.own hg hk kx (by simp [SObj.knd]) (fun e => hne e.symm) hl hlk) e.symm
          exact ⟨ck, ek, by rw [hoth _ hnb]; exact hbk, rest⟩
        | map es =>
          obtain ⟨ms, hbk, rest⟩ := h.obj k _ lk hk hlk
          have hnb : lk.blk ≠ l.blk := fun e => (h.inj.own hg hk kx (by simp [SObj.knd]) (fun e => hne e.symm) hl hlk) e.symm
          exact ⟨ms, by rw [hoth _ hnb]; exact hbk, rest⟩
        | arr s k' n' =>
          obtain ⟨N, h1, h2⟩ := h.obj k _ lk hk hlk
          refine ⟨N, h1, h2.imp (fun x => x) fun ⟨ck, ek, frk, hbk, hlt, rest⟩ => ⟨ck, ek, frk, by rw [hoth _ (by omega)]; exact hbk, hlt, rest⟩⟩
    · exact h.inj.set he hg (by rw [kx, ky])
    · intro k hk
      exact h.dom k (by rw [← Hp.set_sz he]; exact hk)
  · refine ⟨fun _ _ => rfl, by rw [Hp.set_sz he]; exact Nat.le_refl _, by simp, rfl, rfl, rfl, ?_, ?_, ?_, frozen_setRow hblk⟩
    · intro b hb hno
      refine hoth b fun e => hno ⟨id, _, l, hg, kx, hl, e.symm⟩
    · intro b hb ho
      exact Owned.set he hg (fun _ => kx) b ho
    · intro k hk hn
      rw [Hp.get_set he]
      split
      · rename_i ek; subst ek; rw [hl] at hn; cases hn
      · rfl

def upd (ι : Nat → Option Loc) (i : Nat) (l : Loc) : Nat → Option Loc := fun j => if j = i then some l else ι j
theorem HRel.upd_mono (h : HRel V ι B σ w) (l : Loc) : ∀ id x, ι id = some x → upd ι σ.sz l id = some x := by
  intro id x hx
  unfold upd
  split
  · rename_i e; subst e; rw [h.dom _ (Nat.le_refl _)] at hx; cases hx
  · exact hx
theorem CRel.mono {ι' : Nat → Option Loc} (hm : ∀ id l, ι id = some l → ι' id = some l) {cs : List SV} {c : Array Value} {off : Nat} (h : CRel V ι cs c off) : CRel V ι' cs c off :=
  fun j v hj => let ⟨h1, u, h2, h3⟩ := h j v hj; ⟨h1, u, h2, VRel.mono hm _ _ h3⟩
theorem ORel.mono {ι' : Nat → Option Loc} (hm : ∀ id l, ι id = some l → ι' id = some l) {l : Loc} {o : SObj} (h : ORel V ι B w l o) : ORel V ι' B w l o := by
  cases o with
  | dead => trivial
  | cells cs ro => obtain ⟨c, e, fr, h1, h2, h3, h4⟩ := h; exact ⟨c, e, fr, h1, h2, h3, h4.mono hm⟩
  | arr s k n => exact h
  | big t n z =>
    obtain ⟨c, e, h1, h2, h3, h4, h5⟩ := h
    exact ⟨c, e, h1, h2, h3, h4, fun j hj => let ⟨a, u, b, d⟩ := h5 j hj; ⟨a, u, b, VRel.mono hm _ _ d⟩⟩
  | map es =>
    obtain ⟨ms, h1, h2, h3⟩ := h
    exact ⟨ms, h1, h2, h3.mono hm⟩
theorem inj_push (h : HRel V ι B σ w) {x : SObj} (hp : σ.push x = some σ') {l0 : Loc} (hl : l0.blk = w.heap.size) : Inj (upd ι σ.sz l0) σ' := by
  intro k k' o o' l l' h1 h2 k1 k2 hne h3 h4
  have hupd : ∀ k, k < σ.sz → upd ι σ.sz l0 k = ι k := fun k hk => by unfold upd; rw [if_neg (by omega)]
  have hnew : upd ι σ.sz l0 σ.sz = some l0 := by simp [upd]
  rw [Hp.get_push hp] at h1 h2
  by_cases e1 : k = σ.sz
  · subst e1
    rw [if_neg (fun e => hne e.symm)] at h2
    rw [hnew] at h3; cases h3
    rw [hupd k' (Hp.get_lt h2)] at h4
    have := h.blk_lt h2 k2 h4
    left; omega
  · rw [if_neg e1] at h1
    rw [hupd k (Hp.get_lt h1)] at h3
    have h5 := h.blk_lt h1 k1 h3
    by_cases e2 : k' = σ.sz
    · subst e2
      rw [hnew] at h4; cases h4
      left; omega
    · rw [if_neg e2] at h2
      rw [hupd k' (Hp.get_lt h2)] at h4
      exact h.inj k k' o o' l l' h1 h2 k1 k2 hne h3 h4
theorem owned_push (h : HRel V ι B σ w) {x : SObj} (hp : σ.push x = some σ') {l0 : Loc} (hl : l0.blk = w.heap.size) {b : Nat} (hb : b < w.heap.size) : Owned (upd ι σ.sz l0) σ' b → Owned ι σ b := by
  rintro ⟨k, o, l, h1, h2, h3, h4⟩
  rw [Hp.get_push hp] at h1
  split at h1
  · rename_i ek; subst ek
    have hnew : upd ι σ.sz l0 σ.sz = some l0 := by simp [upd]
    rw [hnew] at h3; cases h3; omega
  · have hk := Hp.get_lt h1
    have : upd ι σ.sz l0 k = ι k := by unfold upd; rw [if_neg (by omega)]
    rw [this] at h3
    exact ⟨k, o, l, h1, h2, h3, h4⟩
theorem nwo_push {vs : List SV} (he : nwo σ vs = some σ') : (∀ v ∈ vs, v.one = true) ∧ σ.push (.cells vs false) = some σ' := by
  unfold nwo at he
  cases hb : vs.all SV.one <;> simp only [hb, cond_true, cond_false] at he
  · cases he
  · exact ⟨fun v hm => List.all_eq_true.1 hb v hm, he⟩
theorem nwo_sound (h : HRel V ι B σ w) {vs : List SV} (he : nwo σ vs = some σ') {us : List Value} (hv : VRels V ι vs us) {c : Array Value} {e : TypeId} {rest : List Value} (hc : c.toList = us ++ rest) :
    HRel V (upd ι σ.sz ⟨w.heap.size, 0, c.size⟩) B σ' (w.alloc (.cells c e)) ∧ Ext ι σ w (upd ι σ.sz ⟨w.heap.size, 0, c.size⟩) σ' (w.alloc (.cells c e)) := by
  obtain ⟨hone, hp⟩ := nwo_push he
  have hm := h.upd_mono ⟨w.heap.size, 0, c.size⟩
  have hlt : ∀ id o l, σ.get id = some o → ι id = some l → (∃ cs ro, o = .cells cs ro) → l.blk < w.heap.size := by
    rintro id o l hg hl ⟨cs, ro, rfl⟩
    obtain ⟨c1, e1, fr, hb, _⟩ := h.obj id _ l hg hl
    exact (Array.getElem?_eq_some_iff.1 hb).1
  have hupd : ∀ k, k < σ.sz → upd ι σ.sz ⟨w.heap.size, 0, c.size⟩ k = ι k := fun k hk => by unfold upd; rw [if_neg (by omega)]
  have hnew : upd ι σ.sz ⟨w.heap.size, 0, c.size⟩ σ.sz = some ⟨w.heap.size, 0, c.size⟩ := by simp [upd]
  constructor
  · refine ⟨by have := h.base; simp; omega, ?_, ?_, ?_⟩
    · intro k o l hk hlk
      rw [Hp.get_push hp] at hk
      split at hk
      · rename_i ek; subst ek
        rw [hnew] at hlk; cases hlk; cases hk
        refine ⟨c, e, (0, 0), heap_alloc_new w _, fun _ => ⟨rfl, h.base, by simp⟩, ⟨?_, fun h => by cases h⟩, ?_⟩
        · have : c.size = us.length + rest.length := by rw [← Array.length_toList, hc, List.length_append]
          have := hv.length; simp only; omega
        · intro j v hj
          obtain ⟨u, h2, h3⟩ := hv.get j v hj
          refine ⟨hone v (List.mem_of_getElem? hj), u, ?_, VRel.mono hm _ _ h3⟩
          rw [Nat.zero_add, ← Array.getElem?_toList, hc, List.getElem?_append_left (List.getElem?_eq_some_iff.1 h2).1]
          exact h2
      · have hk' := Hp.get_lt hk
        rw [hupd k hk'] at hlk
        have hr := h.obj k o l hk hlk
        cases o with
        | dead => trivial
        | cells cs ro =>
          obtain ⟨c1, e1, fr, hb, rest⟩ := hr.mono hm
          exact ⟨c1, e1, fr, by rw [heap_alloc_old w _ _ (Array.getElem?_eq_some_iff.1 hb).1]; exact hb, rest⟩
        | big t n z =>
          obtain ⟨c1, e1, hb, rest⟩ := hr.mono hm
          exact ⟨c1, e1, by rw [heap_alloc_old w _ _ (Array.getElem?_eq_some_iff.1 hb).1]; exact hb, rest⟩
        | map es =>
          obtain ⟨ms, hb, rest⟩ := hr.mono hm
          exact ⟨ms, by rw [heap_alloc_old w _ _ (Array.getElem?_eq_some_iff.1 hb).1]; exact hb, rest⟩
        | arr s k' n' =>
          obtain ⟨N, h1, h2⟩ := hr
          refine ⟨N, h1, h2.imp (fun x => x) fun ⟨c1, e1, fr, hb, hlt, rest⟩ => ⟨c1, e1, fr, by rw [heap_alloc_old w _ _ (Array.getElem?_eq_some_iff.1 hb).1]; exact hb, hlt, rest⟩⟩
    · exact inj_push h hp rfl
    · intro k hk
      rw [Hp.push_sz hp] at hk
      unfold upd
      rw [if_neg (by omega)]
      exact h.dom k (by omega)
  · refine ⟨hupd, by rw [Hp.push_sz hp]; omega, by simp, rfl, rfl, rfl, ?_, ?_, ?_, frozen_alloc⟩
    · intro b hb _; exact heap_alloc_old w _ b hb
    · exact fun b hb => owned_push h hp rfl hb
    · intro k hk _
      rw [Hp.get_push hp, if_neg (by omega)]
/- Maps with keys that are written out. -/
def findL (kk : IntKind) (a : Int) : List (SV × SV) → Option (Option SV)
  | [] => some none
  | (.int k (.lit b), v) :: es => bif decide (k = kk) then (bif decide (a = b) then some (some v) else findL kk a es) else none
  | _ => none
def setL (kk : IntKind) (a : Int) (v : SV) : List (SV × SV) → Option (List (SV × SV))
  | [] => some [(.int kk (.lit a), v)]
  | (.int k (.lit b), u) :: es => bif decide (k = kk) then (bif decide (a = b) then some ((.int k (.lit b), v) :: es) else (match setL kk a v es with
    | some l => some ((.int k (.lit b), u) :: l)
    | none => none)) else none
  | _ => none
theorem findL_rel {kk : IntKind} {a : Int} : ∀ {es : List (SV × SV)} {i j : Nat} {ms : List MapEntry} {r : Option SV}, MRel V ι i es ms → findL kk a es = some r →
    (r = none ∧ Instr.findNow (.int kk) (.int kk a) ms j = some none) ∨ ∃ v n c, r = some v ∧ Instr.findNow (.int kk) (.int kk a) ms j = some (some (n, c)) ∧ VRel V ι v c
  | [], i, j, ms, r, hm, h => by
    simp only [findL, Option.some.injEq] at h
    cases ms with
    | nil => exact .inl ⟨h.symm, rfl⟩
    | cons _ _ => exact hm.elim
  | (k, v) :: es, i, j, ms, r, hm, h => by
    cases ms with
    | nil => exact hm.elim
    | cons m ms =>
      obtain ⟨h1, h2, h3, h4⟩ := hm
      unfold findL at h
      split at h
      · rename_i heq; cases heq
      · rename_i k' b v' es' heq
        cases heq
        cases hk : decide (k' = kk) <;> simp only [hk, cond_true, cond_false] at h
        · cases h
        obtain rfl := of_decide_eq_true hk
        simp only [VRel, SE.den] at h1
        have hs : Instr.sameNow (.int k') (.int k' a) m.key = some (a == b) := by rw [h1]; simp [Instr.sameNow]
        cases hb : decide (a = b) <;> simp only [hb, cond_true, cond_false] at h
        · have hne : (a == b) = false := by simpa using of_decide_eq_false hb
          have := findL_rel (j := j + 1) h4 h
          simp only [Instr.findNow, hs, hne]
          exact this
        · obtain rfl := of_decide_eq_true hb
          cases h
          refine .inr ⟨v, j, m.val, rfl, ?_, h2⟩
          simp only [Instr.findNow, hs, beq_self_eq_true]
      · cases h
theorem setL_rel {kk : IntKind} {a : Int} {v : SV} {c : Value} (hv : VRel V ι v c) : ∀ {es es' : List (SV × SV)} {i j : Nat} {ms : List MapEntry}, MRel V ι i es ms → setL kk a v es = some es' →
    (Instr.findNow (.int kk) (.int kk a) ms j = some none ∧ MRel V ι i es' (ms ++ [{ key := .int kk a, val := c, born := i + es.length }]) ∧ es'.length = es.length + 1) ∨
    ∃ n x, Instr.findNow (.int kk) (.int kk a) ms j = some (some (j + n, x)) ∧ n < ms.length ∧ (ms[n]?).map (·.key) = some (.int kk a) ∧ MRel V ι i es' (ms.modify n fun e => { e with key := .int kk a, val := c }) ∧ es'.length = es.length
  | [], es', i, j, ms, hm, h => by
    simp only [setL, Option.some.injEq] at h
    subst h
    cases ms with
    | nil => exact .inl ⟨rfl, ⟨by simp [VRel, SE.den], hv, by simp, trivial⟩, rfl⟩
    | cons _ _ => exact hm.elim
  | (k, u) :: es, es', i, j, ms, hm, h => by
    cases ms with
    | nil => exact hm.elim
    | cons m ms =>
      obtain ⟨h1, h2, h3, h4⟩ := hm
      unfold setL at h
      split at h
      · rename_i heq; cases heq
      · rename_i k' b u' es0 heq
        cases heq
        cases hk : decide (k' = kk) <;> simp only [hk, cond_true, cond_false] at h
        · cases h
        obtain rfl := of_decide_eq_true hk
        have h1' := h1
        simp only [VRel, SE.den] at h1
        have hs : Instr.sameNow (.int k') (.int k' a) m.key = some (a == b) := by rw [h1]; simp [Instr.sameNow]
        cases hb : decide (a = b) <;> simp only [hb, cond_true, cond_false] at h
        · have hne : (a == b) = false := by simpa using of_decide_eq_false hb
          split at h
          case h_2 => cases h
          rename_i l hl
          cases h
          rcases setL_rel hv (j := j + 1) h4 hl with ⟨q1, q2, q3⟩ | ⟨n, x, q1, q2, q3, q4, q5⟩
          · refine .inl ⟨by simp only [Instr.findNow, hs, hne]; exact q1, ?_, by simp [q3]⟩
            refine ⟨h1', h2, h3, ?_⟩
            rw [show i + ((SV.int k' (SE.lit b), u) :: es).length = i + 1 + es.length by simp; omega]
            exact q2
          · refine .inr ⟨n + 1, x, ?_, by simpa using q2, by simpa using q3, ?_, by simp [q5]⟩
            · simp only [Instr.findNow, hs, hne]
              rw [q1, show j + 1 + n = j + (n + 1) by omega]
            · rw [List.modify_succ_cons]
              exact ⟨h1', h2, h3, q4⟩
        · obtain rfl := of_decide_eq_true hb
          cases h
          refine .inr ⟨0, m.val, ?_, by simp, by simp [h1], ?_, by simp⟩
          · simp only [Instr.findNow, hs, beq_self_eq_true, Nat.add_zero]
          · rw [List.modify_zero_cons]
            exact ⟨by simp [VRel, SE.den], hv, h3, h4⟩
      · cases h
theorem MRel_len {es : List (SV × SV)} {i : Nat} {ms : List MapEntry} (h : MRel V ι i es ms) : ms.length = es.length := by
  induction es generalizing i ms with
  | nil => cases ms with
    | nil => rfl
    | cons _ _ => exact h.elim
  | cons x es ih =>
    obtain ⟨a, b⟩ := x
    cases ms with
    | nil => exact h.elim
    | cons m ms => simp [ih h.2.2.2]
theorem frozen_alloc_map {w : World} {ms : Array MapEntry} {k : Nat} (a : Addr) : (w.alloc (.map ms k)).frozen? a = w.frozen? a := by
  rcases Nat.lt_trichotomy a.block w.heap.size with h | h | h
  · simp [World.frozen?, heap_alloc_old w (.map ms k) a.block h]
  · have h1 : (w.alloc (.map ms k)).heap[a.block]? = some (.map ms k) := by rw [h]; exact heap_alloc_new w _
    have h2 : w.heap[a.block]? = none := by rw [h]; simp
    simp [World.frozen?, h1, h2]
  · have h1 : (w.alloc (.map ms k)).heap[a.block]? = none := by
      rw [Array.getElem?_eq_none_iff]; simp; omega
    have h2 : w.heap[a.block]? = none := by rw [Array.getElem?_eq_none_iff]; omega
    simp [World.frozen?, h1, h2]
theorem mapNew_sound (h : HRel V ι B σ w) (hp : σ.push (.map []) = some σ') :
    HRel V (upd ι σ.sz ⟨w.heap.size, 0, 0⟩) B σ' (w.alloc (.map #[] 0)) ∧ Ext ι σ w (upd ι σ.sz ⟨w.heap.size, 0, 0⟩) σ' (w.alloc (.map #[] 0)) := by
  have hm := h.upd_mono ⟨w.heap.size, 0, 0⟩
  have hupd : ∀ k, k < σ.sz → upd ι σ.sz ⟨w.heap.size, 0, 0⟩ k = ι k := fun k hk => by unfold upd; rw [if_neg (by omega)]
  have hnew : upd ι σ.sz ⟨w.heap.size, 0, 0⟩ σ.sz = some ⟨w.heap.size, 0, 0⟩ := by simp [upd]
  constructor
  · refine ⟨by have := h.base; simp; omega, ?_, inj_push h hp rfl, ?_⟩
    · intro k o l hk hlk
      rw [Hp.get_push hp] at hk
      split at hk
      · rename_i ek; subst ek
        rw [hnew] at hlk; cases hlk; cases hk
        exact ⟨#[], heap_alloc_new w _, h.base, trivial⟩
      · have hk' := Hp.get_lt hk
        rw [hupd k hk'] at hlk
        have hr := h.obj k o l hk hlk
        have hlt : o.knd ≠ 0 → l.blk < w.heap.size := fun hn => h.blk_lt hk hn hlk
        have hr := hr.mono hm
        cases o with
        | dead => trivial
        | cells cs ro =>
          obtain ⟨c1, e1, fr, hb, rest⟩ := hr
          exact ⟨c1, e1, fr, by rw [heap_alloc_old w _ _ (Array.getElem?_eq_some_iff.1 hb).1]; exact hb, rest⟩
        | big t n z =>
          obtain ⟨c1, e1, hb, rest⟩ := hr
          exact ⟨c1, e1, by rw [heap_alloc_old w _ _ (Array.getElem?_eq_some_iff.1 hb).1]; exact hb, rest⟩
        | map es =>
          obtain ⟨ms, hb, rest⟩ := hr
          exact ⟨ms, by rw [heap_alloc_old w _ _ (Array.getElem?_eq_some_iff.1 hb).1]; exact hb, rest⟩
        | arr s k' n' =>
          obtain ⟨N, h1, h2⟩ := hr
          exact ⟨N, h1, h2.imp (fun x => x) fun ⟨c1, e1, fr, hb, hlt, rest⟩ => ⟨c1, e1, fr, by rw [heap_alloc_old w _ _ (Array.getElem?_eq_some_iff.1 hb).1]; exact hb, hlt, rest⟩⟩
    · intro k hk
      rw [Hp.push_sz hp] at hk
      unfold upd
      rw [if_neg (by omega)]
      exact h.dom k (by omega)
  · refine ⟨hupd, by rw [Hp.push_sz hp]; omega, by simp, rfl, rfl, rfl, ?_, ?_, ?_, frozen_alloc_map⟩
    · intro b hb _; exact heap_alloc_old w _ b hb
    · exact fun b hb => owned_push h hp rfl hb
    · intro k hk _
      rw [Hp.get_push hp, if_neg (by omega)]
theorem mapSet_sound (h : HRel V ι B σ w) {id : Nat} {es es' : List (SV × SV)} {l : Loc} (hg : σ.get id = some (.map es)) (hl : ι id = some l) (hs : σ.set id (.map es') = some σ') {ms' : Array MapEntry} (hm : MRel V ι 0 es' ms'.toList) :
    HRel V ι B σ' { w with heap := w.heap.setIfInBounds l.blk (.map ms' es'.length) } ∧ Ext ι σ w ι σ' { w with heap := w.heap.setIfInBounds l.blk (.map ms' es'.length) } := by
  obtain ⟨ms, hb, hB, _⟩ := h.obj id _ l hg hl
  obtain ⟨hnew, hoth⟩ := MapKept.heap_set (w := w) (o' := .map ms' es'.length) hb
  constructor
  · refine ⟨by simpa using h.base, ?_, h.inj.set hs hg rfl, ?_⟩
    · intro k o lk hk hlk
      rw [Hp.get_set hs] at hk
      split at hk
      · rename_i ek; subst ek
        rw [hl] at hlk; cases hlk; cases hk
        exact ⟨ms', hnew, hB, hm⟩
      · rename_i hne
        have hr := h.obj k o lk hk hlk
        have hnb : o.knd ≠ 0 → lk.blk ≠ l.blk := fun hn e => (h.inj.own hg hk rfl hn (fun e => hne e.symm) hl hlk) e.symm
        cases o with
        | dead => trivial
        | cells cs ro =>
          obtain ⟨c1, e1, fr, hb1, rest⟩ := hr
          exact ⟨c1, e1, fr, by rw [hoth _ (hnb knd_cells)]; exact hb1, rest⟩
        | big t n z =>
          obtain ⟨c1, e1, hb1, rest⟩ := hr
          exact ⟨c1, e1, by rw [hoth _ (hnb (by simp [SObj.knd]))]; exact hb1, rest⟩
        | map es1 =>
          obtain ⟨ms1, hb1, rest⟩ := hr
          exact ⟨ms1, by rw [hoth _ (hnb (by simp [SObj.knd]))]; exact hb1, rest⟩
        | arr s k' n' =>
          obtain ⟨N, h1, h2⟩ := hr
          exact ⟨N, h1, h2.imp (fun x => x) fun ⟨c1, e1, fr, hb1, hlt, rest⟩ => ⟨c1, e1, fr, by rw [hoth _ (by omega)]; exact hb1, hlt, rest⟩⟩
    · intro k hk
      exact h.dom k (by rw [← Hp.set_sz hs]; exact hk)
  · refine ⟨fun _ _ => rfl, by rw [Hp.set_sz hs]; exact Nat.le_refl _, by simp, rfl, rfl, rfl, ?_, ?_, ?_, ?_⟩
    · intro b hb1 hno
      exact hoth b fun e => hno ⟨id, _, l, hg, rfl, hl, e.symm⟩
    · intro b hb1 ho
      exact Owned.set hs hg (fun _ => rfl) b ho
    · intro k hk hn
      rw [Hp.get_set hs]
      split
      · rename_i ek; subst ek; rw [hl] at hn; cases hn
      · rfl
    · intro a
      by_cases ha : a.block = l.blk
      · simp only [World.frozen?, ha, hb, hnew]
      · simp only [World.frozen?, hoth _ ha]
end
end Go.Sx
