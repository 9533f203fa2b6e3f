/- The symbolic machine: the errors that a package lays at its start, as objects that are never written. No condition: lemmas of the machine. -/
import Derived.Test.YtlgfmmccnilkmaaGreatDoorSyOpen
import Derived.LaidLaws
import Derived.Lay
import Derived.Stop.Joined
import Derived.SevenTiedAt
namespace Go.Sx
set_option linter.unusedVariables false
set_option linter.unusedSimpArgs false
open Go.RowKit

structure DoorE where
  name : String
  g : Nat
  text : List UInt8
def dlaid (D : List DoorE) : List (String × DataW Unit) := D.map fun d => (d.name, .iface "*errors.errorString" (.ptr (.agg [.lit (.string d.text)])))
def objsFrom (tp k : Nat) : List DoorE → List SObj
  | [] => []
  | d :: ds => .cells [.iface tp (.ptr (k + 1) 0)] true :: .cells [.str ⟨d.text.toArray⟩] true :: objsFrom tp (k + 2) ds
def pushAll : Hp → List SObj → Option Hp
  | h, [] => some h
  | h, o :: os => match h.push o with
    | some h' => pushAll h' os
    | none => none
def Gof (k : Nat) : List DoorE → Nat → Option Nat
  | [], _ => none
  | d :: ds, g => bif Nat.beq d.g g then some k else Gof (k + 2) ds g

theorem Gof_lt : ∀ {D : List DoorE} {k n g id : Nat}, Nat.ble (k + 2 * D.length) n = true → Gof k D g = some id → id < n
  | [], k, n, g, id, hn, h => by simp [Gof] at h
  | d :: ds, k, n, g, id, hn, h => by
    have hn' := Nat.le_of_ble_eq_true hn
    simp only [List.length_cons] at hn'
    unfold Gof at h
    cases hb : Nat.beq d.g g <;> simp only [hb, cond_true, cond_false] at h
    · exact Gof_lt (Nat.ble_eq_true_of_le (by omega)) h
    · cases h; omega
theorem pushAll_get : ∀ {os : List SObj} {h h' : Hp}, pushAll h os = some h' → h'.sz = h.sz + os.length ∧ ∀ j, h'.get j = if j < h.sz then h.get j else os[j - h.sz]?
  | [], h, h', e => by
    simp [pushAll] at e; subst e
    refine ⟨by simp, fun j => ?_⟩
    split
    · rfl
    · rw [Hp.get_ge (by omega)]; simp
  | o :: os, h, h', e => by
    simp only [pushAll] at e
    split at e
    case h_2 => cases e
    rename_i h1 hp
    obtain ⟨i1, i2⟩ := pushAll_get e
    have hsz := Hp.push_sz hp
    refine ⟨by rw [i1, hsz]; simp; omega, fun j => ?_⟩
    rw [i2 j, hsz, Hp.get_push hp]
    by_cases h2 : j < h.sz
    · rw [if_pos (by omega), if_neg (by omega), if_pos h2]
    · rw [if_neg h2]
      by_cases h3 : j = h.sz
      · subst h3; simp
      · rw [if_neg (by omega)]
        have : j - h.sz = (j - (h.sz + 1)) + 1 := by omega
        rw [this, List.getElem?_cons_succ]

structure ErrTypes (P : Program) (ti tp te ts : TypeId) (ms : Array (String × TypeId)) (f : Field) : Prop where
  hi : P.underlying ti = some (.interface ms)
  hrow : ∀ u, P.typeName? 3 u = some "*errors.errorString" → u = tp
  hp : P.underlying tp = some (.pointer te)
  he : P.underlying te = some (.struct #[f])
  hft : f.type = ts
  hfo : f.offset = 0
  hs : P.underlying ts = some .string
  hc : P.cellsOf te = 1
  hcs : P.cellsOf ts = 1
def doorFits (P : Program) (ti : TypeId) (D : List DoorE) : Bool := D.all fun d => P.globalNamed d.name == some d.g && (P.globals[d.g]?).map (·.type) == some ti

def DoorAt (W : World) (tp : TypeId) : List DoorE → List Loc → Prop
  | [], ls => ls = []
  | d :: ds, ls => ∃ (a : Addr) (t : TypeId) (c : Array Value) (t' : TypeId) (rest : List Loc), ls = ⟨d.g, 0, 1⟩ :: ⟨a.block, a.off, 1⟩ :: rest ∧
    W.heap[d.g]? = some (.cells #[.iface tp (.pointer (some ⟨a.block, a.off, none⟩))] t (0, 0)) ∧ W.heap[a.block]? = some (.cells c t' (0, 0)) ∧ c[a.off]? = some (.string ⟨d.text.toArray⟩) ∧ DoorAt W tp ds rest
def place (l : Loc) : MemPlace := .cell l.blk l.off

section
variable {P : Program} {W : World} {V : Val}

theorem cell_parts {w : World} {a : Addr} {v : Value} (h : w.cell? a = some v) : a = ⟨a.block, a.off, none⟩ ∧ ∃ c e fr, w.heap[a.block]? = some (.cells c e fr) ∧ c[a.off]? = some v := by
  obtain ⟨b, o, sp⟩ := a
  unfold World.cell? at h
  split at h
  · rename_i c e fr hb
    cases sp with
    | none => simp at h; exact ⟨rfl, c, e, fr, hb, h⟩
    | some x => simp at h
  · cases h

theorem doorAt_of {ti tp te ts : TypeId} {ms : Array (String × TypeId)} {f : Field} (E : ErrTypes P ti tp te ts ms f) : ∀ {D : List DoorE} {ps : List MemPlace}, doorFits P ti D = true → DataW.LaidVars P W (dlaid D) ps →
    (∀ b off, MemPlace.cell b off ∈ ps → (∃ c t, W.heap[b]? = some (.cells c t (0, 0))) ∧ ∀ u v, W.cell? ⟨b, off, none⟩ = some (.iface u v) → Value.okWide P W .any 0 u v) →
    ∃ ls, DoorAt W tp D ls ∧ ls.map place = ps
  | [], ps, hf, h, hr => by
    have h : ps = [] := h
    exact ⟨[], rfl, by simp [h]⟩
  | d :: ds, ps, hf, h, hr => by
    obtain ⟨g, t, cs, fuel, p, q, hg, ht, hv, hd, hq, rfl⟩ := h
    simp only [doorFits, List.all_cons, Bool.and_eq_true, beq_iff_eq] at hf
    obtain rfl := Option.some.inj (hf.1.1.symm.trans hg)
    obtain rfl := Option.some.inj (hf.1.2.symm.trans ht)
    obtain ⟨cl⟩ := cs
    have hmem : ∀ x, x ∈ MemPlace.row ⟨d.g, 0, none⟩ (Array.mk cl).size ++ p ++ q → x ∈ MemPlace.row ⟨d.g, 0, none⟩ (Array.mk cl).size ++ p ++ q := fun x h => h
    have ok : ∀ u v, cl = [.iface u v] → Value.okWide P W .any 0 u v := fun u v e => by
      subst e
      exact (hr d.g 0 (by simp [MemPlace.row])).2 u v (by simpa using World.var?_cell hg hv 0)
    obtain ⟨a, s, rfl, hc, hs, hz, rfl⟩ := errorString_of_trod E.hi E.hrow E.hp E.he E.hft E.hfo E.hs E.hc E.hcs hd ok
    obtain ⟨ha, c, t', fr, hb, hco⟩ := cell_parts hc
    obtain ⟨⟨c2, t2, hb2⟩, _⟩ := hr a.block a.off (by simp [MemPlace.row])
    rw [hb] at hb2
    simp only [Option.some.injEq, Obj.cells.injEq] at hb2
    obtain ⟨rfl, rfl, rfl⟩ := hb2
    obtain ⟨⟨c3, t3, hb3⟩, _⟩ := hr d.g 0 (by simp [MemPlace.row])
    have hg3 : c3 = #[.iface tp (.pointer (some a))] := by
      have h0 := hv
      simp only [World.var?, hg, Option.bind_some, hb3, Option.some.injEq] at h0
      exact h0
    subst hg3
    obtain ⟨ls, i1, i2⟩ := doorAt_of E (D := ds) (ps := q) hf.2 hq fun b off hm => hr b off (by simp [hm])
    refine ⟨⟨d.g, 0, 1⟩ :: ⟨a.block, a.off, 1⟩ :: ls, ⟨a, t3, c, t', ls, rfl, by rw [← ha]; exact hb3, hb, ?_, i1⟩, ?_⟩
    · rw [hco]
      obtain ⟨⟨sl⟩⟩ := s
      simp at hs
      rw [← hs]
    · simp [place, MemPlace.row, i2]

theorem doorAt_obj {tp B : Nat} (hB : W.heap.size ≤ B) : ∀ {D : List DoorE} {ls : List Loc} {k : Nat} {ι : Nat → Option Loc}, (∀ (j : Nat) (l : Loc), ls[j]? = some l → ι (k + j) = some l) → DoorAt W tp D ls →
    ls.length = (objsFrom tp k D).length ∧ ∀ (j : Nat) (o : SObj) (l : Loc), (objsFrom tp k D)[j]? = some o → ls[j]? = some l → ORel V ι B W l o ∧ o.knd = 1
  | [], ls, k, ι, hι, h => by
    have h : ls = [] := h
    subst h
    exact ⟨rfl, fun j o l ho => by simp [objsFrom] at ho⟩
  | d :: ds, ls, k, ι, hι, h => by
    obtain ⟨a, t, c, t', rest, rfl, h1, h2, h3, h4⟩ := h
    obtain ⟨i1, i2⟩ := doorAt_obj (k := k + 2) (ι := ι) hB (fun j l hj => by
      have := hι (j + 2) l (by simpa using hj)
      rwa [show k + (j + 2) = k + 2 + j by omega] at this) h4
    refine ⟨by simp [objsFrom, i1], fun j o l ho hl => ?_⟩
    have b1 := (Array.getElem?_eq_some_iff.1 h1).1
    have b2 := (Array.getElem?_eq_some_iff.1 h2).1
    match j with
    | 0 =>
      simp [objsFrom] at ho hl
      subst ho; subst hl
      refine ⟨⟨_, t, (0, 0), h1, (fun e => by cases e), ⟨by simp, fun _ => ⟨by simp only; omega, rfl⟩⟩, ?_⟩, rfl⟩
      intro j v hj
      match j with
      | 0 =>
        simp at hj; subst hj
        refine ⟨rfl, _, rfl, ?_⟩
        simp only [VRel]
        exact ⟨_, rfl, ⟨a.block, a.off, 1⟩, hι 1 _ rfl, rfl⟩
      | j + 1 => simp at hj
    | 1 =>
      simp [objsFrom] at ho hl
      subst ho; subst hl
      refine ⟨⟨c, t', (0, 0), h2, (fun e => by cases e), ⟨by simp, fun _ => ⟨by simp only; omega, rfl⟩⟩, ?_⟩, rfl⟩
      intro j v hj
      match j with
      | 0 =>
        simp at hj; subst hj
        exact ⟨rfl, _, h3, by simp [VRel]⟩
      | j + 1 => simp at hj
    | j + 2 =>
      exact i2 j o l (by simpa [objsFrom] using ho) (by simpa using hl)

theorem doorAt_G {tp : Nat} : ∀ {D : List DoorE} {ls : List Loc} {k : Nat} {ι : Nat → Option Loc}, (∀ (j : Nat) (l : Loc), ls[j]? = some l → ι (k + j) = some l) → DoorAt W tp D ls → GRel (Gof k D) ι
  | [], ls, k, ι, hι, h => fun g id hg => by simp [Gof] at hg
  | d :: ds, ls, k, ι, hι, h => by
    obtain ⟨a, t, c, t', rest, rfl, h1, h2, h3, h4⟩ := h
    intro g id hg
    unfold Gof at hg
    cases hb : Nat.beq d.g g <;> simp only [hb, cond_true, cond_false] at hg
    · exact doorAt_G (k := k + 2) (ι := ι) (fun j l hj => by
        have := hι (j + 2) l (by simpa using hj)
        rwa [show k + (j + 2) = k + 2 + j by omega] at this) h4 g id hg
    · cases hg
      exact ⟨_, hι 0 _ rfl, Nat.eq_of_beq_eq_true hb, rfl⟩

theorem door_rel {ti tp te ts : TypeId} {ms : Array (String × TypeId)} {f : Field} (E : ErrTypes P ti tp te ts ms f) {D : List DoorE} (hf : doorFits P ti D = true) (hl : laidMet P (dlaid D) W) {σ : Hp} (hσ : pushAll hp0 (objsFrom tp 0 D) = some σ) :
    ∃ ι, HRel V ι W.heap.size σ W ∧ GRel (Gof 0 D) ι ∧ ∀ id o, σ.get id = some o → o.knd ≠ 2 := by
  obtain ⟨ps, h1, h2, h3⟩ := hl
  obtain ⟨ls, d1, rfl⟩ := doorAt_of E hf h1 h3
  obtain ⟨p1, p2⟩ := pushAll_get hσ
  have hget : ∀ j, σ.get j = (objsFrom tp 0 D)[j]? := fun j => by
    rw [p2 j]; simp [hp0]
  have hsz : σ.sz = (objsFrom tp 0 D).length := by rw [p1]; simp [hp0]
  obtain ⟨o1, o2⟩ := doorAt_obj (V := V) (B := W.heap.size) (Nat.le_refl _) (k := 0) (ι := fun j => ls[j]?) (fun j l h => by simpa using h) d1
  refine ⟨fun j => ls[j]?, ⟨Nat.le_refl _, ?_, ?_, ?_⟩, doorAt_G (k := 0) (fun j l h => by simpa using h) d1, ?_⟩
  · intro id o l ho hl
    rw [hget] at ho
    exact (o2 id o l ho hl).1
  · intro id id' o o' l l' ho ho' n1 n2 hne hl hl'
    rw [hget] at ho ho'
    have r1 : o.knd = 1 := (o2 id _ l ho hl).2
    have r2 : o'.knd = 1 := (o2 id' _ l' ho' hl').2
    by_cases hb : l.blk = l'.blk
    · right
      refine ⟨r1, r2, fun ho => ?_⟩
      have q1 : (ls.map place)[id]? = some (place l) := by simp [hl]
      have q2 : (ls.map place)[id']? = some (place l') := by simp [hl']
      have : place l = place l' := by simp [place, hb, ho]
      rw [this] at q1
      exact hne ((List.getElem?_inj (List.getElem?_eq_some_iff.1 q1).1 h2).1 (q1.trans q2.symm))
    · exact .inl hb
  · intro id hid
    show ls[id]? = none
    rw [List.getElem?_eq_none_iff, o1, ← hsz]; exact hid
  · intro id o h
    rw [hget] at h
    have hlt : id < ls.length := by rw [o1]; exact (List.getElem?_eq_some_iff.1 h).1
    have := (o2 id _ ls[id] h (List.getElem?_eq_getElem hlt)).2
    omega
end
end Go.Sx
