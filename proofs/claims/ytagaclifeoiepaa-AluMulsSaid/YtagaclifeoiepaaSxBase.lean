/- The symbolic machine, its base: symbolic values, what they stand for in a world, how an abstract heap lies in a world. No condition: plain definitions and lemmas. -/
import Derived.Calls
import Derived.Orders
import Derived.Deep.LoopGhost
import Derived.KernelRfl
import Derived.Laws.AppendOwn
import Derived.Laws.CopyRow
import Derived.Laws.MakeOwn
namespace Go.Sx
set_option linter.unusedVariables false

/-- Symbolic whole numbers. -/
inductive SE where
  | lit (n : Int)
  | var (i : Nat)
  | bin (op : BinOp) (k : IntKind) (a b : SE)
  | cv (k : IntKind) (a : SE)
/-- Symbolic truths. -/
inductive SB where
  | lit (b : Bool)
  | var (i : Nat)
  | cmp (op : BinOp) (a b : SE)
  | eq (a b : SB)
  | not (a : SB)
  | and (a b : SB)
/-- What the variables are. -/
structure Val where
  i : Nat → Int
  b : Nat → Bool

def binI (op : BinOp) (k : IntKind) (x y : Int) : Int :=
  match op with
  | .add => k.wrap (x + y)
  | .sub => k.wrap (x - y)
  | .mul => k.wrap (x * y)
  | .quo => k.wrap (x.tdiv y)
  | .rem => x.tmod y
  | .and => k.wrap ((BitVec.ofInt k.bits x &&& BitVec.ofInt k.bits y).toNat : Int)
  | .or => k.wrap ((BitVec.ofInt k.bits x ||| BitVec.ofInt k.bits y).toNat : Int)
  | .xor => k.wrap ((BitVec.ofInt k.bits x ^^^ BitVec.ofInt k.bits y).toNat : Int)
  | .andNot => k.wrap ((BitVec.ofInt k.bits x &&& ~~~(BitVec.ofInt k.bits y)).toNat : Int)
  | .shl => k.wrap (x * 2 ^ (min y.toNat k.bits))
  | .shr => x.fdiv (2 ^ (min y.toNat k.bits))
  | _ => 0
def cmpI (op : BinOp) (x y : Int) : Bool :=
  match op with
  | .eql => x == y
  | .neq => x != y
  | .lss => decide (x < y)
  | .leq => decide (x ≤ y)
  | .gtr => decide (x > y)
  | .geq => decide (x ≥ y)
  | _ => false
def SE.den (V : Val) : SE → Int
  | .lit n => n
  | .var i => V.i i
  | .bin op k a b => binI op k (a.den V) (b.den V)
  | .cv k a => k.wrap (a.den V)
def SB.den (V : Val) : SB → Bool
  | .lit b => b
  | .var i => V.b i
  | .cmp op a b => cmpI op (a.den V) (b.den V)
  | .eq a b => a.den V == b.den V
  | .not a => !(a.den V)
  | .and a b => a.den V && b.den V

/-- Symbolic values. A pointer names an object and a cell in it; a slice besides its length, how much room is known at least, and its element's cells. -/
inductive SV where
  | int (k : IntKind) (e : SE)
  | bool (b : SB)
  | str (s : ByteArray)
  | nilPtr
  | ptr (id o : Nat)
  | nilSlice
  | slice (id o len cap sz : Nat)
  | func (fn : Fn) (first caps : List SV)
  | nilFunc
  | iface (t : Nat) (v : SV)
  | nilIface
  | agg (cs : List SV)
  | tuple (vs : List SV)

structure Loc where
  blk : Nat
  off : Nat
  ext : Nat

mutual
def VRel (V : Val) (ι : Nat → Option Loc) : SV → Value → Prop
  | .int k e, c => c = .int k (e.den V)
  | .bool b, c => c = .bool (b.den V)
  | .str s, c => c = .string s
  | .nilPtr, c => c = .pointer none
  | .ptr id o, c => ∃ l, ι id = some l ∧ c = .pointer (some ⟨l.blk, l.off + o, none⟩)
  | .nilSlice, c => c = .slice none 0 0
  | .slice id o len cap sz, c => ∃ l a ccap, ι id = some l ∧ c = .slice (some ⟨l.blk, a, none⟩) len ccap ∧ (a = l.off + o ∨ ccap = 0) ∧ len ≤ cap ∧ cap ≤ ccap ∧ o + ccap * sz ≤ l.ext
  | .func fn fs gs, c => ∃ f g, c = .func fn f g ∧ VRels V ι fs f.toList ∧ VRels V ι gs g.toList
  | .nilFunc, c => c = .nilFunc
  | .iface t v, c => ∃ u, c = .iface t u ∧ VRel V ι v u
  | .nilIface, c => c = .nilIface
  | .agg cs, c => ∃ l, c = .agg l ∧ VRels V ι cs l.toList
  | .tuple cs, c => ∃ l, c = .tuple l ∧ VRels V ι cs l.toList
def VRels (V : Val) (ι : Nat → Option Loc) : List SV → List Value → Prop
  | [], l => l = []
  | v :: vs, l => ∃ c cs, l = c :: cs ∧ VRel V ι v c ∧ VRels V ι vs cs
end

mutual
theorem VRel.mono {V : Val} {ι ι' : Nat → Option Loc} (h : ∀ id l, ι id = some l → ι' id = some l) : ∀ (v : SV) (c : Value), VRel V ι v c → VRel V ι' v c
  | .int k e, c, hv => by simpa [VRel] using hv
  | .bool b, c, hv => by simpa [VRel] using hv
  | .str s, c, hv => by simpa [VRel] using hv
  | .nilPtr, c, hv => by simpa [VRel] using hv
  | .ptr id o, c, hv => by
    obtain ⟨l, h1, h2⟩ := hv
    exact ⟨l, h _ _ h1, h2⟩
  | .nilSlice, c, hv => by simpa [VRel] using hv
  | .slice id o len cap sz, c, hv => by
    obtain ⟨l, a, ccap, h1, h2⟩ := hv
    exact ⟨l, a, ccap, h _ _ h1, h2⟩
  | .func fn fs gs, c, hv => by
    obtain ⟨f, g, h1, h2, h3⟩ := hv
    exact ⟨f, g, h1, VRels.mono h fs _ h2, VRels.mono h gs _ h3⟩
  | .nilFunc, c, hv => by simpa [VRel] using hv
  | .iface t v, c, hv => by
    obtain ⟨u, h1, h2⟩ := hv
    exact ⟨u, h1, VRel.mono h v _ h2⟩
  | .nilIface, c, hv => by simpa [VRel] using hv
  | .agg cs, c, hv => by
    obtain ⟨l, h1, h2⟩ := hv
    exact ⟨l, h1, VRels.mono h cs _ h2⟩
  | .tuple cs, c, hv => by
    obtain ⟨l, h1, h2⟩ := hv
    exact ⟨l, h1, VRels.mono h cs _ h2⟩
theorem VRels.mono {V : Val} {ι ι' : Nat → Option Loc} (h : ∀ id l, ι id = some l → ι' id = some l) : ∀ (vs : List SV) (l : List Value), VRels V ι vs l → VRels V ι' vs l
  | [], l, hv => by simpa [VRels] using hv
  | v :: vs, l, hv => by
    obtain ⟨c, cs, h1, h2, h3⟩ := hv
    exact ⟨c, cs, h1, VRel.mono h v _ h2, VRels.mono h vs _ h3⟩
end

theorem VRels.nil {V : Val} {ι : Nat → Option Loc} : VRels V ι [] [] := by simp [VRels]
theorem VRels.cons {V : Val} {ι : Nat → Option Loc} {v : SV} {vs : List SV} {c : Value} {cs : List Value} (h : VRel V ι v c) (h' : VRels V ι vs cs) : VRels V ι (v :: vs) (c :: cs) := ⟨c, cs, rfl, h, h'⟩
theorem VRels.length {V : Val} {ι : Nat → Option Loc} : ∀ {vs : List SV} {l : List Value}, VRels V ι vs l → l.length = vs.length
  | [], l, h => by simp [VRels] at h; simp [h]
  | v :: vs, l, h => by obtain ⟨c, cs, rfl, _, h2⟩ := h; simp [h2.length]
theorem VRels.get {V : Val} {ι : Nat → Option Loc} : ∀ {vs : List SV} {l : List Value}, VRels V ι vs l → ∀ (j : Nat) (v : SV), vs[j]? = some v → ∃ c, l[j]? = some c ∧ VRel V ι v c
  | [], l, h, j, v, hj => by simp at hj
  | x :: vs, l, h, 0, v, hj => by obtain ⟨c, cs, rfl, h1, h2⟩ := h; simp at hj; subst hj; exact ⟨c, rfl, h1⟩
  | x :: vs, l, h, j + 1, v, hj => by obtain ⟨c, cs, rfl, h1, h2⟩ := h; simpa using h2.get j v (by simpa using hj)
theorem VRels.get_none {V : Val} {ι : Nat → Option Loc} {vs : List SV} {l : List Value} (h : VRels V ι vs l) {j : Nat} (hj : vs[j]? = none) : l[j]? = none := by
  rw [List.getElem?_eq_none_iff] at hj ⊢; rw [h.length]; exact hj
theorem VRels.of_get {V : Val} {ι : Nat → Option Loc} : ∀ {vs : List SV} {l : List Value}, l.length = vs.length → (∀ (j : Nat) (v : SV), vs[j]? = some v → ∃ c, l[j]? = some c ∧ VRel V ι v c) → VRels V ι vs l
  | [], l, hl, h => by simp [VRels]; exact List.eq_nil_of_length_eq_zero (by simpa using hl)
  | v :: vs, [], hl, h => by simp at hl
  | v :: vs, c :: cs, hl, h => by
    refine ⟨c, cs, rfl, ?_, VRels.of_get (by simpa using hl) fun j u hj => by simpa using h (j + 1) u (by simpa using hj)⟩
    obtain ⟨c', h1, h2⟩ := h 0 v rfl
    simp at h1; subst h1; exact h2
theorem VRels.append {V : Val} {ι : Nat → Option Loc} : ∀ {vs : List SV} {l : List Value} {vs' : List SV} {l' : List Value}, VRels V ι vs l → VRels V ι vs' l' → VRels V ι (vs ++ vs') (l ++ l')
  | [], l, vs', l', h, h' => by simp [VRels] at h; subst h; simpa using h'
  | v :: vs, l, vs', l', h, h' => by obtain ⟨c, cs, rfl, h1, h2⟩ := h; exact ⟨c, cs ++ l', rfl, h1, h2.append h'⟩
theorem VRels.take {V : Val} {ι : Nat → Option Loc} (n : Nat) {vs : List SV} {l : List Value} (h : VRels V ι vs l) : VRels V ι (vs.take n) (l.take n) := by
  refine VRels.of_get (by simp [h.length]) fun j v hj => ?_
  rw [List.getElem?_take] at hj
  split at hj
  · rename_i hlt
    obtain ⟨c, h1, h2⟩ := h.get j v hj
    exact ⟨c, by rw [List.getElem?_take, if_pos hlt]; exact h1, h2⟩
  · cases hj
theorem VRels.drop {V : Val} {ι : Nat → Option Loc} (n : Nat) {vs : List SV} {l : List Value} (h : VRels V ι vs l) : VRels V ι (vs.drop n) (l.drop n) := by
  refine VRels.of_get (by simp [h.length]) fun j v hj => ?_
  rw [List.getElem?_drop] at hj
  obtain ⟨c, h1, h2⟩ := h.get _ v hj
  exact ⟨c, by rw [List.getElem?_drop]; exact h1, h2⟩
theorem VRels.set {V : Val} {ι : Nat → Option Loc} {vs : List SV} {l : List Value} (h : VRels V ι vs l) (n : Nat) {v : SV} {c : Value} (hv : VRel V ι v c) : VRels V ι (vs.set n v) (l.set n c) := by
  refine VRels.of_get (by simp [h.length]) fun j u hj => ?_
  have hlen := h.length
  rw [List.getElem?_set] at hj
  rw [List.getElem?_set]
  split at hj
  · rename_i he
    subst he
    split at hj
    · rename_i hlt
      simp at hj; subst hj
      exact ⟨c, by simp [hlen, hlt], hv⟩
    · cases hj
  · rename_i hne
    obtain ⟨d, h1, h2⟩ := h.get j u hj
    exact ⟨d, by rw [if_neg hne]; exact h1, h2⟩
theorem VRels.replicate {V : Val} {ι : Nat → Option Loc} {v : SV} {c : Value} (h : VRel V ι v c) : ∀ n, VRels V ι (List.replicate n v) (List.replicate n c)
  | 0 => by simp [VRels]
  | n + 1 => ⟨c, _, rfl, h, VRels.replicate h n⟩

def sundef : SV := .tuple []
theorem VRel.undef {V : Val} {ι : Nat → Option Loc} : VRel V ι sundef undef := ⟨#[], rfl, by simp [VRels]⟩

/-- One cell holds it. -/
def SV.one : SV → Bool
  | .agg _ | .tuple _ => false
  | _ => true
theorem VRel.one {V : Val} {ι : Nat → Option Loc} {v : SV} {c : Value} (h : VRel V ι v c) (h1 : v.one = true) : c.oneCell' = true := by
  cases v <;> simp [SV.one] at h1 <;> simp only [VRel] at h <;> (try obtain ⟨_, _, rfl⟩ := h) <;> (try subst h) <;> (try rfl)
  · obtain ⟨l, a, ccap, _, rfl, _⟩ := h; rfl
  · obtain ⟨f, g, rfl, _⟩ := h; rfl
  · obtain ⟨u, rfl, _⟩ := h; rfl
/-- Its cells. -/
def SV.cells : SV → List SV
  | .agg cs => cs
  | v => [v]
theorem VRel.cells {V : Val} {ι : Nat → Option Loc} {v : SV} {c : Value} (h : VRel V ι v c) : VRels V ι v.cells c.cells.toList := by
  cases v <;> simp only [VRel] at h <;> simp only [SV.cells]
  case agg cs => obtain ⟨l, rfl, h⟩ := h; exact h
  all_goals first
    | (subst h; exact .cons (by simp [VRel]) .nil)
    | (obtain ⟨l, hl, rfl⟩ := h; exact .cons ⟨l, hl, rfl⟩ .nil)
    | skip
  · obtain ⟨l, a, ccap, h1, rfl, h2⟩ := h; exact .cons ⟨l, a, ccap, h1, rfl, h2⟩ .nil
  · obtain ⟨f, g, rfl, h2⟩ := h; exact .cons ⟨f, g, rfl, h2⟩ .nil
  · obtain ⟨u, rfl, h2⟩ := h; exact .cons ⟨u, rfl, h2⟩ .nil
  · obtain ⟨l, rfl, h2⟩ := h; exact .cons ⟨l, rfl, h2⟩ .nil

/-- Objects of the abstract heap: none any more, or cells (ro: never to be written). -/
inductive SObj where
  | dead
  | cells (cs : List SV) (ro : Bool)

/-- A tree by numbers. -/
inductive Tr (α : Type) where
  | e
  | n (o : Option α) (l r : Tr α)
def Tr.get {α : Type} : Tr α → Nat → Option α
  | .e, _ => none
  | .n o l r, i => match i with
    | 0 => o
    | j + 1 => bif Nat.beq (j % 2) 0 then l.get (j / 2) else r.get (j / 2)
def Tr.set {α : Type} : Nat → Tr α → Nat → α → Option (Tr α)
  | 0, _, _, _ => none
  | f + 1, .e, i, x => match i with
    | 0 => some (.n (some x) .e .e)
    | j + 1 => bif Nat.beq (j % 2) 0 then (match Tr.set f .e (j / 2) x with | some t => some (.n none t .e) | none => none)
      else (match Tr.set f .e (j / 2) x with | some t => some (.n none .e t) | none => none)
  | f + 1, .n o l r, i, x => match i with
    | 0 => some (.n (some x) l r)
    | j + 1 => bif Nat.beq (j % 2) 0 then (match Tr.set f l (j / 2) x with | some t => some (.n o t r) | none => none)
      else (match Tr.set f r (j / 2) x with | some t => some (.n o l t) | none => none)
theorem Tr.get_e {α : Type} (i : Nat) : (Tr.e : Tr α).get i = none := by simp [Tr.get]
theorem Tr.get_set {α : Type} : ∀ (f : Nat) (t t' : Tr α) (i : Nat) (x : α), Tr.set f t i x = some t' → ∀ j, t'.get j = if j = i then some x else t.get j
  | 0, t, t', i, x, h => by simp [Tr.set] at h
  | f + 1, .e, t', 0, x, h => by
    simp [Tr.set] at h; subst h; intro j
    cases j with
    | zero => simp [Tr.get]
    | succ j => simp [Tr.get]
  | f + 1, .n o l r, t', 0, x, h => by
    simp [Tr.set] at h; subst h; intro j
    cases j with
    | zero => simp [Tr.get]
    | succ j => simp [Tr.get]
  | f + 1, .e, t', k + 1, x, h => by
    intro j
    simp only [Tr.set] at h
    cases hp : Nat.beq (k % 2) 0 <;> simp only [hp, cond_true, cond_false] at h
    · cases hs : Tr.set f .e (k / 2) x with
      | none => simp [hs] at h
      | some t =>
        simp [hs] at h; subst h
        have ih := Tr.get_set f .e t (k / 2) x hs
        have hk : k % 2 ≠ 0 := fun e => by simp [e] at hp
        cases j with
        | zero => simp [Tr.get]
        | succ j =>
          cases hq : Nat.beq (j % 2) 0
          · have hj : j % 2 ≠ 0 := fun e => by simp [e] at hq
            simp only [Tr.get, hq, cond_false, ih]
            by_cases e : j / 2 = k / 2
            · rw [if_pos e, if_pos (by omega)]
            · rw [if_neg e, if_neg (by omega)]
          · have hj : j % 2 = 0 := Nat.eq_of_beq_eq_true hq
            simp only [Tr.get, hq, cond_true]
            rw [if_neg (by omega)]
    · cases hs : Tr.set f .e (k / 2) x with
      | none => simp [hs] at h
      | some t =>
        simp [hs] at h; subst h
        have ih := Tr.get_set f .e t (k / 2) x hs
        have hk : k % 2 = 0 := Nat.eq_of_beq_eq_true hp
        cases j with
        | zero => simp [Tr.get]
        | succ j =>
          cases hq : Nat.beq (j % 2) 0
          · have hj : j % 2 ≠ 0 := fun e => by simp [e] at hq
            simp only [Tr.get, hq, cond_false]
            rw [if_neg (by omega)]
          · have hj : j % 2 = 0 := Nat.eq_of_beq_eq_true hq
            simp only [Tr.get, hq, cond_true, ih]
            by_cases e : j / 2 = k / 2
            · rw [if_pos e, if_pos (by omega)]
            · rw [if_neg e, if_neg (by omega)]
  | f + 1, .n o l r, t', k + 1, x, h => by
    intro j
    simp only [Tr.set] at h
    cases hp : Nat.beq (k % 2) 0 <;> simp only [hp, cond_true, cond_false] at h
    · cases hs : Tr.set f r (k / 2) x with
      | none => simp [hs] at h
      | some t =>
        simp [hs] at h; subst h
        have ih := Tr.get_set f r t (k / 2) x hs
        have hk : k % 2 ≠ 0 := fun e => by simp [e] at hp
        cases j with
        | zero => simp [Tr.get]
        | succ j =>
          cases hq : Nat.beq (j % 2) 0
          · have hj : j % 2 ≠ 0 := fun e => by simp [e] at hq
            simp only [Tr.get, hq, cond_false, ih]
            by_cases e : j / 2 = k / 2
            · rw [if_pos e, if_pos (by omega)]
            · rw [if_neg e, if_neg (by omega)]
          · have hj : j % 2 = 0 := Nat.eq_of_beq_eq_true hq
            simp only [Tr.get, hq, cond_true]
            rw [if_neg (by omega)]
    · cases hs : Tr.set f l (k / 2) x with
      | none => simp [hs] at h
      | some t =>
        simp [hs] at h; subst h
        have ih := Tr.get_set f l t (k / 2) x hs
        have hk : k % 2 = 0 := Nat.eq_of_beq_eq_true hp
        cases j with
        | zero => simp [Tr.get]
        | succ j =>
          cases hq : Nat.beq (j % 2) 0
          · have hj : j % 2 ≠ 0 := fun e => by simp [e] at hq
            simp only [Tr.get, hq, cond_false]
            rw [if_neg (by omega)]
          · have hj : j % 2 = 0 := Nat.eq_of_beq_eq_true hq
            simp only [Tr.get, hq, cond_true, ih]
            by_cases e : j / 2 = k / 2
            · rw [if_pos e, if_pos (by omega)]
            · rw [if_neg e, if_neg (by omega)]

/-- The abstract heap. -/
structure Hp where
  sz : Nat
  t : Tr SObj
def Hp.get (h : Hp) (i : Nat) : Option SObj := bif Nat.blt i h.sz then h.t.get i else none
def Hp.set (h : Hp) (i : Nat) (x : SObj) : Option Hp := bif Nat.blt i h.sz then (match Tr.set 48 h.t i x with | some t => some ⟨h.sz, t⟩ | none => none) else none
def Hp.push (h : Hp) (x : SObj) : Option Hp := match Tr.set 48 h.t h.sz x with | some t => some ⟨h.sz + 1, t⟩ | none => none
theorem blt_true {a b : Nat} (h : a < b) : Nat.blt a b = true := by rw [Nat.blt_eq]; exact h
theorem blt_false {a b : Nat} (h : b ≤ a) : Nat.blt a b = false := by
  rw [Bool.eq_false_iff]; intro e; rw [Nat.blt_eq] at e; omega
theorem lt_of_blt {a b : Nat} (h : Nat.blt a b = true) : a < b := by rw [Nat.blt_eq] at h; exact h
theorem Hp.get_ge {h : Hp} {i : Nat} (hi : h.sz ≤ i) : h.get i = none := by
  simp [Hp.get, blt_false hi]
theorem Hp.get_lt {h : Hp} {i : Nat} {x : SObj} (hi : h.get i = some x) : i < h.sz := by
  rcases Nat.lt_or_ge i h.sz with e | e
  · exact e
  · rw [Hp.get_ge e] at hi; cases hi
theorem Hp.set_sz {h h' : Hp} {i : Nat} {x : SObj} (e : h.set i x = some h') : h'.sz = h.sz := by
  unfold Hp.set at e
  cases hb : Nat.blt i h.sz <;> simp only [hb, cond_true, cond_false] at e
  · cases e
  · cases hs : Tr.set 48 h.t i x with
    | none => simp [hs] at e
    | some t => simp [hs] at e; subst e; rfl
theorem Hp.get_set {h h' : Hp} {i : Nat} {x : SObj} (e : h.set i x = some h') (j : Nat) : h'.get j = if j = i then some x else h.get j := by
  unfold Hp.set at e
  cases hb : Nat.blt i h.sz <;> simp only [hb, cond_true, cond_false] at e
  · cases e
  · cases hs : Tr.set 48 h.t i x with
    | none => simp [hs] at e
    | some t =>
      simp [hs] at e; subst e
      have hg := Tr.get_set 48 h.t t i x hs j
      unfold Hp.get
      by_cases hj : j = i
      · subst hj; simp [hb, hg]
      · simp only [hg, if_neg hj]
theorem Hp.push_sz {h h' : Hp} {x : SObj} (e : h.push x = some h') : h'.sz = h.sz + 1 := by
  unfold Hp.push at e
  cases hs : Tr.set 48 h.t h.sz x with
  | none => simp [hs] at e
  | some t => simp [hs] at e; subst e; rfl
theorem Hp.get_push {h h' : Hp} {x : SObj} (e : h.push x = some h') (j : Nat) : h'.get j = if j = h.sz then some x else h.get j := by
  unfold Hp.push at e
  cases hs : Tr.set 48 h.t h.sz x with
  | none => simp [hs] at e
  | some t =>
    simp [hs] at e; subst e
    have hg := Tr.get_set 48 h.t t h.sz x hs j
    unfold Hp.get
    by_cases hj : j = h.sz
    · subst hj
      simp [hg, blt_true (Nat.lt_succ_self h.sz)]
    · rw [if_neg hj]
      rcases Nat.lt_or_ge j h.sz with hlt | hge
      · simp [hg, hj, blt_true hlt, blt_true (Nat.lt_succ_of_lt hlt)]
      · simp [blt_false hge, blt_false (show h.sz + 1 ≤ j by omega)]

/-- Cells of a block, from a place on, are these. -/
def CRel (V : Val) (ι : Nat → Option Loc) (cs : List SV) (c : Array Value) (off : Nat) : Prop :=
  ∀ (j : Nat) (v : SV), cs[j]? = some v → v.one = true ∧ ∃ u, c[off + j]? = some u ∧ VRel V ι v u
def ORel (V : Val) (ι : Nat → Option Loc) (B : Nat) (w : World) (l : Loc) : SObj → Prop
  | .dead => True
  | .cells cs ro => ∃ c e fr, w.heap[l.blk]? = some (.cells c e fr) ∧ (ro = false → fr = (0, 0) ∧ B ≤ l.blk ∧ l.off + l.ext ≤ c.size) ∧ (cs.length ≤ l.ext ∧ (ro = true → l.blk < B ∧ fr = (0, 0))) ∧ CRel V ι cs c l.off
structure HRel (V : Val) (ι : Nat → Option Loc) (B : Nat) (σ : Hp) (w : World) : Prop where
  base : B ≤ w.heap.size
  obj : ∀ (id : Nat) (o : SObj) (l : Loc), σ.get id = some o → ι id = some l → ORel V ι B w l o
  inj : ∀ (id id' : Nat) (cs cs' : List SV) (ro ro' : Bool) (l l' : Loc), σ.get id = some (.cells cs ro) → σ.get id' = some (.cells cs' ro') → id ≠ id' → ι id = some l → ι id' = some l' → l.blk ≠ l'.blk ∨ (ro = true ∧ ro' = true ∧ l.off ≠ l'.off)
  dom : ∀ id, σ.sz ≤ id → ι id = none
/-- A block that an object owns. -/
def Owned (ι : Nat → Option Loc) (σ : Hp) (b : Nat) : Prop := ∃ id cs l, σ.get id = some (.cells cs false) ∧ ι id = some l ∧ l.blk = b
/-- How a step leaves things. -/
structure Ext (ι : Nat → Option Loc) (σ : Hp) (w : World) (ι' : Nat → Option Loc) (σ' : Hp) (w' : World) : Prop where
  keep : ∀ id, id < σ.sz → ι' id = ι id
  slen : σ.sz ≤ σ'.sz
  size : w.heap.size ≤ w'.heap.size
  os : w'.os = w.os
  tape : w'.tape = w.tape
  output : w'.output = w.output
  frame : ∀ b, b < w.heap.size → ¬ Owned ι σ b → w'.heap[b]? = w.heap[b]?
  own : ∀ b, b < w.heap.size → Owned ι' σ' b → Owned ι σ b
  untouched : ∀ id, id < σ.sz → ι id = none → σ'.get id = σ.get id
  frz : ∀ a, w'.frozen? a = w.frozen? a
theorem Ext.refl (ι : Nat → Option Loc) (σ : Hp) (w : World) : Ext ι σ w ι σ w :=
  ⟨fun _ _ => rfl, Nat.le_refl _, Nat.le_refl _, rfl, rfl, rfl, fun _ _ _ => rfl, fun _ _ h => h, fun _ _ _ => rfl, fun _ => rfl⟩
theorem Ext.trans {ι ι' ι'' : Nat → Option Loc} {σ σ' σ'' : Hp} {w w' w'' : World} (h : Ext ι σ w ι' σ' w') (h' : Ext ι' σ' w' ι'' σ'' w'') : Ext ι σ w ι'' σ'' w'' where
  keep id hid := (h'.keep id (Nat.lt_of_lt_of_le hid h.slen)).trans (h.keep id hid)
  slen := Nat.le_trans h.slen h'.slen
  size := Nat.le_trans h.size h'.size
  os := h'.os.trans h.os
  tape := h'.tape.trans h.tape
  output := h'.output.trans h.output
  frame b hb ho := (h'.frame b (Nat.lt_of_lt_of_le hb h.size) fun o => ho (h.own b hb o)).trans (h.frame b hb ho)
  own b hb ho := h.own b hb (h'.own b (Nat.lt_of_lt_of_le hb h.size) ho)
  untouched id hid hn := (h'.untouched id (Nat.lt_of_lt_of_le hid h.slen) (by rw [h.keep id hid]; exact hn)).trans (h.untouched id hid hn)
  frz a := (h'.frz a).trans (h.frz a)
theorem Ext.mono {V : Val} {B : Nat} {ι ι' : Nat → Option Loc} {σ σ' : Hp} {w w' : World} (h : Ext ι σ w ι' σ' w') (hr : HRel V ι B σ w) : ∀ id l, ι id = some l → ι' id = some l := by
  intro id l hl
  by_cases hid : id < σ.sz
  · rw [h.keep id hid]; exact hl
  · rw [hr.dom id (Nat.le_of_not_lt hid)] at hl; cases hl
end Go.Sx
