/- The symbolic machine's operations that leave memory alone, and that the model's operations do as they say. No condition: lemmas of the machine. -/
import Derived.Test.YtagaclifeoiepaaSxAppend
import Derived.Laws.Strings
namespace Go.Sx
set_option linter.unusedVariables false

/-- Operands. -/
inductive X where
  | t (i : Nat)
  | c (v : SV)
  | f (i : Nat)
  | g (i : Nat)
inductive POp where
  | mv (x : X)
  | build (zero : List SV) (fills : List (Nat × Nat × X))
  | nilCheck (x : X)
  | bin (cls : Nat) (op : BinOp) (x y : X)
  | nilEq (cls : Nat) (neg : Bool) (x y : X)
  | un (op : UnOp) (x : X)
  | conv (k : IntKind) (x : X)
  | mkIface (t : Nat) (x : X)
  | mkFunc (f : Nat) (first caps : List X)
  | slice (sz : Nat) (x : X) (lo hi : Option X)
  | fieldAddr (off : Nat) (x : X)
  | field (agg : Bool) (off n : Nat) (x : X)
  | idxArr (n sz : Nat) (x i : X)
  | idxSl (sz : Nat) (x i : X)
  | index (agg : Bool) (n sz : Nat) (x i : X)
  | extract (i : Nat) (x : X)
  | idxStr (x i : X)
  | lenS (x : X)
  | lenStr (x : X)
  | lenN (n : Nat)
  | tyAs (t : Nat) (ok : Bool) (zero : SV) (x : X)
  | mx (x y : X)
  | mn (x y : X)

def Int.ble1 (a b : Int) : Bool :=
  match b - a with
  | .ofNat _ => true
  | .negSucc _ => false
theorem Int.ble1_iff (a b : Int) : Int.ble1 a b = true ↔ a ≤ b := by
  unfold Int.ble1
  constructor
  · intro h; split at h
    · rename_i n e; have h0 : (0 : Int) ≤ Int.ofNat n := Int.natCast_nonneg n; omega
    · cases h
  · intro h; split
    · rfl
    · rename_i n e; omega
def inKind (k : IntKind) (n : Int) : Bool :=
  match k with
  | .i64 => Int.ble1 (-9223372036854775808) n && Int.ble1 n 9223372036854775807
  | .u32 => Int.ble1 0 n && Int.ble1 n 4294967295
  | .u64 => Int.ble1 0 n && Int.ble1 n 18446744073709551615
  | .u8 => Int.ble1 0 n && Int.ble1 n 255
  | _ => false
def wrapF (k : IntKind) (n : Int) : Int := bif inKind k n then n else k.wrap n
theorem wrapF_eq (k : IntKind) (n : Int) : wrapF k n = k.wrap n := by
  unfold wrapF
  cases h : inKind k n
  · rfl
  · cases k <;> simp [inKind, Int.ble1_iff] at h <;> simp [IntKind.wrap, IntKind.bits, IntKind.signed] <;> omega
def binF (op : BinOp) (k : IntKind) (x y : Int) : Int :=
  match op with
  | .add => wrapF k (x + y)
  | .sub => wrapF k (x - y)
  | .mul => wrapF k (x * y)
  | _ => binI op k x y
theorem binF_eq (op : BinOp) (k : IntKind) (x y : Int) : binF op k x y = binI op k x y := by
  cases op <;> simp [binF, binI, wrapF_eq]
def mkBin (op : BinOp) (k : IntKind) (a b : SE) : SE :=
  match a, b with
  | .lit x, .lit y => .lit (binF op k x y)
  | a, b => .bin op k a b
theorem mkBin_den (V : Val) (op : BinOp) (k : IntKind) (a b : SE) : (mkBin op k a b).den V = binI op k (a.den V) (b.den V) := by
  unfold mkBin
  split
  · simp [SE.den, binF_eq]
  · simp [SE.den]
def mkCv (k : IntKind) (a : SE) : SE :=
  match a with
  | .lit x => .lit (wrapF k x)
  | a => .cv k a
theorem mkCv_den (V : Val) (k : IntKind) (a : SE) : (mkCv k a).den V = k.wrap (a.den V) := by
  unfold mkCv
  split
  · simp [SE.den, wrapF_eq]
  · simp [SE.den]
def SE.same : SE → SE → Bool
  | .lit a, .lit b => decide (a = b)
  | .var i, .var j => Nat.beq i j
  | .bin o k a b, .bin o' k' a' b' => decide (o = o') && decide (k = k') && a.same a' && b.same b'
  | .cv k a, .cv k' a' => decide (k = k') && a.same a'
  | _, _ => false
theorem SE.same_eq : ∀ {a b : SE}, a.same b = true → a = b
  | .lit a, b, h => by cases b <;> simp [SE.same] at h; subst h; rfl
  | .var i, b, h => by cases b <;> simp [SE.same] at h; subst h; rfl
  | .bin o k a b, c, h => by
    cases c <;> simp [SE.same] at h
    obtain ⟨⟨⟨rfl, rfl⟩, h1⟩, h2⟩ := h
    rw [SE.same_eq h1, SE.same_eq h2]
  | .cv k a, c, h => by
    cases c <;> simp [SE.same] at h
    obtain ⟨rfl, h1⟩ := h
    rw [SE.same_eq h1]
/-- An equality, with what is written out on the right. -/
def eqOrd (a b : SE) : SB :=
  match a with
  | .lit x => .cmp .eql b (.lit x)
  | a => .cmp .eql a b
theorem eqOrd_den (V : Val) (a b : SE) : (eqOrd a b).den V = (a.den V == b.den V) := by
  unfold eqOrd
  split
  · simp only [SB.den, cmpI, SE.den]; rw [Bool.eq_iff_iff]; simp; exact eq_comm
  · rfl
def mkCmp1 (op : BinOp) (a b : SE) : SB :=
  match op with
  | .eql => eqOrd a b
  | .neq => .not (eqOrd a b)
  | .lss => .cmp .lss a b
  | .geq => .not (.cmp .lss a b)
  | .gtr => .cmp .lss b a
  | .leq => .not (.cmp .lss b a)
  | op => .cmp op a b
theorem mkCmp1_den (V : Val) (op : BinOp) (a b : SE) : (mkCmp1 op a b).den V = cmpI op (a.den V) (b.den V) := by
  unfold mkCmp1
  split <;> simp only [SB.den, cmpI, eqOrd_den]
  · rfl
  · rw [Bool.eq_iff_iff]; simp
  · rw [Bool.eq_iff_iff]; simp
def mkCmp (op : BinOp) (a b : SE) : SB :=
  match a, b with
  | .lit x, .lit y => .lit (cmpI op x y)
  | a, b => bif a.same b then .lit (cmpI op 0 0) else mkCmp1 op a b
theorem cmpI_self (op : BinOp) (x : Int) : cmpI op x x = cmpI op 0 0 := by cases op <;> simp [cmpI]
theorem mkCmp_den (V : Val) (op : BinOp) (a b : SE) : (mkCmp op a b).den V = cmpI op (a.den V) (b.den V) := by
  unfold mkCmp
  split
  · simp [SB.den, SE.den]
  · cases h : a.same b
    · simp [mkCmp1_den]
    · rw [SE.same_eq h]
      simp [SB.den, cmpI_self op (b.den V)]
def mkNot : SB → SB
  | .lit b => .lit (!b)
  | .not a => a
  | a => .not a
theorem mkNot_den (V : Val) (a : SB) : (mkNot a).den V = !(a.den V) := by
  cases a <;> simp [mkNot, SB.den]
def mkEq : SB → SB → SB
  | .lit true, b => b
  | .lit false, b => mkNot b
  | a, .lit true => a
  | a, .lit false => mkNot a
  | a, b => .eq a b
theorem mkEq_den (V : Val) (a b : SB) : (mkEq a b).den V = (a.den V == b.den V) := by
  unfold mkEq
  split <;> simp [SB.den, mkNot_den]
def mkAnd : SB → SB → SB
  | .lit true, b => b
  | .lit false, _ => .lit false
  | a, .lit true => a
  | a, b => .and a b
theorem mkAnd_den (V : Val) (a b : SB) : (mkAnd a b).den V = (a.den V && b.den V) := by
  unfold mkAnd
  split <;> simp [SB.den]

def isArith : BinOp → Bool
  | .add | .sub | .mul | .and | .or | .xor | .andNot => true
  | _ => false
def isCmp : BinOp → Bool
  | .eql | .neq | .lss | .leq | .gtr | .geq => true
  | _ => false
def isShift : BinOp → Bool
  | .shl | .shr => true
  | _ => false
def isDiv : BinOp → Bool
  | .quo | .rem => true
  | _ => false

def SB.same : SB → SB → Bool
  | .lit a, .lit b => a == b
  | .var i, .var j => Nat.beq i j
  | .cmp o a b, .cmp o' a' b' => decide (o = o') && a.same a' && b.same b'
  | .eq a b, .eq a' b' => a.same a' && b.same b'
  | .not a, .not a' => a.same a'
  | .and a b, .and a' b' => a.same a' && b.same b'
  | _, _ => false
theorem SB.same_eq : ∀ {a b : SB}, a.same b = true → a = b
  | .lit a, b, h => by cases b <;> simp [SB.same] at h; subst h; rfl
  | .var i, b, h => by cases b <;> simp [SB.same] at h; subst h; rfl
  | .cmp o a b, c, h => by
    cases c <;> simp [SB.same] at h
    obtain ⟨⟨rfl, h1⟩, h2⟩ := h
    rw [SE.same_eq h1, SE.same_eq h2]
  | .eq a b, c, h => by
    cases c <;> simp [SB.same] at h
    rw [SB.same_eq h.1, SB.same_eq h.2]
  | .not a, c, h => by
    cases c <;> simp [SB.same] at h
    rw [SB.same_eq h]
  | .and a b, c, h => by
    cases c <;> simp [SB.same] at h
    rw [SB.same_eq h.1, SB.same_eq h.2]

abbrev PC := List (SB × Bool)
def PC.find : PC → SB → Option Bool
  | [], _ => none
  | (b, v) :: l, a => bif a.same b then some v else PC.find l a
def PC.holds (V : Val) (pc : PC) : Prop := ∀ p ∈ pc, p.1.den V = p.2
theorem PC.find_den {V : Val} : ∀ {pc : PC} {a : SB} {v : Bool}, pc.holds V → pc.find a = some v → a.den V = v
  | [], a, v, h, hf => by simp [PC.find] at hf
  | (b, u) :: l, a, v, h, hf => by
    unfold PC.find at hf
    cases hs : a.same b <;> simp only [hs, cond_true, cond_false] at hf
    · exact PC.find_den (fun p hp => h p (List.mem_cons_of_mem _ hp)) hf
    · cases hf
      rw [SB.same_eq hs]
      exact h (b, u) (List.mem_cons_self ..)
def loMax : Option Int → Option Int → Option Int
  | none, b => b
  | some x, none => some x
  | some x, some y => some (bif Int.ble1 x y then y else x)
def hiMin : Option Int → Option Int → Option Int
  | none, b => b
  | some x, none => some x
  | some x, some y => some (bif Int.ble1 x y then x else y)
def isLo (o : Option Int) (z : Int) : Prop := ∀ n, o = some n → n ≤ z
def isHi (o : Option Int) (z : Int) : Prop := ∀ n, o = some n → z ≤ n
theorem isLo_max {a b : Option Int} {z : Int} (h : isLo a z) (h' : isLo b z) : isLo (loMax a b) z := by
  intro n hn
  unfold loMax at hn
  split at hn
  · exact h' n hn
  · exact h n hn
  · rename_i x y
    have h1 := h x rfl
    have h2 := h' y rfl
    cases hb : Int.ble1 x y <;> simp [hb] at hn <;> omega
theorem isHi_min {a b : Option Int} {z : Int} (h : isHi a z) (h' : isHi b z) : isHi (hiMin a b) z := by
  intro n hn
  unfold hiMin at hn
  split at hn
  · exact h' n hn
  · exact h n hn
  · rename_i x y
    have h1 := h x rfl
    have h2 := h' y rfl
    cases hb : Int.ble1 x y <;> simp [hb] at hn <;> omega
theorem isLo_none (z : Int) : isLo none z := fun n h => by cases h
theorem isHi_none (z : Int) : isHi none z := fun n h => by cases h
theorem isLo_some {x z : Int} (h : x ≤ z) : isLo (some x) z := fun n e => by cases e; exact h
theorem isHi_some {x z : Int} (h : z ≤ x) : isHi (some x) z := fun n e => by cases e; exact h
theorem wrap_in (k : IntKind) (n : Int) : k.min ≤ k.wrap n ∧ k.wrap n ≤ k.max := by
  cases k <;> simp only [IntKind.wrap, IntKind.min, IntKind.max, IntKind.bits, IntKind.signed] <;> simp <;> (try split) <;> omega
/-- Bounds, by how a number is made. -/
def SE.rng : SE → Option Int × Option Int
  | .lit n => (some n, some n)
  | .cv k _ => (some k.min, some k.max)
  | .bin .and k _ (.lit m) => bif Int.ble1 0 m && Int.ble1 m k.max then (some 0, some m) else (some k.min, some k.max)
  | .bin .shr k a (.lit s) => match a.rng with
    | (lo, hi) => (lo.map fun x => x.fdiv (2 ^ (min s.toNat k.bits)), hi.map fun x => x.fdiv (2 ^ (min s.toNat k.bits)))
  | .bin op k _ _ => bif isArith op then (some k.min, some k.max) else match op with
    | .shl => (some k.min, some k.max)
    | _ => (none, none)
  | .var _ => (none, none)
theorem and_max (k : IntKind) (x n : Int) (h0 : 0 ≤ n) (h1 : n ≤ k.max) : 0 ≤ binI .and k x n ∧ binI .and k x n ≤ n := by
  have hle : (BitVec.ofInt k.bits x &&& BitVec.ofInt k.bits n).toNat ≤ (BitVec.ofInt k.bits n).toNat := by
    rw [BitVec.toNat_and]; exact Nat.and_le_right
  have hn : ((BitVec.ofInt k.bits n).toNat : Int) ≤ n := by
    rw [BitVec.toNat_ofInt]
    cases k <;> simp [IntKind.bits] <;> omega
  simp only [binI]
  generalize (BitVec.ofInt k.bits x &&& BitVec.ofInt k.bits n).toNat = m at hle
  have hm : (m : Int) ≤ n := Int.le_trans (Int.ofNat_le.2 hle) hn
  revert h1
  cases k <;> simp [IntKind.wrap, IntKind.bits, IntKind.signed, IntKind.max] <;> intro h1 <;> (try split) <;> omega
theorem fdiv_mono {x y c : Int} (hc : 0 < c) (h : x ≤ y) : x.fdiv c ≤ y.fdiv c := by
  rw [Int.fdiv_eq_ediv_of_nonneg _ (by omega), Int.fdiv_eq_ediv_of_nonneg _ (by omega)]
  exact Int.ediv_le_ediv hc h
theorem SE.rng_den (V : Val) : ∀ e : SE, isLo e.rng.1 (e.den V) ∧ isHi e.rng.2 (e.den V)
  | .lit n => ⟨isLo_some (Int.le_refl _), isHi_some (Int.le_refl _)⟩
  | .cv k a => ⟨isLo_some (wrap_in k _).1, isHi_some (wrap_in k _).2⟩
  | .var i => ⟨isLo_none _, isHi_none _⟩
  | .bin op k a b => by
    have gen : isArith op = true → k.min ≤ (SE.bin op k a b).den V ∧ (SE.bin op k a b).den V ≤ k.max := by
      intro h
      cases op <;> simp [isArith] at h <;> exact wrap_in k _
    unfold SE.rng
    split
    · rename_i h; cases h
    · rename_i h; cases h
    · rename_i k' a' m h
      cases h
      cases hb : (Int.ble1 0 m && Int.ble1 m k.max)
      · exact ⟨isLo_some (gen rfl).1, isHi_some (gen rfl).2⟩
      · simp only [Bool.and_eq_true, Int.ble1_iff] at hb
        have := and_max k (a.den V) m hb.1 hb.2
        exact ⟨isLo_some this.1, isHi_some this.2⟩
    · rename_i k' a' s h
      cases h
      obtain ⟨h1, h2⟩ := SE.rng_den V a
      have hp : (0 : Int) < 2 ^ (min s.toNat k.bits) := by
        have : (0 : Nat) < 2 ^ (min s.toNat k.bits) := Nat.two_pow_pos _
        have h3 := Int.ofNat_lt.2 this
        simpa using h3
      refine ⟨fun n hn => ?_, fun n hn => ?_⟩
      · simp only at hn
        cases h3 : a.rng.1 with
        | none => simp [h3] at hn
        | some x =>
          simp [h3] at hn
          subst hn
          exact fdiv_mono hp (h1 x h3)
      · simp only at hn
        cases h3 : a.rng.2 with
        | none => simp [h3] at hn
        | some x =>
          simp [h3] at hn
          subst hn
          exact fdiv_mono hp (h2 x h3)
    · rename_i op' k' a' b' _ _ h
      cases h
      cases hi : isArith op
      · simp only [cond_false]
        split
        · exact ⟨isLo_some (wrap_in k _).1, isHi_some (wrap_in k _).2⟩
        · exact ⟨isLo_none _, isHi_none _⟩
      · exact ⟨isLo_some (gen hi).1, isHi_some (gen hi).2⟩
    · rename_i h; cases h
/-- What a decided truth says of a number: not below, not above. -/
def factLo (e : SE) : SB × Bool → Option Int
  | (.cmp .lss a (.lit n), false) => bif a.same e then some n else none
  | (.cmp .lss (.lit n) b, true) => bif b.same e then some (n + 1) else none
  | (.cmp .eql a (.lit n), true) => bif a.same e then some n else none
  | _ => none
def factHi (e : SE) : SB × Bool → Option Int
  | (.cmp .lss a (.lit n), true) => bif a.same e then some (n - 1) else none
  | (.cmp .lss (.lit n) b, false) => bif b.same e then some n else none
  | (.cmp .eql a (.lit n), true) => bif a.same e then some n else none
  | _ => none
def PC.lo : PC → SE → Option Int
  | [], e => e.rng.1
  | p :: l, e => loMax (factLo e p) (PC.lo l e)
def PC.hi : PC → SE → Option Int
  | [], e => e.rng.2
  | p :: l, e => hiMin (factHi e p) (PC.hi l e)
theorem factLo_den {V : Val} {e : SE} {p : SB × Bool} (h : p.1.den V = p.2) : isLo (factLo e p) (e.den V) := by
  intro n hn
  unfold factLo at hn
  split at hn
  · rename_i a m
    cases hs : a.same e <;> simp [hs] at hn
    subst hn
    rw [← SE.same_eq hs]
    have h2 : decide (a.den V < m) = false := h
    have := of_decide_eq_false h2
    omega
  · rename_i m b
    cases hs : b.same e <;> simp [hs] at hn
    subst hn
    rw [← SE.same_eq hs]
    have h2 : decide (m < b.den V) = true := h
    have := of_decide_eq_true h2
    omega
  · rename_i a m
    cases hs : a.same e <;> simp [hs] at hn
    subst hn
    rw [← SE.same_eq hs]
    have : a.den V = m := by simpa [SB.den, cmpI, SE.den] using h
    omega
  · cases hn
theorem factHi_den {V : Val} {e : SE} {p : SB × Bool} (h : p.1.den V = p.2) : isHi (factHi e p) (e.den V) := by
  intro n hn
  unfold factHi at hn
  split at hn
  · rename_i a m
    cases hs : a.same e <;> simp [hs] at hn
    subst hn
    rw [← SE.same_eq hs]
    have h2 : decide (a.den V < m) = true := h
    have := of_decide_eq_true h2
    omega
  · rename_i m b
    cases hs : b.same e <;> simp [hs] at hn
    subst hn
    rw [← SE.same_eq hs]
    have h2 : decide (m < b.den V) = false := h
    have := of_decide_eq_false h2
    omega
  · rename_i a m
    cases hs : a.same e <;> simp [hs] at hn
    subst hn
    rw [← SE.same_eq hs]
    have : a.den V = m := by simpa [SB.den, cmpI, SE.den] using h
    omega
  · cases hn
theorem PC.lo_den {V : Val} : ∀ {pc : PC} {e : SE}, pc.holds V → isLo (pc.lo e) (e.den V)
  | [], e, h => (SE.rng_den V e).1
  | p :: l, e, h => isLo_max (factLo_den (h p (List.mem_cons_self ..))) (PC.lo_den fun q hq => h q (List.mem_cons_of_mem _ hq))
theorem PC.hi_den {V : Val} : ∀ {pc : PC} {e : SE}, pc.holds V → isHi (pc.hi e) (e.den V)
  | [], e, h => (SE.rng_den V e).2
  | p :: l, e, h => isHi_min (factHi_den (h p (List.mem_cons_self ..))) (PC.hi_den fun q hq => h q (List.mem_cons_of_mem _ hq))
def ltO : Option Int → Option Int → Bool
  | some x, some y => Int.ble1 (x + 1) y
  | _, _ => false
def leO : Option Int → Option Int → Bool
  | some x, some y => Int.ble1 x y
  | _, _ => false
/-- The one number that it can be. -/
def PC.one (pc : PC) (e : SE) : Option Int :=
  match pc.lo e with
  | some x => match pc.hi e with
    | some y => bif Int.ble1 y x then some x else none
    | none => none
  | none => none
theorem PC.one_den {V : Val} {pc : PC} (h : pc.holds V) {e : SE} {n : Int} (he : pc.one e = some n) : e.den V = n := by
  unfold PC.one at he
  split at he
  case h_2 => cases he
  rename_i x hx
  split at he
  case h_2 => cases he
  rename_i y hy
  cases hb : Int.ble1 y x <;> simp [hb] at he
  subst he
  have h1 := PC.lo_den h _ hx
  have h2 := PC.hi_den h _ hy
  have h3 := (Int.ble1_iff _ _).1 hb
  omega
/-- What is known of a truth already. -/
def PC.known (pc : PC) : SB → Option Bool
  | .cmp .lss a b => match pc.find (.cmp .lss b a) with
    | some true => some false
    | _ => bif ltO (pc.hi a) (pc.lo b) then some true else bif leO (pc.hi b) (pc.lo a) then some false else none
  | .cmp .eql a b => bif ltO (pc.hi a) (pc.lo b) || ltO (pc.hi b) (pc.lo a) then some false else
      (match pc.one a with
      | some x => match pc.one b with
        | some y => bif Int.ble1 x y && Int.ble1 y x then some true else none
        | none => none
      | none => none)
  | _ => none
theorem ltO_den {a b : Option Int} {x y : Int} (h : ltO a b = true) (ha : isHi a x) (hb : isLo b y) : x < y := by
  unfold ltO at h
  split at h
  · rw [Int.ble1_iff] at h
    have := ha _ rfl
    have := hb _ rfl
    omega
  · cases h
theorem leO_den {a b : Option Int} {x y : Int} (h : leO a b = true) (ha : isHi a x) (hb : isLo b y) : x ≤ y := by
  unfold leO at h
  split at h
  · rw [Int.ble1_iff] at h
    have := ha _ rfl
    have := hb _ rfl
    omega
  · cases h
theorem PC.known_den {V : Val} {pc : PC} (h : pc.holds V) {e : SB} {v : Bool} (he : pc.known e = some v) : e.den V = v := by
  unfold PC.known at he
  split at he
  · rename_i a b
    split at he
    · rename_i hf
      cases he
      have := PC.find_den h hf
      simp only [SB.den, cmpI, decide_eq_true_eq, decide_eq_false_iff_not] at this ⊢
      omega
    · cases h1 : ltO (pc.hi a) (pc.lo b) <;> simp only [h1, cond_true, cond_false] at he
      · cases h2 : leO (pc.hi b) (pc.lo a) <;> simp only [h2, cond_true, cond_false] at he
        · cases he
        cases he
        have := leO_den h2 (PC.hi_den h) (PC.lo_den h)
        simp only [SB.den, cmpI, decide_eq_false_iff_not]
        omega
      · cases he
        have := ltO_den h1 (PC.hi_den h) (PC.lo_den h)
        simp only [SB.den, cmpI, decide_eq_true_eq]
        exact this
  · rename_i a b
    cases h1 : (ltO (pc.hi a) (pc.lo b) || ltO (pc.hi b) (pc.lo a)) <;> simp only [h1, cond_true, cond_false] at he
    · split at he
      case h_2 => cases he
      rename_i x hx
      split at he
      case h_2 => cases he
      rename_i y hy
      cases h2 : (Int.ble1 x y && Int.ble1 y x) <;> simp only [h2, cond_true, cond_false] at he
      · cases he
      cases he
      simp only [Bool.and_eq_true, Int.ble1_iff] at h2
      simp only [SB.den, cmpI, beq_iff_eq, PC.one_den h hx, PC.one_den h hy]
      omega
    · cases he
      simp only [Bool.or_eq_true] at h1
      simp only [SB.den, cmpI, beq_eq_false_iff_ne, ne_eq]
      rcases h1 with h1 | h1
      · have := ltO_den h1 (PC.hi_den h) (PC.lo_den h); omega
      · have := ltO_den h1 (PC.hi_den h) (PC.lo_den h); omega
  · cases he

/-- A divisor that is surely not 0. -/
def nonZero (pc : PC) : SE → Bool
  | .lit n => !(decide (n = 0))
  | e => match pc.find (.cmp .eql e (.lit 0)) with
    | some false => true
    | _ => match pc.find (.cmp .neq e (.lit 0)) with
      | some true => true
      | _ => false
theorem nonZero_den {V : Val} {pc : PC} (h : pc.holds V) {e : SE} (hn : nonZero pc e = true) : e.den V ≠ 0 := by
  unfold nonZero at hn
  split at hn
  · simpa [SE.den] using hn
  · split at hn
    · rename_i hf
      have := PC.find_den h hf
      simpa [SB.den, cmpI, SE.den] using this
    · split at hn
      · rename_i hf
        have := PC.find_den h hf
        simpa [SB.den, cmpI, SE.den] using this
      · cases hn
/-- A shift's count that is surely not below 0. -/
def notNeg : SE → Bool
  | .lit n => Int.ble1 0 n
  | .bin .and k _ (.lit n) => !k.signed || (Int.ble1 0 n && Int.ble1 n 127)
  | .bin op k _ _ => isArith op && !k.signed
  | .cv k _ => !k.signed
  | _ => false

def nonZeroP (pc : PC) (e : SE) : Bool := nonZero pc e || ltO (some 0) (pc.lo e) || ltO (pc.hi e) (some 0)
theorem nonZeroP_den {V : Val} {pc : PC} (h : pc.holds V) {e : SE} (hn : nonZeroP pc e = true) : e.den V ≠ 0 := by
  unfold nonZeroP at hn
  simp only [Bool.or_eq_true] at hn
  rcases hn with (hn | hn) | hn
  · exact nonZero_den h hn
  · have := ltO_den hn (isHi_some (Int.le_refl 0)) (PC.lo_den h); omega
  · have := ltO_den hn (PC.hi_den h) (isLo_some (Int.le_refl 0)); omega
def notNegP (pc : PC) (e : SE) : Bool := notNeg e || leO (some 0) (pc.lo e)
def eqStr (a b : ByteArray) : Bool := a.data.toList == b.data.toList
/-- Whether two lists of cells are equal, where all are whole numbers of one kind, or truths. -/
def eqCells : List SV → List SV → Option SB
  | [], [] => some (.lit true)
  | .int k a :: l, .int k' b :: l' => bif decide (k = k') then (match eqCells l l' with | some r => some (mkAnd (mkCmp .eql a b) r) | none => none) else none
  | .bool a :: l, .bool b :: l' => (match eqCells l l' with | some r => some (mkAnd (mkEq a b) r) | none => none)
  | _, _ => none

/-- Is it nil, of a pointer's (0), a slice's (1), a function's (2) type? -/
def isNil : Nat → SV → Option Bool
  | 0, .nilPtr => some true
  | 0, .ptr .. => some false
  | 1, .nilSlice => some true
  | 1, .slice .. => some false
  | 2, .nilFunc => some true
  | 2, .func .. => some false
  | _, _ => none
/-- Two values of whole numbers' (0), truths' (1), strings' (2) types. -/
def evBin (pc : PC) (op : BinOp) : Nat → SV → SV → Option SV
  | 0, .int k a, .int k' b =>
    bif isShift op then (bif notNegP pc b then some (.int k (mkBin op k a b)) else none)
    else bif !(decide (k = k')) then none
    else bif isArith op then some (.int k (mkBin op k a b))
    else bif isCmp op then some (.bool (mkCmp op a b))
    else bif isDiv op then (bif nonZeroP pc b then some (.int k (mkBin op k a b)) else none)
    else none
  | 1, .bool a, .bool b => match op with
    | .eql => some (.bool (mkEq a b))
    | .neq => some (.bool (mkNot (mkEq a b)))
    | _ => none
  | 2, .str a, .str b => match op with
    | .eql => some (.bool (.lit (eqStr a b)))
    | .neq => some (.bool (.lit (!(eqStr a b))))
    | _ => none
  | _, _, _ => none

def subL (cs : List SV) (off n : Nat) : Option (List SV) := bif Nat.ble (off + n) cs.length then some ((cs.drop off).take n) else none
def partV (agg : Bool) (off n : Nat) (cs : List SV) : Option SV :=
  bif agg then (match subL cs off n with | some l => some (.agg l) | none => none) else cs[off]?
def fillV : List SV → List (Nat × Nat × SV) → Option (List SV)
  | cells, [] => some cells
  | cells, (off, n, v) :: rest =>
    bif Nat.beq v.cells.length n && Nat.ble (off + n) cells.length then fillV (cells.take off ++ v.cells ++ cells.drop (off + n)) rest else none
def litNat : SV → Option Nat
  | .int _ (.lit (.ofNat n)) => some n
  | _ => none
def optNat : Option SV → Nat → Option Nat
  | none, d => some d
  | some v, _ => litNat v
def cons? {α : Type} : Option α → Option (List α) → Option (List α)
  | some a, some l => some (a :: l)
  | _, _ => none
def readAll (rd : X → Option SV) : List X → Option (List SV)
  | [] => some []
  | x :: xs => cons? (rd x) (readAll rd xs)
def readFills (rd : X → Option SV) : List (Nat × Nat × X) → Option (List (Nat × Nat × SV))
  | [] => some []
  | (a, b, x) :: xs => cons? (match rd x with | some v => some (a, b, v) | none => none) (readFills rd xs)
def readOpt (rd : X → Option SV) : Option X → Option (Option SV)
  | none => some none
  | some x => match rd x with | some v => some (some v) | none => none

/-- A number that is written out, or known. -/
def litNatP (pc : PC) (v : SV) : Option Nat :=
  match v with
  | .int _ (.lit (.ofNat n)) => some n
  | .int _ e => match pc.one e with
    | some (.ofNat n) => some n
    | _ => none
  | _ => none
def optNatP (pc : PC) : Option SV → Nat → Option Nat
  | none, d => some d
  | some v, _ => litNatP pc v
def evP (rd : X → Option SV) (pc : PC) : POp → Option SV
  | .mv x => rd x
  | .build zero fills => match readFills rd fills with
    | some l => match fillV zero l with
      | some cs => some (.agg cs)
      | none => none
    | none => none
  | .nilCheck x => match rd x with
    | some (.ptr id o) => some (.ptr id o)
    | some (.iface t v) => some (.iface t v)
    | some (.func (.func f) a b) => some (.func (.func f) a b)
    | _ => none
  | .bin cls op x y => match rd x, rd y with
    | some a, some b => evBin pc op cls a b
    | _, _ => none
  | .nilEq cls neg x y => match rd x, rd y with
    | some a, some b => match isNil cls a, isNil cls b with
      | some true, some c => some (.bool (.lit (neg != c)))
      | some c, some true => some (.bool (.lit (neg != c)))
      | _, _ => none
    | _, _ => none
  | .un op x => match op, rd x with
    | .neg, some (.int k a) => some (.int k (mkBin .sub k (.lit 0) a))
    | .xor, some (.int k a) => some (.int k (mkBin .xor k (.lit (if k.signed then -1 else k.max)) a))
    | .not, some (.bool b) => some (.bool (mkNot b))
    | _, _ => none
  | .conv k x => match rd x with
    | some (.int _ a) => some (.int k (mkCv k a))
    | _ => none
  | .mkIface t x => match rd x with
    | some v => some (.iface t v)
    | none => none
  | .mkFunc f first caps => match readAll rd first, readAll rd caps with
    | some a, some b => some (.func (.func f) a b)
    | _, _ => none
  | .slice sz x lo hi => match rd x, readOpt rd lo, readOpt rd hi with
    | some (.slice id o len cap sz'), some lo, some hi => match optNatP pc lo 0, optNatP pc hi len with
      | some l, some h => bif Nat.beq sz sz' && Nat.ble h cap && Nat.ble l h then some (.slice id (o + l * sz) (h - l) (cap - l) sz) else none
      | _, _ => none
    | some .nilSlice, some lo, some hi => match optNatP pc lo 0, optNatP pc hi 0 with
      | some 0, some 0 => some .nilSlice
      | _, _ => none
    | _, _, _ => none
  | .fieldAddr off x => match rd x with
    | some (.ptr id o) => some (.ptr id (o + off))
    | _ => none
  | .field agg off n x => match rd x with
    | some (.agg cs) => partV agg off n cs
    | _ => none
  | .idxArr n sz x i => match rd x, rd i with
    | some (.ptr id o), some j => match litNatP pc j with
      | some k => bif Nat.blt k n then some (.ptr id (o + k * sz)) else none
      | none => none
    | _, _ => none
  | .idxSl sz x i => match rd x, rd i with
    | some (.slice id o len _ sz'), some j => match litNatP pc j with
      | some k => bif Nat.blt k len && Nat.beq sz sz' then some (.ptr id (o + k * sz)) else none
      | none => none
    | _, _ => none
  | .index agg n sz x i => match rd x, rd i with
    | some (.agg cs), some j => match litNatP pc j with
      | some k => bif Nat.blt k n then partV agg (k * sz) sz cs else none
      | none => none
    | _, _ => none
  | .idxStr x i => match rd x, rd i with
    | some (.str s), some j => match litNatP pc j with
      | some k => match s.data.toList[k]? with
        | some b => some (.int .u8 (.lit (.ofNat b.toNat)))
        | none => none
      | none => none
    | _, _ => none
  | .extract i x => match rd x with
    | some (.tuple vs) => vs[i]?
    | _ => none
  | .tyAs t ok zero x => match rd x with
    | some .nilIface => bif ok then some (.tuple [zero, .bool (.lit false)]) else none
    | some (.iface u v) => bif Nat.beq u t then (bif ok then some (.tuple [v, .bool (.lit true)]) else some v)
      else (bif ok then some (.tuple [zero, .bool (.lit false)]) else none)
    | _ => none
  | .lenS x => match rd x with
    | some (.slice _ _ len _ _) => some (.int .i64 (.lit (.ofNat len)))
    | some .nilSlice => some (.int .i64 (.lit 0))
    | _ => none
  | .lenStr x => match rd x with
    | some (.str s) => some (.int .i64 (.lit (.ofNat s.data.toList.length)))
    | _ => none
  | .lenN n => some (.int .i64 (.lit (.ofNat n)))
  | .mx x y => match rd x, rd y with
    | some (.int k (.lit a)), some (.int _ (.lit b)) => some (.int k (.lit (bif Int.ble1 b a then a else b)))
    | _, _ => none
  | .mn x y => match rd x, rd y with
    | some (.int k (.lit a)), some (.int _ (.lit b)) => some (.int k (.lit (bif Int.ble1 a b then a else b)))
    | _, _ => none
end Go.Sx
