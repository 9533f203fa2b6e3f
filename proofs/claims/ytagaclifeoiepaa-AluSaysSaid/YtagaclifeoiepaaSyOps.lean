/- The symbolic machine's operations that leave memory alone, and that the model's operations do as they say. No condition: lemmas of the machine. -/
import Derived.Test.YtagaclifeoiepaaSyAppend
import Derived.Laws.Strings
namespace Go.Sx
set_option linter.unusedVariables false

/-- Operands. -/
inductive X where
  | t (i : Nat)
  | c (v : SV)
  | f (i : Nat)
  | g (i : Nat)
inductive POp where
  | mv (x : X)
  | build (zero : List SV) (fills : List (Nat × Nat × X))
  | nilCheck (x : X)
  | bin (cls : Nat) (op : BinOp) (x y : X)
  | nilEq (cls : Nat) (neg : Bool) (x y : X)
  | un (op : UnOp) (x : X)
  | conv (k : IntKind) (x : X)
  | mkIface (t : Nat) (x : X)
  | mkFunc (f : Nat) (first caps : List X)
  | slice (sz : Nat) (x : X) (lo hi : Option X)
  | fieldAddr (off : Nat) (x : X)
  | field (agg : Bool) (off n : Nat) (x : X)
  | idxArr (n sz : Nat) (x i : X)
  | idxSl (sz : Nat) (x i : X)
  | index (agg : Bool) (n sz : Nat) (x i : X)
  | extract (i : Nat) (x : X)
  | idxStr (x i : X)
  | lenS (x : X)
  | lenStr (x : X)
  | lenN (n : Nat)
  | tyAs (t : Nat) (ok : Bool) (zero : SV) (x : X)
  | mx (x y : X)
  | mn (x y : X)

def Int.ble1 (a b : Int) : Bool :=
  match b - a with
  | .ofNat _ => true
  | .negSucc _ => false
theorem Int.ble1_iff (a b : Int) : Int.ble1 a b = true ↔ a ≤ b := by
  unfold Int.ble1
  constructor
  · intro h; split at h
    · rename_i n e; have h0 : (0 : Int) ≤ Int.ofNat n := Int.natCast_nonneg n; omega
    · cases h
  · intro h; split
    · rfl
    · rename_i n e; omega
def inKind (k : IntKind) (n : Int) : Bool :=
  match k with
  | .i64 => Int.ble1 (-9223372036854775808) n && Int.ble1 n 9223372036854775807
  | .u32 => Int.ble1 0 n && Int.ble1 n 4294967295
  | .u64 => Int.ble1 0 n && Int.ble1 n 18446744073709551615
  | .u8 => Int.ble1 0 n && Int.ble1 n 255
  | _ => false
def wrapF (k : IntKind) (n : Int) : Int := bif inKind k n then n else k.wrap n
theorem wrapF_eq (k : IntKind) (n : Int) : wrapF k n = k.wrap n := by
  unfold wrapF
  cases h : inKind k n
  · rfl
  · cases k <;> simp [inKind, Int.ble1_iff] at h <;> simp [IntKind.wrap, IntKind.bits, IntKind.signed] <;> omega
def binF (op : BinOp) (k : IntKind) (x y : Int) : Int :=
  match op with
  | .add => wrapF k (x + y)
  | .sub => wrapF k (x - y)
  | .mul => wrapF k (x * y)
  | _ => binI op k x y
theorem binF_eq (op : BinOp) (k : IntKind) (x y : Int) : binF op k x y = binI op k x y := by
  cases op <;> simp [binF, binI, wrapF_eq]
/- Equalities that the kernel reckons in few steps. -/
def intEq : Int → Int → Bool
  | .ofNat m, .ofNat n => Nat.beq m n
  | .negSucc m, .negSucc n => Nat.beq m n
  | _, _ => false
theorem intEq_eq {a b : Int} (h : intEq a b = true) : a = b := by
  cases a <;> cases b <;> simp only [intEq] at h <;> (try (cases h; done)) <;> rw [Nat.eq_of_beq_eq_true h]
theorem intEq_refl (a : Int) : intEq a a = true := by cases a <;> simp [intEq]
theorem intEq_iff {a b : Int} : intEq a b = true ↔ a = b := ⟨intEq_eq, fun e => by subst e; exact intEq_refl a⟩
def opIx (o : BinOp) : Nat := BinOp.casesOn o 0 1 2 3 4 5 6 7 8 9 10 11 12 13 14 15 16
theorem opIx_inj {a b : BinOp} (h : Nat.beq (opIx a) (opIx b) = true) : a = b := by
  have h := Nat.eq_of_beq_eq_true h
  cases a <;> cases b <;> simp only [opIx] at h <;> first | rfl | (exact absurd h (by decide))
def kIx (k : IntKind) : Nat := IntKind.casesOn k 0 1 2 3 4 5 6 7
theorem kIx_inj {a b : IntKind} (h : Nat.beq (kIx a) (kIx b) = true) : a = b := by
  have h := Nat.eq_of_beq_eq_true h
  cases a <;> cases b <;> simp only [kIx] at h <;> first | rfl | (exact absurd h (by decide))
def SE.same : SE → SE → Bool
  | .lit a, .lit b => intEq a b
  | .var i, .var j => Nat.beq i j
  | .bin o k a b, .bin o' k' a' b' => bif Nat.beq (opIx o) (opIx o') then bif Nat.beq (kIx k) (kIx k') then bif b.same b' then a.same a' else false else false else false
  | .cv k a, .cv k' a' => bif Nat.beq (kIx k) (kIx k') then a.same a' else false
  | _, _ => false
theorem SE.same_eq : ∀ {a b : SE}, a.same b = true → a = b
  | .lit a, b, h => by
    cases b <;> simp only [SE.same] at h <;> (try (cases h; done))
    rw [intEq_eq h]
  | .var i, b, h => by
    cases b <;> simp only [SE.same] at h <;> (try (cases h; done))
    rw [Nat.eq_of_beq_eq_true h]
  | .bin o k a b, c, h => by
    cases c <;> simp only [SE.same] at h <;> (try (cases h; done))
    rename_i o' k' a' b'
    cases h1 : Nat.beq (opIx o) (opIx o') <;> simp only [h1, cond_true, cond_false] at h <;> (try (cases h; done))
    cases h2 : Nat.beq (kIx k) (kIx k') <;> simp only [h2, cond_true, cond_false] at h <;> (try (cases h; done))
    cases h3 : b.same b' <;> simp only [h3, cond_true, cond_false] at h <;> (try (cases h; done))
    rw [opIx_inj h1, kIx_inj h2, SE.same_eq h3, SE.same_eq h]
  | .cv k a, c, h => by
    cases c <;> simp only [SE.same] at h <;> (try (cases h; done))
    rename_i k' a'
    cases h2 : Nat.beq (kIx k) (kIx k') <;> simp only [h2, cond_true, cond_false] at h <;> (try (cases h; done))
    rw [kIx_inj h2, SE.same_eq h]
/-- An equality, with what is written out on the right. -/
def eqOrd (a b : SE) : SB :=
  match a with
  | .lit x => .cmp .eql b (.lit x)
  | a => .cmp .eql a b
theorem eqOrd_den (V : Val) (a b : SE) : (eqOrd a b).den V = (a.den V == b.den V) := by
  unfold eqOrd
  split
  · simp only [SB.den, cmpI, SE.den]; rw [Bool.eq_iff_iff]; simp; exact eq_comm
  · rfl
def mkCmp1 (op : BinOp) (a b : SE) : SB :=
  match op with
  | .eql => eqOrd a b
  | .neq => .not (eqOrd a b)
  | .lss => .cmp .lss a b
  | .geq => .not (.cmp .lss a b)
  | .gtr => .cmp .lss b a
  | .leq => .not (.cmp .lss b a)
  | op => .cmp op a b
theorem mkCmp1_den (V : Val) (op : BinOp) (a b : SE) : (mkCmp1 op a b).den V = cmpI op (a.den V) (b.den V) := by
  unfold mkCmp1
  split <;> simp only [SB.den, cmpI, eqOrd_den]
  · rfl
  · rw [Bool.eq_iff_iff]; simp
  · rw [Bool.eq_iff_iff]; simp
def mkNot : SB → SB
  | .lit b => .lit (!b)
  | .not a => a
  | a => .not a
theorem mkNot_den (V : Val) (a : SB) : (mkNot a).den V = !(a.den V) := by
  cases a <;> simp [mkNot, SB.den]
def mkEq0 : SB → SB → SB
  | .lit true, b => b
  | .lit false, b => mkNot b
  | a, .lit true => a
  | a, .lit false => mkNot a
  | a, b => .eq a b
theorem mkEq0_den (V : Val) (a b : SB) : (mkEq0 a b).den V = (a.den V == b.den V) := by
  unfold mkEq0
  split <;> simp [SB.den, mkNot_den]
def mkAnd : SB → SB → SB
  | .lit true, b => b
  | .lit false, _ => .lit false
  | a, .lit true => a
  | a, b => .and a b
theorem mkAnd_den (V : Val) (a b : SB) : (mkAnd a b).den V = (a.den V && b.den V) := by
  unfold mkAnd
  split <;> simp [SB.den]

def isArith : BinOp → Bool
  | .add | .sub | .mul | .and | .or | .xor | .andNot => true
  | _ => false
def isCmp : BinOp → Bool
  | .eql | .neq | .lss | .leq | .gtr | .geq => true
  | _ => false
def isShift : BinOp → Bool
  | .shl | .shr => true
  | _ => false
def isDiv : BinOp → Bool
  | .quo | .rem => true
  | _ => false

def SB.same : SB → SB → Bool
  | .lit a, .lit b => a == b
  | .var i, .var j => Nat.beq i j
  | .cmp o a b, .cmp o' a' b' => bif Nat.beq (opIx o) (opIx o') then bif b.same b' then a.same a' else false else false
  | .eq a b, .eq a' b' => a.same a' && b.same b'
  | .not a, .not a' => a.same a'
  | .and a b, .and a' b' => a.same a' && b.same b'
  | _, _ => false
theorem SB.same_eq : ∀ {a b : SB}, a.same b = true → a = b
  | .lit a, b, h => by cases b <;> simp [SB.same] at h; subst h; rfl
  | .var i, b, h => by
    cases b <;> simp only [SB.same] at h <;> (try (cases h; done))
    rw [Nat.eq_of_beq_eq_true h]
  | .cmp o a b, c, h => by
    cases c <;> simp only [SB.same] at h <;> (try (cases h; done))
    rename_i o' a' b'
    cases h1 : Nat.beq (opIx o) (opIx o') <;> simp only [h1, cond_true, cond_false] at h <;> (try (cases h; done))
    cases h3 : b.same b' <;> simp only [h3, cond_true, cond_false] at h <;> (try (cases h; done))
    rw [opIx_inj h1, SE.same_eq h3, SE.same_eq h]
  | .eq a b, c, h => by
    cases c <;> simp only [SB.same, Bool.and_eq_true] at h <;> (try (cases h; done))
    rw [SB.same_eq h.1, SB.same_eq h.2]
  | .not a, c, h => by
    cases c <;> simp only [SB.same] at h <;> (try (cases h; done))
    rw [SB.same_eq h]
  | .and a b, c, h => by
    cases c <;> simp only [SB.same, Bool.and_eq_true] at h <;> (try (cases h; done))
    rw [SB.same_eq h.1, SB.same_eq h.2]

def mkEq (a b : SB) : SB := bif a.same b then .lit true else mkEq0 a b
theorem mkEq_den (V : Val) (a b : SB) : (mkEq a b).den V = (a.den V == b.den V) := by
  unfold mkEq
  cases h : a.same b <;> simp only [cond_true, cond_false]
  · exact mkEq0_den V a b
  · rw [SB.same_eq h]; simp [SB.den]
abbrev PC := List (SB × Bool)
def PC.find : PC → SB → Option Bool
  | [], _ => none
  | (b, v) :: l, a => bif a.same b then some v else PC.find l a
def PC.holds (V : Val) (pc : PC) : Prop := ∀ p ∈ pc, p.1.den V = p.2
theorem PC.find_den {V : Val} : ∀ {pc : PC} {a : SB} {v : Bool}, pc.holds V → pc.find a = some v → a.den V = v
  | [], a, v, h, hf => by simp [PC.find] at hf
  | (b, u) :: l, a, v, h, hf => by
    unfold PC.find at hf
    cases hs : a.same b <;> simp only [hs, cond_true, cond_false] at hf
    · exact PC.find_den (fun p hp => h p (List.mem_cons_of_mem _ hp)) hf
    · cases hf
      rw [SB.same_eq hs]
      exact h (b, u) (List.mem_cons_self ..)
def loMax : Option Int → Option Int → Option Int
  | none, b => b
  | some x, none => some x
  | some x, some y => some (bif Int.ble1 x y then y else x)
def hiMin : Option Int → Option Int → Option Int
  | none, b => b
  | some x, none => some x
  | some x, some y => some (bif Int.ble1 x y then x else y)
def isLo (o : Option Int) (z : Int) : Prop := ∀ n, o = some n → n ≤ z
def isHi (o : Option Int) (z : Int) : Prop := ∀ n, o = some n → z ≤ n
theorem isLo_max {a b : Option Int} {z : Int} (h : isLo a z) (h' : isLo b z) : isLo (loMax a b) z := by
  intro n hn
  unfold loMax at hn
  split at hn
  · exact h' n hn
  · exact h n hn
  · rename_i x y
    have h1 := h x rfl
    have h2 := h' y rfl
    cases hb : Int.ble1 x y <;> simp [hb] at hn <;> omega
theorem isHi_min {a b : Option Int} {z : Int} (h : isHi a z) (h' : isHi b z) : isHi (hiMin a b) z := by
  intro n hn
  unfold hiMin at hn
  split at hn
  · exact h' n hn
  · exact h n hn
  · rename_i x y
    have h1 := h x rfl
    have h2 := h' y rfl
    cases hb : Int.ble1 x y <;> simp [hb] at hn <;> omega
theorem isLo_none (z : Int) : isLo none z := fun n h => by cases h
theorem isHi_none (z : Int) : isHi none z := fun n h => by cases h
theorem isLo_some {x z : Int} (h : x ≤ z) : isLo (some x) z := fun n e => by cases e; exact h
theorem isHi_some {x z : Int} (h : z ≤ x) : isHi (some x) z := fun n e => by cases e; exact h
theorem wrap_in (k : IntKind) (n : Int) : k.min ≤ k.wrap n ∧ k.wrap n ≤ k.max := by
  cases k <;> simp only [IntKind.wrap, IntKind.min, IntKind.max, IntKind.bits, IntKind.signed] <;> simp <;> (try split) <;> omega
theorem wrap_of_in {k : IntKind} {n : Int} (h0 : k.min ≤ n) (h1 : n ≤ k.max) : k.wrap n = n := by
  cases k <;> simp only [IntKind.wrap, IntKind.min, IntKind.max, IntKind.bits, IntKind.signed] at * <;> simp at * <;> (try split) <;> omega
theorem and_max (k : IntKind) (x n : Int) (h0 : 0 ≤ n) (h1 : n ≤ k.max) : 0 ≤ binI .and k x n ∧ binI .and k x n ≤ n := by
  have hle : (BitVec.ofInt k.bits x &&& BitVec.ofInt k.bits n).toNat ≤ (BitVec.ofInt k.bits n).toNat := by
    rw [BitVec.toNat_and]; exact Nat.and_le_right
  have hn : ((BitVec.ofInt k.bits n).toNat : Int) ≤ n := by
    rw [BitVec.toNat_ofInt]
    cases k <;> simp [IntKind.bits] <;> omega
  simp only [binI]
  generalize (BitVec.ofInt k.bits x &&& BitVec.ofInt k.bits n).toNat = m at hle
  have hm : (m : Int) ≤ n := Int.le_trans (Int.ofNat_le.2 hle) hn
  revert h1
  cases k <;> simp [IntKind.wrap, IntKind.bits, IntKind.signed, IntKind.max] <;> intro h1 <;> (try split) <;> omega
theorem fdiv_mono {x y c : Int} (hc : 0 < c) (h : x ≤ y) : x.fdiv c ≤ y.fdiv c := by
  rw [Int.fdiv_eq_ediv_of_nonneg _ (by omega), Int.fdiv_eq_ediv_of_nonneg _ (by omega)]
  exact Int.ediv_le_ediv hc h
/-- Bounds of sums, rests and their like, by the bounds of what they are made of. -/
def inK (k : IntKind) (lo hi : Int) : Option Int × Option Int := bif Int.ble1 k.min lo && Int.ble1 hi k.max then (some lo, some hi) else (some k.min, some k.max)
def rngB (op : BinOp) (k : IntKind) (r q : Option Int × Option Int) : Option Int × Option Int :=
  match op, r, q with
  | .add, (some a, some b), (some c, some d) => inK k (a + c) (b + d)
  | .sub, (some a, some b), (some c, some d) => inK k (a - d) (b - c)
  | .mul, (some a, some b), (some c, some d) => bif Int.ble1 0 a && Int.ble1 0 c then inK k (a * c) (b * d) else (some k.min, some k.max)
  | .rem, (some a, _), (some c, some d) => bif Int.ble1 1 c && Int.ble1 0 a then (some 0, some (d - 1)) else bif Int.ble1 1 c then (some (1 - d), some (d - 1)) else (none, none)
  | .rem, _, (some c, some d) => bif Int.ble1 1 c then (some (1 - d), some (d - 1)) else (none, none)
  | .quo, (some a, some b), (some c, some d) => bif Int.ble1 1 c && Int.ble1 0 a && Int.ble1 c d then inK k 0 b else (some k.min, some k.max)
  | .shl, (some a, some b), (some c, some d) => bif Int.ble1 0 a && Int.ble1 0 c && Int.ble1 d 64 then inK k 0 (b * 2 ^ d.toNat) else (some k.min, some k.max)
  | op, _, _ => bif isArith op then (some k.min, some k.max) else match op with
    | .shl => (some k.min, some k.max)
    | .quo => (some k.min, some k.max)
    | _ => (none, none)
/-- Bounds, by how a number is made. -/
def SE.rng : SE → Option Int × Option Int
  | .lit n => (some n, some n)
  | .cv k _ => (some k.min, some k.max)
  | .bin .and k _ (.lit m) => bif Int.ble1 0 m && Int.ble1 m k.max then (some 0, some m) else (some k.min, some k.max)
  | .bin .shr k a (.lit s) => match a.rng with
    | (lo, hi) => (lo.map fun x => x.fdiv (2 ^ (min s.toNat k.bits)), hi.map fun x => x.fdiv (2 ^ (min s.toNat k.bits)))
  | .bin op k a b => rngB op k a.rng b.rng
  | .var _ => (none, none)
theorem inK_den {k : IntKind} {lo hi n : Int} (h0 : lo ≤ n) (h1 : n ≤ hi) : isLo (inK k lo hi).1 (k.wrap n) ∧ isHi (inK k lo hi).2 (k.wrap n) := by
  unfold inK
  cases hb : (Int.ble1 k.min lo && Int.ble1 hi k.max) <;> simp only [cond_true, cond_false]
  · exact ⟨isLo_some (wrap_in k _).1, isHi_some (wrap_in k _).2⟩
  · simp only [Bool.and_eq_true, Int.ble1_iff] at hb
    rw [wrap_of_in (by omega) (by omega)]
    exact ⟨isLo_some h0, isHi_some h1⟩
theorem tmod_bd (x m d : Int) (h : 1 ≤ m) (hd : m ≤ d) : 1 - d ≤ x.tmod m ∧ x.tmod m ≤ d - 1 ∧ (0 ≤ x → 0 ≤ x.tmod m) := by
  have h1 : x.tmod m < m := Int.tmod_lt_of_pos x (by omega)
  have h2 : (-x).tmod m < m := Int.tmod_lt_of_pos (-x) (by omega)
  rw [Int.neg_tmod] at h2
  exact ⟨by omega, by omega, fun hx => Int.tmod_nonneg m hx⟩
theorem mul_le_of {a b c d x y : Int} (ha : 0 ≤ a) (hc : 0 ≤ c) (h1 : a ≤ x) (h2 : x ≤ b) (h3 : c ≤ y) (h4 : y ≤ d) : a * c ≤ x * y ∧ x * y ≤ b * d :=
  ⟨Int.mul_le_mul h1 h3 hc (by omega), Int.mul_le_mul h2 h4 (by omega) (by omega)⟩
theorem rngB_den {op : BinOp} {k : IntKind} {r q : Option Int × Option Int} {x y : Int} (hr : isLo r.1 x ∧ isHi r.2 x) (hq : isLo q.1 y ∧ isHi q.2 y) : isLo (rngB op k r q).1 (binI op k x y) ∧ isHi (rngB op k r q).2 (binI op k x y) := by
  have gen : ∀ z : Int, isLo (some k.min) (k.wrap z) ∧ isHi (some k.max) (k.wrap z) := fun z => ⟨isLo_some (wrap_in k _).1, isHi_some (wrap_in k _).2⟩
  unfold rngB
  split
  · exact inK_den (by have := hr.1 _ rfl; have := hq.1 _ rfl; omega) (by have := hr.2 _ rfl; have := hq.2 _ rfl; omega)
  · exact inK_den (by have := hr.1 _ rfl; have := hq.2 _ rfl; omega) (by have := hr.2 _ rfl; have := hq.1 _ rfl; omega)
  · rename_i a b c d
    cases hb : (Int.ble1 0 a && Int.ble1 0 c) <;> simp only [cond_true, cond_false]
    · exact gen _
    · simp only [Bool.and_eq_true, Int.ble1_iff] at hb
      have := mul_le_of hb.1 hb.2 (hr.1 _ rfl) (hr.2 _ rfl) (hq.1 _ rfl) (hq.2 _ rfl)
      exact inK_den this.1 this.2
  · rename_i a a2 c d
    have hc := hq.1 _ rfl
    have hd := hq.2 _ rfl
    cases hb : (Int.ble1 1 c && Int.ble1 0 a) <;> simp only [cond_true, cond_false]
    · cases hb2 : Int.ble1 1 c <;> simp only [cond_true, cond_false]
      · exact ⟨isLo_none _, isHi_none _⟩
      · have h1 := (Int.ble1_iff _ _).1 hb2
        have := tmod_bd x y d (by omega) hd
        exact ⟨isLo_some this.1, isHi_some this.2.1⟩
    · simp only [Bool.and_eq_true, Int.ble1_iff] at hb
      have := tmod_bd x y d (by omega) hd
      exact ⟨isLo_some (this.2.2 (by have := hr.1 _ rfl; omega)), isHi_some this.2.1⟩
  · rename_i c d _
    have hc := hq.1 _ rfl
    have hd := hq.2 _ rfl
    cases hb2 : Int.ble1 1 c <;> simp only [cond_true, cond_false]
    · exact ⟨isLo_none _, isHi_none _⟩
    · have h1 := (Int.ble1_iff _ _).1 hb2
      have := tmod_bd x y d (by omega) hd
      exact ⟨isLo_some this.1, isHi_some this.2.1⟩
  · rename_i a b c d
    cases hb : (Int.ble1 1 c && Int.ble1 0 a && Int.ble1 c d) <;> simp only [cond_true, cond_false]
    · exact gen _
    · simp only [Bool.and_eq_true, Int.ble1_iff] at hb
      have ha := hr.1 _ rfl
      have hbb := hr.2 _ rfl
      have hc := hq.1 _ rfl
      refine inK_den (Int.tdiv_nonneg (by omega) (by omega)) ?_
      rw [Int.tdiv_eq_ediv_of_nonneg (by omega)]
      exact Int.le_trans (Int.ediv_le_self _ (by omega)) hbb
  · rename_i a b c d
    cases hb : (Int.ble1 0 a && Int.ble1 0 c && Int.ble1 d 64) <;> simp only [cond_true, cond_false]
    · exact gen _
    · simp only [Bool.and_eq_true, Int.ble1_iff] at hb
      have ha := hr.1 _ rfl
      have hbb := hr.2 _ rfl
      have hc := hq.1 _ rfl
      have hd := hq.2 _ rfl
      have hp : (0 : Int) < 2 ^ (min y.toNat k.bits) := by
        have : (0 : Nat) < 2 ^ (min y.toNat k.bits) := Nat.two_pow_pos _
        have h3 := Int.ofNat_lt.2 this
        simpa using h3
      have hle : (2 : Int) ^ (min y.toNat k.bits) ≤ 2 ^ d.toNat := by
        have : (2 : Nat) ^ (min y.toNat k.bits) ≤ 2 ^ d.toNat := Nat.pow_le_pow_right (by omega) (by omega)
        have h3 := Int.ofNat_le.2 this
        simpa using h3
      exact inK_den (Int.mul_nonneg (by omega) (by omega)) (Int.mul_le_mul hbb hle (by omega) (by omega))
  · cases hi : isArith op <;> simp only [cond_true, cond_false]
    · split
      · exact gen _
      · exact gen _
      · exact ⟨isLo_none _, isHi_none _⟩
    · cases op <;> simp [isArith] at hi <;> exact gen _
theorem SE.rng_den (V : Val) : ∀ e : SE, isLo e.rng.1 (e.den V) ∧ isHi e.rng.2 (e.den V)
  | .lit n => ⟨isLo_some (Int.le_refl _), isHi_some (Int.le_refl _)⟩
  | .cv k a => ⟨isLo_some (wrap_in k _).1, isHi_some (wrap_in k _).2⟩
  | .var i => ⟨isLo_none _, isHi_none _⟩
  | .bin op k a b => by
    unfold SE.rng
    split
    · rename_i h; cases h
    · rename_i h; cases h
    · rename_i k' a' m h
      cases h
      cases hb : (Int.ble1 0 m && Int.ble1 m k.max)
      · exact ⟨isLo_some (wrap_in k _).1, isHi_some (wrap_in k _).2⟩
      · simp only [Bool.and_eq_true, Int.ble1_iff] at hb
        have := and_max k (a.den V) m hb.1 hb.2
        exact ⟨isLo_some this.1, isHi_some this.2⟩
    · rename_i k' a' s h
      cases h
      obtain ⟨h1, h2⟩ := SE.rng_den V a
      have hp : (0 : Int) < 2 ^ (min s.toNat k.bits) := by
        have : (0 : Nat) < 2 ^ (min s.toNat k.bits) := Nat.two_pow_pos _
        have h3 := Int.ofNat_lt.2 this
        simpa using h3
      refine ⟨fun n hn => ?_, fun n hn => ?_⟩
      · simp only at hn
        cases h3 : a.rng.1 with
        | none => simp [h3] at hn
        | some x =>
          simp [h3] at hn
          subst hn
          exact fdiv_mono hp (h1 x h3)
      · simp only at hn
        cases h3 : a.rng.2 with
        | none => simp [h3] at hn
        | some x =>
          simp [h3] at hn
          subst hn
          exact fdiv_mono hp (h2 x h3)
    · rename_i op' k' a' b' _ _ h
      cases h
      exact rngB_den (SE.rng_den V a) (SE.rng_den V b)
    · rename_i h; cases h
/-- A mask that has all the bits that there can be. -/
def allBits (k : IntKind) (a : SE) (m : Int) : Bool := match m with
  | .ofNat M => Nat.beq (Nat.pow 2 (Nat.log2 (Nat.succ M))) (Nat.succ M) && Int.ble1 (.ofNat M) k.max && (match a.rng with
    | (some lo, some hi) => Int.ble1 0 lo && Int.ble1 hi (.ofNat M)
    | _ => false)
  | _ => false
theorem max_lt (k : IntKind) : k.max < 2 ^ k.bits := by cases k <;> decide
theorem allBits_den (V : Val) {k : IntKind} {a : SE} {m : Int} (h : allBits k a m = true) : binI .and k (a.den V) m = a.den V := by
  unfold allBits at h
  split at h
  case h_2 => cases h
  rename_i M
  simp only [Bool.and_eq_true] at h
  obtain ⟨⟨h1, h2⟩, h3⟩ := h
  split at h3
  case h_2 => cases h3
  rename_i lo hi hr
  simp only [Bool.and_eq_true, Int.ble1_iff] at h3
  obtain ⟨r1, r2⟩ := SE.rng_den V a
  rw [hr] at r1 r2
  have q1 := r1 lo rfl
  have q2 := r2 hi rfl
  have h2 := (Int.ble1_iff _ _).1 h2
  generalize a.den V = x at q1 q2 ⊢
  obtain ⟨n, rfl⟩ := Int.eq_ofNat_of_zero_le (show 0 ≤ x by omega)
  have hM : (Int.ofNat M) = (M : Int) := rfl
  rw [hM] at h2 h3 ⊢
  have hn : n ≤ M := by omega
  have hp := Nat.eq_of_beq_eq_true h1
  have hb := max_lt k
  have hM2 : M < 2 ^ k.bits := by
    have : (M : Int) < ((2 ^ k.bits : Nat) : Int) := by
      have e : ((2 ^ k.bits : Nat) : Int) = 2 ^ k.bits := by simp
      rw [e]; omega
    omega
  simp only [binI]
  have e1 : (BitVec.ofInt k.bits (n : Int) &&& BitVec.ofInt k.bits (M : Int)).toNat = n := by
    rw [BitVec.toNat_and, BitVec.ofInt_natCast, BitVec.ofInt_natCast, BitVec.toNat_ofNat, BitVec.toNat_ofNat, Nat.mod_eq_of_lt (by omega), Nat.mod_eq_of_lt hM2]
    have e2 : M = 2 ^ (Nat.log2 (Nat.succ M)) - 1 := by
      have hp : 2 ^ (Nat.log2 (Nat.succ M)) = M + 1 := hp
      omega
    rw [e2, Nat.and_two_pow_sub_one_eq_mod]
    refine Nat.mod_eq_of_lt ?_
    have hp : 2 ^ (Nat.log2 (Nat.succ M)) = M + 1 := hp
    omega
  rw [e1]
  exact wrap_of_in (by have : k.min ≤ 0 := by cases k <;> decide
                       omega) (by omega)
def mkCmp0 (op : BinOp) (a b : SE) : SB :=
  match a, b with
  | .lit x, .lit y => .lit (cmpI op x y)
  | a, b => bif a.same b then .lit (cmpI op 0 0) else mkCmp1 op a b
theorem cmpI_self (op : BinOp) (x : Int) : cmpI op x x = cmpI op 0 0 := by cases op <;> simp [cmpI]
theorem mkCmp0_den (V : Val) (op : BinOp) (a b : SE) : (mkCmp0 op a b).den V = cmpI op (a.den V) (b.den V) := by
  unfold mkCmp0
  split
  · simp [SB.den, SE.den]
  · cases h : a.same b
    · simp [mkCmp1_den]
    · rw [SE.same_eq h]
      simp [SB.den, cmpI_self op (b.den V)]
/-- A sum with a literal, taken apart where it does not wrap. -/
def stripA (e x : SE) (k : IntKind) (c : Int) (r : Option Int × Option Int) : SE × Int := match r with
  | (some lo, some hi) => bif Int.ble1 k.min (lo + c) && Int.ble1 (hi + c) k.max then (x, c) else (e, 0)
  | _ => (e, 0)
def strip (e : SE) : SE × Int := match e with
  | .lit n => (.lit 0, n)
  | .bin op k x (.lit c) => bif Nat.beq (opIx op) 0 then stripA (.bin op k x (.lit c)) x k c x.rng else bif Nat.beq (opIx op) 1 then stripA (.bin op k x (.lit c)) x k (-c) x.rng else (.bin op k x (.lit c), 0)
  | e => (e, 0)
theorem stripA_den (V : Val) {e x : SE} {k : IntKind} {c : Int} (h : e.den V = k.wrap (x.den V + c)) : e.den V = (stripA e x k c x.rng).1.den V + (stripA e x k c x.rng).2 := by
  unfold stripA
  split
  · rename_i lo hi hr
    cases hb : (Int.ble1 k.min (lo + c) && Int.ble1 (hi + c) k.max) <;> simp only [cond_true, cond_false]
    · simp
    · simp only [Bool.and_eq_true, Int.ble1_iff] at hb
      obtain ⟨r1, r2⟩ := SE.rng_den V x
      rw [hr] at r1 r2
      have q1 := r1 lo rfl
      have q2 := r2 hi rfl
      rw [h, wrap_of_in (by omega) (by omega)]
  · simp
theorem strip_den (V : Val) (e : SE) : e.den V = (strip e).1.den V + (strip e).2 := by
  unfold strip
  split
  · simp [SE.den]
  · rename_i op k x c
    cases h1 : Nat.beq (opIx op) 0 <;> simp only [cond_true, cond_false]
    · cases h2 : Nat.beq (opIx op) 1 <;> simp only [cond_true, cond_false]
      · simp
      · have ho : op = .sub := opIx_inj (b := .sub) h2
        subst ho
        exact stripA_den V (by simp only [SE.den, binI]; congr 1)
    · have ho : op = .add := opIx_inj (b := .add) h1
      subst ho
      exact stripA_den V (by simp only [SE.den, binI])
  · simp
theorem cmpI_shift (op : BinOp) (x y c : Int) : cmpI op (x + c) (y + c) = cmpI op x y := by
  cases op <;> simp only [cmpI] <;> rw [Bool.eq_iff_iff] <;> simp
def mkCmp (op : BinOp) (a b : SE) : SB :=
  match strip a with
  | (x, c) => match strip b with
    | (y, d) => bif intEq c d then mkCmp0 op x y else (match y with
      | .lit m => mkCmp0 op x (.lit (m + d - c))
      | _ => match x with
        | .lit m => mkCmp0 op (.lit (m + c - d)) y
        | _ => mkCmp0 op a b)
theorem mkCmp_den (V : Val) (op : BinOp) (a b : SE) : (mkCmp op a b).den V = cmpI op (a.den V) (b.den V) := by
  have ha := strip_den V a
  have hb := strip_den V b
  unfold mkCmp
  generalize strip a = p at ha
  generalize strip b = q at hb
  obtain ⟨x, c⟩ := p
  obtain ⟨y, d⟩ := q
  simp only at ha hb ⊢
  cases h1 : intEq c d <;> simp only [cond_true, cond_false]
  · split
    · rename_i m
      rw [mkCmp0_den, ha, hb]
      simp only [SE.den]
      rw [← cmpI_shift op (x.den V) (m + d - c) c]
      congr 1; omega
    · split
      · rename_i m
        rw [mkCmp0_den, ha, hb]
        simp only [SE.den]
        rw [← cmpI_shift op (m + c - d) (y.den V) d]
        congr 1; omega
      · exact mkCmp0_den V op a b
  · obtain rfl := intEq_eq h1
    rw [mkCmp0_den, ha, hb, cmpI_shift]
theorem wrap_add (k : IntKind) (a b : Int) : k.wrap (k.wrap a + b) = k.wrap (a + b) := by
  cases k <;> simp only [IntKind.wrap, IntKind.bits, IntKind.signed] <;> simp <;> (try split) <;> (try split) <;> omega
/-- A literal more. -/
def addLit (k : IntKind) (x : SE) (t : Int) : SE := bif intEq t 0 then (match x.rng with
    | (some lo, some hi) => bif Int.ble1 k.min lo && Int.ble1 hi k.max then x else .bin .add k x (.lit 0)
    | _ => .bin .add k x (.lit 0)) else bif Int.ble1 0 t then .bin .add k x (.lit t) else .bin .sub k x (.lit (-t))
theorem addLit_den (V : Val) (k : IntKind) (x : SE) (t : Int) : (addLit k x t).den V = k.wrap (x.den V + t) := by
  unfold addLit
  cases h : intEq t 0 <;> simp only [cond_true, cond_false]
  · cases h2 : Int.ble1 0 t <;> simp only [cond_true, cond_false, SE.den, binI]
    congr 1; omega
  · obtain rfl := intEq_eq h
    split
    · rename_i lo hi hr
      cases hb : (Int.ble1 k.min lo && Int.ble1 hi k.max) <;> simp only [cond_true, cond_false, SE.den, binI]
      simp only [Bool.and_eq_true, Int.ble1_iff] at hb
      obtain ⟨r1, r2⟩ := SE.rng_den V x
      rw [hr] at r1 r2
      have q1 := r1 lo rfl
      have q2 := r2 hi rfl
      rw [wrap_of_in (by omega) (by omega)]; omega
    · simp only [SE.den, binI]
/-- A sum of a sum with a literal, and another one. -/
def addTo (e : SE) (k : IntKind) (a : SE) (t : Int) : SE := match a with
  | .bin op k' x (.lit c) => bif Nat.beq (kIx k) (kIx k') then (bif Nat.beq (opIx op) 0 then addLit k x (c + t) else bif Nat.beq (opIx op) 1 then addLit k x (t - c) else e) else e
  | _ => e
theorem addTo_den (V : Val) {e a : SE} {k : IntKind} {t : Int} (h : e.den V = k.wrap (a.den V + t)) : (addTo e k a t).den V = k.wrap (a.den V + t) := by
  unfold addTo
  split
  · rename_i op k' x c
    cases hk : Nat.beq (kIx k) (kIx k') <;> simp only [cond_true, cond_false]
    · exact h
    obtain rfl := kIx_inj hk
    cases h1 : Nat.beq (opIx op) 0 <;> simp only [cond_true, cond_false]
    · cases h2 : Nat.beq (opIx op) 1 <;> simp only [cond_true, cond_false]
      · exact h
      · have ho : op = .sub := opIx_inj (b := .sub) h2
        subst ho
        rw [addLit_den]
        simp only [SE.den, binI, wrap_add]
        congr 1; omega
    · have ho : op = .add := opIx_inj (b := .add) h1
      subst ho
      rw [addLit_den]
      simp only [SE.den, binI, wrap_add]
      congr 1; omega
  · exact h
/-- An operation, made plainer where it can be. -/
def mkBin (op : BinOp) (k : IntKind) (a b : SE) : SE :=
  match a, b with
  | .lit x, .lit y => .lit (binF op k x y)
  | a, .lit y => bif Nat.beq (opIx op) 9 then bif intEq y 0 then a else .bin op k a (.lit y) else bif Nat.beq (opIx op) 5 then bif allBits k a y then a else .bin op k a (.lit y) else bif Nat.beq (opIx op) 0 then addTo (.bin op k a (.lit y)) k a y else bif Nat.beq (opIx op) 1 then addTo (.bin op k a (.lit y)) k a (-y) else .bin op k a (.lit y)
  | a, b => .bin op k a b
theorem mkBin_den (V : Val) (op : BinOp) (k : IntKind) (a b : SE) : (mkBin op k a b).den V = binI op k (a.den V) (b.den V) := by
  unfold mkBin
  split
  · simp [SE.den, binF_eq]
  · rename_i y hne
    cases h1 : Nat.beq (opIx op) 9 <;> simp only [cond_true, cond_false]
    · cases h2 : Nat.beq (opIx op) 5 <;> simp only [cond_true, cond_false]
      · cases h4 : Nat.beq (opIx op) 0 <;> simp only [cond_true, cond_false]
        · cases h5 : Nat.beq (opIx op) 1 <;> simp only [cond_true, cond_false]
          · simp [SE.den]
          · have ho : op = .sub := opIx_inj (b := .sub) h5
            subst ho
            rw [addTo_den V (by simp only [SE.den, binI]; congr 1)]
            simp only [SE.den, binI]; congr 1
        · have ho : op = .add := opIx_inj (b := .add) h4
          subst ho
          rw [addTo_den V (by simp only [SE.den, binI])]
          simp only [SE.den, binI]
      · have ho : op = .and := opIx_inj (b := .and) h2
        subst ho
        cases h3 : allBits k a y <;> simp only [cond_true, cond_false]
        · simp [SE.den]
        · exact (allBits_den V h3).symm
    · have ho : op = .shr := opIx_inj (b := .shr) h1
      subst ho
      cases h3 : intEq y 0 <;> simp only [cond_true, cond_false]
      · simp [SE.den]
      · have hy := intEq_eq h3
        subst hy
        simp [SE.den, binI]
  · simp [SE.den]
/-- A conversion that changes nothing is none. -/
def mkCv (k : IntKind) (a : SE) : SE :=
  match a with
  | .lit x => .lit (wrapF k x)
  | a => match a.rng with
    | (some lo, some hi) => bif Int.ble1 k.min lo && Int.ble1 hi k.max then a else .cv k a
    | _ => .cv k a
theorem mkCv_den (V : Val) (k : IntKind) (a : SE) : (mkCv k a).den V = k.wrap (a.den V) := by
  unfold mkCv
  split
  · simp [SE.den, wrapF_eq]
  · split
    · rename_i lo hi hr
      cases hb : (Int.ble1 k.min lo && Int.ble1 hi k.max) <;> simp only [cond_true, cond_false]
      · simp [SE.den]
      · simp only [Bool.and_eq_true] at hb
        obtain ⟨r1, r2⟩ := SE.rng_den V a
        rw [hr] at r1 r2
        have q1 := r1 lo rfl
        have q2 := r2 hi rfl
        have b1 := (Int.ble1_iff _ _).1 hb.1
        have b2 := (Int.ble1_iff _ _).1 hb.2
        exact (wrap_of_in (by omega) (by omega)).symm
    · simp [SE.den]
/-- What a decided truth says of a number: not below, not above. -/
def factLo (e : SE) : SB × Bool → Option Int
  | (.cmp .lss a (.lit n), false) => bif a.same e then some n else none
  | (.cmp .lss (.lit n) b, true) => bif b.same e then some (n + 1) else none
  | (.cmp .eql a (.lit n), true) => bif a.same e then some n else none
  | _ => none
def factHi (e : SE) : SB × Bool → Option Int
  | (.cmp .lss a (.lit n), true) => bif a.same e then some (n - 1) else none
  | (.cmp .lss (.lit n) b, false) => bif b.same e then some n else none
  | (.cmp .eql a (.lit n), true) => bif a.same e then some n else none
  | _ => none
def PC.lo1 : PC → SE → Option Int
  | [], e => e.rng.1
  | p :: l, e => loMax (factLo e p) (PC.lo1 l e)
def PC.hi1 : PC → SE → Option Int
  | [], e => e.rng.2
  | p :: l, e => hiMin (factHi e p) (PC.hi1 l e)
/-- The number that it was found to be. -/
def eqFact (e : SE) (p : SB × Bool) : Option Int := Prod.casesOn p fun a b => Bool.casesOn b none (SB.casesOn a (fun _ => none) (fun _ => none) (fun op x y => SE.casesOn y (fun n => bif Nat.beq (opIx op) 11 then bif x.same e then some n else none else none) (fun _ => none) (fun _ _ _ _ => none) (fun _ _ => none)) (fun _ _ => none) (fun _ => none) (fun _ _ => none))
def PC.eqv : PC → SE → Option Int
  | [], _ => none
  | p :: l, e => Option.casesOn (eqFact e p) (PC.eqv l e) fun n => some n
def PC.lo (pc : PC) (e : SE) : Option Int := match e with
  | .lit n => some n
  | e => PC.lo1 pc e
def PC.hi (pc : PC) (e : SE) : Option Int := match e with
  | .lit n => some n
  | e => PC.hi1 pc e
theorem eqFact_den {V : Val} {e : SE} {p : SB × Bool} {n : Int} (hp : p.1.den V = p.2) (h : eqFact e p = some n) : e.den V = n := by
  obtain ⟨a, b⟩ := p
  cases b
  · cases h
  cases a with
  | cmp op x y =>
    cases y with
    | lit m =>
      simp only [eqFact] at h
      cases h1 : Nat.beq (opIx op) 11 <;> simp only [h1, cond_true, cond_false] at h
      · cases h
      cases h2 : x.same e <;> simp only [h2, cond_true, cond_false] at h
      · cases h
      cases h
      have ho : op = .eql := opIx_inj (b := .eql) h1
      subst ho
      rw [← SE.same_eq h2]
      simpa [SB.den, cmpI, SE.den] using hp
    | _ => cases h
  | _ => cases h
theorem PC.eqv_den {V : Val} : ∀ {pc : PC} {e : SE} {n : Int}, pc.holds V → pc.eqv e = some n → e.den V = n
  | [], e, n, h, he => by cases he
  | p :: l, e, n, h, he => by
    unfold PC.eqv at he
    cases h1 : eqFact e p with
    | none =>
      rw [h1] at he
      exact PC.eqv_den (fun q hq => h q (List.mem_cons_of_mem _ hq)) he
    | some m =>
      rw [h1] at he
      cases he
      exact eqFact_den (h p (List.mem_cons_self ..)) h1
theorem factLo_den {V : Val} {e : SE} {p : SB × Bool} (h : p.1.den V = p.2) : isLo (factLo e p) (e.den V) := by
  intro n hn
  unfold factLo at hn
  split at hn
  · rename_i a m
    cases hs : a.same e <;> simp [hs] at hn
    subst hn
    rw [← SE.same_eq hs]
    have h2 : decide (a.den V < m) = false := h
    have := of_decide_eq_false h2
    omega
  · rename_i m b
    cases hs : b.same e <;> simp [hs] at hn
    subst hn
    rw [← SE.same_eq hs]
    have h2 : decide (m < b.den V) = true := h
    have := of_decide_eq_true h2
    omega
  · rename_i a m
    cases hs : a.same e <;> simp [hs] at hn
    subst hn
    rw [← SE.same_eq hs]
    have : a.den V = m := by simpa [SB.den, cmpI, SE.den] using h
    omega
  · cases hn
theorem factHi_den {V : Val} {e : SE} {p : SB × Bool} (h : p.1.den V = p.2) : isHi (factHi e p) (e.den V) := by
  intro n hn
  unfold factHi at hn
  split at hn
  · rename_i a m
    cases hs : a.same e <;> simp [hs] at hn
    subst hn
    rw [← SE.same_eq hs]
    have h2 : decide (a.den V < m) = true := h
    have := of_decide_eq_true h2
    omega
  · rename_i m b
    cases hs : b.same e <;> simp [hs] at hn
    subst hn
    rw [← SE.same_eq hs]
    have h2 : decide (m < b.den V) = false := h
    have := of_decide_eq_false h2
    omega
  · rename_i a m
    cases hs : a.same e <;> simp [hs] at hn
    subst hn
    rw [← SE.same_eq hs]
    have : a.den V = m := by simpa [SB.den, cmpI, SE.den] using h
    omega
  · cases hn
theorem PC.lo1_den {V : Val} : ∀ {pc : PC} {e : SE}, pc.holds V → isLo (pc.lo1 e) (e.den V)
  | [], e, h => (SE.rng_den V e).1
  | p :: l, e, h => isLo_max (factLo_den (h p (List.mem_cons_self ..))) (PC.lo1_den fun q hq => h q (List.mem_cons_of_mem _ hq))
theorem PC.hi1_den {V : Val} : ∀ {pc : PC} {e : SE}, pc.holds V → isHi (pc.hi1 e) (e.den V)
  | [], e, h => (SE.rng_den V e).2
  | p :: l, e, h => isHi_min (factHi_den (h p (List.mem_cons_self ..))) (PC.hi1_den fun q hq => h q (List.mem_cons_of_mem _ hq))
theorem PC.lo_den {V : Val} {pc : PC} {e : SE} (h : pc.holds V) : isLo (pc.lo e) (e.den V) := by
  unfold PC.lo
  split
  · exact isLo_some (Int.le_refl _)
  · exact PC.lo1_den h
theorem PC.hi_den {V : Val} {pc : PC} {e : SE} (h : pc.holds V) : isHi (pc.hi e) (e.den V) := by
  unfold PC.hi
  split
  · exact isHi_some (Int.le_refl _)
  · exact PC.hi1_den h
def ltO : Option Int → Option Int → Bool
  | some x, some y => Int.ble1 (x + 1) y
  | _, _ => false
def leO : Option Int → Option Int → Bool
  | some x, some y => Int.ble1 x y
  | _, _ => false
/-- The one number that it can be. -/
def PC.one0 (pc : PC) (e : SE) : Option Int :=
  match pc.lo e with
  | some x => match pc.hi e with
    | some y => bif Int.ble1 y x then some x else none
    | none => none
  | none => none
theorem PC.one0_den {V : Val} {pc : PC} (h : pc.holds V) {e : SE} {n : Int} (he : pc.one0 e = some n) : e.den V = n := by
  unfold PC.one0 at he
  split at he
  case h_2 => cases he
  rename_i x hx
  split at he
  case h_2 => cases he
  rename_i y hy
  cases hb : Int.ble1 y x <;> simp [hb] at he
  subst he
  have h1 := PC.lo_den h _ hx
  have h2 := PC.hi_den h _ hy
  have h3 := (Int.ble1_iff _ _).1 hb
  omega
/-- What is known of a truth already. -/
def PC.known0 (pc : PC) : SB → Option Bool
  | .cmp .lss a b => match pc.find (.cmp .lss b a) with
    | some true => some false
    | _ => bif ltO (pc.hi a) (pc.lo b) then some true else bif leO (pc.hi b) (pc.lo a) then some false else none
  | .cmp .eql a b => bif ltO (pc.hi a) (pc.lo b) || ltO (pc.hi b) (pc.lo a) then some false else
      (match pc.one0 a with
      | some x => match pc.one0 b with
        | some y => bif Int.ble1 x y && Int.ble1 y x then some true else none
        | none => none
      | none => none)
  | _ => none
theorem ltO_den {a b : Option Int} {x y : Int} (h : ltO a b = true) (ha : isHi a x) (hb : isLo b y) : x < y := by
  unfold ltO at h
  split at h
  · rw [Int.ble1_iff] at h
    have := ha _ rfl
    have := hb _ rfl
    omega
  · cases h
theorem leO_den {a b : Option Int} {x y : Int} (h : leO a b = true) (ha : isHi a x) (hb : isLo b y) : x ≤ y := by
  unfold leO at h
  split at h
  · rw [Int.ble1_iff] at h
    have := ha _ rfl
    have := hb _ rfl
    omega
  · cases h
theorem PC.known0_den {V : Val} {pc : PC} (h : pc.holds V) {e : SB} {v : Bool} (he : pc.known0 e = some v) : e.den V = v := by
  unfold PC.known0 at he
  split at he
  · rename_i a b
    split at he
    · rename_i hf
      cases he
      have := PC.find_den h hf
      simp only [SB.den, cmpI, decide_eq_true_eq, decide_eq_false_iff_not] at this ⊢
      omega
    · cases h1 : ltO (pc.hi a) (pc.lo b) <;> simp only [h1, cond_true, cond_false] at he
      · cases h2 : leO (pc.hi b) (pc.lo a) <;> simp only [h2, cond_true, cond_false] at he
        · cases he
        cases he
        have := leO_den h2 (PC.hi_den h) (PC.lo_den h)
        simp only [SB.den, cmpI, decide_eq_false_iff_not]
        omega
      · cases he
        have := ltO_den h1 (PC.hi_den h) (PC.lo_den h)
        simp only [SB.den, cmpI, decide_eq_true_eq]
        exact this
  · rename_i a b
    cases h1 : (ltO (pc.hi a) (pc.lo b) || ltO (pc.hi b) (pc.lo a)) <;> simp only [h1, cond_true, cond_false] at he
    · split at he
      case h_2 => cases he
      rename_i x hx
      split at he
      case h_2 => cases he
      rename_i y hy
      cases h2 : (Int.ble1 x y && Int.ble1 y x) <;> simp only [h2, cond_true, cond_false] at he
      · cases he
      cases he
      simp only [Bool.and_eq_true, Int.ble1_iff] at h2
      simp only [SB.den, cmpI, beq_iff_eq, PC.one0_den h hx, PC.one0_den h hy]
      omega
    · cases he
      simp only [Bool.or_eq_true] at h1
      simp only [SB.den, cmpI, beq_eq_false_iff_ne, ne_eq]
      rcases h1 with h1 | h1
      · have := ltO_den h1 (PC.hi_den h) (PC.lo_den h); omega
      · have := ltO_den h1 (PC.hi_den h) (PC.lo_den h); omega
  · cases he

/- Words laid together: what is laid, but for the order of the literals. -/
def bvOf (k : IntKind) (x : Int) : BitVec k.bits := BitVec.ofInt k.bits x
def SE.ors (k : IntKind) : SE → List SE
  | .bin op k' a b => bif Nat.beq (opIx op) 6 then bif Nat.beq (kIx k) (kIx k') then List.append (a.ors k) (b.ors k) else [.bin op k' a b] else [.bin op k' a b]
  | e => [e]
def orLit (k : IntKind) : List SE → Int
  | [] => 0
  | .lit n :: l => binF .or k n (orLit k l)
  | _ :: l => orLit k l
def orRest : List SE → List SE
  | [] => []
  | .lit _ :: l => orRest l
  | e :: l => e :: orRest l
def sameSEs : List SE → List SE → Bool
  | [], [] => true
  | a :: l, b :: m => bif a.same b then sameSEs l m else false
  | _, _ => false
def orEq (a b : SE) : Bool := match a, b with
  | .bin op k a1 a2, .bin op' k' b1 b2 => bif Nat.beq (opIx op) 6 && Nat.beq (opIx op') 6 && Nat.beq (kIx k) (kIx k') then
      sameSEs (orRest ((SE.bin op k a1 a2).ors k)) (orRest ((SE.bin op' k' b1 b2).ors k)) && intEq (orLit k ((SE.bin op k a1 a2).ors k)) (orLit k ((SE.bin op' k' b1 b2).ors k)) else false
  | _, _ => false
theorem sameSEs_eq : ∀ {a b : List SE}, sameSEs a b = true → a = b
  | [], [], h => rfl
  | [], _ :: _, h => by cases h
  | _ :: _, [], h => by cases h
  | x :: a, y :: b, h => by
    unfold sameSEs at h
    cases h1 : x.same y <;> simp only [h1, cond_true, cond_false] at h
    · cases h
    · rw [SE.same_eq h1, sameSEs_eq h]
theorem ofInt_wrap (k : IntKind) (n : Int) : BitVec.ofInt k.bits (k.wrap n) = BitVec.ofInt k.bits n := by
  apply BitVec.eq_of_toNat_eq
  rw [BitVec.toNat_ofInt, BitVec.toNat_ofInt]
  congr 1
  cases k <;> simp only [IntKind.wrap, IntKind.bits, IntKind.signed] <;> simp <;> (try split) <;> omega
theorem bv_or (k : IntKind) (x y : Int) : bvOf k (binI .or k x y) = bvOf k x ||| bvOf k y := by
  unfold bvOf
  simp only [binI]
  rw [ofInt_wrap, BitVec.ofInt_natCast, BitVec.ofNat_toNat, BitVec.setWidth_eq]
def bvs (V : Val) (k : IntKind) : List SE → BitVec k.bits
  | [] => 0
  | e :: l => bvOf k (e.den V) ||| bvs V k l
theorem bvs_append (V : Val) (k : IntKind) : ∀ l m : List SE, bvs V k (l ++ m) = bvs V k l ||| bvs V k m
  | [], m => by simp [bvs]
  | e :: l, m => by simp only [List.cons_append, bvs, bvs_append V k l m, BitVec.or_assoc]
theorem ors_den (V : Val) (k : IntKind) : ∀ e : SE, bvs V k (e.ors k) = bvOf k (e.den V)
  | .lit n => by simp [SE.ors, bvs]
  | .var i => by simp [SE.ors, bvs]
  | .cv k' a => by simp [SE.ors, bvs]
  | .bin op k' a b => by
    unfold SE.ors
    cases h1 : Nat.beq (opIx op) 6 <;> simp only [cond_true, cond_false]
    · simp [bvs]
    cases h2 : Nat.beq (kIx k) (kIx k') <;> simp only [cond_true, cond_false]
    · simp [bvs]
    have ho : op = .or := opIx_inj (b := .or) h1
    have hk := kIx_inj h2
    subst ho; subst hk
    have e : List.append (a.ors k) (b.ors k) = a.ors k ++ b.ors k := rfl
    rw [e, bvs_append, ors_den V k a, ors_den V k b]
    exact (bv_or k _ _).symm
theorem or_rest (V : Val) (k : IntKind) : ∀ l : List SE, bvs V k l = bvOf k (orLit k l) ||| bvs V k (orRest l)
  | [] => by simp [bvs, orLit, orRest, bvOf]
  | .lit n :: l => by
    have ih := or_rest V k l
    simp only [bvs, orLit, orRest, SE.den, binF_eq, bv_or, ih, BitVec.or_assoc]
  | .var i :: l => by
    have ih := or_rest V k l
    simp only [bvs, orLit, orRest, ih]
    rw [← BitVec.or_assoc, ← BitVec.or_assoc, BitVec.or_comm (bvOf k (SE.den V (.var i)))]
  | .bin op k' a b :: l => by
    have ih := or_rest V k l
    simp only [bvs, orLit, orRest, ih]
    rw [← BitVec.or_assoc, ← BitVec.or_assoc, BitVec.or_comm (bvOf k (SE.den V (.bin op k' a b)))]
  | .cv k' a :: l => by
    have ih := or_rest V k l
    simp only [bvs, orLit, orRest, ih]
    rw [← BitVec.or_assoc, ← BitVec.or_assoc, BitVec.or_comm (bvOf k (SE.den V (.cv k' a)))]
theorem orEq_den (V : Val) {a b : SE} (h : orEq a b = true) : a.den V = b.den V := by
  unfold orEq at h
  split at h
  case h_2 => cases h
  rename_i op k a1 a2 op' k' b1 b2
  cases h0 : (Nat.beq (opIx op) 6 && Nat.beq (opIx op') 6 && Nat.beq (kIx k) (kIx k')) <;> simp only [h0, cond_true, cond_false] at h
  · cases h
  simp only [Bool.and_eq_true] at h0 h
  obtain ⟨⟨g1, g2⟩, g3⟩ := h0
  have ho : op = .or := opIx_inj (b := .or) g1
  have ho' : op' = .or := opIx_inj (b := .or) g2
  have hk := kIx_inj g3
  subst ho; subst ho'; subst hk
  have e1 := ors_den V k (.bin .or k a1 a2)
  have e2 := ors_den V k (.bin .or k b1 b2)
  rw [or_rest] at e1 e2
  rw [sameSEs_eq h.1, intEq_eq h.2] at e1
  have e3 := e1.symm.trans e2
  have c : ∀ x y : Int, binI .or k x y = k.wrap ((bvOf k (binI .or k x y)).toNat : Int) := by
    intro x y
    rw [bv_or]
    rfl
  show binI .or k _ _ = binI .or k _ _
  rw [c, c (b1.den V)]
  congr 2
  exact congrArg BitVec.toNat e3
/-- A number, where all that it hangs on is known. -/
def SE.evq (pc : PC) : SE → Option Int
  | .lit n => some n
  | .var i => pc.eqv (.var i)
  | .bin op k a b => match pc.eqv (.bin op k a b) with
    | some n => some n
    | none => match a.evq pc with
      | some x => match b.evq pc with
        | some y => some (binF op k x y)
        | none => none
      | none => none
  | .cv k a => match pc.eqv (.cv k a) with
    | some n => some n
    | none => match a.evq pc with
      | some x => some (wrapF k x)
      | none => none
theorem SE.evq_den {V : Val} {pc : PC} (h : pc.holds V) : ∀ {e : SE} {n : Int}, e.evq pc = some n → e.den V = n
  | .lit m, n, he => by simp only [SE.evq, Option.some.injEq] at he; exact he
  | .var i, n, he => PC.eqv_den h he
  | .bin op k a b, n, he => by
    unfold SE.evq at he
    split at he
    · rename_i m hm
      cases he
      exact PC.eqv_den h hm
    · split at he
      case h_2 => cases he
      rename_i x hx
      split at he
      case h_2 => cases he
      rename_i y hy
      cases he
      simp only [SE.den, SE.evq_den h hx, SE.evq_den h hy, binF_eq]
  | .cv k a, n, he => by
    unfold SE.evq at he
    split at he
    · rename_i m hm
      cases he
      exact PC.eqv_den h hm
    · split at he
      case h_2 => cases he
      rename_i x hx
      cases he
      simp only [SE.den, SE.evq_den h hx, wrapF_eq]
/-- The one number that it can be. -/
def PC.one (pc : PC) (e : SE) : Option Int := match e.evq pc with
  | some n => some n
  | none => pc.one0 e
theorem PC.one_den {V : Val} {pc : PC} (h : pc.holds V) {e : SE} {n : Int} (he : pc.one e = some n) : e.den V = n := by
  unfold PC.one at he
  split at he
  · rename_i m hm
    cases he
    exact SE.evq_den h hm
  · exact PC.one0_den h he
def PC.knownO (pc : PC) (op : BinOp) (a b : SE) : Option Bool := bif Nat.beq (opIx op) 11 && orEq a b then some true else pc.known0 (.cmp op a b)
def PC.knownC (pc : PC) (op : BinOp) (a b : SE) : Option Bool := match b.evq pc with
  | some y => match a.evq pc with
    | some x => some (cmpI op x y)
    | none => pc.known0 (.cmp op a b)
  | none => pc.knownO op a b
def PC.known (pc : PC) (e : SB) : Option Bool := match e with
  | .cmp op a b => pc.knownC op a b
  | e => pc.known0 e
theorem PC.known_den {V : Val} {pc : PC} (h : pc.holds V) {e : SB} {v : Bool} (he : pc.known e = some v) : e.den V = v := by
  unfold PC.known at he
  split at he
  · rename_i op a b
    unfold PC.knownC at he
    split at he
    · rename_i y hy
      split at he
      · rename_i x hx
        cases he
        simp only [SB.den, SE.evq_den h hx, SE.evq_den h hy]
      · exact PC.known0_den h he
    · unfold PC.knownO at he
      cases ho : (Nat.beq (opIx op) 11 && orEq a b) <;> simp only [ho, cond_true, cond_false] at he
      · exact PC.known0_den h he
      · cases he
        simp only [Bool.and_eq_true] at ho
        have hop : op = .eql := opIx_inj (b := .eql) ho.1
        subst hop
        simp [SB.den, cmpI, orEq_den V ho.2]
  · exact PC.known0_den h he
/-- A divisor that is surely not 0. -/
def nonZero (pc : PC) : SE → Bool
  | .lit n => !(decide (n = 0))
  | e => match pc.find (.cmp .eql e (.lit 0)) with
    | some false => true
    | _ => match pc.find (.cmp .neq e (.lit 0)) with
      | some true => true
      | _ => false
theorem nonZero_den {V : Val} {pc : PC} (h : pc.holds V) {e : SE} (hn : nonZero pc e = true) : e.den V ≠ 0 := by
  unfold nonZero at hn
  split at hn
  · simpa [SE.den] using hn
  · split at hn
    · rename_i hf
      have := PC.find_den h hf
      simpa [SB.den, cmpI, SE.den] using this
    · split at hn
      · rename_i hf
        have := PC.find_den h hf
        simpa [SB.den, cmpI, SE.den] using this
      · cases hn
/-- A shift's count that is surely not below 0. -/
def notNeg : SE → Bool
  | .lit n => Int.ble1 0 n
  | .bin .and k _ (.lit n) => !k.signed || (Int.ble1 0 n && Int.ble1 n 127)
  | .bin op k _ _ => isArith op && !k.signed
  | .cv k _ => !k.signed
  | _ => false

def nonZeroP (pc : PC) (e : SE) : Bool := nonZero pc e || ltO (some 0) (pc.lo e) || ltO (pc.hi e) (some 0)
theorem nonZeroP_den {V : Val} {pc : PC} (h : pc.holds V) {e : SE} (hn : nonZeroP pc e = true) : e.den V ≠ 0 := by
  unfold nonZeroP at hn
  simp only [Bool.or_eq_true] at hn
  rcases hn with (hn | hn) | hn
  · exact nonZero_den h hn
  · have := ltO_den hn (isHi_some (Int.le_refl 0)) (PC.lo_den h); omega
  · have := ltO_den hn (PC.hi_den h) (isLo_some (Int.le_refl 0)); omega
def notNegP (pc : PC) (e : SE) : Bool := notNeg e || leO (some 0) (pc.lo e)
def eqStr (a b : ByteArray) : Bool := a.data.toList == b.data.toList
/-- Whether two lists of cells are equal, where all are whole numbers of one kind, or truths. -/
def eqCells : List SV → List SV → Option SB
  | [], [] => some (.lit true)
  | .int k a :: l, .int k' b :: l' => bif decide (k = k') then (match eqCells l l' with | some r => some (mkAnd (mkCmp .eql a b) r) | none => none) else none
  | .bool a :: l, .bool b :: l' => (match eqCells l l' with | some r => some (mkAnd (mkEq a b) r) | none => none)
  | _, _ => none

/-- Is it nil, of a pointer's (0), a slice's (1), a function's (2) type? -/
def isNil : Nat → SV → Option Bool
  | 0, .nilPtr => some true
  | 0, .ptr .. => some false
  | 1, .nilSlice => some true
  | 1, .slice .. => some false
  | 2, .nilFunc => some true
  | 2, .func .. => some false
  | _, _ => none
/-- Two values of whole numbers' (0), truths' (1), strings' (2) types. -/
def evBin (pc : PC) (op : BinOp) : Nat → SV → SV → Option SV
  | 0, .int k a, .int k' b =>
    bif isShift op then (bif notNegP pc b then some (.int k (mkBin op k a b)) else none)
    else bif !(decide (k = k')) then none
    else bif isArith op then some (.int k (mkBin op k a b))
    else bif isCmp op then some (.bool (mkCmp op a b))
    else bif isDiv op then (bif nonZeroP pc b then some (.int k (mkBin op k a b)) else none)
    else none
  | 1, .bool a, .bool b => match op with
    | .eql => some (.bool (mkEq a b))
    | .neq => some (.bool (mkNot (mkEq a b)))
    | _ => none
  | 2, .str a, .str b => match op with
    | .eql => some (.bool (.lit (eqStr a b)))
    | .neq => some (.bool (.lit (!(eqStr a b))))
    | _ => none
  | _, _, _ => none

def subL (cs : List SV) (off n : Nat) : Option (List SV) := bif Nat.ble (off + n) cs.length then some ((cs.drop off).take n) else none
def partV (agg : Bool) (off n : Nat) (cs : List SV) : Option SV :=
  bif agg then (match subL cs off n with | some l => some (.agg l) | none => none) else cs[off]?
def fillV : List SV → List (Nat × Nat × SV) → Option (List SV)
  | cells, [] => some cells
  | cells, (off, n, v) :: rest =>
    bif Nat.beq v.cells.length n && Nat.ble (off + n) cells.length then fillV (cells.take off ++ v.cells ++ cells.drop (off + n)) rest else none
def litNat : SV → Option Nat
  | .int _ (.lit (.ofNat n)) => some n
  | _ => none
def optNat : Option SV → Nat → Option Nat
  | none, d => some d
  | some v, _ => litNat v
def cons? {α : Type} : Option α → Option (List α) → Option (List α)
  | some a, some l => some (a :: l)
  | _, _ => none
def readAll (rd : X → Option SV) : List X → Option (List SV)
  | [] => some []
  | x :: xs => cons? (rd x) (readAll rd xs)
def readFills (rd : X → Option SV) : List (Nat × Nat × X) → Option (List (Nat × Nat × SV))
  | [] => some []
  | (a, b, x) :: xs => cons? (match rd x with | some v => some (a, b, v) | none => none) (readFills rd xs)
def readOpt (rd : X → Option SV) : Option X → Option (Option SV)
  | none => some none
  | some x => match rd x with | some v => some (some v) | none => none

/-- A number that is written out, or known. -/
def litNatP (pc : PC) (v : SV) : Option Nat :=
  match v with
  | .int _ (.lit (.ofNat n)) => some n
  | .int _ e => match pc.one e with
    | some (.ofNat n) => some n
    | _ => none
  | _ => none
def optNatP (pc : PC) : Option SV → Nat → Option Nat
  | none, d => some d
  | some v, _ => litNatP pc v
def atomK (pc : PC) (e : SB) : Option Bool := match pc.find e with
  | some b => some b
  | none => pc.known e
/-- A truth that is known already. -/
def sbK (pc : PC) : SB → Option Bool
  | .lit b => some b
  | .not a => match sbK pc a with
    | some b => some (!b)
    | none => none
  | e => atomK pc e
theorem atomK_den {V : Val} {pc : PC} (h : pc.holds V) {e : SB} {b : Bool} (he : atomK pc e = some b) : e.den V = b := by
  unfold atomK at he
  split at he
  · rename_i b' hf
    cases he
    exact PC.find_den h hf
  · exact PC.known_den h he
theorem sbK_den {V : Val} {pc : PC} (h : pc.holds V) : ∀ {e : SB} {b : Bool}, sbK pc e = some b → e.den V = b
  | .lit c, b, he => by simp only [sbK, Option.some.injEq] at he; exact he
  | .not a, b, he => by
    simp only [sbK] at he
    split at he
    · rename_i c hc
      cases he
      simp only [SB.den, sbK_den h hc]
    · cases he
  | .var i, b, he => atomK_den h he
  | .cmp o x y, b, he => atomK_den h he
  | .eq x y, b, he => atomK_den h he
  | .and x y, b, he => atomK_den h he
/-- One of two, by whether the first number is less. -/
def mxV (pc : PC) (k : IntKind) (a b t f : SE) : Option SV := match sbK pc (mkCmp .lss a b) with
  | some c => some (.int k (bif c then t else f))
  | none => none
theorem mxV_den {V : Val} {pc : PC} (h : pc.holds V) {k : IntKind} {a b t f : SE} {v : SV} (he : mxV pc k a b t f = some v) : v = .int k (if a.den V < b.den V then t else f) := by
  unfold mxV at he
  split at he
  · rename_i c hc
    cases he
    have := sbK_den h hc
    rw [mkCmp_den] at this
    simp only [cmpI] at this
    cases c
    · simp only [decide_eq_false_iff_not] at this; rw [if_neg this]; rfl
    · simp only [decide_eq_true_eq] at this; rw [if_pos this]; rfl
  · cases he
def evP (rd : X → Option SV) (pc : PC) : POp → Option SV
  | .mv x => rd x
  | .build zero fills => match readFills rd fills with
    | some l => match fillV zero l with
      | some cs => some (.agg cs)
      | none => none
    | none => none
  | .nilCheck x => match rd x with
    | some (.ptr id o) => some (.ptr id o)
    | some (.iface t v) => some (.iface t v)
    | some (.func (.func f) a b) => some (.func (.func f) a b)
    | _ => none
  | .bin cls op x y => match rd x, rd y with
    | some a, some b => evBin pc op cls a b
    | _, _ => none
  | .nilEq cls neg x y => match rd x, rd y with
    | some a, some b => match isNil cls a, isNil cls b with
      | some true, some c => some (.bool (.lit (neg != c)))
      | some c, some true => some (.bool (.lit (neg != c)))
      | _, _ => none
    | _, _ => none
  | .un op x => match op, rd x with
    | .neg, some (.int k a) => some (.int k (mkBin .sub k (.lit 0) a))
    | .xor, some (.int k a) => some (.int k (mkBin .xor k (.lit (if k.signed then -1 else k.max)) a))
    | .not, some (.bool b) => some (.bool (mkNot b))
    | _, _ => none
  | .conv k x => match rd x with
    | some (.int _ a) => some (.int k (mkCv k a))
    | _ => none
  | .mkIface t x => match rd x with
    | some v => some (.iface t v)
    | none => none
  | .mkFunc f first caps => match readAll rd first, readAll rd caps with
    | some a, some b => some (.func (.func f) a b)
    | _, _ => none
  | .slice sz x lo hi => match rd x, readOpt rd lo, readOpt rd hi with
    | some (.slice id o len cap sz'), some lo, some hi => match optNatP pc lo 0, optNatP pc hi len with
      | some l, some h => bif Nat.beq sz sz' && Nat.ble h cap && Nat.ble l h then some (.slice id (o + l * sz) (h - l) (cap - l) sz) else none
      | _, _ => none
    | some .nilSlice, some lo, some hi => match optNatP pc lo 0, optNatP pc hi 0 with
      | some 0, some 0 => some .nilSlice
      | _, _ => none
    | _, _, _ => none
  | .fieldAddr off x => match rd x with
    | some (.ptr id o) => some (.ptr id (o + off))
    | _ => none
  | .field agg off n x => match rd x with
    | some (.agg cs) => partV agg off n cs
    | _ => none
  | .idxArr n sz x i => match rd x, rd i with
    | some (.ptr id o), some j => match litNatP pc j with
      | some k => bif Nat.blt k n then some (.ptr id (o + k * sz)) else none
      | none => none
    | _, _ => none
  | .idxSl sz x i => match rd x, rd i with
    | some (.slice id o len _ sz'), some j => match litNatP pc j with
      | some k => bif Nat.blt k len && Nat.beq sz sz' then some (.ptr id (o + k * sz)) else none
      | none => none
    | _, _ => none
  | .index agg n sz x i => match rd x, rd i with
    | some (.agg cs), some j => match litNatP pc j with
      | some k => bif Nat.blt k n then partV agg (k * sz) sz cs else none
      | none => none
    | _, _ => none
  | .idxStr x i => match rd x, rd i with
    | some (.str s), some j => match litNatP pc j with
      | some k => match s.data.toList[k]? with
        | some b => some (.int .u8 (.lit (.ofNat b.toNat)))
        | none => none
      | none => none
    | _, _ => none
  | .extract i x => match rd x with
    | some (.tuple vs) => vs[i]?
    | _ => none
  | .tyAs t ok zero x => match rd x with
    | some .nilIface => bif ok then some (.tuple [zero, .bool (.lit false)]) else none
    | some (.iface u v) => bif Nat.beq u t then (bif ok then some (.tuple [v, .bool (.lit true)]) else some v)
      else (bif ok then some (.tuple [zero, .bool (.lit false)]) else none)
    | _ => none
  | .lenS x => match rd x with
    | some (.slice _ _ len _ _) => some (.int .i64 (.lit (.ofNat len)))
    | some .nilSlice => some (.int .i64 (.lit 0))
    | _ => none
  | .lenStr x => match rd x with
    | some (.str s) => some (.int .i64 (.lit (.ofNat s.data.toList.length)))
    | _ => none
  | .lenN n => some (.int .i64 (.lit (.ofNat n)))
  | .mx x y => match rd x, rd y with
    | some (.int k a), some (.int _ b) => mxV pc k a b b a
    | _, _ => none
  | .mn x y => match rd x, rd y with
    | some (.int k a), some (.int _ b) => mxV pc k a b a b
    | _, _ => none
end Go.Sx
