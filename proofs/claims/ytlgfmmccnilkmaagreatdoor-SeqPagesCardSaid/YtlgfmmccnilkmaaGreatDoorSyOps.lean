/- The symbolic machine's operations that leave memory alone, and that the model's operations do as they say. No condition: lemmas of the machine. -/
import Derived.Test.YtlgfmmccnilkmaaGreatDoorSyAppend
import Derived.Laws.Strings
namespace Go.Sx
set_option linter.unusedVariables false
set_option linter.unusedSimpArgs false

inductive X where
  | t (i : Nat)
  | c (v : SV)
  | f (i : Nat)
  | g (i : Nat)
inductive POp where
  | mv (x : X)
  | build (zero : List SV) (fills : List (Nat × Nat × X))
  | nilCheck (x : X)
  | bin (cls : Nat) (op : BinOp) (x y : X)
  | nilEq (cls : Nat) (neg : Bool) (x y : X)
  | un (op : UnOp) (x : X)
  | conv (k : IntKind) (x : X)
  | mkIface (t : Nat) (x : X)
  | mkFunc (f : Nat) (first caps : List X)
  | slice (sz : Nat) (x : X) (lo hi : Option X)
  | fieldAddr (off : Nat) (x : X)
  | field (agg : Bool) (off n : Nat) (x : X)
  | idxArr (n sz : Nat) (x i : X)
  | idxSl (sz : Nat) (x i : X)
  | index (agg : Bool) (n sz : Nat) (x i : X)
  | extract (i : Nat) (x : X)
  | idxStr (x i : X)
  | lenS (x : X)
  | lenStr (x : X)
  | lenN (n : Nat)
  | tyAs (t : Nat) (ok : Bool) (zero : SV) (x : X)
  | mx (x y : X)
  | mn (x y : X)

def Int.ble1 (a b : Int) : Bool :=
  match b - a with
  | .ofNat _ => true
  | .negSucc _ => false
theorem Int.ble1_iff (a b : Int) : Int.ble1 a b = true ↔ a ≤ b := by
  unfold Int.ble1
  constructor
  · intro h; split at h
    · rename_i n e; have h0 : (0 : Int) ≤ Int.ofNat n := Int.natCast_nonneg n; omega
    · cases h
  · intro h; split
    · rfl
    · rename_i n e; omega
def inKind (k : IntKind) (n : Int) : Bool :=
  match k with
  | .i64 => Int.ble1 (-9223372036854775808) n && Int.ble1 n 9223372036854775807
  | .u32 => Int.ble1 0 n && Int.ble1 n 4294967295
  | .u64 => Int.ble1 0 n && Int.ble1 n 18446744073709551615
  | .u8 => Int.ble1 0 n && Int.ble1 n 255
  | _ => false
def wrapF (k : IntKind) (n : Int) : Int := bif inKind k n then n else k.wrap n
theorem wrapF_eq (k : IntKind) (n : Int) : wrapF k n = k.wrap n := by
  unfold wrapF
  cases h : inKind k n
  · rfl
  · cases k <;> simp [inKind, Int.ble1_iff] at h <;> simp [IntKind.wrap, IntKind.bits, IntKind.signed] <;> omega
def binF (op : BinOp) (k : IntKind) (x y : Int) : Int :=
  match op with
  | .add => wrapF k (x + y)
  | .sub => wrapF k (x - y)
  | .mul => wrapF k (x * y)
  | _ => binI op k x y
theorem binF_eq (op : BinOp) (k : IntKind) (x y : Int) : binF op k x y = binI op k x y := by
  cases op <;> simp [binF, binI, wrapF_eq]
/- Equalities that the kernel reckons in few steps. -/
def intEq : Int → Int → Bool
  | .ofNat m, .ofNat n => Nat.beq m n
  | .negSucc m, .negSucc n => Nat.beq m n
  | _, _ => false
theorem intEq_eq {a b : Int} (h : intEq a b = true) : a = b := by
  cases a <;> cases b <;> simp only [intEq] at h <;> (try (cases h; done)) <;> rw [Nat.eq_of_beq_eq_true h]
theorem intEq_refl (a : Int) : intEq a a = true := by cases a <;> simp [intEq]
theorem intEq_iff {a b : Int} : intEq a b = true ↔ a = b := ⟨intEq_eq, fun e => by subst e; exact intEq_refl a⟩
def opIx (o : BinOp) : Nat := BinOp.casesOn o 0 1 2 3 4 5 6 7 8 9 10 11 12 13 14 15 16
theorem opIx_inj {a b : BinOp} (h : Nat.beq (opIx a) (opIx b) = true) : a = b := by
  have h := Nat.eq_of_beq_eq_true h
  cases a <;> cases b <;> simp only [opIx] at h <;> first | rfl | (exact absurd h (by decide))
def kIx (k : IntKind) : Nat := IntKind.casesOn k 0 1 2 3 4 5 6 7
theorem kIx_inj {a b : IntKind} (h : Nat.beq (kIx a) (kIx b) = true) : a = b := by
  have h := Nat.eq_of_beq_eq_true h
  cases a <;> cases b <;> simp only [kIx] at h <;> first | rfl | (exact absurd h (by decide))
def SE.same : SE → SE → Bool
  | .lit a, .lit b => intEq a b
  | .var i, .var j => Nat.beq i j
  | .bin o k a b, .bin o' k' a' b' => bif Nat.beq (opIx o) (opIx o') then bif Nat.beq (kIx k) (kIx k') then bif b.same b' then a.same a' else false else false else false
  | .cv k a, .cv k' a' => bif Nat.beq (kIx k) (kIx k') then a.same a' else false
  | .sel s a, .sel s' a' => bif Nat.beq s s' then a.same a' else false
  | _, _ => false
theorem SE.same_eq : ∀ {a b : SE}, a.same b = true → a = b
  | .lit a, b, h => by
    cases b <;> simp only [SE.same] at h <;> (try (cases h; done))
    rw [intEq_eq h]
  | .var i, b, h => by
    cases b <;> simp only [SE.same] at h <;> (try (cases h; done))
    rw [Nat.eq_of_beq_eq_true h]
  | .bin o k a b, c, h => by
    cases c <;> simp only [SE.same] at h <;> (try (cases h; done))
    rename_i o' k' a' b'
    cases h1 : Nat.beq (opIx o) (opIx o') <;> simp only [h1, cond_true, cond_false] at h <;> (try (cases h; done))
    cases h2 : Nat.beq (kIx k) (kIx k') <;> simp only [h2, cond_true, cond_false] at h <;> (try (cases h; done))
    cases h3 : b.same b' <;> simp only [h3, cond_true, cond_false] at h <;> (try (cases h; done))
    rw [opIx_inj h1, kIx_inj h2, SE.same_eq h3, SE.same_eq h]
  | .cv k a, c, h => by
    cases c <;> simp only [SE.same] at h <;> (try (cases h; done))
    rename_i k' a'
    cases h2 : Nat.beq (kIx k) (kIx k') <;> simp only [h2, cond_true, cond_false] at h <;> (try (cases h; done))
    rw [kIx_inj h2, SE.same_eq h]
  | .sel s a, c, h => by
    cases c <;> simp only [SE.same] at h <;> (try (cases h; done))
    rename_i s' a'
    cases h2 : Nat.beq s s' <;> simp only [h2, cond_true, cond_false] at h
    · cases h
    rw [Nat.eq_of_beq_eq_true h2, SE.same_eq h]
def eqOrd (a b : SE) : SB :=
  match a with
  | .lit x => .cmp .eql b (.lit x)
  | a => .cmp .eql a b
theorem eqOrd_den (V : Val) (a b : SE) : (eqOrd a b).den V = (a.den V == b.den V) := by
  unfold eqOrd
  split
  · simp only [SB.den, cmpI, SE.den]; rw [Bool.eq_iff_iff]; simp; exact eq_comm
  · rfl
def mkCmp1 (op : BinOp) (a b : SE) : SB :=
  match op with
  | .eql => eqOrd a b
  | .neq => .not (eqOrd a b)
  | .lss => .cmp .lss a b
  | .geq => .not (.cmp .lss a b)
  | .gtr => .cmp .lss b a
  | .leq => .not (.cmp .lss b a)
  | op => .cmp op a b
theorem mkCmp1_den (V : Val) (op : BinOp) (a b : SE) : (mkCmp1 op a b).den V = cmpI op (a.den V) (b.den V) := by
  unfold mkCmp1
  split <;> simp only [SB.den, cmpI, eqOrd_den]
  · rfl
  · rw [Bool.eq_iff_iff]; simp
  · rw [Bool.eq_iff_iff]; simp
def mkNot : SB → SB
  | .lit b => .lit (!b)
  | .not a => a
  | a => .not a
theorem mkNot_den (V : Val) (a : SB) : (mkNot a).den V = !(a.den V) := by
  cases a <;> simp [mkNot, SB.den]
def mkEq0 : SB → SB → SB
  | .lit true, b => b
  | .lit false, b => mkNot b
  | a, .lit true => a
  | a, .lit false => mkNot a
  | a, b => .eq a b
theorem mkEq0_den (V : Val) (a b : SB) : (mkEq0 a b).den V = (a.den V == b.den V) := by
  unfold mkEq0
  split <;> simp [SB.den, mkNot_den]
def mkAnd : SB → SB → SB
  | .lit true, b => b
  | .lit false, _ => .lit false
  | a, .lit true => a
  | a, b => .and a b
theorem mkAnd_den (V : Val) (a b : SB) : (mkAnd a b).den V = (a.den V && b.den V) := by
  unfold mkAnd
  split <;> simp [SB.den]

def isArith : BinOp → Bool
  | .add | .sub | .mul | .and | .or | .xor | .andNot => true
  | _ => false
def isCmp : BinOp → Bool
  | .eql | .neq | .lss | .leq | .gtr | .geq => true
  | _ => false
def isShift : BinOp → Bool
  | .shl | .shr => true
  | _ => false
def isDiv : BinOp → Bool
  | .quo | .rem => true
  | _ => false

def SB.same : SB → SB → Bool
  | .lit a, .lit b => a == b
  | .var i, .var j => Nat.beq i j
  | .cmp o a b, .cmp o' a' b' => bif Nat.beq (opIx o) (opIx o') then bif b.same b' then a.same a' else false else false
  | .eq a b, .eq a' b' => a.same a' && b.same b'
  | .not a, .not a' => a.same a'
  | .and a b, .and a' b' => a.same a' && b.same b'
  | _, _ => false
theorem SB.same_eq : ∀ {a b : SB}, a.same b = true → a = b
  | .lit a, b, h => by cases b <;> simp [SB.same] at h; subst h; rfl
  | .var i, b, h => by
    cases b <;> simp only [SB.same] at h <;> (try (cases h; done))
    rw [Nat.eq_of_beq_eq_true h]
  | .cmp o a b, c, h => by
    cases c <;> simp only [SB.same] at h <;> (try (cases h; done))
    rename_i o' a' b'
    cases h1 : Nat.beq (opIx o) (opIx o') <;> simp only [h1, cond_true, cond_false] at h <;> (try (cases h; done))
    cases h3 : b.same b' <;> simp only [h3, cond_true, cond_false] at h <;> (try (cases h; done))
    rw [opIx_inj h1, SE.same_eq h3, SE.same_eq h]
  | .eq a b, c, h => by
    cases c <;> simp only [SB.same, Bool.and_eq_true] at h <;> (try (cases h; done))
    rw [SB.same_eq h.1, SB.same_eq h.2]
  | .not a, c, h => by
    cases c <;> simp only [SB.same] at h <;> (try (cases h; done))
    rw [SB.same_eq h]
  | .and a b, c, h => by
    cases c <;> simp only [SB.same, Bool.and_eq_true] at h <;> (try (cases h; done))
    rw [SB.same_eq h.1, SB.same_eq h.2]

def mkEq (a b : SB) : SB := bif a.same b then .lit true else mkEq0 a b
theorem mkEq_den (V : Val) (a b : SB) : (mkEq a b).den V = (a.den V == b.den V) := by
  unfold mkEq
  cases h : a.same b <;> simp only [cond_true, cond_false]
  · exact mkEq0_den V a b
  · rw [SB.same_eq h]; simp [SB.den]
abbrev PC := List (SB × Bool)
def PC.find : PC → SB → Option Bool
  | [], _ => none
  | (b, v) :: l, a => bif a.same b then some v else PC.find l a
def PC.holds (V : Val) (pc : PC) : Prop := ∀ p ∈ pc, p.1.den V = p.2
theorem PC.find_den {V : Val} : ∀ {pc : PC} {a : SB} {v : Bool}, pc.holds V → pc.find a = some v → a.den V = v
  | [], a, v, h, hf => by simp [PC.find] at hf
  | (b, u) :: l, a, v, h, hf => by
    unfold PC.find at hf
    cases hs : a.same b <;> simp only [hs, cond_true, cond_false] at hf
    · exact PC.find_den (fun p hp => h p (List.mem_cons_of_mem _ hp)) hf
    · cases hf
      rw [SB.same_eq hs]
      exact h (b, u) (List.mem_cons_self ..)
def loMax : Option Int → Option Int → Option Int
  | none, b => b
  | some x, none => some x
  | some x, some y => some (bif Int.ble1 x y then y else x)
def hiMin : Option Int → Option Int → Option Int
  | none, b => b
  | some x, none => some x
  | some x, some y => some (bif Int.ble1 x y then x else y)
def isLo (o : Option Int) (z : Int) : Prop := ∀ n, o = some n → n ≤ z
def isHi (o : Option Int) (z : Int) : Prop := ∀ n, o = some n → z ≤ n
theorem isLo_max {a b : Option Int} {z : Int} (h : isLo a z) (h' : isLo b z) : isLo (loMax a b) z := by
  intro n hn
  unfold loMax at hn
  split at hn
  · exact h' n hn
  · exact h n hn
  · rename_i x y
    have h1 := h x rfl
    have h2 := h' y rfl
    cases hb : Int.ble1 x y <;> simp [hb] at hn <;> omega
theorem isHi_min {a b : Option Int} {z : Int} (h : isHi a z) (h' : isHi b z) : isHi (hiMin a b) z := by
  intro n hn
  unfold hiMin at hn
  split at hn
  · exact h' n hn
  · exact h n hn
  · rename_i x y
    have h1 := h x rfl
    have h2 := h' y rfl
    cases hb : Int.ble1 x y <;> simp [hb] at hn <;> omega
theorem isLo_none (z : Int) : isLo none z := fun n h => by cases h
theorem isHi_none (z : Int) : isHi none z := fun n h => by cases h
theorem isLo_some {x z : Int} (h : x ≤ z) : isLo (some x) z := fun n e => by cases e; exact h
theorem isHi_some {x z : Int} (h : z ≤ x) : isHi (some x) z := fun n e => by cases e; exact h
theorem wrap_in (k : IntKind) (n : Int) : k.min ≤ k.wrap n ∧ k.wrap n ≤ k.max := by
  cases k <;> simp only [IntKind.wrap, IntKind.min, IntKind.max, IntKind.bits, IntKind.signed] <;> simp <;> (try split) <;> omega
theorem wrap_of_in {k : IntKind} {n : Int} (h0 : k.min ≤ n) (h1 : n ≤ k.max) : k.wrap n = n := by
  cases k <;> simp only [IntKind.wrap, IntKind.min, IntKind.max, IntKind.bits, IntKind.signed] at * <;> simp at * <;> (try split) <;> omega
theorem and_max (k : IntKind) (x n : Int) (h0 : 0 ≤ n) (h1 : n ≤ k.max) : 0 ≤ binI .and k x n ∧ binI .and k x n ≤ n := by
  have hle : (BitVec.ofInt k.bits x &&& BitVec.ofInt k.bits n).toNat ≤ (BitVec.ofInt k.bits n).toNat := by
    rw [BitVec.toNat_and]; exact Nat.and_le_right
  have hn : ((BitVec.ofInt k.bits n).toNat : Int) ≤ n := by
    rw [BitVec.toNat_ofInt]
    cases k <;> simp [IntKind.bits] <;> omega
  simp only [binI]
  generalize (BitVec.ofInt k.bits x &&& BitVec.ofInt k.bits n).toNat = m at hle
  have hm : (m : Int) ≤ n := Int.le_trans (Int.ofNat_le.2 hle) hn
  revert h1
  cases k <;> simp [IntKind.wrap, IntKind.bits, IntKind.signed, IntKind.max] <;> intro h1 <;> (try split) <;> omega
theorem fdiv_mono {x y c : Int} (hc : 0 < c) (h : x ≤ y) : x.fdiv c ≤ y.fdiv c := by
  rw [Int.fdiv_eq_ediv_of_nonneg _ (by omega), Int.fdiv_eq_ediv_of_nonneg _ (by omega)]
  exact Int.ediv_le_ediv hc h
def unsg (k : IntKind) : Bool := IntKind.casesOn k false false false false true true true true
theorem uns_wrap {k : IntKind} (h : unsg k = true) (n : Int) : k.wrap n = n % 2 ^ k.bits := by
  cases k <;> simp [unsg] at h <;> simp [IntKind.wrap, IntKind.bits, IntKind.signed]
theorem uns_max {k : IntKind} (h : unsg k = true) : k.max = 2 ^ k.bits - 1 ∧ k.min = 0 := by
  cases k <;> simp [unsg] at h <;> decide
theorem pow2I (j : Nat) : ((2 ^ j : Nat) : Int) = 2 ^ j := by simp
theorem nat_lt {k : IntKind} (h : unsg k = true) {n : Nat} (hn : (n : Int) ≤ k.max) : n < 2 ^ k.bits := by
  have := (uns_max h).1
  rw [this, ← pow2I] at hn
  have : 0 < 2 ^ k.bits := Nat.two_pow_pos _
  omega
theorem orN {k : IntKind} (h : unsg k = true) {x y : Nat} (hx : (x : Int) ≤ k.max) (hy : (y : Int) ≤ k.max) : binI .or k x y = ((x ||| y : Nat) : Int) := by
  have h1 := nat_lt h hx
  have h2 := nat_lt h hy
  simp only [binI]
  rw [BitVec.toNat_or, BitVec.ofInt_natCast, BitVec.ofInt_natCast, BitVec.toNat_ofNat, BitVec.toNat_ofNat, Nat.mod_eq_of_lt h1, Nat.mod_eq_of_lt h2, uns_wrap h, ← pow2I]
  have := Nat.or_lt_two_pow h1 h2
  exact Int.emod_eq_of_lt (Int.natCast_nonneg _) (Int.ofNat_lt.2 this)
theorem andN {k : IntKind} (h : unsg k = true) {x y : Nat} (hx : (x : Int) ≤ k.max) (hy : (y : Int) ≤ k.max) : binI .and k x y = ((x &&& y : Nat) : Int) := by
  have h1 := nat_lt h hx
  have h2 := nat_lt h hy
  simp only [binI]
  rw [BitVec.toNat_and, BitVec.ofInt_natCast, BitVec.ofInt_natCast, BitVec.toNat_ofNat, BitVec.toNat_ofNat, Nat.mod_eq_of_lt h1, Nat.mod_eq_of_lt h2, uns_wrap h, ← pow2I]
  have : x &&& y ≤ x := Nat.and_le_left
  exact Int.emod_eq_of_lt (Int.natCast_nonneg _) (Int.ofNat_lt.2 (by omega))
def orHi (k : IntKind) (b d : Int) : Int := match b, d with
  | .ofNat b, .ofNat d => bif Int.ble1 (.ofNat (Nat.sub (Nat.pow 2 (Nat.succ (Nat.log2 (Nat.lor b d)))) 1)) k.max then .ofNat (Nat.sub (Nat.pow 2 (Nat.succ (Nat.log2 (Nat.lor b d)))) 1) else k.max
  | _, _ => k.max
theorem orHi_den {k : IntKind} {b d : Int} {n m : Nat} (hn : (n : Int) ≤ b) (hm : (m : Int) ≤ d) (h : ((n ||| m : Nat) : Int) ≤ k.max) : ((n ||| m : Nat) : Int) ≤ orHi k b d := by
  unfold orHi
  split
  · rename_i b d
    cases hb : Int.ble1 (.ofNat (Nat.sub (Nat.pow 2 (Nat.succ (Nat.log2 (Nat.lor b d)))) 1)) k.max <;> simp only [cond_true, cond_false]
    · exact h
    · have hn : n ≤ b := Int.ofNat_le.1 hn
      have hm : m ≤ d := Int.ofNat_le.1 hm
      have hbd : b ||| d < 2 ^ ((b ||| d).log2 + 1) := Nat.lt_log2_self
      have h1 : b ≤ b ||| d := Nat.left_le_or
      have h2 : d ≤ b ||| d := Nat.right_le_or
      have h3 := Nat.or_lt_two_pow (show n < 2 ^ ((b ||| d).log2 + 1) by omega) (show m < 2 ^ ((b ||| d).log2 + 1) by omega)
      have e : (Int.ofNat (Nat.sub (Nat.pow 2 (Nat.succ (Nat.log2 (Nat.lor b d)))) 1)) = ((2 ^ ((b ||| d).log2 + 1) - 1 : Nat) : Int) := rfl
      rw [e]
      exact Int.ofNat_le.2 (by omega)
  · exact h
def inK (k : IntKind) (lo hi : Int) : Option Int × Option Int := bif Int.ble1 k.min lo && Int.ble1 hi k.max then (some lo, some hi) else (some k.min, some k.max)
def rngB (op : BinOp) (k : IntKind) (r q : Option Int × Option Int) : Option Int × Option Int :=
  match op, r, q with
  | .add, (some a, some b), (some c, some d) => inK k (a + c) (b + d)
  | .sub, (some a, some b), (some c, some d) => inK k (a - d) (b - c)
  | .mul, (some a, some b), (some c, some d) => bif Int.ble1 0 a && Int.ble1 0 c then inK k (a * c) (b * d) else (some k.min, some k.max)
  | .rem, (some a, _), (some c, some d) => bif Int.ble1 1 c && Int.ble1 0 a then (some 0, some (d - 1)) else bif Int.ble1 1 c then (some (1 - d), some (d - 1)) else (none, none)
  | .rem, _, (some c, some d) => bif Int.ble1 1 c then (some (1 - d), some (d - 1)) else (none, none)
  | .quo, (some a, some b), (some c, some d) => bif Int.ble1 1 c && Int.ble1 0 a && Int.ble1 c d then inK k 0 b else (some k.min, some k.max)
  | .shl, (some a, some b), (some c, some d) => bif Int.ble1 0 a && Int.ble1 0 c && Int.ble1 d 64 then inK k 0 (b * 2 ^ d.toNat) else (some k.min, some k.max)
  | .or, (some a, some b), (some c, some d) => bif unsg k && Int.ble1 0 a && Int.ble1 0 c && Int.ble1 b k.max && Int.ble1 d k.max then (some (bif Int.ble1 a c then c else a), some (orHi k b d)) else (some k.min, some k.max)
  | op, _, _ => bif isArith op then (some k.min, some k.max) else match op with
    | .shl => (some k.min, some k.max)
    | .quo => (some k.min, some k.max)
    | _ => (none, none)
def SE.rng : SE → Option Int × Option Int
  | .lit n => (some n, some n)
  | .cv k _ => (some k.min, some k.max)
  | .bin .and k _ (.lit m) => bif Int.ble1 0 m && Int.ble1 m k.max then (some 0, some m) else (some k.min, some k.max)
  | .bin .shr k a (.lit s) => match a.rng with
    | (lo, hi) => (lo.map fun x => x.fdiv (2 ^ (min s.toNat k.bits)), hi.map fun x => x.fdiv (2 ^ (min s.toNat k.bits)))
  | .bin op k a b => rngB op k a.rng b.rng
  | .var _ => (none, none)
  | .sel _ _ => (none, none)
theorem inK_den {k : IntKind} {lo hi n : Int} (h0 : lo ≤ n) (h1 : n ≤ hi) : isLo (inK k lo hi).1 (k.wrap n) ∧ isHi (inK k lo hi).2 (k.wrap n) := by
  unfold inK
  cases hb : (Int.ble1 k.min lo && Int.ble1 hi k.max) <;> simp only [cond_true, cond_false]
  · exact ⟨isLo_some (wrap_in k _).1, isHi_some (wrap_in k _).2⟩
  · simp only [Bool.and_eq_true, Int.ble1_iff] at hb
    rw [wrap_of_in (by omega) (by omega)]
    exact ⟨isLo_some h0, isHi_some h1⟩
theorem tmod_bd (x m d : Int) (h : 1 ≤ m) (hd : m ≤ d) : 1 - d ≤ x.tmod m ∧ x.tmod m ≤ d - 1 ∧ (0 ≤ x → 0 ≤ x.tmod m) := by
  have h1 : x.tmod m < m := Int.tmod_lt_of_pos x (by omega)
  have h2 : (-x).tmod m < m := Int.tmod_lt_of_pos (-x) (by omega)
  rw [Int.neg_tmod] at h2
  exact ⟨by omega, by omega, fun hx => Int.tmod_nonneg m hx⟩
theorem mul_le_of {a b c d x y : Int} (ha : 0 ≤ a) (hc : 0 ≤ c) (h1 : a ≤ x) (h2 : x ≤ b) (h3 : c ≤ y) (h4 : y ≤ d) : a * c ≤ x * y ∧ x * y ≤ b * d :=
  ⟨Int.mul_le_mul h1 h3 hc (by omega), Int.mul_le_mul h2 h4 (by omega) (by omega)⟩
theorem rngB_den {op : BinOp} {k : IntKind} {r q : Option Int × Option Int} {x y : Int} (hr : isLo r.1 x ∧ isHi r.2 x) (hq : isLo q.1 y ∧ isHi q.2 y) : isLo (rngB op k r q).1 (binI op k x y) ∧ isHi (rngB op k r q).2 (binI op k x y) := by
  have gen : ∀ z : Int, isLo (some k.min) (k.wrap z) ∧ isHi (some k.max) (k.wrap z) := fun z => ⟨isLo_some (wrap_in k _).1, isHi_some (wrap_in k _).2⟩
  unfold rngB
  split
  · exact inK_den (by have := hr.1 _ rfl; have := hq.1 _ rfl; omega) (by have := hr.2 _ rfl; have := hq.2 _ rfl; omega)
  · exact inK_den (by have := hr.1 _ rfl; have := hq.2 _ rfl; omega) (by have := hr.2 _ rfl; have := hq.1 _ rfl; omega)
  · rename_i a b c d
    cases hb : (Int.ble1 0 a && Int.ble1 0 c) <;> simp only [cond_true, cond_false]
    · exact gen _
    · simp only [Bool.and_eq_true, Int.ble1_iff] at hb
      have := mul_le_of hb.1 hb.2 (hr.1 _ rfl) (hr.2 _ rfl) (hq.1 _ rfl) (hq.2 _ rfl)
      exact inK_den this.1 this.2
  · rename_i a a2 c d
    have hc := hq.1 _ rfl
    have hd := hq.2 _ rfl
    cases hb : (Int.ble1 1 c && Int.ble1 0 a) <;> simp only [cond_true, cond_false]
    · cases hb2 : Int.ble1 1 c <;> simp only [cond_true, cond_false]
      · exact ⟨isLo_none _, isHi_none _⟩
      · have h1 := (Int.ble1_iff _ _).1 hb2
        have := tmod_bd x y d (by omega) hd
        exact ⟨isLo_some this.1, isHi_some this.2.1⟩
    · simp only [Bool.and_eq_true, Int.ble1_iff] at hb
      have := tmod_bd x y d (by omega) hd
      exact ⟨isLo_some (this.2.2 (by have := hr.1 _ rfl; omega)), isHi_some this.2.1⟩
  · rename_i c d _
    have hc := hq.1 _ rfl
    have hd := hq.2 _ rfl
    cases hb2 : Int.ble1 1 c <;> simp only [cond_true, cond_false]
    · exact ⟨isLo_none _, isHi_none _⟩
    · have h1 := (Int.ble1_iff _ _).1 hb2
      have := tmod_bd x y d (by omega) hd
      exact ⟨isLo_some this.1, isHi_some this.2.1⟩
  · rename_i a b c d
    cases hb : (Int.ble1 1 c && Int.ble1 0 a && Int.ble1 c d) <;> simp only [cond_true, cond_false]
    · exact gen _
    · simp only [Bool.and_eq_true, Int.ble1_iff] at hb
      have ha := hr.1 _ rfl
      have hbb := hr.2 _ rfl
      have hc := hq.1 _ rfl
      refine inK_den (Int.tdiv_nonneg (by omega) (by omega)) ?_
      rw [Int.tdiv_eq_ediv_of_nonneg (by omega)]
      exact Int.le_trans (Int.ediv_le_self _ (by omega)) hbb
  · rename_i a b c d
    cases hb : (Int.ble1 0 a && Int.ble1 0 c && Int.ble1 d 64) <;> simp only [cond_true, cond_false]
    · exact gen _
    · simp only [Bool.and_eq_true, Int.ble1_iff] at hb
      have ha := hr.1 _ rfl
      have hbb := hr.2 _ rfl
      have hc := hq.1 _ rfl
      have hd := hq.2 _ rfl
      have hp : (0 : Int) < 2 ^ (min y.toNat k.bits) := by
        have : (0 : Nat) < 2 ^ (min y.toNat k.bits) := Nat.two_pow_pos _
        have h3 := Int.ofNat_lt.2 this
        simpa using h3
      have hle : (2 : Int) ^ (min y.toNat k.bits) ≤ 2 ^ d.toNat := by
        have : (2 : Nat) ^ (min y.toNat k.bits) ≤ 2 ^ d.toNat := Nat.pow_le_pow_right (by omega) (by omega)
        have h3 := Int.ofNat_le.2 this
        simpa using h3
      exact inK_den (Int.mul_nonneg (by omega) (by omega)) (Int.mul_le_mul hbb hle (by omega) (by omega))
  · rename_i a b c d
    cases hb : (unsg k && Int.ble1 0 a && Int.ble1 0 c && Int.ble1 b k.max && Int.ble1 d k.max) <;> simp only [cond_true, cond_false]
    · exact gen _
    · simp only [Bool.and_eq_true, Int.ble1_iff] at hb
      obtain ⟨⟨⟨⟨hu, ha⟩, hc⟩, hbm⟩, hdm⟩ := hb
      have q1 := hr.1 _ rfl
      have q2 := hr.2 _ rfl
      have q3 := hq.1 _ rfl
      have q4 := hq.2 _ rfl
      obtain ⟨n, rfl⟩ := Int.eq_ofNat_of_zero_le (show 0 ≤ x by omega)
      obtain ⟨m, rfl⟩ := Int.eq_ofNat_of_zero_le (show 0 ≤ y by omega)
      have e := orN hu (show (n : Int) ≤ k.max by omega) (show (m : Int) ≤ k.max by omega)
      refine ⟨?_, isHi_some (by rw [e]; exact orHi_den q2 q4 (by rw [← e]; exact gen _ |>.2 _ rfl))⟩
      rw [e]
      have l1 : (n : Int) ≤ ((n ||| m : Nat) : Int) := Int.ofNat_le.2 Nat.left_le_or
      have l2 : (m : Int) ≤ ((n ||| m : Nat) : Int) := Int.ofNat_le.2 Nat.right_le_or
      cases Int.ble1 a c <;> simp only [cond_true, cond_false]
      · exact isLo_some (by omega)
      · exact isLo_some (by omega)
  · cases hi : isArith op <;> simp only [cond_true, cond_false]
    · split
      · exact gen _
      · exact gen _
      · exact ⟨isLo_none _, isHi_none _⟩
    · cases op <;> simp [isArith] at hi <;> exact gen _
theorem SE.rng_den (V : Val) : ∀ e : SE, isLo e.rng.1 (e.den V) ∧ isHi e.rng.2 (e.den V)
  | .lit n => ⟨isLo_some (Int.le_refl _), isHi_some (Int.le_refl _)⟩
  | .cv k a => ⟨isLo_some (wrap_in k _).1, isHi_some (wrap_in k _).2⟩
  | .var i => ⟨isLo_none _, isHi_none _⟩
  | .sel s a => ⟨isLo_none _, isHi_none _⟩
  | .bin op k a b => by
    unfold SE.rng
    split
    · rename_i h; cases h
    · rename_i h; cases h
    · rename_i k' a' m h
      cases h
      cases hb : (Int.ble1 0 m && Int.ble1 m k.max)
      · exact ⟨isLo_some (wrap_in k _).1, isHi_some (wrap_in k _).2⟩
      · simp only [Bool.and_eq_true, Int.ble1_iff] at hb
        have := and_max k (a.den V) m hb.1 hb.2
        exact ⟨isLo_some this.1, isHi_some this.2⟩
    · rename_i k' a' s h
      cases h
      obtain ⟨h1, h2⟩ := SE.rng_den V a
      have hp : (0 : Int) < 2 ^ (min s.toNat k.bits) := by
        have : (0 : Nat) < 2 ^ (min s.toNat k.bits) := Nat.two_pow_pos _
        have h3 := Int.ofNat_lt.2 this
        simpa using h3
      refine ⟨fun n hn => ?_, fun n hn => ?_⟩
      · simp only at hn
        cases h3 : a.rng.1 with
        | none => simp [h3] at hn
        | some x =>
          simp [h3] at hn
          subst hn
          exact fdiv_mono hp (h1 x h3)
      · simp only at hn
        cases h3 : a.rng.2 with
        | none => simp [h3] at hn
        | some x =>
          simp [h3] at hn
          subst hn
          exact fdiv_mono hp (h2 x h3)
    · rename_i op' k' a' b' _ _ h
      cases h
      exact rngB_den (SE.rng_den V a) (SE.rng_den V b)
    · rename_i h; cases h
    · rename_i h; cases h
def fld (x s m : Nat) : Nat := x / 2 ^ s % 2 ^ m
theorem fld_or (x y s m : Nat) : fld (x ||| y) s m = fld x s m ||| fld y s m := by
  unfold fld
  apply Nat.eq_of_testBit_eq
  intro i
  simp only [Nat.testBit_mod_two_pow, Nat.testBit_div_two_pow, Nat.testBit_or]
  cases decide (i < m) <;> simp
theorem fld_and (x y s m : Nat) : fld (x &&& y) s m = fld x s m &&& fld y s m := by
  unfold fld
  apply Nat.eq_of_testBit_eq
  intro i
  simp only [Nat.testBit_mod_two_pow, Nat.testBit_div_two_pow, Nat.testBit_and]
  cases decide (i < m) <;> simp
theorem fld_shl_hi (x t s m : Nat) (h : t ≤ s) : fld (x * 2 ^ t) s m = fld x (s - t) m := by
  unfold fld
  have : 2 ^ s = 2 ^ t * 2 ^ (s - t) := by rw [← Nat.pow_add]; congr 1; omega
  rw [this, ← Nat.div_div_eq_div_mul, Nat.mul_div_cancel _ (Nat.two_pow_pos t)]
theorem fld_shl_lo (x t s m : Nat) (h : s + m ≤ t) : fld (x * 2 ^ t) s m = 0 := by
  unfold fld
  have : 2 ^ t = 2 ^ s * (2 ^ m * 2 ^ (t - s - m)) := by rw [← Nat.pow_add, ← Nat.pow_add]; congr 1; omega
  rw [this, Nat.mul_left_comm, Nat.mul_div_cancel_left _ (Nat.two_pow_pos s), Nat.mul_left_comm, Nat.mul_mod_right]
theorem fld_shr (x t s m : Nat) : fld (x / 2 ^ t) s m = fld x (s + t) m := by
  unfold fld
  rw [Nat.div_div_eq_div_mul, ← Nat.pow_add, Nat.add_comm]
theorem fld_small (x s m : Nat) (h : x < 2 ^ s) : fld x s m = 0 := by
  unfold fld; rw [Nat.div_eq_of_lt h]; simp
theorem fld_all (x m : Nat) (h : x < 2 ^ m) : fld x 0 m = x := by
  unfold fld; simp; exact Nat.mod_eq_of_lt h
theorem fld_le (x s m : Nat) : fld x s m ≤ x := Nat.le_trans (Nat.mod_le _ _) (Nat.div_le_self _ _)
theorem and_shl (n s M : Nat) : (n / 2 ^ s &&& M) * 2 ^ s = n &&& M * 2 ^ s := by
  apply Nat.eq_of_testBit_eq
  intro i
  rw [Nat.mul_comm _ (2 ^ s), Nat.mul_comm M (2 ^ s), Nat.testBit_two_pow_mul, Nat.testBit_and, Nat.testBit_and, Nat.testBit_two_pow_mul, Nat.testBit_div_two_pow]
  by_cases h : s ≤ i
  · simp [h, show i - s + s = i by omega]
  · simp [h]
theorem fld_and_mask (n s m : Nat) : n &&& (2 ^ m - 1) * 2 ^ s = fld n s m * 2 ^ s := by
  rw [← and_shl, Nat.and_two_pow_sub_one_eq_mod]; rfl
theorem fld_wrap (y b s m : Nat) (h : s + m ≤ b) : fld (y % 2 ^ b) s m = fld y s m := by
  unfold fld
  apply Nat.eq_of_testBit_eq
  intro i
  simp only [Nat.testBit_mod_two_pow, Nat.testBit_div_two_pow]
  by_cases hi : i < m
  · simp [hi, show i + s < b by omega]
  · simp [hi]
theorem fld_lt (x s m : Nat) : fld x s m < 2 ^ m := Nat.mod_lt _ (Nat.two_pow_pos m)
theorem fld_sub (x s m j : Nat) (h : j ≤ m) : fld x s m % 2 ^ j = fld x s j := by
  unfold fld
  exact Nat.mod_mod_of_dvd _ (Nat.pow_dvd_pow 2 h)
def nnK (k : IntKind) (e : SE) : Bool := match e.rng with
  | (some lo, some hi) => Int.ble1 0 lo && Int.ble1 hi k.max
  | _ => false
theorem nnK_den (V : Val) {k : IntKind} {e : SE} (h : nnK k e = true) : ∃ n : Nat, e.den V = n ∧ (n : Int) ≤ k.max := by
  unfold nnK at h
  split at h
  · rename_i lo hi hr
    simp only [Bool.and_eq_true, Int.ble1_iff] at h
    obtain ⟨r1, r2⟩ := SE.rng_den V e
    rw [hr] at r1 r2
    have q1 := r1 lo rfl
    have q2 := r2 hi rfl
    obtain ⟨n, hn⟩ := Int.eq_ofNat_of_zero_le (show 0 ≤ e.den V by omega)
    exact ⟨n, hn, by omega⟩
  · cases h
def pieceW (k : IntKind) (a : SE) : Option (SE × Nat) := match a with
  | .bin o1 k1 x (.lit (.ofNat M)) => bif Nat.beq (opIx o1) 5 && Nat.beq (kIx k1) (kIx k) && unsg k && nnK k x && Int.ble1 (.ofNat M) k.max then some (x, M)
    else bif Nat.beq (opIx o1) 8 && Nat.beq (kIx k1) (kIx k) && unsg k && Nat.blt M k.bits then (match x with
      | .bin o2 k2 y (.lit (.ofNat N)) => bif Nat.beq (opIx o2) 5 && Nat.beq (kIx k2) (kIx k) && Int.ble1 (.ofNat (Nat.mul N (Nat.pow 2 M))) k.max then (match y with
        | .bin o3 k3 z (.lit (.ofNat S)) => bif Nat.beq (opIx o3) 9 && Nat.beq (kIx k3) (kIx k) && Nat.beq S M && nnK k z then some (z, Nat.mul N (Nat.pow 2 M)) else none
        | _ => none) else none
      | _ => none) else none
  | _ => none
theorem piece_nat (n N s : Nat) : (n / 2 ^ s &&& N) * 2 ^ s = n &&& (N * 2 ^ s) := by
  rw [← Nat.shiftRight_eq_div_pow, ← Nat.shiftLeft_eq, ← Nat.shiftLeft_eq]
  apply Nat.eq_of_testBit_eq
  intro i
  simp only [Nat.testBit_shiftLeft, Nat.testBit_and, Nat.testBit_shiftRight]
  by_cases h : i ≥ s
  · simp [h, show s + (i - s) = i by omega]
  · simp [h]
theorem pieceW_den (V : Val) {k : IntKind} {a x : SE} {M : Nat} (h : pieceW k a = some (x, M)) : unsg k = true ∧ (M : Int) ≤ k.max ∧ ∃ n : Nat, x.den V = n ∧ (n : Int) ≤ k.max ∧ a.den V = ((n &&& M : Nat) : Int) := by
  unfold pieceW at h
  split at h
  case h_2 => cases h
  rename_i o1 k1 y M1
  cases hb : (Nat.beq (opIx o1) 5 && Nat.beq (kIx k1) (kIx k) && unsg k && nnK k y && Int.ble1 (.ofNat M1) k.max) <;> simp only [hb, cond_true, cond_false] at h
  · cases hc : (Nat.beq (opIx o1) 8 && Nat.beq (kIx k1) (kIx k) && unsg k && Nat.blt M1 k.bits) <;> simp only [hc, cond_true, cond_false] at h
    · cases h
    simp only [Bool.and_eq_true] at hc
    obtain ⟨⟨⟨c1, c2⟩, hu⟩, c3⟩ := hc
    have c3 := lt_of_blt c3
    split at h
    case h_2 => cases h
    rename_i o2 k2 z N
    cases hd : (Nat.beq (opIx o2) 5 && Nat.beq (kIx k2) (kIx k) && Int.ble1 (.ofNat (Nat.mul N (Nat.pow 2 M1))) k.max) <;> simp only [hd, cond_true, cond_false] at h
    · cases h
    simp only [Bool.and_eq_true] at hd
    obtain ⟨⟨d1, d2⟩, d3⟩ := hd
    have d3 : ((N * 2 ^ M1 : Nat) : Int) ≤ k.max := (Int.ble1_iff _ _).1 d3
    split at h
    case h_2 => cases h
    rename_i o3 k3 u S
    cases he : (Nat.beq (opIx o3) 9 && Nat.beq (kIx k3) (kIx k) && Nat.beq S M1 && nnK k u) <;> simp only [he, cond_true, cond_false] at h
    · cases h
    cases h
    simp only [Bool.and_eq_true] at he
    obtain ⟨⟨⟨f1, f2⟩, f3⟩, f4⟩ := he
    have e1 : o1 = .shl := opIx_inj (b := .shl) c1
    have e2 : o2 = .and := opIx_inj (b := .and) d1
    have e3 : o3 = .shr := opIx_inj (b := .shr) f1
    subst e1; subst e2; subst e3
    obtain rfl := kIx_inj c2
    obtain rfl := kIx_inj d2
    obtain rfl := kIx_inj f2
    obtain rfl := Nat.eq_of_beq_eq_true f3
    obtain ⟨n, h1, h2⟩ := nnK_den V f4
    refine ⟨hu, d3, n, h1, h2, ?_⟩
    have hp0 : 0 < 2 ^ S := Nat.two_pow_pos S
    have hN : (N : Int) ≤ k3.max := by
      have : N ≤ N * 2 ^ S := Nat.le_mul_of_pos_right N hp0
      omega
    have hdiv : n / 2 ^ S ≤ n := Nat.div_le_self _ _
    have s1 : (SE.bin .shr k3 x (.lit (.ofNat S))).den V = ((n / 2 ^ S : Nat) : Int) := by
      show (x.den V).fdiv (2 ^ (min (Int.toNat (Int.ofNat S)) k3.bits)) = _
      rw [show (Int.ofNat S).toNat = S from rfl, Nat.min_eq_left (by omega), h1, ← pow2I, Int.fdiv_eq_ediv_of_nonneg _ (by omega)]
      simp
    have s2 : (SE.bin .and k3 (.bin .shr k3 x (.lit (.ofNat S))) (.lit (.ofNat N))).den V = ((n / 2 ^ S &&& N : Nat) : Int) := by
      show binI .and k3 ((SE.bin .shr k3 x (.lit (.ofNat S))).den V) (N : Int) = _
      rw [s1, andN hu (by omega) hN]
    show k3.wrap ((SE.bin .and k3 (.bin .shr k3 x (.lit (.ofNat S))) (.lit (.ofNat N))).den V * 2 ^ (min (Int.toNat (Int.ofNat S)) k3.bits)) = _
    rw [s2, show (Int.ofNat S).toNat = S from rfl, Nat.min_eq_left (by omega), ← pow2I, ← Int.natCast_mul, piece_nat]
    have hle : n &&& (N * 2 ^ S) ≤ n := Nat.and_le_left
    exact wrap_of_in (by rw [(uns_max hu).2]; omega) (by omega)
  · cases h
    simp only [Bool.and_eq_true] at hb
    obtain ⟨⟨⟨⟨b1, b2⟩, hu⟩, hn⟩, hM⟩ := hb
    have e1 : o1 = .and := opIx_inj (b := .and) b1
    subst e1
    obtain rfl := kIx_inj b2
    have hM : (M : Int) ≤ k1.max := (Int.ble1_iff _ _).1 hM
    obtain ⟨n, h1, h2⟩ := nnK_den V hn
    refine ⟨hu, hM, n, h1, h2, ?_⟩
    show binI .and k1 (x.den V) (M : Int) = _
    rw [h1, andN hu h2 hM]
def orMM (k : IntKind) (a b : SE) : Option SE := match pieceW k a with
  | some (x, M) => match pieceW k b with
    | some (y, N) => bif x.same y then some (bif Nat.beq (Nat.lor M N) (Nat.sub (Nat.pow 2 k.bits) 1) then x else .bin .and k x (.lit (.ofNat (Nat.lor M N)))) else none
    | none => none
  | none => none
theorem orMM_den (V : Val) {k : IntKind} {a b r : SE} (h : orMM k a b = some r) : r.den V = binI .or k (a.den V) (b.den V) := by
  unfold orMM at h
  split at h
  case h_2 => cases h
  rename_i x M hx
  split at h
  case h_2 => cases h
  rename_i y N hy
  cases hb : x.same y <;> simp only [hb, cond_true, cond_false] at h
  · cases h
  obtain rfl := SE.same_eq hb
  obtain ⟨hu, hM, n, h1, h2, ha⟩ := pieceW_den V hx
  obtain ⟨_, hN, n', h1', _, hb'⟩ := pieceW_den V hy
  rw [h1] at h1'
  obtain rfl : n = n' := Int.ofNat.inj h1'
  have lM := nat_lt hu hM
  have lN := nat_lt hu hN
  have ln := nat_lt hu h2
  have cM : n &&& M ≤ n := Nat.and_le_left
  have cN : n &&& N ≤ n := Nat.and_le_left
  have um := (uns_max hu).1
  have lor := Nat.or_lt_two_pow lM lN
  have hmn : ((M ||| N : Nat) : Int) ≤ k.max := by
    rw [um, ← pow2I]
    have := Nat.two_pow_pos k.bits
    omega
  rw [ha, hb', orN hu (by omega) (by omega), ← Nat.and_or_distrib_left]
  cases hf : Nat.beq (Nat.lor M N) (Nat.sub (Nat.pow 2 k.bits) 1) <;> simp only [hf, cond_true, cond_false, Option.some.injEq] at h
  · subst h
    show binI .and k (x.den V) ((M ||| N : Nat) : Int) = _
    rw [h1, andN hu h2 hmn]
  · subst h
    have : M ||| N = 2 ^ k.bits - 1 := Nat.eq_of_beq_eq_true hf
    rw [h1, this, Nat.and_two_pow_sub_one_eq_mod, Nat.mod_eq_of_lt ln]
def orZ (k : IntKind) (x y : SE) : SE := match x, y with
  | .lit (.ofNat a), .lit (.ofNat b) => .lit (.ofNat (Nat.lor a b))
  | .lit (.ofNat a), y => bif Nat.beq a 0 then y else .bin .or k (.lit (.ofNat a)) y
  | x, .lit (.ofNat b) => bif Nat.beq b 0 then x else .bin .or k x (.lit (.ofNat b))
  | x, y => match orMM k x y with
    | some r => r
    | none => .bin .or k x y
def tz : Nat → Nat → Nat
  | 0, _ => 0
  | f + 1, n => bif Nat.beq (Nat.mod n 2) 0 then Nat.succ (tz f (Nat.div n 2)) else 0
theorem tz_dvd : ∀ (f n : Nat), 2 ^ tz f n ∣ n
  | 0, n => by simp [tz]
  | f + 1, n => by
    unfold tz
    cases h : Nat.beq (Nat.mod n 2) 0 <;> simp only [cond_true, cond_false]
    · simp
    · have h : n % 2 = 0 := Nat.eq_of_beq_eq_true h
      obtain ⟨c, hc⟩ := tz_dvd f (n / 2)
      refine ⟨c, ?_⟩
      show n = 2 ^ (tz f (n / 2) + 1) * c
      rw [Nat.pow_succ]
      have : n = 2 * (n / 2) := by omega
      conv => lhs; rw [this, hc]
      rw [Nat.mul_comm (2 ^ _) 2, Nat.mul_assoc]
def tzE (k : IntKind) : SE → Nat
  | .lit (.ofNat n) => tz 64 n
  | .bin op k' a b => bif Nat.beq (kIx k) (kIx k') then (match b with
    | .lit (.ofNat t) => bif Nat.beq (opIx op) 5 then (bif nnK k a && Int.ble1 (.ofNat t) k.max then tz 64 t else 0)
      else bif Nat.beq (opIx op) 0 || Nat.beq (opIx op) 1 then Nat.min (tzE k a) (tz 64 t)
      else bif Nat.beq (opIx op) 8 then t else 0
    | _ => 0) else 0
  | _ => 0
theorem tzE_dvd (V : Val) {k : IntKind} (hu : unsg k = true) : ∀ (e : SE) (j : Nat), j ≤ tzE k e → j ≤ k.bits → ((2 ^ j : Nat) : Int) ∣ e.den V
  | .lit (.ofNat n), j, h, hj => by
    show ((2 ^ j : Nat) : Int) ∣ (n : Int)
    exact Int.ofNat_dvd.2 (Nat.dvd_trans (Nat.pow_dvd_pow 2 h) (tz_dvd 64 n))
  | .lit (.negSucc n), j, h, hj => by
    obtain rfl : j = 0 := by simpa [tzE] using h
    simp
  | .var i, j, h, hj => by
    obtain rfl : j = 0 := by simpa [tzE] using h
    simp
  | .cv k' a, j, h, hj => by
    obtain rfl : j = 0 := by simpa [tzE] using h
    simp
  | .sel s a, j, h, hj => by
    obtain rfl : j = 0 := by simpa [tzE] using h
    simp
  | .bin op k' a b, j, h, hj => by
    have z : j ≤ 0 → ((2 ^ j : Nat) : Int) ∣ (SE.bin op k' a b).den V := fun h => by
      obtain rfl : j = 0 := by omega
      simp
    have wr : ∀ n : Int, ((2 ^ j : Nat) : Int) ∣ n → ((2 ^ j : Nat) : Int) ∣ k.wrap n := by
      intro n hn
      rw [uns_wrap hu, ← pow2I]
      have := Int.dvd_emod_add_of_dvd_add (c := 0) (x := n) (by simpa using hn) (Int.ofNat_dvd.2 (Nat.pow_dvd_pow 2 hj))
      simpa using this
    unfold tzE at h
    cases hk : Nat.beq (kIx k) (kIx k') <;> simp only [hk, cond_true, cond_false] at h
    · exact z h
    obtain rfl := kIx_inj hk
    split at h
    case h_2 => exact z h
    rename_i t
    have htz : ∀ j', j' ≤ tz 64 t → ((2 ^ j' : Nat) : Int) ∣ (t : Int) := fun j' hj' => Int.ofNat_dvd.2 (Nat.dvd_trans (Nat.pow_dvd_pow 2 hj') (tz_dvd 64 t))
    cases h5 : Nat.beq (opIx op) 5 <;> simp only [h5, cond_true, cond_false] at h
    · cases h0 : Nat.beq (opIx op) 0 <;> cases h1 : Nat.beq (opIx op) 1 <;> simp only [h0, h1, Bool.or_false, Bool.or_true, Bool.false_or, Bool.true_or, cond_true, cond_false] at h
      · cases h8 : Nat.beq (opIx op) 8 <;> simp only [h8, cond_true, cond_false] at h
        · exact z h
        · have ho : op = .shl := opIx_inj (b := .shl) h8
          subst ho
          simp only [SE.den, binI]
          refine wr _ ?_
          rw [show (Int.ofNat t).toNat = t from rfl, ← pow2I]
          exact Int.dvd_mul_of_dvd_right (Int.ofNat_dvd.2 (Nat.pow_dvd_pow 2 (by omega)))
      · have ho : op = .sub := opIx_inj (b := .sub) h1
        subst ho
        have hm : j ≤ tzE k a ∧ j ≤ tz 64 t := Nat.le_min.1 h
        simp only [SE.den, binI]
        exact wr _ (Int.dvd_sub (tzE_dvd V hu a j hm.1 hj) (htz j hm.2))
      · have ho : op = .add := opIx_inj (b := .add) h0
        subst ho
        have hm : j ≤ tzE k a ∧ j ≤ tz 64 t := Nat.le_min.1 h
        simp only [SE.den, binI]
        exact wr _ (Int.dvd_add (tzE_dvd V hu a j hm.1 hj) (htz j hm.2))
      · have ho : op = .add := opIx_inj (b := .add) h0
        subst ho
        cases h1
    · have ho : op = .and := opIx_inj (b := .and) h5
      subst ho
      cases hb : (nnK k a && Int.ble1 (.ofNat t) k.max) <;> simp only [hb, cond_true, cond_false] at h
      · exact z h
      simp only [Bool.and_eq_true] at hb
      obtain ⟨x, hx, hxm⟩ := nnK_den V hb.1
      have ht : (t : Int) ≤ k.max := (Int.ble1_iff _ _).1 hb.2
      simp only [SE.den, hx]
      rw [show (Int.ofNat t) = (t : Int) from rfl, andN hu hxm ht]
      refine Int.ofNat_dvd.2 ?_
      obtain ⟨c, hc⟩ := Nat.dvd_trans (Nat.pow_dvd_pow 2 h) (tz_dvd 64 t)
      have : (x &&& t) % 2 ^ j = 0 := by
        rw [hc]
        apply Nat.eq_of_testBit_eq
        intro i
        simp only [Nat.testBit_mod_two_pow, Nat.testBit_and, Nat.testBit_two_pow_mul, Nat.zero_testBit]
        by_cases hi : i < j
        · simp [hi, show ¬ j ≤ i by omega]
        · simp [hi]
      exact Nat.dvd_of_mod_eq_zero this
def extG (k : IntKind) (e : SE) (s m n : Nat) : Option SE := bif unsg k && Nat.ble m k.bits then some (bif Nat.blt (Nat.div n (Nat.pow 2 s)) (Nat.pow 2 m) then .bin .shr k e (.lit (.ofNat s)) else bif Nat.beq s 0 then .bin .and k e (.lit (.ofNat (Nat.sub (Nat.pow 2 m) 1))) else .bin .and k (.bin .shr k e (.lit (.ofNat s))) (.lit (.ofNat (Nat.sub (Nat.pow 2 m) 1)))) else none
theorem extG_den (V : Val) {k : IntKind} {e r : SE} {s m n c : Nat} (he : e.den V = c) (hc : c ≤ n) (hn : (n : Int) ≤ k.max) (hs : ¬ n < 2 ^ s) (h : extG k e s m n = some r) : r.den V = (fld c s m : Nat) := by
  unfold extG at h
  cases hb : (unsg k && Nat.ble m k.bits) <;> simp only [hb, cond_true, cond_false] at h
  · cases h
  cases h
  simp only [Bool.and_eq_true] at hb
  have hu := hb.1
  have hm := Nat.le_of_ble_eq_true hb.2
  have hlt := nat_lt hu hn
  have hsb : s ≤ k.bits := by
    rcases Nat.lt_or_ge k.bits s with h | h
    · have : 2 ^ k.bits ≤ 2 ^ s := Nat.pow_le_pow_right (by omega) (by omega)
      omega
    · exact h
  have e1 : (SE.bin .shr k e (.lit (.ofNat s))).den V = ((c / 2 ^ s : Nat) : Int) := by
    simp only [SE.den, binI, he]
    rw [show (Int.ofNat s).toNat = s from rfl, Nat.min_eq_left hsb, ← pow2I, ← Int.ofNat_fdiv]
  have hmm : ((2 ^ m - 1 : Nat) : Int) ≤ k.max := by
    rw [(uns_max hu).1, ← pow2I]
    have h4 : 2 ^ m ≤ 2 ^ k.bits := Nat.pow_le_pow_right (by omega) hm
    have : 0 < 2 ^ m := Nat.two_pow_pos m
    omega
  have mask : ∀ x : Nat, (x : Int) ≤ k.max → binI .and k (x : Int) (.ofNat (Nat.sub (Nat.pow 2 m) 1)) = ((x % 2 ^ m : Nat) : Int) := by
    intro x hx
    have := andN hu hx hmm
    rw [show (Int.ofNat (Nat.sub (Nat.pow 2 m) 1)) = ((2 ^ m - 1 : Nat) : Int) from rfl, this, Nat.and_two_pow_sub_one_eq_mod]
  cases h1 : Nat.blt (Nat.div n (Nat.pow 2 s)) (Nat.pow 2 m) <;> simp only [cond_true, cond_false]
  · cases h2 : Nat.beq s 0 <;> simp only [cond_true, cond_false]
    · have hx : ((c / 2 ^ s : Nat) : Int) ≤ k.max := Int.le_trans (Int.ofNat_le.2 (Nat.le_trans (Nat.div_le_self _ _) hc)) hn
      show binI .and k ((SE.bin .shr k e (.lit (.ofNat s))).den V) (Int.ofNat (Nat.sub (Nat.pow 2 m) 1)) = _
      rw [e1, mask _ hx]; rfl
    · obtain rfl := Nat.eq_of_beq_eq_true h2
      have hx : (c : Int) ≤ k.max := Int.le_trans (Int.ofNat_le.2 hc) hn
      show binI .and k (e.den V) (Int.ofNat (Nat.sub (Nat.pow 2 m) 1)) = _
      rw [he, mask _ hx]
      simp [fld]
  · rw [e1]
    have h3 : n / 2 ^ s < 2 ^ m := lt_of_blt h1
    have : c / 2 ^ s ≤ n / 2 ^ s := Nat.div_le_div_right hc
    unfold fld
    rw [Nat.mod_eq_of_lt (by omega)]
def extA (k : IntKind) (e : SE) (s m : Nat) : Option SE := match e.rng with
  | (some lo, some hi) => bif Int.ble1 0 lo && Int.ble1 hi k.max then (match hi with
    | .ofNat n => bif Nat.blt n (Nat.pow 2 s) then some (.lit 0) else bif Nat.beq s 0 && Nat.blt n (Nat.pow 2 m) then some e else bif unsg k && Nat.ble (Nat.add s m) (tzE k e) && Nat.ble (Nat.add s m) k.bits then some (.lit 0) else extG k e s m n
    | _ => none) else none
  | _ => none
def extAll (k : IntKind) (e : SE) (m : Nat) : Bool := match e.rng with
  | (some lo, some (.ofNat n)) => Int.ble1 0 lo && Nat.blt n (Nat.pow 2 m)
  | _ => false
def extW (k : IntKind) (e : SE) (s m : Nat) (r : Option SE) : Option SE := bif Nat.beq s 0 && extAll k e m then some e else (match r with
  | some x => some x
  | none => extA k e s m)
def shl? (k : IntKind) (o : Option SE) (t : Nat) : Option SE := match o with
  | some e => some (.bin .shl k e (.lit (.ofNat t)))
  | none => none
theorem fld_part (x t s m : Nat) (h1 : s ≤ t) (h2 : t ≤ s + m) : fld (x * 2 ^ t) s m = fld x 0 (m - (t - s)) * 2 ^ (t - s) := by
  unfold fld
  have e1 : 2 ^ t = 2 ^ s * 2 ^ (t - s) := by rw [← Nat.pow_add]; congr 1; omega
  have e2 : 2 ^ m = 2 ^ (m - (t - s)) * 2 ^ (t - s) := by rw [← Nat.pow_add]; congr 1; omega
  rw [e1, ← Nat.mul_assoc, Nat.mul_right_comm, Nat.mul_div_cancel _ (Nat.two_pow_pos s), e2, Nat.mul_mod_mul_right, Nat.pow_zero, Nat.div_one]
def SE.ext (k : IntKind) : SE → Nat → Nat → Option SE
  | .lit n, s, m => match n with
    | .ofNat n => bif Int.ble1 (.ofNat n) k.max then some (.lit (.ofNat (Nat.mod (Nat.div n (Nat.pow 2 s)) (Nat.pow 2 m)))) else none
    | _ => none
  | .bin op k' a b, s, m => extW k (.bin op k' a b) s m <|
    bif Nat.beq (kIx k) (kIx k') then
      (bif Nat.beq (opIx op) 6 then
        (bif nnK k a && nnK k b then (match a.ext k s m with
          | some x => match b.ext k s m with
            | some y => some (orZ k x y)
            | none => none
          | none => none) else none)
      else match b with
        | .lit (.ofNat t) =>
          bif Nat.beq (opIx op) 8 then
            (bif Nat.ble t k.bits && nnK k a && (Nat.ble (Nat.add s m) k.bits || (match a.rng with
              | (some _, some hi) => Int.ble1 (hi * (.ofNat (Nat.pow 2 t))) k.max
              | _ => false)) then
                  (bif Nat.ble t s then a.ext k (Nat.sub s t) m else bif Nat.ble (Nat.add s m) t then some (.lit 0) else bif Nat.ble (Nat.add s m) k.bits then shl? k (a.ext k 0 (Nat.sub m (Nat.sub t s))) (Nat.sub t s) else none) else none)
          else bif Nat.beq (opIx op) 5 then
            (bif nnK k a && Int.ble1 (.ofNat t) k.max then
              (bif Nat.beq (Nat.mod (Nat.div t (Nat.pow 2 s)) (Nat.pow 2 m)) 0 then some (.lit 0)
              else bif Nat.beq (Nat.pow 2 (Nat.log2 (Nat.succ (Nat.mod (Nat.div t (Nat.pow 2 s)) (Nat.pow 2 m))))) (Nat.succ (Nat.mod (Nat.div t (Nat.pow 2 s)) (Nat.pow 2 m))) then a.ext k s (Nat.log2 (Nat.succ (Nat.mod (Nat.div t (Nat.pow 2 s)) (Nat.pow 2 m)))) else extA k (.bin op k' a b) s m) else none)
          else bif Nat.beq (opIx op) 9 then (bif nnK k a && Nat.ble t k.bits then a.ext k (Nat.add s t) m else none)
          else extA k (.bin op k' a b) s m
        | _ => extA k (.bin op k' a b) s m)
    else extA k (.bin op k' a b) s m
  | e, s, m => extA k e s m
theorem orZ_den (V : Val) {k : IntKind} (hu : unsg k = true) {x y : SE} {a b : Nat} (hx : x.den V = a) (hy : y.den V = b) (ha : (a : Int) ≤ k.max) (hb : (b : Int) ≤ k.max) : (orZ k x y).den V = ((a ||| b : Nat) : Int) := by
  have base : binI .or k (x.den V) (y.den V) = ((a ||| b : Nat) : Int) := by rw [hx, hy]; exact orN hu ha hb
  unfold orZ
  split
  · rename_i c d
    simp only [SE.den] at hx hy
    have e1 : c = a := by exact Int.ofNat.inj hx
    have e2 : d = b := by exact Int.ofNat.inj hy
    subst e1; subst e2
    rfl
  · rename_i c _
    cases h : Nat.beq c 0 <;> simp only [cond_true, cond_false]
    · exact base
    · have := Nat.eq_of_beq_eq_true h
      subst this
      simp only [SE.den] at hx
      have : a = 0 := (Int.ofNat.inj hx).symm
      subst this
      simpa using hy
  · rename_i d _
    cases h : Nat.beq d 0 <;> simp only [cond_true, cond_false]
    · exact base
    · have := Nat.eq_of_beq_eq_true h
      subst this
      simp only [SE.den] at hy
      have : b = 0 := (Int.ofNat.inj hy).symm
      subst this
      simpa using hx
  · split
    · rename_i r hr
      rw [orMM_den V hr]; exact base
    · exact base
theorem extA_den (V : Val) {k : IntKind} {e r : SE} {s m n : Nat} (he : e.den V = n) (h : extA k e s m = some r) : r.den V = (fld n s m : Nat) := by
  unfold extA at h
  split at h
  case h_2 => cases h
  rename_i lo hi hr
  cases hb : (Int.ble1 0 lo && Int.ble1 hi k.max) <;> simp only [hb, cond_true, cond_false] at h
  · cases h
  split at h
  case h_2 => cases h
  rename_i hN
  obtain ⟨r1, r2⟩ := SE.rng_den V e
  rw [hr] at r1 r2
  have q2 := r2 _ rfl
  rw [he] at q2
  have q3 : n ≤ hN := Int.ofNat_le.1 q2
  cases h1 : Nat.blt hN (Nat.pow 2 s) <;> simp only [h1, cond_true, cond_false] at h
  · cases h2 : (Nat.beq s 0 && Nat.blt hN (Nat.pow 2 m)) <;> simp only [h2, cond_true, cond_false] at h
    · simp only [Bool.and_eq_true] at hb
      cases h4 : (unsg k && Nat.ble (Nat.add s m) (tzE k e) && Nat.ble (Nat.add s m) k.bits) <;> simp only [h4, cond_true, cond_false] at h
      · exact extG_den V he q3 ((Int.ble1_iff _ _).1 hb.2) (fun hlt => by rw [blt_true (show hN < Nat.pow 2 s from hlt)] at h1; cases h1) h
      · cases h
        simp only [Bool.and_eq_true] at h4
        have hd := tzE_dvd V h4.1.1 e (s + m) (Nat.le_of_ble_eq_true h4.1.2) (Nat.le_of_ble_eq_true h4.2)
        rw [he] at hd
        obtain ⟨c, hc⟩ := Int.ofNat_dvd.1 hd
        rw [hc, Nat.mul_comm, fld_shl_lo c (s + m) s m (Nat.le_refl _)]; rfl
    cases h
    simp only [Bool.and_eq_true] at h2
    obtain rfl := Nat.eq_of_beq_eq_true h2.1
    have h3 : hN < 2 ^ m := lt_of_blt h2.2
    rw [he, fld_all n m (by omega)]
  · cases h
    have h3 : hN < 2 ^ s := lt_of_blt h1
    rw [fld_small n s m (by omega)]; rfl
theorem extW_den (V : Val) {k : IntKind} {e r : SE} {s m n : Nat} {o : Option SE} (he : e.den V = n) (ho : o = some r → r.den V = (fld n s m : Nat)) (h : extW k e s m o = some r) : r.den V = (fld n s m : Nat) := by
  unfold extW at h
  cases hb : (Nat.beq s 0 && extAll k e m) <;> simp only [hb, cond_true, cond_false] at h
  · split at h
    · cases h; exact ho rfl
    · exact extA_den V he h
  · simp only [Bool.and_eq_true] at hb
    obtain rfl := Nat.eq_of_beq_eq_true hb.1
    cases h
    have h2 := hb.2
    unfold extAll at h2
    split at h2
    · rename_i lo n' hr
      simp only [Bool.and_eq_true] at h2
      obtain ⟨_, r2⟩ := SE.rng_den V e
      rw [hr] at r2
      have q2 := r2 _ rfl
      rw [he] at q2
      have q3 : n ≤ n' := Int.ofNat_le.1 q2
      have h3 : n' < 2 ^ m := lt_of_blt h2.2
      rw [he, fld_all n m (by omega)]
    · cases h2
theorem ext_den (V : Val) {k : IntKind} (hu : unsg k = true) : ∀ {e r : SE} {s m n : Nat}, e.den V = n → (n : Int) ≤ k.max → e.ext k s m = some r → r.den V = (fld n s m : Nat)
  | .lit z, r, s, m, n, he, hn, h => by
    unfold SE.ext at h
    split at h
    case h_2 => cases h
    rename_i c
    cases hb : Int.ble1 (.ofNat c) k.max <;> simp only [hb, cond_true, cond_false] at h
    · cases h
    cases h
    have : c = n := Int.ofNat.inj he
    subst this
    rfl
  | .var i, r, s, m, n, he, hn, h => extA_den V he h
  | .cv k' a, r, s, m, n, he, hn, h => extA_den V he h
  | .sel k' a, r, s, m, n, he, hn, h => extA_den V he h
  | .bin op k' a b, r, s, m, n, he, hn, h => by
    unfold SE.ext at h
    refine extW_den V he ?_ h
    clear h
    intro h
    cases hk : Nat.beq (kIx k) (kIx k') <;> simp only [hk, cond_true, cond_false] at h
    · exact extA_den V he h
    obtain rfl := kIx_inj hk
    cases h6 : Nat.beq (opIx op) 6 <;> simp only [h6, cond_true, cond_false] at h
    · split at h
      · rename_i t
        cases h8 : Nat.beq (opIx op) 8 <;> simp only [h8, cond_true, cond_false] at h
        · cases h5 : Nat.beq (opIx op) 5 <;> simp only [h5, cond_true, cond_false] at h
          · cases h9 : Nat.beq (opIx op) 9 <;> simp only [h9, cond_true, cond_false] at h
            · exact extA_den V he h
            · have ho : op = .shr := opIx_inj (b := .shr) h9
              subst ho
              cases hb : (nnK k a && Nat.ble t k.bits) <;> simp only [hb, cond_true, cond_false] at h
              · cases h
              simp only [Bool.and_eq_true] at hb
              obtain ⟨x, hx, hxm⟩ := nnK_den V hb.1
              have ht := Nat.le_of_ble_eq_true hb.2
              have hr := ext_den V hu hx hxm h
              rw [hr]
              have e1 : (SE.bin .shr k a (.lit (.ofNat t))).den V = ((x / 2 ^ t : Nat) : Int) := by
                simp only [SE.den, binI, hx]
                rw [show (Int.ofNat t).toNat = t from rfl, Nat.min_eq_left ht, ← pow2I, ← Int.ofNat_fdiv]
              rw [e1] at he
              have : n = x / 2 ^ t := (Int.ofNat.inj he).symm
              subst this
              rw [fld_shr]; rfl
          · have ho : op = .and := opIx_inj (b := .and) h5
            subst ho
            cases hb : (nnK k a && Int.ble1 (.ofNat t) k.max) <;> simp only [hb, cond_true, cond_false] at h
            · cases h
            simp only [Bool.and_eq_true] at hb
            obtain ⟨x, hx, hxm⟩ := nnK_den V hb.1
            have ht : (t : Int) ≤ k.max := (Int.ble1_iff _ _).1 hb.2
            have e1 : (SE.bin .and k a (.lit (.ofNat t))).den V = ((x &&& t : Nat) : Int) := by
              simp only [SE.den, hx]
              exact andN hu hxm ht
            cases h1 : Nat.beq (Nat.mod (Nat.div t (Nat.pow 2 s)) (Nat.pow 2 m)) 0 <;> simp only [h1, cond_true, cond_false] at h
            · cases h2 : Nat.beq (Nat.pow 2 (Nat.log2 (Nat.succ (Nat.mod (Nat.div t (Nat.pow 2 s)) (Nat.pow 2 m))))) (Nat.succ (Nat.mod (Nat.div t (Nat.pow 2 s)) (Nat.pow 2 m))) <;> simp only [h2, cond_true, cond_false] at h
              · exact extA_den V he h
              · have hr := ext_den V hu hx hxm h
                rw [e1] at he
                have : n = x &&& t := (Int.ofNat.inj he).symm
                subst this
                have h3 : 2 ^ (Nat.log2 (Nat.succ (fld t s m))) = fld t s m + 1 := Nat.eq_of_beq_eq_true h2
                rw [hr]
                change ((fld x s (Nat.log2 (Nat.succ (fld t s m))) : Nat) : Int) = _
                generalize Nat.log2 (Nat.succ (fld t s m)) = j at h3
                have h4 : fld t s m = 2 ^ j - 1 := by omega
                have hjm : j ≤ m := by
                  have := fld_lt t s m
                  rcases Nat.lt_or_ge m j with h | h
                  · have := Nat.pow_lt_pow_right (a := 2) (by omega) h
                    omega
                  · exact h
                rw [fld_and, h4, Nat.and_two_pow_sub_one_eq_mod, fld_sub x s m j hjm]
            · cases h
              rw [e1] at he
              have : n = x &&& t := (Int.ofNat.inj he).symm
              subst this
              have h3 : fld t s m = 0 := Nat.eq_of_beq_eq_true h1
              rw [fld_and, h3, Nat.and_zero]; rfl
        · have ho : op = .shl := opIx_inj (b := .shl) h8
          subst ho
          cases hb : (Nat.ble t k.bits && nnK k a && (Nat.ble (Nat.add s m) k.bits || (match a.rng with
              | (some _, some hi) => Int.ble1 (hi * (.ofNat (Nat.pow 2 t))) k.max
              | _ => false))) <;> simp only [hb, cond_true, cond_false] at h
          · cases h
          simp only [Bool.and_eq_true, Bool.or_eq_true] at hb
          obtain ⟨⟨ht, hnn⟩, hc⟩ := hb
          have ht := Nat.le_of_ble_eq_true ht
          obtain ⟨x, hx, hxm⟩ := nnK_den V hnn
          have e0 : (SE.bin .shl k a (.lit (.ofNat t))).den V = ((x * 2 ^ t % 2 ^ k.bits : Nat) : Int) := by
            simp only [SE.den, binI, hx]
            rw [show (Int.ofNat t).toNat = t from rfl, Nat.min_eq_left ht, ← pow2I, ← Int.natCast_mul, uns_wrap hu, ← pow2I]
            exact (Int.natCast_emod _ _).symm
          have hfl : fld n s m = fld (x * 2 ^ t) s m := by
            rw [e0] at he
            have : n = x * 2 ^ t % 2 ^ k.bits := (Int.ofNat.inj he).symm
            rw [this]
            rcases hc with hc | hc
            · exact fld_wrap _ _ _ _ (Nat.le_of_ble_eq_true hc)
            · split at hc
              · rename_i lo hi hr
                obtain ⟨_, r2⟩ := SE.rng_den V a
                rw [hr] at r2
                have q2 := r2 hi rfl
                rw [hx] at q2
                have hc := (Int.ble1_iff _ _).1 hc
                have hp : (Int.ofNat (Nat.pow 2 t)) = ((2 ^ t : Nat) : Int) := rfl
                have hmul : ((x * 2 ^ t : Nat) : Int) ≤ k.max := by
                  rw [hp] at hc
                  have : (x : Int) * ((2 ^ t : Nat) : Int) ≤ hi * ((2 ^ t : Nat) : Int) := Int.mul_le_mul_of_nonneg_right q2 (Int.natCast_nonneg _)
                  rw [Int.natCast_mul]; omega
                rw [Nat.mod_eq_of_lt (nat_lt hu hmul)]
              · cases hc
          rw [hfl]
          cases h1 : Nat.ble t s <;> simp only [h1, cond_true, cond_false] at h
          · cases h2 : Nat.ble (Nat.add s m) t <;> simp only [h2, cond_true, cond_false] at h
            · cases h3 : Nat.ble (Nat.add s m) k.bits <;> simp only [h3, cond_true, cond_false] at h
              · cases h
              unfold shl? at h
              split at h
              case h_2 => cases h
              rename_i e' he'
              cases h
              have hr := ext_den V hu hx hxm he'
              have h3 := Nat.le_of_ble_eq_true h3
              have h1 : s < t := by
                rcases Nat.lt_or_ge s t with h | h
                · exact h
                · rw [Nat.ble_eq_true_of_le h] at h1; cases h1
              have h2 : t < s + m := by
                rcases Nat.lt_or_ge t (s + m) with h | h
                · exact h
                · rw [show Nat.ble (Nat.add s m) t = true from Nat.ble_eq_true_of_le h] at h2; cases h2
              rw [fld_part x t s m (by omega) (by omega)]
              simp only [SE.den, binI, hr]
              have h3 : s + m ≤ k.bits := h3
              rw [show (Int.ofNat (Nat.sub t s)).toNat = t - s from rfl, Nat.min_eq_left (by omega), ← pow2I, ← Int.natCast_mul]
              refine wrap_of_in (by rw [(uns_max hu).2]; exact Int.natCast_nonneg _) ?_
              have h4 := fld_part x t s m (by omega) (by omega)
              have h5 := fld_lt (x * 2 ^ t) s m
              rw [h4] at h5
              have h6 : 2 ^ m ≤ 2 ^ k.bits := Nat.pow_le_pow_right (by omega) (by omega)
              rw [(uns_max hu).1, ← pow2I]
              have h7 : fld x 0 (m - (t - s)) = fld x 0 (Nat.sub m (Nat.sub t s)) := rfl
              rw [← h7]
              omega
            · cases h
              rw [fld_shl_lo x t s m (Nat.le_of_ble_eq_true h2)]; rfl
          · have hr := ext_den V hu hx hxm h
            rw [hr, fld_shl_hi x t s m (Nat.le_of_ble_eq_true h1)]; rfl
      · exact extA_den V he h
    · have ho : op = .or := opIx_inj (b := .or) h6
      subst ho
      cases hb : (nnK k a && nnK k b) <;> simp only [hb, cond_true, cond_false] at h
      · cases h
      simp only [Bool.and_eq_true] at hb
      obtain ⟨x, hx, hxm⟩ := nnK_den V hb.1
      obtain ⟨y, hy, hym⟩ := nnK_den V hb.2
      split at h
      case h_2 => cases h
      rename_i u hu1
      split at h
      case h_2 => cases h
      rename_i w hw1
      cases h
      have i1 := ext_den V hu hx hxm hu1
      have i2 := ext_den V hu hy hym hw1
      have e1 : (SE.bin .or k a b).den V = ((x ||| y : Nat) : Int) := by
        simp only [SE.den, hx, hy]
        exact orN hu hxm hym
      rw [e1] at he
      have : n = x ||| y := (Int.ofNat.inj he).symm
      subst this
      rw [fld_or]
      exact orZ_den V hu i1 i2 (Int.le_trans (Int.ofNat_le.2 (fld_le x s m)) hxm) (Int.le_trans (Int.ofNat_le.2 (fld_le y s m)) hym)
def extTop (k : IntKind) (a : SE) (s m : Nat) : Option SE := bif unsg k && nnK k a then a.ext k s m else none
theorem extTop_den (V : Val) {k : IntKind} {a r : SE} {s m : Nat} (h : extTop k a s m = some r) : unsg k = true ∧ ∃ n : Nat, a.den V = n ∧ (n : Int) ≤ k.max ∧ r.den V = (fld n s m : Nat) := by
  unfold extTop at h
  cases hb : (unsg k && nnK k a) <;> simp only [hb, cond_true, cond_false] at h
  · cases h
  simp only [Bool.and_eq_true] at hb
  obtain ⟨n, h1, h2⟩ := nnK_den V hb.2
  exact ⟨hb.1, n, h1, h2, ext_den V hb.1 h1 h2 h⟩
def andOf (k : IntKind) (a : SE) (m : Nat) : Option SE := match a with
  | .bin op k' x (.lit (.ofNat s)) => bif Nat.beq (opIx op) 9 && Nat.beq (kIx k) (kIx k') && Nat.ble s k.bits then extTop k x s m else extTop k (.bin op k' x (.lit (.ofNat s))) 0 m
  | a => extTop k a 0 m
def andLit (k : IntKind) (a : SE) (y : Int) : Option SE := match y with
  | .ofNat M => bif Nat.beq (Nat.pow 2 (Nat.log2 (Nat.succ M))) (Nat.succ M) && Int.ble1 (.ofNat M) k.max then andOf k a (Nat.log2 (Nat.succ M)) else none
  | _ => none
def shrLit (k : IntKind) (a : SE) (y : Int) : Option SE := match y with
  | .ofNat s => bif Nat.ble s k.bits then extTop k a s (Nat.sub k.bits s) else none
  | _ => none
theorem andLit_den (V : Val) {k : IntKind} {a r : SE} {y : Int} (h : andLit k a y = some r) : r.den V = binI .and k (a.den V) y := by
  unfold andLit at h
  split at h
  case h_2 => cases h
  rename_i M
  cases hb : (Nat.beq (Nat.pow 2 (Nat.log2 (Nat.succ M))) (Nat.succ M) && Int.ble1 (.ofNat M) k.max) <;> simp only [hb, cond_true, cond_false] at h
  · cases h
  simp only [Bool.and_eq_true] at hb
  have hp : 2 ^ (Nat.log2 (Nat.succ M)) = M + 1 := Nat.eq_of_beq_eq_true hb.1
  have hM : (M : Int) ≤ k.max := (Int.ble1_iff _ _).1 hb.2
  have e2 : M = 2 ^ (Nat.log2 (Nat.succ M)) - 1 := by omega
  have key : ∀ (c : Nat), unsg k = true → (c : Int) ≤ k.max → binI .and k (c : Int) (.ofNat M) = ((c % 2 ^ (Nat.log2 (Nat.succ M)) : Nat) : Int) := by
    intro c hu hc
    have := andN hu hc hM
    rw [show (Int.ofNat M) = (M : Int) from rfl, this]
    congr 1
    conv => lhs; rw [e2]
    exact Nat.and_two_pow_sub_one_eq_mod _ _
  have plain : ∀ e : SE, extTop k e 0 (Nat.log2 (Nat.succ M)) = some r → r.den V = binI .and k (e.den V) (.ofNat M) := by
    intro e he
    obtain ⟨hu, n, h1, h2, h3⟩ := extTop_den V he
    rw [h3, h1, key n hu h2]
    simp [fld]
  unfold andOf at h
  split at h
  · rename_i op k' x s
    cases hc : (Nat.beq (opIx op) 9 && Nat.beq (kIx k) (kIx k') && Nat.ble s k.bits) <;> simp only [hc, cond_true, cond_false] at h
    · exact plain _ h
    · simp only [Bool.and_eq_true] at hc
      have ho : op = .shr := opIx_inj (b := .shr) hc.1.1
      have hk := kIx_inj hc.1.2
      subst ho; subst hk
      have hs := Nat.le_of_ble_eq_true hc.2
      obtain ⟨hu, n, h1, h2, h3⟩ := extTop_den V h
      have e1 : (SE.bin .shr k x (.lit (.ofNat s))).den V = ((n / 2 ^ s : Nat) : Int) := by
        simp only [SE.den, binI, h1]
        rw [show (Int.ofNat s).toNat = s from rfl, Nat.min_eq_left hs, ← pow2I, ← Int.ofNat_fdiv]
      rw [h3, e1, key (n / 2 ^ s) hu (Int.le_trans (Int.ofNat_le.2 (Nat.div_le_self _ _)) h2)]
      rfl
  · exact plain _ h
theorem shrLit_den (V : Val) {k : IntKind} {a r : SE} {y : Int} (h : shrLit k a y = some r) : r.den V = binI .shr k (a.den V) y := by
  unfold shrLit at h
  split at h
  case h_2 => cases h
  rename_i s
  cases hb : Nat.ble s k.bits <;> simp only [hb, cond_true, cond_false] at h
  · cases h
  have hs := Nat.le_of_ble_eq_true hb
  obtain ⟨hu, n, h1, h2, h3⟩ := extTop_den V h
  have e1 : binI .shr k (a.den V) (.ofNat s) = ((n / 2 ^ s : Nat) : Int) := by
    simp only [binI, h1]
    rw [show (Int.ofNat s).toNat = s from rfl, Nat.min_eq_left hs, ← pow2I, ← Int.ofNat_fdiv]
  rw [h3, e1]
  congr 1
  have hn := nat_lt hu h2
  refine Nat.mod_eq_of_lt ?_
  have : 2 ^ k.bits = 2 ^ s * 2 ^ (k.bits - s) := by rw [← Nat.pow_add]; congr 1; omega
  exact Nat.div_lt_of_lt_mul (show n < 2 ^ s * 2 ^ (k.bits - s) by rw [← this]; exact hn)
def allBits (k : IntKind) (a : SE) (m : Int) : Bool := match m with
  | .ofNat M => Nat.beq (Nat.pow 2 (Nat.log2 (Nat.succ M))) (Nat.succ M) && Int.ble1 (.ofNat M) k.max && (match a.rng with
    | (some lo, some hi) => Int.ble1 0 lo && Int.ble1 hi (.ofNat M)
    | _ => false)
  | _ => false
theorem max_lt (k : IntKind) : k.max < 2 ^ k.bits := by cases k <;> decide
theorem allBits_den (V : Val) {k : IntKind} {a : SE} {m : Int} (h : allBits k a m = true) : binI .and k (a.den V) m = a.den V := by
  unfold allBits at h
  split at h
  case h_2 => cases h
  rename_i M
  simp only [Bool.and_eq_true] at h
  obtain ⟨⟨h1, h2⟩, h3⟩ := h
  split at h3
  case h_2 => cases h3
  rename_i lo hi hr
  simp only [Bool.and_eq_true, Int.ble1_iff] at h3
  obtain ⟨r1, r2⟩ := SE.rng_den V a
  rw [hr] at r1 r2
  have q1 := r1 lo rfl
  have q2 := r2 hi rfl
  have h2 := (Int.ble1_iff _ _).1 h2
  generalize a.den V = x at q1 q2 ⊢
  obtain ⟨n, rfl⟩ := Int.eq_ofNat_of_zero_le (show 0 ≤ x by omega)
  have hM : (Int.ofNat M) = (M : Int) := rfl
  rw [hM] at h2 h3 ⊢
  have hn : n ≤ M := by omega
  have hp := Nat.eq_of_beq_eq_true h1
  have hb := max_lt k
  have hM2 : M < 2 ^ k.bits := by
    have : (M : Int) < ((2 ^ k.bits : Nat) : Int) := by
      have e : ((2 ^ k.bits : Nat) : Int) = 2 ^ k.bits := by simp
      rw [e]; omega
    omega
  simp only [binI]
  have e1 : (BitVec.ofInt k.bits (n : Int) &&& BitVec.ofInt k.bits (M : Int)).toNat = n := by
    rw [BitVec.toNat_and, BitVec.ofInt_natCast, BitVec.ofInt_natCast, BitVec.toNat_ofNat, BitVec.toNat_ofNat, Nat.mod_eq_of_lt (by omega), Nat.mod_eq_of_lt hM2]
    have e2 : M = 2 ^ (Nat.log2 (Nat.succ M)) - 1 := by
      have hp : 2 ^ (Nat.log2 (Nat.succ M)) = M + 1 := hp
      omega
    rw [e2, Nat.and_two_pow_sub_one_eq_mod]
    refine Nat.mod_eq_of_lt ?_
    have hp : 2 ^ (Nat.log2 (Nat.succ M)) = M + 1 := hp
    omega
  rw [e1]
  exact wrap_of_in (by have : k.min ≤ 0 := by cases k <;> decide
                       omega) (by omega)
/- Words laid together: what is laid, but for the order of the literals. -/
def bvOf (k : IntKind) (x : Int) : BitVec k.bits := BitVec.ofInt k.bits x
def SE.ors (k : IntKind) : SE → List SE
  | .bin op k' a b => bif Nat.beq (opIx op) 6 then bif Nat.beq (kIx k) (kIx k') then List.append (a.ors k) (b.ors k) else [.bin op k' a b] else [.bin op k' a b]
  | e => [e]
def orLit (k : IntKind) : List SE → Int
  | [] => 0
  | .lit n :: l => binF .or k n (orLit k l)
  | _ :: l => orLit k l
def orRest : List SE → List SE
  | [] => []
  | .lit _ :: l => orRest l
  | e :: l => e :: orRest l
def sameSEs : List SE → List SE → Bool
  | [], [] => true
  | a :: l, b :: m => bif a.same b then sameSEs l m else false
  | _, _ => false
def orEq (a b : SE) : Bool := match a, b with
  | .bin op k a1 a2, .bin op' k' b1 b2 => bif Nat.beq (opIx op) 6 && Nat.beq (opIx op') 6 && Nat.beq (kIx k) (kIx k') then
      sameSEs (orRest ((SE.bin op k a1 a2).ors k)) (orRest ((SE.bin op' k' b1 b2).ors k)) && intEq (orLit k ((SE.bin op k a1 a2).ors k)) (orLit k ((SE.bin op' k' b1 b2).ors k)) else false
  | _, _ => false
theorem sameSEs_eq : ∀ {a b : List SE}, sameSEs a b = true → a = b
  | [], [], h => rfl
  | [], _ :: _, h => by cases h
  | _ :: _, [], h => by cases h
  | x :: a, y :: b, h => by
    unfold sameSEs at h
    cases h1 : x.same y <;> simp only [h1, cond_true, cond_false] at h
    · cases h
    · rw [SE.same_eq h1, sameSEs_eq h]
theorem ofInt_wrap (k : IntKind) (n : Int) : BitVec.ofInt k.bits (k.wrap n) = BitVec.ofInt k.bits n := by
  apply BitVec.eq_of_toNat_eq
  rw [BitVec.toNat_ofInt, BitVec.toNat_ofInt]
  congr 1
  cases k <;> simp only [IntKind.wrap, IntKind.bits, IntKind.signed] <;> simp <;> (try split) <;> omega
theorem bv_or (k : IntKind) (x y : Int) : bvOf k (binI .or k x y) = bvOf k x ||| bvOf k y := by
  unfold bvOf
  simp only [binI]
  rw [ofInt_wrap, BitVec.ofInt_natCast, BitVec.ofNat_toNat, BitVec.setWidth_eq]
def bvs (V : Val) (k : IntKind) : List SE → BitVec k.bits
  | [] => 0
  | e :: l => bvOf k (e.den V) ||| bvs V k l
theorem bvs_append (V : Val) (k : IntKind) : ∀ l m : List SE, bvs V k (l ++ m) = bvs V k l ||| bvs V k m
  | [], m => by simp [bvs]
  | e :: l, m => by simp only [List.cons_append, bvs, bvs_append V k l m, BitVec.or_assoc]
theorem ors_den (V : Val) (k : IntKind) : ∀ e : SE, bvs V k (e.ors k) = bvOf k (e.den V)
  | .lit n => by simp [SE.ors, bvs]
  | .var i => by simp [SE.ors, bvs]
  | .cv k' a => by simp [SE.ors, bvs]
  | .sel k' a => by simp [SE.ors, bvs]
  | .bin op k' a b => by
    unfold SE.ors
    cases h1 : Nat.beq (opIx op) 6 <;> simp only [cond_true, cond_false]
    · simp [bvs]
    cases h2 : Nat.beq (kIx k) (kIx k') <;> simp only [cond_true, cond_false]
    · simp [bvs]
    have ho : op = .or := opIx_inj (b := .or) h1
    have hk := kIx_inj h2
    subst ho; subst hk
    have e : List.append (a.ors k) (b.ors k) = a.ors k ++ b.ors k := rfl
    rw [e, bvs_append, ors_den V k a, ors_den V k b]
    exact (bv_or k _ _).symm
/- Equalities of words by their fields. -/
theorem fld_eq_iff (n c s m : Nat) : fld n s m = fld c s m ↔ n &&& (2 ^ m - 1) * 2 ^ s = c &&& (2 ^ m - 1) * 2 ^ s := by
  rw [fld_and_mask, fld_and_mask]
  constructor
  · intro h; rw [h]
  · intro h; exact Nat.eq_of_mul_eq_mul_right (Nat.two_pow_pos s) h
def pieceM : List (Nat × Nat) → Nat
  | [] => 0
  | (s, m) :: l => Nat.lor (Nat.mul (Nat.sub (Nat.pow 2 m) 1) (Nat.pow 2 s)) (pieceM l)
theorem pieces_iff (n c : Nat) : ∀ l : List (Nat × Nat), n &&& pieceM l = c &&& pieceM l ↔ ∀ p ∈ l, fld n p.1 p.2 = fld c p.1 p.2
  | [] => by simp [pieceM]
  | (s, m) :: l => by
    have ih := pieces_iff n c l
    have e : pieceM ((s, m) :: l) = ((2 ^ m - 1) * 2 ^ s) ||| pieceM l := rfl
    rw [e, List.forall_mem_cons, ← ih, fld_eq_iff]
    constructor
    · intro h
      constructor
      · have := congrArg (fun x => x &&& ((2 ^ m - 1) * 2 ^ s)) h
        simp only [Nat.and_assoc] at this
        rwa [show (((2 ^ m - 1) * 2 ^ s ||| pieceM l) &&& ((2 ^ m - 1) * 2 ^ s)) = (2 ^ m - 1) * 2 ^ s from by
          apply Nat.eq_of_testBit_eq; intro i; rw [Nat.testBit_and, Nat.testBit_or]; cases ((2 ^ m - 1) * 2 ^ s).testBit i <;> simp] at this
      · have := congrArg (fun x => x &&& pieceM l) h
        simp only [Nat.and_assoc] at this
        rwa [show (((2 ^ m - 1) * 2 ^ s ||| pieceM l) &&& pieceM l) = pieceM l from by
          apply Nat.eq_of_testBit_eq; intro i; rw [Nat.testBit_and, Nat.testBit_or]; cases (pieceM l).testBit i <;> simp] at this
    · intro ⟨h1, h2⟩
      rw [Nat.and_or_distrib_left, Nat.and_or_distrib_left, h1, h2]
def pieceEq (k : IntKind) (x : SE) (c : Nat) : List (Nat × Nat) → Option SB
  | [] => some (.lit true)
  | (s, m) :: l => match extTop k x s m with
    | some e => match pieceEq k x c l with
      | some r => some (mkAnd (match e with
        | .lit y => .lit (intEq y (.ofNat (fld c s m)))
        | e => .cmp .eql e (.lit (.ofNat (fld c s m)))) r)
      | none => none
    | none => none
theorem intEq_beq (a b : Int) : intEq a b = (a == b) := by
  cases h : intEq a b
  · symm
    rw [beq_eq_false_iff_ne]
    intro e
    subst e
    cases a <;> simp [intEq] at h
  · rw [intEq_eq h]; simp
theorem pieceEq_den (V : Val) {k : IntKind} {x : SE} {c n : Nat} (hx : x.den V = n) : ∀ {l : List (Nat × Nat)} {r : SB}, pieceEq k x c l = some r → (r.den V = true ↔ ∀ p ∈ l, fld n p.1 p.2 = fld c p.1 p.2)
  | [], r, h => by
    simp only [pieceEq, Option.some.injEq] at h
    subst h
    simp [SB.den]
  | (s, m) :: l, r, h => by
    unfold pieceEq at h
    split at h
    case h_2 => cases h
    rename_i e he
    split at h
    case h_2 => cases h
    rename_i r' hr
    cases h
    obtain ⟨_, n', h1, h2, h3⟩ := extTop_den V he
    rw [hx] at h1
    obtain rfl : n = n' := Int.ofNat.inj h1
    rw [mkAnd_den, List.forall_mem_cons, Bool.and_eq_true, pieceEq_den V hx hr]
    refine and_congr ?_ Iff.rfl
    split
    · rename_i y
      simp only [SE.den] at h3
      subst h3
      simp only [SB.den, intEq_beq, beq_iff_eq]
      exact ⟨fun h => Int.ofNat.inj h, fun h => by rw [h]; rfl⟩
    · simp only [SB.den, cmpI, SE.den, h3, beq_iff_eq]
      exact ⟨fun h => Int.ofNat.inj h, fun h => by rw [h]; rfl⟩
def runOf (q : Nat) : Option (Nat × Nat) := bif Nat.beq (Nat.pow 2 (Nat.log2 (Nat.succ (Nat.div q (Nat.pow 2 (tz 64 q)))))) (Nat.succ (Nat.div q (Nat.pow 2 (tz 64 q)))) then some (tz 64 q, Nat.log2 (Nat.succ (Nat.div q (Nat.pow 2 (tz 64 q))))) else none
def fieldsOf (T : Nat) : List (Nat × Nat) → Option (List (Nat × Nat))
  | [] => some []
  | (s, m) :: l => match fieldsOf T l with
    | none => none
    | some r => bif Nat.beq (fld T s m) 0 then some r else match runOf (fld T s m) with
      | some (j, i) => some ((Nat.add s j, i) :: r)
      | none => none
def instFields : List (Nat × Nat) := [(0, 7), (7, 5), (12, 3), (15, 5), (20, 5), (25, 7)]
def piecesOf (T : Nat) : List (Nat × Nat) := match runOf T with
  | some p => [p]
  | none => match fieldsOf T instFields with
    | some l => l
    | none => []
def maskEq (k : IntKind) (x : SE) (T L : Nat) : Option SB := bif Nat.beq (Nat.land L T) L then (bif Nat.beq (pieceM (piecesOf T)) T then pieceEq k x L (piecesOf T) else none) else some (.lit false)
theorem maskEq_den (V : Val) {k : IntKind} {x : SE} {n T L : Nat} {r : SB} (hx : x.den V = n) (h : maskEq k x T L = some r) : r.den V = decide (n &&& T = L) := by
  unfold maskEq at h
  cases h1 : Nat.beq (Nat.land L T) L <;> simp only [h1, cond_true, cond_false] at h
  · cases h
    symm
    simp only [SB.den, decide_eq_false_iff_not]
    intro e
    have : L &&& T = L := by rw [← e, Nat.and_assoc, Nat.and_self]
    rw [show Nat.land L T = L from this] at h1
    simp at h1
  · cases h2 : Nat.beq (pieceM (piecesOf T)) T <;> simp only [h2, cond_true, cond_false] at h
    · cases h
    have h1 : L &&& T = L := Nat.eq_of_beq_eq_true h1
    have h2 : pieceM (piecesOf T) = T := Nat.eq_of_beq_eq_true h2
    rw [Bool.eq_iff_iff, pieceEq_den V hx h, ← pieces_iff n L, h2, h1]
    simp
def orML (k : IntKind) (x : SE) : List SE → Option (Nat × Nat)
  | [] => some (0, 0)
  | p :: l => match orML k x l with
    | none => none
    | some (M, L) => match p with
      | .lit (.ofNat c) => bif Int.ble1 (.ofNat c) k.max then some (M, Nat.lor c L) else none
      | .bin op k' z (.lit (.ofNat m)) => bif Nat.beq (opIx op) 5 && Nat.beq (kIx k) (kIx k') && z.same x && Int.ble1 (.ofNat m) k.max then some (Nat.lor m M, L) else none
      | _ => none
theorem or_max {k : IntKind} (hu : unsg k = true) {x y : Nat} (hx : (x : Int) ≤ k.max) (hy : (y : Int) ≤ k.max) : ((x ||| y : Nat) : Int) ≤ k.max := by
  have h1 := nat_lt hu hx
  have h2 := nat_lt hu hy
  have := Nat.or_lt_two_pow h1 h2
  rw [(uns_max hu).1, ← pow2I]; omega
theorem orML_den (V : Val) {k : IntKind} (hu : unsg k = true) {x : SE} {n : Nat} (hx : x.den V = n) (hn : (n : Int) ≤ k.max) : ∀ {l : List SE} {M L : Nat}, orML k x l = some (M, L) → (M : Int) ≤ k.max ∧ (L : Int) ≤ k.max ∧ bvs V k l = BitVec.ofNat k.bits ((n &&& M) ||| L)
  | [], M, L, h => by
    simp only [orML, Option.some.injEq, Prod.mk.injEq] at h
    obtain ⟨rfl, rfl⟩ := h
    refine ⟨by rw [(uns_max hu).1, ← pow2I]; have := Nat.two_pow_pos k.bits; omega, by rw [(uns_max hu).1, ← pow2I]; have := Nat.two_pow_pos k.bits; omega, ?_⟩
    simp [bvs]
  | p :: l, M, L, h => by
    unfold orML at h
    split at h
    case h_1 => cases h
    rename_i M' L' hl
    obtain ⟨i1, i2, i3⟩ := orML_den V hu hx hn hl
    split at h
    · rename_i c
      cases hb : Int.ble1 (.ofNat c) k.max <;> simp only [hb, cond_true, cond_false] at h
      · cases h
      cases h
      have hc : (c : Int) ≤ k.max := (Int.ble1_iff _ _).1 hb
      refine ⟨i1, or_max hu hc i2, ?_⟩
      simp only [bvs, i3, SE.den]
      rw [show bvOf k (Int.ofNat c) = BitVec.ofNat k.bits c from BitVec.ofInt_natCast .., ← BitVec.ofNat_or]
      congr 1
      rw [← Nat.or_assoc, Nat.or_comm c, Nat.or_assoc]; rfl
    · rename_i op k' z m
      cases hb : (Nat.beq (opIx op) 5 && Nat.beq (kIx k) (kIx k') && z.same x && Int.ble1 (.ofNat m) k.max) <;> simp only [hb, cond_true, cond_false] at h
      · cases h
      cases h
      simp only [Bool.and_eq_true] at hb
      obtain ⟨⟨⟨ho, hk⟩, hz⟩, hm⟩ := hb
      have ho : op = .and := opIx_inj (b := .and) ho
      have hk := kIx_inj hk
      subst ho; subst hk
      obtain rfl := SE.same_eq hz
      have hm : (m : Int) ≤ k.max := (Int.ble1_iff _ _).1 hm
      refine ⟨or_max hu hm i1, i2, ?_⟩
      simp only [bvs, i3, SE.den, hx]
      rw [show (Int.ofNat m) = (m : Int) from rfl, andN hu hn hm, show bvOf k ((n &&& m : Nat) : Int) = BitVec.ofNat k.bits (n &&& m) from BitVec.ofInt_natCast .., ← BitVec.ofNat_or]
      congr 1
      rw [← Nat.or_assoc, ← Nat.and_or_distrib_left]; rfl
    · cases h
def eqOr (op : BinOp) (k : IntKind) (a1 a2 x : SE) : Option SB := bif Nat.beq (opIx op) 6 && unsg k && nnK k x then (match orML k x ((SE.bin op k a1 a2).ors k) with
    | some (M, L) => maskEq k x (Nat.lor (Nat.sub (Nat.sub (Nat.pow 2 k.bits) 1) M) L) L
    | none => none) else none
theorem or_eq_iff (n M L b : Nat) (hn : n < 2 ^ b) (hM : M < 2 ^ b) : ((n &&& M) ||| L = n) ↔ n &&& ((2 ^ b - 1 - M) ||| L) = L := by
  rw [show 2 ^ b - 1 - M = 2 ^ b - (M + 1) by omega]
  have key : ∀ i, (((n &&& M) ||| L).testBit i = n.testBit i) ↔ ((n &&& ((2 ^ b - (M + 1)) ||| L)).testBit i = L.testBit i) := by
    intro i
    simp only [Nat.testBit_or, Nat.testBit_and, Nat.testBit_two_pow_sub_succ hM]
    by_cases hi : i < b
    · cases n.testBit i <;> cases M.testBit i <;> cases L.testBit i <;> simp [hi]
    · have h1 : n.testBit i = false := Nat.testBit_lt_two_pow (Nat.lt_of_lt_of_le hn (Nat.pow_le_pow_right (by omega) (by omega)))
      cases L.testBit i <;> simp [h1]
  constructor
  · intro h
    apply Nat.eq_of_testBit_eq
    intro i
    exact (key i).1 (by rw [h])
  · intro h
    apply Nat.eq_of_testBit_eq
    intro i
    exact (key i).2 (by rw [h])
theorem eqOr_den (V : Val) {op : BinOp} {k : IntKind} {a1 a2 x : SE} {r : SB} (h : eqOr op k a1 a2 x = some r) : r.den V = ((SE.bin op k a1 a2).den V == x.den V) := by
  unfold eqOr at h
  cases hb : (Nat.beq (opIx op) 6 && unsg k && nnK k x) <;> simp only [hb, cond_true, cond_false] at h
  · cases h
  simp only [Bool.and_eq_true] at hb
  obtain ⟨⟨ho, hu⟩, hx⟩ := hb
  have ho : op = .or := opIx_inj (b := .or) ho
  subst ho
  obtain ⟨n, h1, h2⟩ := nnK_den V hx
  split at h
  case h_2 => cases h
  rename_i M L hml
  obtain ⟨i1, i2, i3⟩ := orML_den V hu h1 h2 hml
  rw [ors_den] at i3
  have hnb := nat_lt hu h2
  have hMb := nat_lt hu i1
  have hLb := nat_lt hu i2
  have hor : (n &&& M) ||| L < 2 ^ k.bits := Nat.or_lt_two_pow (Nat.lt_of_le_of_lt Nat.and_le_left hnb) hLb
  have e1 : (SE.bin .or k a1 a2).den V = (((n &&& M) ||| L : Nat) : Int) := by
    have c : (SE.bin .or k a1 a2).den V = k.wrap ((bvOf k ((SE.bin .or k a1 a2).den V)).toNat : Int) := by
      show binI .or k _ _ = k.wrap ((bvOf k (binI .or k _ _)).toNat : Int)
      rw [bv_or]; rfl
    rw [c, i3, BitVec.toNat_ofNat, Nat.mod_eq_of_lt hor]
    exact wrap_of_in (by rw [(uns_max hu).2]; exact Int.natCast_nonneg _) (by rw [(uns_max hu).1, ← pow2I]; omega)
  rw [maskEq_den V h1 h, e1, h1]
  rw [Bool.eq_iff_iff, decide_eq_true_iff, beq_iff_eq]
  have := or_eq_iff n M L k.bits hnb hMb
  constructor
  · intro h3
    rw [this.2 h3]
  · intro h3
    exact this.1 (Int.ofNat.inj h3)
def eqF (a b : SE) : Option SB := match a with
  | .bin op k a1 a2 => bif Nat.beq (opIx op) 6 then eqOr op k a1 a2 b else (match a2 with
    | .lit (.ofNat T) => (match b with
      | .lit (.ofNat L) => bif Nat.beq (opIx op) 5 && unsg k && nnK k a1 && Int.ble1 (.ofNat T) k.max && !(Nat.beq (Nat.pow 2 (Nat.log2 (Nat.succ T))) (Nat.succ T)) then maskEq k a1 T L else none
      | .bin op' k' b1 b2 => eqOr op' k' b1 b2 a
      | _ => none)
    | _ => (match b with
      | .bin op' k' b1 b2 => eqOr op' k' b1 b2 a
      | _ => none))
  | a => (match b with
    | .bin op' k' b1 b2 => eqOr op' k' b1 b2 a
    | _ => none)
theorem eqF_den (V : Val) {a b : SE} {r : SB} (h : eqF a b = some r) : r.den V = (a.den V == b.den V) := by
  have sym : ∀ {op' k' b1 b2}, eqOr op' k' b1 b2 a = some r → r.den V = (a.den V == (SE.bin op' k' b1 b2).den V) := by
    intro op' k' b1 b2 h
    rw [eqOr_den V h, Bool.eq_iff_iff, beq_iff_eq, beq_iff_eq]
    exact eq_comm
  unfold eqF at h
  split at h
  · rename_i op k a1 a2
    cases h6 : Nat.beq (opIx op) 6 <;> simp only [h6, cond_true, cond_false] at h
    · split at h
      · rename_i T
        split at h
        · rename_i L
          cases hb : (Nat.beq (opIx op) 5 && unsg k && nnK k a1 && Int.ble1 (.ofNat T) k.max && !(Nat.beq (Nat.pow 2 (Nat.log2 (Nat.succ T))) (Nat.succ T))) <;> simp only [hb, cond_true, cond_false] at h
          · cases h
          simp only [Bool.and_eq_true] at hb
          obtain ⟨⟨⟨⟨ho, hu⟩, hx⟩, hT⟩, _⟩ := hb
          have ho : op = .and := opIx_inj (b := .and) ho
          subst ho
          obtain ⟨n, h1, h2⟩ := nnK_den V hx
          have hT : (T : Int) ≤ k.max := (Int.ble1_iff _ _).1 hT
          rw [maskEq_den V h1 h]
          simp only [SE.den, h1]
          rw [show (Int.ofNat T) = (T : Int) from rfl, andN hu h2 hT, Bool.eq_iff_iff, decide_eq_true_iff, beq_iff_eq]
          exact ⟨fun h => by rw [h]; rfl, fun h => Int.ofNat.inj h⟩
        · exact sym h
        · cases h
      · split at h
        · exact sym h
        · cases h
    · exact eqOr_den V h
  · split at h
    · exact sym h
    · cases h
def rngIn (k : IntKind) (e : SE) : Bool := match e.rng with
  | (some lo, some hi) => Int.ble1 k.min lo && Int.ble1 hi k.max
  | _ => false
theorem rngIn_den (V : Val) {k : IntKind} {e : SE} (h : rngIn k e = true) : k.min ≤ e.den V ∧ e.den V ≤ k.max := by
  unfold rngIn at h
  split at h
  · rename_i lo hi hr
    simp only [Bool.and_eq_true, Int.ble1_iff] at h
    obtain ⟨r1, r2⟩ := SE.rng_den V e
    rw [hr] at r1 r2
    have q1 := r1 lo rfl
    have q2 := r2 hi rfl
    omega
  · cases h
def eqB (x y : SE) : SB := bif x.same y then .lit true else match eqF x y with
  | some r => r
  | none => eqOrd x y
theorem eqB_den (V : Val) (x y : SE) : (eqB x y).den V = (x.den V == y.den V) := by
  unfold eqB
  cases hs : x.same y <;> simp only [cond_true, cond_false]
  · split
    · rename_i r hr; exact eqF_den V hr
    · exact eqOrd_den V x y
  · rw [SE.same_eq hs]; simp [SB.den]
def k32 (k : IntKind) : Bool := Nat.beq (kIx k) (kIx .u32) || Nat.beq (kIx k) (kIx .i32)
def eqA (a b : SE) : Option SB := match a with
  | .cv k x => bif k32 k && rngIn .u32 x then (match b with
    | .lit n => bif Int.ble1 k.min n && Int.ble1 n k.max then some (eqB x (.lit (IntKind.u32.wrap n))) else none
    | .cv k' y => bif Nat.beq (kIx k) (kIx k') && rngIn .u32 y then some (eqB x y) else none
    | _ => eqF a b) else eqF a b
  | .bin op k x (.lit c) => (match b with
    | .bin op' k' y (.lit d) => bif Nat.beq (opIx op) (opIx op') && Nat.beq (kIx k) (kIx k') && intEq c d && (Nat.beq (opIx op) 0 || Nat.beq (opIx op) 1) && rngIn k x && rngIn k y then some (eqB x y) else eqF a b
    | _ => eqF a b)
  | _ => eqF a b
theorem wrap_inj {k : IntKind} {x y c : Int} (hx : k.min ≤ x ∧ x ≤ k.max) (hy : k.min ≤ y ∧ y ≤ k.max) (h : k.wrap (x + c) = k.wrap (y + c)) : x = y := by
  cases k <;> simp only [IntKind.wrap, IntKind.min, IntKind.max, IntKind.bits, IntKind.signed] at * <;> simp at * <;> (try split at h) <;> (try split at h) <;> omega
theorem eqA_den (V : Val) {a b : SE} {r : SB} (h : eqA a b = some r) : r.den V = (a.den V == b.den V) := by
  unfold eqA at h
  split at h
  · rename_i k x
    cases hb : (k32 k && rngIn .u32 x) <;> simp only [hb, cond_true, cond_false] at h
    · exact eqF_den V h
    simp only [Bool.and_eq_true] at hb
    obtain ⟨h1, h2⟩ := rngIn_den V hb.2
    have m3 : IntKind.u32.min = 0 := by decide
    have m4 : IntKind.u32.max = 4294967295 := by decide
    rw [m3] at h1; rw [m4] at h2
    have hk : k = .u32 ∨ k = .i32 := by
      have := hb.1
      unfold k32 at this
      simp only [Bool.or_eq_true] at this
      rcases this with h | h
      · exact .inl (kIx_inj h)
      · exact .inr (kIx_inj h)
    split at h
    · rename_i n
      cases hc : (Int.ble1 k.min n && Int.ble1 n k.max) <;> simp only [hc, cond_true, cond_false] at h
      · cases h
      cases h
      simp only [Bool.and_eq_true, Int.ble1_iff] at hc
      rw [eqB_den]
      simp only [SE.den]
      rw [Bool.eq_iff_iff, beq_iff_eq, beq_iff_eq]
      generalize x.den V = z at h1 h2
      rcases hk with rfl | rfl
      · simp only [IntKind.wrap, IntKind.min, IntKind.max, IntKind.bits, IntKind.signed] at *
        simp at *
        omega
      · simp only [IntKind.wrap, IntKind.min, IntKind.max, IntKind.bits, IntKind.signed] at *
        simp at *
        omega
    · rename_i k' y
      cases hc : (Nat.beq (kIx k) (kIx k') && rngIn .u32 y) <;> simp only [hc, cond_true, cond_false] at h
      · cases h
      cases h
      simp only [Bool.and_eq_true] at hc
      obtain rfl := kIx_inj hc.1
      obtain ⟨g1, g2⟩ := rngIn_den V hc.2
      rw [m3] at g1; rw [m4] at g2
      rw [eqB_den]
      simp only [SE.den]
      rw [Bool.eq_iff_iff, beq_iff_eq, beq_iff_eq]
      generalize x.den V = z at h1 h2
      generalize y.den V = u at g1 g2
      rcases hk with rfl | rfl
      · simp only [IntKind.wrap, IntKind.bits, IntKind.signed]
        simp
        omega
      · simp only [IntKind.wrap, IntKind.bits, IntKind.signed]
        simp
        omega
    · exact eqF_den V h
  · rename_i op k x c
    split at h
    · rename_i op' k' y d
      cases hc : (Nat.beq (opIx op) (opIx op') && Nat.beq (kIx k) (kIx k') && intEq c d && (Nat.beq (opIx op) 0 || Nat.beq (opIx op) 1) && rngIn k x && rngIn k y) <;> simp only [hc, cond_true, cond_false] at h
      · exact eqF_den V h
      cases h
      simp only [Bool.and_eq_true] at hc
      obtain ⟨⟨⟨⟨⟨ho, hk⟩, hd⟩, h01⟩, hx⟩, hy⟩ := hc
      obtain rfl := opIx_inj ho
      obtain rfl := kIx_inj hk
      obtain rfl := intEq_eq hd
      have hx := rngIn_den V hx
      have hy := rngIn_den V hy
      rw [eqB_den, Bool.eq_iff_iff, beq_iff_eq, beq_iff_eq]
      simp only [Bool.or_eq_true] at h01
      rcases h01 with h0 | h1
      · have ho : op = .add := opIx_inj (b := .add) h0
        subst ho
        simp only [SE.den, binI]
        exact ⟨fun e => by rw [e], wrap_inj hx hy⟩
      · have ho : op = .sub := opIx_inj (b := .sub) h1
        subst ho
        simp only [SE.den, binI, Int.sub_eq_add_neg]
        exact ⟨fun e => by rw [e], wrap_inj hx hy⟩
    · exact eqF_den V h
  · exact eqF_den V h
def mkCmp0 (op : BinOp) (a b : SE) : SB :=
  match a, b with
  | .lit x, .lit y => .lit (cmpI op x y)
  | a, b => bif a.same b then .lit (cmpI op 0 0) else bif Nat.beq (opIx op) 11 then (match eqA a b with
      | some r => r
      | none => mkCmp1 op a b) else bif Nat.beq (opIx op) 12 then (match eqA a b with
      | some r => mkNot r
      | none => mkCmp1 op a b) else mkCmp1 op a b
theorem cmpI_self (op : BinOp) (x : Int) : cmpI op x x = cmpI op 0 0 := by cases op <;> simp [cmpI]
theorem mkCmp0_den (V : Val) (op : BinOp) (a b : SE) : (mkCmp0 op a b).den V = cmpI op (a.den V) (b.den V) := by
  unfold mkCmp0
  split
  · simp [SB.den, SE.den]
  · cases h : a.same b <;> simp only [cond_true, cond_false]
    · cases h1 : Nat.beq (opIx op) 11 <;> simp only [cond_true, cond_false]
      · cases h2 : Nat.beq (opIx op) 12 <;> simp only [cond_true, cond_false]
        · exact mkCmp1_den V op a b
        · have ho : op = .neq := opIx_inj (b := .neq) h2
          subst ho
          split
          · rename_i r hr
            rw [mkNot_den, eqA_den V hr]
            rfl
          · exact mkCmp1_den V _ a b
      · have ho : op = .eql := opIx_inj (b := .eql) h1
        subst ho
        split
        · rename_i r hr
          rw [eqA_den V hr]
          rfl
        · exact mkCmp1_den V _ a b
    · rw [SE.same_eq h]
      simp [SB.den, cmpI_self op (b.den V)]
def stripA (e x : SE) (k : IntKind) (c : Int) (r : Option Int × Option Int) : SE × Int := match r with
  | (some lo, some hi) => bif Int.ble1 k.min (lo + c) && Int.ble1 (hi + c) k.max then (x, c) else (e, 0)
  | _ => (e, 0)
def strip (e : SE) : SE × Int := match e with
  | .lit n => (.lit 0, n)
  | .bin op k x (.lit c) => bif Nat.beq (opIx op) 0 then stripA (.bin op k x (.lit c)) x k c x.rng else bif Nat.beq (opIx op) 1 then stripA (.bin op k x (.lit c)) x k (-c) x.rng else (.bin op k x (.lit c), 0)
  | e => (e, 0)
theorem stripA_den (V : Val) {e x : SE} {k : IntKind} {c : Int} (h : e.den V = k.wrap (x.den V + c)) : e.den V = (stripA e x k c x.rng).1.den V + (stripA e x k c x.rng).2 := by
  unfold stripA
  split
  · rename_i lo hi hr
    cases hb : (Int.ble1 k.min (lo + c) && Int.ble1 (hi + c) k.max) <;> simp only [cond_true, cond_false]
    · simp
    · simp only [Bool.and_eq_true, Int.ble1_iff] at hb
      obtain ⟨r1, r2⟩ := SE.rng_den V x
      rw [hr] at r1 r2
      have q1 := r1 lo rfl
      have q2 := r2 hi rfl
      rw [h, wrap_of_in (by omega) (by omega)]
  · simp
theorem strip_den (V : Val) (e : SE) : e.den V = (strip e).1.den V + (strip e).2 := by
  unfold strip
  split
  · simp [SE.den]
  · rename_i op k x c
    cases h1 : Nat.beq (opIx op) 0 <;> simp only [cond_true, cond_false]
    · cases h2 : Nat.beq (opIx op) 1 <;> simp only [cond_true, cond_false]
      · simp
      · have ho : op = .sub := opIx_inj (b := .sub) h2
        subst ho
        exact stripA_den V (by simp only [SE.den, binI]; congr 1)
    · have ho : op = .add := opIx_inj (b := .add) h1
      subst ho
      exact stripA_den V (by simp only [SE.den, binI])
  · simp
theorem cmpI_shift (op : BinOp) (x y c : Int) : cmpI op (x + c) (y + c) = cmpI op x y := by
  cases op <;> simp only [cmpI] <;> rw [Bool.eq_iff_iff] <;> simp
def mkCmp (op : BinOp) (a b : SE) : SB :=
  match strip a with
  | (x, c) => match strip b with
    | (y, d) => bif intEq c d then mkCmp0 op x y else (match y with
      | .lit m => mkCmp0 op x (.lit (m + d - c))
      | _ => match x with
        | .lit m => mkCmp0 op (.lit (m + c - d)) y
        | _ => mkCmp0 op a b)
theorem mkCmp_den (V : Val) (op : BinOp) (a b : SE) : (mkCmp op a b).den V = cmpI op (a.den V) (b.den V) := by
  have ha := strip_den V a
  have hb := strip_den V b
  unfold mkCmp
  generalize strip a = p at ha
  generalize strip b = q at hb
  obtain ⟨x, c⟩ := p
  obtain ⟨y, d⟩ := q
  simp only at ha hb ⊢
  cases h1 : intEq c d <;> simp only [cond_true, cond_false]
  · split
    · rename_i m
      rw [mkCmp0_den, ha, hb]
      simp only [SE.den]
      rw [← cmpI_shift op (x.den V) (m + d - c) c]
      congr 1; omega
    · split
      · rename_i m
        rw [mkCmp0_den, ha, hb]
        simp only [SE.den]
        rw [← cmpI_shift op (m + c - d) (y.den V) d]
        congr 1; omega
      · exact mkCmp0_den V op a b
  · obtain rfl := intEq_eq h1
    rw [mkCmp0_den, ha, hb, cmpI_shift]
theorem wrap_add (k : IntKind) (a b : Int) : k.wrap (k.wrap a + b) = k.wrap (a + b) := by
  cases k <;> simp only [IntKind.wrap, IntKind.bits, IntKind.signed] <;> simp <;> (try split) <;> (try split) <;> omega
def addLit (k : IntKind) (x : SE) (t : Int) : SE := bif intEq t 0 then (match x.rng with
    | (some lo, some hi) => bif Int.ble1 k.min lo && Int.ble1 hi k.max then x else .bin .add k x (.lit 0)
    | _ => .bin .add k x (.lit 0)) else bif Int.ble1 0 t then .bin .add k x (.lit t) else .bin .sub k x (.lit (-t))
theorem addLit_den (V : Val) (k : IntKind) (x : SE) (t : Int) : (addLit k x t).den V = k.wrap (x.den V + t) := by
  unfold addLit
  cases h : intEq t 0 <;> simp only [cond_true, cond_false]
  · cases h2 : Int.ble1 0 t <;> simp only [cond_true, cond_false, SE.den, binI]
    congr 1; omega
  · obtain rfl := intEq_eq h
    split
    · rename_i lo hi hr
      cases hb : (Int.ble1 k.min lo && Int.ble1 hi k.max) <;> simp only [cond_true, cond_false, SE.den, binI]
      simp only [Bool.and_eq_true, Int.ble1_iff] at hb
      obtain ⟨r1, r2⟩ := SE.rng_den V x
      rw [hr] at r1 r2
      have q1 := r1 lo rfl
      have q2 := r2 hi rfl
      rw [wrap_of_in (by omega) (by omega)]; omega
    · simp only [SE.den, binI]
def addTo (e : SE) (k : IntKind) (a : SE) (t : Int) : SE := match a with
  | .bin op k' x (.lit c) => bif Nat.beq (kIx k) (kIx k') then (bif Nat.beq (opIx op) 0 then addLit k x (c + t) else bif Nat.beq (opIx op) 1 then addLit k x (t - c) else e) else e
  | _ => e
theorem addTo_den (V : Val) {e a : SE} {k : IntKind} {t : Int} (h : e.den V = k.wrap (a.den V + t)) : (addTo e k a t).den V = k.wrap (a.den V + t) := by
  unfold addTo
  split
  · rename_i op k' x c
    cases hk : Nat.beq (kIx k) (kIx k') <;> simp only [cond_true, cond_false]
    · exact h
    obtain rfl := kIx_inj hk
    cases h1 : Nat.beq (opIx op) 0 <;> simp only [cond_true, cond_false]
    · cases h2 : Nat.beq (opIx op) 1 <;> simp only [cond_true, cond_false]
      · exact h
      · have ho : op = .sub := opIx_inj (b := .sub) h2
        subst ho
        rw [addLit_den]
        simp only [SE.den, binI, wrap_add]
        congr 1; omega
    · have ho : op = .add := opIx_inj (b := .add) h1
      subst ho
      rw [addLit_den]
      simp only [SE.den, binI, wrap_add]
      congr 1; omega
  · exact h
def andAnd (k : IntKind) (a : SE) (y : Int) : SE := match a with
  | .bin op k' x (.lit (.ofNat M)) => (match y with
    | .ofNat N => bif unsg k && Nat.beq (opIx op) 5 && Nat.beq (kIx k) (kIx k') && nnK k x && Int.ble1 (.ofNat M) k.max && Int.ble1 (.ofNat N) k.max then .bin .and k x (.lit (.ofNat (Nat.land M N))) else .bin .and k (.bin op k' x (.lit (.ofNat M))) (.lit y)
    | _ => .bin .and k (.bin op k' x (.lit (.ofNat M))) (.lit y))
  | a => .bin .and k a (.lit y)
theorem andAnd_den (V : Val) (k : IntKind) (a : SE) (y : Int) : (andAnd k a y).den V = binI .and k (a.den V) y := by
  unfold andAnd
  split
  · rename_i op k' x M
    split
    · rename_i N
      cases hb : (unsg k && Nat.beq (opIx op) 5 && Nat.beq (kIx k) (kIx k') && nnK k x && Int.ble1 (.ofNat M) k.max && Int.ble1 (.ofNat N) k.max) <;> simp only [cond_true, cond_false]
      · rfl
      · simp only [Bool.and_eq_true] at hb
        obtain ⟨⟨⟨⟨⟨hu, ho⟩, hk⟩, hx⟩, hM⟩, hN⟩ := hb
        have ho : op = .and := opIx_inj (b := .and) ho
        have hk := kIx_inj hk
        subst ho; subst hk
        obtain ⟨n, h1, h2⟩ := nnK_den V hx
        have hM : (M : Int) ≤ k.max := (Int.ble1_iff _ _).1 hM
        have hN : (N : Int) ≤ k.max := (Int.ble1_iff _ _).1 hN
        simp only [SE.den, h1]
        have e1 : binI .and k (n : Int) (.ofNat M) = ((n &&& M : Nat) : Int) := andN hu h2 hM
        rw [e1]
        have hnm : ((n &&& M : Nat) : Int) ≤ k.max := Int.le_trans (Int.ofNat_le.2 Nat.and_le_left) h2
        have hmn : ((M &&& N : Nat) : Int) ≤ k.max := Int.le_trans (Int.ofNat_le.2 Nat.and_le_left) hM
        have e2 : binI .and k ((n &&& M : Nat) : Int) (.ofNat N) = (((n &&& M) &&& N : Nat) : Int) := andN hu hnm hN
        have e3 : binI .and k (n : Int) (.ofNat (Nat.land M N)) = ((n &&& (M &&& N) : Nat) : Int) := andN hu h2 hmn
        rw [e2, e3, Nat.and_assoc]
    · rfl
  · rfl
theorem hi_mask (n t b : Nat) (ht : t ≤ b) (hn : n < 2 ^ b) : n / 2 ^ t * 2 ^ t = n &&& (2 ^ b - 1 - (2 ^ t - 1)) := by
  have e : 2 ^ b - 1 - (2 ^ t - 1) = 2 ^ t * (2 ^ (b - t) - 1) := by
    have h1 : 2 ^ b = 2 ^ t * 2 ^ (b - t) := by rw [← Nat.pow_add]; congr 1; omega
    have : 0 < 2 ^ t := Nat.two_pow_pos t
    have h2 : 0 < 2 ^ (b - t) := Nat.two_pow_pos _
    rw [Nat.mul_sub, Nat.mul_one, ← h1]
    omega
  rw [e]
  apply Nat.eq_of_testBit_eq
  intro i
  rw [Nat.mul_comm, Nat.testBit_two_pow_mul, Nat.testBit_and, Nat.testBit_two_pow_mul, Nat.testBit_div_two_pow, Nat.testBit_two_pow_sub_one]
  by_cases h : t ≤ i
  · simp only [h, decide_true, Bool.true_and]
    rw [show i - t + t = i by omega]
    by_cases h2 : i - t < b - t
    · simp [h2]
    · have : n.testBit i = false := Nat.testBit_lt_two_pow (Nat.lt_of_lt_of_le hn (Nat.pow_le_pow_right (by omega) (by omega)))
      simp [this]
  · simp [h]
def upM (k : IntKind) (a : SE) (y : Int) : Bool := match y with
  | .ofNat M => unsg k && Nat.beq M (Nat.sub (Nat.pow 2 k.bits) (Nat.pow 2 (tz 64 M))) && Nat.ble (tz 64 M) (tzE k a) && Nat.ble (tz 64 M) k.bits && nnK k a
  | _ => false
theorem upM_den (V : Val) {k : IntKind} {a : SE} {y : Int} (h : upM k a y = true) : binI .and k (a.den V) y = a.den V := by
  unfold upM at h
  split at h
  case h_2 => cases h
  rename_i M
  generalize hT : tz 64 M = T at h
  simp only [Bool.and_eq_true] at h
  obtain ⟨⟨⟨⟨hu, hM⟩, ht⟩, hb⟩, hn⟩ := h
  have hM : M = 2 ^ k.bits - 2 ^ T := Nat.eq_of_beq_eq_true hM
  have ht := Nat.le_of_ble_eq_true ht
  have hb := Nat.le_of_ble_eq_true hb
  obtain ⟨n, h1, h2⟩ := nnK_den V hn
  have hd := tzE_dvd V hu a T ht hb
  rw [h1] at hd
  obtain ⟨c, hc⟩ := Int.ofNat_dvd.1 hd
  have hp : 0 < 2 ^ T := Nat.two_pow_pos T
  have hle : 2 ^ T ≤ 2 ^ k.bits := Nat.pow_le_pow_right (by omega) hb
  have hmx : (M : Int) ≤ k.max := by
    rw [(uns_max hu).1, ← pow2I]; omega
  rw [h1, show (Int.ofNat M) = (M : Int) from rfl, andN hu h2 hmx]
  have e3 := hi_mask n T k.bits hb (nat_lt hu h2)
  have e4 : 2 ^ k.bits - 1 - (2 ^ T - 1) = M := by omega
  rw [e4] at e3
  rw [← e3, hc, Nat.mul_div_cancel_left _ hp, Nat.mul_comm]
def andFix (k : IntKind) (r : SE) : SE := match r with
  | .bin op k' a (.lit y) => bif Nat.beq (opIx op) 5 && Nat.beq (kIx k) (kIx k') then andAnd k a y else .bin op k' a (.lit y)
  | r => r
theorem andFix_den (V : Val) (k : IntKind) (r : SE) : (andFix k r).den V = r.den V := by
  unfold andFix
  split
  · rename_i op k' a y
    cases hb : (Nat.beq (opIx op) 5 && Nat.beq (kIx k) (kIx k')) <;> simp only [cond_true, cond_false]
    simp only [Bool.and_eq_true] at hb
    have ho : op = .and := opIx_inj (b := .and) hb.1
    have hk : k = k' := kIx_inj hb.2
    subst ho; subst hk
    rw [andAnd_den]
    simp [SE.den]
  · rfl
def andL (k : IntKind) (a : SE) (y : Int) : SE := match andLit k a y with
  | some r => andFix k r
  | none => bif allBits k a y then a else bif upM k a y then a else andAnd k a y
def andS (k : IntKind) (a : SE) (y : Int) : SE := match a with
  | .bin op k' x (.lit (.ofNat c)) => (match y with
    | .ofNat M => bif unsg k && Nat.beq (opIx op) 0 && Nat.beq (kIx k) (kIx k') && nnK k x && Int.ble1 (.ofNat M) k.max && Nat.beq (Nat.pow 2 (Nat.log2 (Nat.succ M))) (Nat.succ M) && Nat.beq (Nat.mod c (Nat.succ M)) 0 then andL k x y else andL k a y
    | _ => andL k a y)
  | _ => andL k a y
theorem andL_den (V : Val) (k : IntKind) (a : SE) (y : Int) : (andL k a y).den V = binI .and k (a.den V) y := by
  unfold andL
  split
  · rename_i r hr
    rw [andFix_den]
    exact andLit_den V hr
  · cases h3 : allBits k a y <;> simp only [cond_true, cond_false]
    · cases h4 : upM k a y <;> simp only [cond_true, cond_false]
      · exact andAnd_den V k a y
      · exact (upM_den V h4).symm
    · exact (allBits_den V h3).symm
theorem andS_den (V : Val) (k : IntKind) (a : SE) (y : Int) : (andS k a y).den V = binI .and k (a.den V) y := by
  unfold andS
  split
  · rename_i op k' x c
    split
    · rename_i M
      cases hb : (unsg k && Nat.beq (opIx op) 0 && Nat.beq (kIx k) (kIx k') && nnK k x && Int.ble1 (.ofNat M) k.max && Nat.beq (Nat.pow 2 (Nat.log2 (Nat.succ M))) (Nat.succ M) && Nat.beq (Nat.mod c (Nat.succ M)) 0) <;> simp only [cond_true, cond_false]
      · exact andL_den V k _ _
      simp only [Bool.and_eq_true] at hb
      obtain ⟨⟨⟨⟨⟨⟨hu, ho⟩, hk⟩, hx⟩, hM⟩, hp⟩, hc⟩ := hb
      have ho : op = .add := opIx_inj (b := .add) ho
      have hk := kIx_inj hk
      subst ho; subst hk
      have hM : (M : Int) ≤ k.max := (Int.ble1_iff _ _).1 hM
      have hp : 2 ^ (Nat.log2 (Nat.succ M)) = M + 1 := Nat.eq_of_beq_eq_true hp
      have hc : c % (M + 1) = 0 := Nat.eq_of_beq_eq_true hc
      obtain ⟨n, h1, h2⟩ := nnK_den V hx
      have e1 : (SE.bin .add k x (.lit (.ofNat c))).den V = (((n + c) % 2 ^ k.bits : Nat) : Int) := by
        simp only [SE.den, binI, h1]
        rw [show (Int.ofNat c) = (c : Int) from rfl, uns_wrap hu, ← pow2I, ← Int.natCast_add]
        exact (Int.natCast_emod _ _).symm
      have hle : (((n + c) % 2 ^ k.bits : Nat) : Int) ≤ k.max := by
        have : (n + c) % 2 ^ k.bits < 2 ^ k.bits := Nat.mod_lt _ (Nat.two_pow_pos _)
        rw [(uns_max hu).1, ← pow2I]; omega
      rw [andL_den, h1, e1, show (Int.ofNat M) = (M : Int) from rfl, andN hu h2 hM, andN hu hle hM]
      have eM : M = 2 ^ (Nat.log2 (Nat.succ M)) - 1 := by omega
      generalize Nat.log2 (Nat.succ M) = j at hp eM
      have hj : j ≤ k.bits := by
        have := nat_lt hu hM
        rcases Nat.lt_or_ge k.bits j with h | h
        · have := Nat.pow_le_pow_right (n := 2) (by omega) h
          rw [Nat.pow_succ] at this
          omega
        · exact h
      subst eM
      rw [Nat.and_two_pow_sub_one_eq_mod, Nat.and_two_pow_sub_one_eq_mod, Nat.mod_mod_of_dvd _ (Nat.pow_dvd_pow 2 hj), Nat.add_mod]
      rw [← hp] at hc
      rw [hc, Nat.add_zero, Nat.mod_mod]
    · exact andL_den V k _ _
  · exact andL_den V k _ _
def andNotL (k : IntKind) (a : SE) (y : Int) : SE := bif unsg k && Int.ble1 0 y && Int.ble1 y k.max then andL k a (k.max - y) else .bin .andNot k a (.lit y)
theorem andNotL_den (V : Val) (k : IntKind) (a : SE) (y : Int) : (andNotL k a y).den V = binI .andNot k (a.den V) y := by
  unfold andNotL
  cases hb : (unsg k && Int.ble1 0 y && Int.ble1 y k.max) <;> simp only [cond_true, cond_false]
  · rfl
  · simp only [Bool.and_eq_true, Int.ble1_iff] at hb
    rw [andL_den]
    simp only [binI]
    congr 4
    obtain ⟨⟨hu, h0⟩, h1⟩ := hb
    obtain ⟨n, rfl⟩ := Int.eq_ofNat_of_zero_le h0
    have hn := nat_lt hu h1
    have hm := (uns_max hu).1
    have e : k.max - (n : Int) = ((2 ^ k.bits - 1 - n : Nat) : Int) := by
      rw [hm, ← pow2I]; omega
    apply BitVec.eq_of_toNat_eq
    rw [e, BitVec.ofInt_natCast, BitVec.ofInt_natCast, BitVec.toNat_not, BitVec.toNat_ofNat, BitVec.toNat_ofNat, Nat.mod_eq_of_lt hn, Nat.mod_eq_of_lt (by omega)]
def shlA (k : IntKind) (op : BinOp) (k' : IntKind) (x : SE) (M : Nat) (y : Int) : SE := match x with
  | .bin op2 k2 z (.lit (.ofNat s)) => bif unsg k && Nat.beq (opIx op) 5 && Nat.beq (kIx k) (kIx k') && Nat.beq (opIx op2) 9 && Nat.beq (kIx k) (kIx k2) && nnK k z && intEq y (.ofNat s) && Nat.ble s k.bits && Int.ble1 (.ofNat (Nat.mul M (Nat.pow 2 s))) k.max then andL k z (.ofNat (Nat.mul M (Nat.pow 2 s))) else .bin .shl k (.bin op k' (.bin op2 k2 z (.lit (.ofNat s))) (.lit (.ofNat M))) (.lit y)
  | x => .bin .shl k (.bin op k' x (.lit (.ofNat M))) (.lit y)
theorem shlA_den (V : Val) (k : IntKind) (op : BinOp) (k' : IntKind) (x : SE) (M : Nat) (y : Int) : (shlA k op k' x M y).den V = binI .shl k ((SE.bin op k' x (.lit (.ofNat M))).den V) y := by
  unfold shlA
  split
  · rename_i op2 k2 z s
    cases hb : (unsg k && Nat.beq (opIx op) 5 && Nat.beq (kIx k) (kIx k') && Nat.beq (opIx op2) 9 && Nat.beq (kIx k) (kIx k2) && nnK k z && intEq y (.ofNat s) && Nat.ble s k.bits && Int.ble1 (.ofNat (Nat.mul M (Nat.pow 2 s))) k.max) <;> simp only [cond_true, cond_false]
    · rfl
    · simp only [Bool.and_eq_true] at hb
      obtain ⟨⟨⟨⟨⟨⟨⟨⟨hu, ho⟩, hk⟩, ho2⟩, hk2⟩, hz⟩, hy⟩, hs⟩, hm⟩ := hb
      have ho : op = .and := opIx_inj (b := .and) ho
      have ho2 : op2 = .shr := opIx_inj (b := .shr) ho2
      have hk := kIx_inj hk
      have hk2 := kIx_inj hk2
      subst ho; subst hk; subst ho2; subst hk2
      obtain rfl := intEq_eq hy
      have hs := Nat.le_of_ble_eq_true hs
      have hm : ((M * 2 ^ s : Nat) : Int) ≤ k.max := (Int.ble1_iff _ _).1 hm
      obtain ⟨n, h1, h2⟩ := nnK_den V hz
      have hMm : (M : Int) ≤ k.max := by
        have : M ≤ M * 2 ^ s := Nat.le_mul_of_pos_right M (Nat.two_pow_pos s)
        omega
      rw [andL_den, h1]
      rw [show (Int.ofNat (Nat.mul M (Nat.pow 2 s))) = ((M * 2 ^ s : Nat) : Int) from rfl, andN hu h2 hm]
      have e1 : binI .shr k (n : Int) (.ofNat s) = ((n / 2 ^ s : Nat) : Int) := by
        simp only [binI]
        rw [show (Int.ofNat s).toNat = s from rfl, Nat.min_eq_left hs, ← pow2I, ← Int.ofNat_fdiv]
      simp only [SE.den, h1]
      rw [e1, show (Int.ofNat M) = (M : Int) from rfl, andN hu (Int.le_trans (Int.ofNat_le.2 (Nat.div_le_self _ _)) h2) hMm]
      simp only [binI]
      rw [show (Int.ofNat s).toNat = s from rfl, Nat.min_eq_left hs, ← pow2I, ← Int.natCast_mul, and_shl]
      refine (wrap_of_in (by rw [(uns_max hu).2]; exact Int.natCast_nonneg _) ?_).symm
      exact Int.le_trans (Int.ofNat_le.2 Nat.and_le_right) hm
  · rfl
def shlL (k : IntKind) (a : SE) (y : Int) : SE := match a with
  | .bin op k' x (.lit (.ofNat t)) => bif unsg k && Nat.beq (opIx op) 9 && Nat.beq (kIx k) (kIx k') && nnK k x && intEq y (.ofNat t) && Nat.ble t k.bits then andL k x (k.max - (.ofNat (Nat.sub (Nat.pow 2 t) 1))) else shlA k op k' x t y
  | a => .bin .shl k a (.lit y)
theorem shlL_den (V : Val) (k : IntKind) (a : SE) (y : Int) : (shlL k a y).den V = binI .shl k (a.den V) y := by
  unfold shlL
  split
  · rename_i op k' x t
    cases hb : (unsg k && Nat.beq (opIx op) 9 && Nat.beq (kIx k) (kIx k') && nnK k x && intEq y (.ofNat t) && Nat.ble t k.bits) <;> simp only [cond_true, cond_false]
    · exact shlA_den V k op k' x t y
    · simp only [Bool.and_eq_true] at hb
      obtain ⟨⟨⟨⟨⟨hu, ho⟩, hk⟩, hx⟩, hy⟩, ht⟩ := hb
      have ho : op = .shr := opIx_inj (b := .shr) ho
      have hk := kIx_inj hk
      subst ho; subst hk
      obtain rfl := intEq_eq hy
      have ht := Nat.le_of_ble_eq_true ht
      obtain ⟨n, h1, h2⟩ := nnK_den V hx
      rw [andL_den]
      have hn := nat_lt hu h2
      have e : k.max - (Int.ofNat (Nat.sub (Nat.pow 2 t) 1)) = ((2 ^ k.bits - 1 - (2 ^ t - 1) : Nat) : Int) := by
        rw [(uns_max hu).1, ← pow2I]
        have h3 : (Int.ofNat (Nat.sub (Nat.pow 2 t) 1)) = ((2 ^ t - 1 : Nat) : Int) := rfl
        have h4 : 2 ^ t ≤ 2 ^ k.bits := Nat.pow_le_pow_right (by omega) ht
        have : 0 < 2 ^ t := Nat.two_pow_pos t
        rw [h3]; omega
      rw [e, h1]
      have hmx : ((2 ^ k.bits - 1 - (2 ^ t - 1) : Nat) : Int) ≤ k.max := by
        rw [(uns_max hu).1, ← pow2I]
        have : 0 < 2 ^ k.bits := Nat.two_pow_pos _
        omega
      rw [andN hu h2 hmx, ← hi_mask n t k.bits ht hn]
      simp only [SE.den, binI, h1]
      rw [show (Int.ofNat t).toNat = t from rfl, Nat.min_eq_left ht, ← pow2I, ← Int.ofNat_fdiv, ← Int.natCast_mul]
      refine (wrap_of_in (by rw [(uns_max hu).2]; exact Int.natCast_nonneg _) ?_).symm
      exact Int.le_trans (Int.ofNat_le.2 (Nat.div_mul_le_self _ _)) h2
  · rfl
def orL (k : IntKind) (e a : SE) (y : Int) : SE := bif unsg k && intEq y 0 && nnK k a then a else e
theorem orL_den (V : Val) {k : IntKind} {e a : SE} {y : Int} (h : e.den V = binI .or k (a.den V) y ∨ e.den V = binI .or k y (a.den V)) : (orL k e a y).den V = e.den V := by
  unfold orL
  cases hb : (unsg k && intEq y 0 && nnK k a) <;> simp only [cond_true, cond_false]
  simp only [Bool.and_eq_true] at hb
  obtain ⟨⟨hu, hy⟩, hn⟩ := hb
  obtain rfl := intEq_eq hy
  obtain ⟨n, h1, h2⟩ := nnK_den V hn
  have h0 : ((0 : Nat) : Int) ≤ k.max := by have := (uns_max hu).1; omega
  rcases h with h | h
  · rw [h, h1]
    have := orN hu h2 h0
    simp only [Nat.or_zero] at this
    exact this.symm
  · rw [h, h1]
    have := orN hu h0 h2
    simp only [Nat.zero_or] at this
    exact this.symm
def orHd (k : IntKind) (a : SE) : Bool := match a with
  | .bin op k' _ _ => Nat.beq (opIx op) 6 && Nat.beq (kIx k) (kIx k')
  | _ => false
def shlZ (k : IntKind) (a : SE) (y : Int) : SE := bif intEq y 0 && nnK k a then a else shlL k a y
theorem shlZ_den (V : Val) (k : IntKind) (a : SE) (y : Int) : (shlZ k a y).den V = binI .shl k (a.den V) y := by
  unfold shlZ
  cases hb : (intEq y 0 && nnK k a) <;> simp only [cond_true, cond_false]
  · exact shlL_den V k a y
  · simp only [Bool.and_eq_true] at hb
    obtain rfl := intEq_eq hb.1
    obtain ⟨n, h1, h2⟩ := nnK_den V hb.2
    simp only [binI, h1]
    rw [show (0 : Int).toNat = 0 from rfl, Nat.zero_min, Int.pow_zero, Int.mul_one]
    exact (wrap_of_in (by have : k.min ≤ 0 := by cases k <;> decide
                          omega) h2).symm
def shlW (k : IntKind) (r : SE) (s : Nat) : SE := match r with
  | .lit (.ofNat c) => .lit (.ofNat (Nat.mul c (Nat.pow 2 s)))
  | r => shlZ k r (.ofNat s)
def andF (k : IntKind) (M s m : Nat) (e : SE) : SE := match extTop k e s m with
  | some r => shlW k r s
  | none => andL k e (.ofNat M)
def andO (k : IntKind) (M s m : Nat) : SE → SE
  | .bin op k' x y => bif Nat.beq (opIx op) 6 && Nat.beq (kIx k) (kIx k') && nnK k x && nnK k y then orZ k (andO k M s m x) (andO k M s m y) else andF k M s m (.bin op k' x y)
  | e => andF k M s m e
theorem andF_den (V : Val) {k : IntKind} (hu : unsg k = true) {M s m : Nat} (hM : M = (2 ^ m - 1) * 2 ^ s) (hs : s ≤ k.bits) (hmx : (M : Int) ≤ k.max) {e : SE} {n : Nat} (he : e.den V = n) (hn : (n : Int) ≤ k.max) : (andF k M s m e).den V = ((n &&& M : Nat) : Int) := by
  unfold andF
  split
  · rename_i r hr
    obtain ⟨_, n', h1, h2, h3⟩ := extTop_den V hr
    rw [he] at h1
    obtain rfl : n = n' := Int.ofNat.inj h1
    unfold shlW
    split
    · rename_i c
      have h3 : c = fld n s m := Int.ofNat.inj h3
      subst h3
      rw [hM, fld_and_mask]; rfl
    rw [shlZ_den, h3]
    simp only [binI]
    rw [show (Int.ofNat s).toNat = s from rfl, Nat.min_eq_left hs, ← pow2I, ← Int.natCast_mul, ← fld_and_mask, ← hM]
    exact wrap_of_in (by rw [(uns_max hu).2]; exact Int.natCast_nonneg _) (Int.le_trans (Int.ofNat_le.2 Nat.and_le_left) hn)
  · rw [andL_den, he, show (Int.ofNat M) = (M : Int) from rfl, andN hu hn hmx]
theorem andO_den (V : Val) {k : IntKind} (hu : unsg k = true) {M s m : Nat} (hM : M = (2 ^ m - 1) * 2 ^ s) (hs : s ≤ k.bits) (hmx : (M : Int) ≤ k.max) : ∀ {e : SE} {n : Nat}, e.den V = n → (n : Int) ≤ k.max → (andO k M s m e).den V = ((n &&& M : Nat) : Int)
  | .lit _, n, he, hn => andF_den V hu hM hs hmx he hn
  | .var _, n, he, hn => andF_den V hu hM hs hmx he hn
  | .cv _ _, n, he, hn => andF_den V hu hM hs hmx he hn
  | .sel _ _, n, he, hn => andF_den V hu hM hs hmx he hn
  | .bin op k' x y, n, he, hn => by
    unfold andO
    cases hb : (Nat.beq (opIx op) 6 && Nat.beq (kIx k) (kIx k') && nnK k x && nnK k y) <;> simp only [cond_true, cond_false]
    · exact andF_den V hu hM hs hmx he hn
    simp only [Bool.and_eq_true] at hb
    obtain ⟨⟨⟨ho, hk⟩, hx⟩, hy⟩ := hb
    have ho : op = .or := opIx_inj (b := .or) ho
    have hk := kIx_inj hk
    subst ho; subst hk
    obtain ⟨a, a1, a2⟩ := nnK_den V hx
    obtain ⟨b, b1, b2⟩ := nnK_den V hy
    have e1 : (SE.bin .or k x y).den V = ((a ||| b : Nat) : Int) := by
      simp only [SE.den, a1, b1]; exact orN hu a2 b2
    rw [e1] at he
    obtain rfl : a ||| b = n := Int.ofNat.inj he
    have i1 := andO_den V hu hM hs hmx a1 a2
    have i2 := andO_den V hu hM hs hmx b1 b2
    rw [orZ_den V hu i1 i2 (Int.le_trans (Int.ofNat_le.2 Nat.and_le_left) a2) (Int.le_trans (Int.ofNat_le.2 Nat.and_le_left) b2), ← Nat.and_or_distrib_right]
def runM (M : Nat) : Nat × Nat := (tz 64 M, Nat.log2 (Nat.succ (Nat.div M (Nat.pow 2 (tz 64 M)))))
def andM (k : IntKind) (a : SE) (M : Nat) : SE := match runM M with
  | (s, m) => bif unsg k && Nat.blt 0 s && Nat.ble s k.bits && Int.ble1 (.ofNat M) k.max && nnK k a && Nat.beq (Nat.mul (Nat.sub (Nat.pow 2 m) 1) (Nat.pow 2 s)) M then andO k M s m a else andS k a (.ofNat M)
theorem andM_den (V : Val) (k : IntKind) (a : SE) (M : Nat) : (andM k a M).den V = binI .and k (a.den V) (.ofNat M) := by
  unfold andM
  generalize runM M = q
  obtain ⟨s, m⟩ := q
  simp only
  cases hb : (unsg k && Nat.blt 0 s && Nat.ble s k.bits && Int.ble1 (.ofNat M) k.max && nnK k a && Nat.beq (Nat.mul (Nat.sub (Nat.pow 2 m) 1) (Nat.pow 2 s)) M) <;> simp only [cond_true, cond_false]
  · exact andS_den V k a _
  simp only [Bool.and_eq_true] at hb
  obtain ⟨⟨⟨⟨⟨hu, _⟩, hs⟩, hmx⟩, ha⟩, hM⟩ := hb
  have hM : (2 ^ m - 1) * 2 ^ s = M := Nat.eq_of_beq_eq_true hM
  have hmx : (M : Int) ≤ k.max := (Int.ble1_iff _ _).1 hmx
  obtain ⟨n, h1, h2⟩ := nnK_den V ha
  rw [andO_den V hu hM.symm (Nat.le_of_ble_eq_true hs) hmx h1 h2, h1, show (Int.ofNat M) = (M : Int) from rfl, andN hu h2 hmx]
def andH (k : IntKind) (a : SE) (y : Int) : SE := bif orHd k a then (match y with
  | .ofNat M => bif Nat.ble k.bits (tz 64 M) then andL k a y else bif Nat.beq M (Nat.sub (Nat.pow 2 k.bits) (Nat.pow 2 (tz 64 M))) then (match extTop k a (tz 64 M) (Nat.sub k.bits (tz 64 M)) with
    | some r => shlL k r (.ofNat (tz 64 M))
    | none => andL k a y) else andM k a M
  | _ => andL k a y) else andS k a y
theorem andH_den (V : Val) (k : IntKind) (a : SE) (y : Int) : (andH k a y).den V = binI .and k (a.den V) y := by
  unfold andH
  cases orHd k a <;> simp only [cond_true, cond_false]
  · exact andS_den V k a y
  split
  · rename_i M
    generalize tz 64 M = t
    cases hb : Nat.ble k.bits t <;> simp only [cond_true, cond_false]
    · cases hm : Nat.beq M (Nat.sub (Nat.pow 2 k.bits) (Nat.pow 2 t)) <;> simp only [cond_true, cond_false]
      · exact andM_den V k a M
      · split
        · rename_i r hr
          obtain ⟨hu, n, h1, h2, h3⟩ := extTop_den V hr
          have hM : M = 2 ^ k.bits - 2 ^ t := Nat.eq_of_beq_eq_true hm
          have hn := nat_lt hu h2
          have ht : t ≤ k.bits := by
            rcases Nat.lt_or_ge k.bits t with h | h
            · rw [Nat.ble_eq_true_of_le (by omega)] at hb; cases hb
            · exact h
          rw [shlL_den]
          have e1 : fld n t (Nat.sub k.bits t) = n / 2 ^ t := by
            have : 2 ^ k.bits = 2 ^ t * 2 ^ (k.bits - t) := by rw [← Nat.pow_add]; congr 1; omega
            exact Nat.mod_eq_of_lt (Nat.div_lt_of_lt_mul (show n < 2 ^ t * 2 ^ (k.bits - t) by rw [← this]; exact hn))
          rw [h3, e1, h1]
          have hp : 0 < 2 ^ t := Nat.two_pow_pos t
          have hle : 2 ^ t ≤ 2 ^ k.bits := Nat.pow_le_pow_right (by omega) ht
          have hmx : (M : Int) ≤ k.max := by
            rw [(uns_max hu).1, ← pow2I]; omega
          have e2 := andN hu h2 hmx
          rw [show (Int.ofNat M) = (M : Int) from rfl, e2]
          have e3 := hi_mask n t k.bits ht hn
          have e4 : 2 ^ k.bits - 1 - (2 ^ t - 1) = M := by omega
          rw [e4] at e3
          rw [← e3]
          simp only [binI]
          rw [show (Int.ofNat t).toNat = t from rfl, Nat.min_eq_left ht, ← pow2I, ← Int.natCast_mul]
          exact wrap_of_in (by rw [(uns_max hu).2]; exact Int.natCast_nonneg _) (Int.le_trans (Int.ofNat_le.2 (Nat.div_mul_le_self _ _)) h2)
        · first | exact andL_den V k a _ | exact andS_den V k a _
    · first | exact andL_den V k a _ | exact andS_den V k a _
  · first | exact andL_den V k a y | exact andS_den V k a y
def addZ (e : SE) (k : IntKind) (a : SE) (t : Int) : SE := bif intEq t 0 then addLit k a 0 else addTo e k a t
theorem addZ_den (V : Val) {e a : SE} {k : IntKind} {t : Int} (h : e.den V = k.wrap (a.den V + t)) : (addZ e k a t).den V = k.wrap (a.den V + t) := by
  unfold addZ
  cases hb : intEq t 0 <;> simp only [cond_true, cond_false]
  · exact addTo_den V h
  · obtain rfl := intEq_eq hb
    exact addLit_den V k a 0
def remL (k : IntKind) (a : SE) (y : Int) : SE := match y with
  | .ofNat M => bif Nat.beq M 1 then .lit 0 else bif unsg k && nnK k a && Nat.beq (Nat.pow 2 (Nat.log2 M)) M && Int.ble1 (.ofNat M) k.max then andS k a (.ofNat (Nat.sub M 1)) else .bin .rem k a (.lit y)
  | _ => .bin .rem k a (.lit y)
theorem remL_den (V : Val) (k : IntKind) (a : SE) (y : Int) : (remL k a y).den V = binI .rem k (a.den V) y := by
  unfold remL
  split
  · rename_i M
    cases h1 : Nat.beq M 1 <;> simp only [cond_true, cond_false]
    · cases hb : (unsg k && nnK k a && Nat.beq (Nat.pow 2 (Nat.log2 M)) M && Int.ble1 (.ofNat M) k.max) <;> simp only [cond_true, cond_false]
      · rfl
      · simp only [Bool.and_eq_true] at hb
        obtain ⟨⟨⟨hu, ha⟩, hp⟩, hm⟩ := hb
        obtain ⟨n, h2, h3⟩ := nnK_den V ha
        have hp : 2 ^ (Nat.log2 M) = M := Nat.eq_of_beq_eq_true hp
        have hm : (M : Int) ≤ k.max := (Int.ble1_iff _ _).1 hm
        rw [andS_den, h2, show (Int.ofNat (Nat.sub M 1)) = ((M - 1 : Nat) : Int) from rfl, andN hu h3 (by omega)]
        simp only [binI]
        have e1 : n &&& (M - 1) = n % M := by
          conv => lhs; rw [← hp, Nat.and_two_pow_sub_one_eq_mod]
          rw [hp]
        rw [e1]
        show ((n % M : Nat) : Int) = (n : Int).tmod (M : Int)
        exact (Int.ofNat_tmod n M).symm
    · obtain rfl := Nat.eq_of_beq_eq_true h1
      simp [binI, SE.den]
  · rfl
def bal (k : IntKind) (t : Int) : Int := bif Int.ble1 (t % 2 ^ k.bits * 2) (2 ^ k.bits) then t % 2 ^ k.bits else t % 2 ^ k.bits - 2 ^ k.bits
theorem wrap_bal (k : IntKind) (hu : unsg k = true) (x t : Int) : k.wrap (x + bal k t) = k.wrap (x + t) := by
  rw [uns_wrap hu, uns_wrap hu]
  unfold bal
  cases Int.ble1 (t % 2 ^ k.bits * 2) (2 ^ k.bits) <;> simp only [cond_true, cond_false]
  · rw [show x + (t % 2 ^ k.bits - 2 ^ k.bits) = x + t % 2 ^ k.bits + 2 ^ k.bits * (-1) by omega, Int.add_mul_emod_self_left, Int.add_emod_emod]
  · rw [Int.add_emod_emod]
def plus (k : IntKind) (e : SE) (t : Int) : SE := addTo (addLit k e (bal k t)) k e (bal k t)
theorem plus_den (V : Val) {k : IntKind} (hu : unsg k = true) (e : SE) (t : Int) : (plus k e t).den V = k.wrap (e.den V + t) := by
  unfold plus
  rw [addTo_den V (addLit_den V k e _), wrap_bal k hu]
theorem or_add (x y : Nat) (h : x &&& y = 0) : x ||| y = x + y := by
  obtain ⟨b, hx, hy⟩ : ∃ b, x < 2 ^ b ∧ y < 2 ^ b := ⟨x + y, Nat.lt_of_le_of_lt (by omega) (Nat.lt_two_pow_self (n := x + y)), Nat.lt_of_le_of_lt (by omega) (Nat.lt_two_pow_self (n := x + y))⟩
  have h1 := BitVec.add_eq_or_of_and_eq_zero (BitVec.ofNat (b + 1) x) (BitVec.ofNat (b + 1) y) (by
    apply BitVec.eq_of_toNat_eq
    rw [BitVec.toNat_and, BitVec.toNat_ofNat, BitVec.toNat_ofNat, Nat.mod_eq_of_lt (by rw [Nat.pow_succ]; omega), Nat.mod_eq_of_lt (by rw [Nat.pow_succ]; omega), h]
    simp)
  have h2 := congrArg BitVec.toNat h1
  rw [BitVec.toNat_add, BitVec.toNat_or, BitVec.toNat_ofNat, BitVec.toNat_ofNat, Nat.mod_eq_of_lt (a := x) (by rw [Nat.pow_succ]; omega), Nat.mod_eq_of_lt (a := y) (by rw [Nat.pow_succ]; omega), Nat.mod_eq_of_lt (by rw [Nat.pow_succ]; omega)] at h2
  exact h2.symm
def partL (k : IntKind) (b : SE) : Option (SE × Nat × Nat) := match b with
  | .bin op k' x (.lit (.ofNat M)) => bif unsg k && Nat.beq (kIx k) (kIx k') && Int.ble1 (.ofNat M) k.max then
      (bif Nat.beq (opIx op) 5 then (bif nnK k x then some (x, M, 0) else none)
      else bif Nat.beq (opIx op) 6 then (match x with
        | .bin op2 k2 z (.lit (.ofNat N)) => bif Nat.beq (opIx op2) 5 && Nat.beq (kIx k) (kIx k2) && Int.ble1 (.ofNat N) k.max && nnK k z && Nat.beq (Nat.land N M) 0 then some (z, N, M) else none
        | _ => none) else none) else none
  | _ => none
theorem partL_den (V : Val) {k : IntKind} {b z : SE} {M L : Nat} (h : partL k b = some (z, M, L)) : unsg k = true ∧ (M : Int) ≤ k.max ∧ ∃ n : Nat, z.den V = n ∧ (n : Int) ≤ k.max ∧ b.den V = (((n &&& M) + L : Nat) : Int) := by
  unfold partL at h
  split at h
  case h_2 => cases h
  rename_i op k' x M'
  cases h0 : (unsg k && Nat.beq (kIx k) (kIx k') && Int.ble1 (.ofNat M') k.max) <;> simp only [h0, cond_true, cond_false] at h
  · cases h
  simp only [Bool.and_eq_true] at h0
  obtain ⟨⟨hu, hk⟩, hM'⟩ := h0
  obtain rfl := kIx_inj hk
  have hM' : (M' : Int) ≤ k.max := (Int.ble1_iff _ _).1 hM'
  cases h5 : Nat.beq (opIx op) 5 <;> simp only [h5, cond_true, cond_false] at h
  · cases h6 : Nat.beq (opIx op) 6 <;> simp only [h6, cond_true, cond_false] at h
    · cases h
    split at h
    case h_2 => cases h
    rename_i op2 k2 z' N
    cases hb : (Nat.beq (opIx op2) 5 && Nat.beq (kIx k) (kIx k2) && Int.ble1 (.ofNat N) k.max && nnK k z' && Nat.beq (Nat.land N M') 0) <;> simp only [hb, cond_true, cond_false] at h
    · cases h
    cases h
    simp only [Bool.and_eq_true] at hb
    obtain ⟨⟨⟨⟨ho2, hk2⟩, hN⟩, hz⟩, hd⟩ := hb
    have ho : op = .or := opIx_inj (b := .or) h6
    have ho2 : op2 = .and := opIx_inj (b := .and) ho2
    have hk2 := kIx_inj hk2
    subst ho; subst ho2; subst hk2
    have hN : (M : Int) ≤ k.max := (Int.ble1_iff _ _).1 hN
    have hd : M &&& L = 0 := Nat.eq_of_beq_eq_true hd
    obtain ⟨n, h1, h2⟩ := nnK_den V hz
    refine ⟨hu, hN, n, h1, h2, ?_⟩
    simp only [SE.den, h1]
    rw [show (Int.ofNat M) = (M : Int) from rfl, show (Int.ofNat L) = (L : Int) from rfl, andN hu h2 hN, orN hu (Int.le_trans (Int.ofNat_le.2 Nat.and_le_left) h2) hM']
    rw [or_add]
    rw [Nat.and_assoc, hd, Nat.and_zero]
  · have ho : op = .and := opIx_inj (b := .and) h5
    subst ho
    cases hz : nnK k x <;> simp only [hz, cond_true, cond_false] at h
    · cases h
    cases h
    obtain ⟨n, h1, h2⟩ := nnK_den V hz
    refine ⟨hu, hM', n, h1, h2, ?_⟩
    simp only [SE.den, h1]
    rw [show (Int.ofNat M) = (M : Int) from rfl, andN hu h2 hM', Nat.add_zero]
def subP (e : SE) (k : IntKind) (a b : SE) : SE := match partL k b with
  | some (z, M, L) => bif a.same z then plus k (andL k a (k.max - (.ofNat M))) (-(.ofNat L)) else e
  | none => e
theorem subP_den (V : Val) {e a b : SE} {k : IntKind} (h : e.den V = k.wrap (a.den V - b.den V)) : (subP e k a b).den V = binI .sub k (a.den V) (b.den V) := by
  unfold subP
  split
  · rename_i z M L hp
    cases hs : a.same z <;> simp only [cond_true, cond_false]
    · exact h
    obtain rfl := SE.same_eq hs
    obtain ⟨hu, hM, n, h1, h2, h3⟩ := partL_den V hp
    rw [plus_den V hu, andL_den, h1, h3]
    have e1 : k.max - (Int.ofNat M) = ((2 ^ k.bits - 1 - M : Nat) : Int) := by
      have hm := (uns_max hu).1
      have := nat_lt hu hM
      rw [hm, ← pow2I, show (Int.ofNat M) = (M : Int) from rfl]; omega
    have e2 : ((2 ^ k.bits - 1 - M : Nat) : Int) ≤ k.max := by
      rw [← e1]; have : (0 : Int) ≤ Int.ofNat M := Int.natCast_nonneg _; omega
    rw [e1, andN hu h2 e2]
    simp only [binI]
    congr 1
    have hn := nat_lt hu h2
    have hmb := nat_lt hu hM
    have e3 : (n &&& (2 ^ k.bits - 1 - M)) ||| (n &&& M) = n := by
      apply Nat.eq_of_testBit_eq
      intro i
      rw [Nat.testBit_or, Nat.testBit_and, Nat.testBit_and, show 2 ^ k.bits - 1 - M = 2 ^ k.bits - (M + 1) by omega, Nat.testBit_two_pow_sub_succ hmb]
      by_cases hi : i < k.bits
      · cases n.testBit i <;> cases M.testBit i <;> simp [hi]
      · have : n.testBit i = false := Nat.testBit_lt_two_pow (Nat.lt_of_lt_of_le hn (Nat.pow_le_pow_right (by omega) (by omega)))
        simp [this]
    rw [or_add] at e3
    · rw [show (Int.ofNat L) = (L : Int) from rfl, Int.natCast_add]
      have := congrArg (fun x : Nat => (x : Int)) e3
      simp only [Int.natCast_add] at this
      omega
    · apply Nat.eq_of_testBit_eq
      intro i
      rw [Nat.testBit_and, Nat.testBit_and, Nat.testBit_and, show 2 ^ k.bits - 1 - M = 2 ^ k.bits - (M + 1) by omega, Nat.testBit_two_pow_sub_succ hmb]
      cases n.testBit i <;> cases M.testBit i <;> simp
  · exact h
def litOf (k : IntKind) (a : SE) : SE × Int := match a with
  | .bin op k' x (.lit c) => bif Nat.beq (kIx k) (kIx k') then (bif Nat.beq (opIx op) 0 then (x, c) else bif Nat.beq (opIx op) 1 then (x, -c) else (a, 0)) else (a, 0)
  | _ => (a, 0)
theorem litOf_den (V : Val) (k : IntKind) (a : SE) (y : Int) : k.wrap (a.den V + y) = k.wrap ((litOf k a).1.den V + (litOf k a).2 + y) := by
  unfold litOf
  split
  · rename_i op k' x c
    cases hk : Nat.beq (kIx k) (kIx k') <;> simp only [cond_true, cond_false]
    · simp
    obtain rfl := kIx_inj hk
    cases h0 : Nat.beq (opIx op) 0 <;> simp only [cond_true, cond_false]
    · cases h1 : Nat.beq (opIx op) 1 <;> simp only [cond_true, cond_false]
      · simp
      · have ho : op = .sub := opIx_inj (b := .sub) h1
        subst ho
        simp only [SE.den, binI, wrap_add]
        congr 1
    · have ho : op = .add := opIx_inj (b := .add) h0
      subst ho
      simp only [SE.den, binI, wrap_add]
  · simp
def addQ (e : SE) (k : IntKind) (p : SE × Int) (b : SE) : SE := match partL k p.1 with
  | some (x, M, L) => match partL k b with
    | some (z, N, R) => bif x.same z && Nat.beq (Nat.land M N) 0 && Nat.beq (Nat.lor M N) (Nat.sub (Nat.pow 2 k.bits) 1) then plus k x (p.2 + (.ofNat L) + (.ofNat R)) else e
    | none => e
  | none => e
def addP (e : SE) (k : IntKind) (a b : SE) : SE := addQ e k (litOf k a) b
theorem addP_den (V : Val) {e a b : SE} {k : IntKind} (h : e.den V = k.wrap (a.den V + b.den V)) : (addP e k a b).den V = binI .add k (a.den V) (b.den V) := by
  unfold addP
  have hl := litOf_den V k a (b.den V)
  generalize litOf k a = p at hl
  obtain ⟨q, c⟩ := p
  unfold addQ
  split
  · rename_i x M L hp
    split
    · rename_i z N R hp2
      cases hb : (x.same z && Nat.beq (Nat.land M N) 0 && Nat.beq (Nat.lor M N) (Nat.sub (Nat.pow 2 k.bits) 1)) <;> simp only [cond_true, cond_false]
      · exact h
      simp only [Bool.and_eq_true] at hb
      obtain ⟨⟨hs, h0⟩, h1⟩ := hb
      obtain rfl := SE.same_eq hs
      have h0 : M &&& N = 0 := Nat.eq_of_beq_eq_true h0
      have h1 : M ||| N = 2 ^ k.bits - 1 := Nat.eq_of_beq_eq_true h1
      obtain ⟨hu, hM, n, a1, a2, a3⟩ := partL_den V hp
      obtain ⟨_, hN, n', b1, b2, b3⟩ := partL_den V hp2
      rw [a1] at b1
      obtain rfl : n = n' := Int.ofNat.inj b1
      rw [plus_den V hu, a1]
      simp only [binI]
      rw [hl]
      simp only
      rw [a3, b3]
      congr 1
      have hn := nat_lt hu a2
      have e3 : (n &&& M) + (n &&& N) = n := by
        rw [← or_add]
        · rw [← Nat.and_or_distrib_left, h1, Nat.and_two_pow_sub_one_eq_mod, Nat.mod_eq_of_lt hn]
        · apply Nat.eq_of_testBit_eq
          intro i
          have := congrArg (fun x : Nat => x.testBit i) h0
          simp only [Nat.testBit_and, Nat.zero_testBit] at this
          rw [Nat.testBit_and, Nat.testBit_and, Nat.testBit_and, Nat.zero_testBit]
          cases hm1 : M.testBit i <;> cases hn1 : N.testBit i <;> simp [hm1, hn1] at this ⊢
      have := congrArg (fun x : Nat => (x : Int)) e3
      simp only [Int.natCast_add] at this ⊢
      rw [show (Int.ofNat L) = (L : Int) from rfl, show (Int.ofNat R) = (R : Int) from rfl]
      omega
    · exact h
  · exact h
def inKd (k : IntKind) (a : SE) : Bool := match a.rng with
  | (some lo, some hi) => Int.ble1 k.min lo && Int.ble1 hi k.max
  | _ => false
theorem inKd_den (V : Val) {k : IntKind} {a : SE} (h : inKd k a = true) : k.min ≤ a.den V ∧ a.den V ≤ k.max := by
  unfold inKd at h
  split at h
  · rename_i lo hi hr
    simp only [Bool.and_eq_true] at h
    obtain ⟨r1, r2⟩ := SE.rng_den V a
    rw [hr] at r1 r2
    have q1 := r1 lo rfl
    have q2 := r2 hi rfl
    have b1 := (Int.ble1_iff _ _).1 h.1
    have b2 := (Int.ble1_iff _ _).1 h.2
    omega
  · cases h
def isZ (b : SE) : Bool := match b with
  | .lit n => intEq n 0
  | _ => false
def mkBinA (op : BinOp) (k : IntKind) (a b : SE) : SE :=
  match a, b with
  | .lit x, .lit y => .lit (binF op k x y)
  | a, .lit y => bif Nat.beq (opIx op) 9 then bif intEq y 0 then a else (match shrLit k a y with
      | some r => r
      | none => .bin op k a (.lit y)) else bif Nat.beq (opIx op) 5 then andH k a y else bif Nat.beq (opIx op) 6 then orL k (.bin op k a (.lit y)) a y else bif Nat.beq (opIx op) 10 then andNotL k a y else bif Nat.beq (opIx op) 8 then shlZ k a y else bif Nat.beq (opIx op) 0 then addZ (.bin op k a (.lit y)) k a y else bif Nat.beq (opIx op) 1 then addZ (.bin op k a (.lit y)) k a (-y) else bif Nat.beq (opIx op) 4 then remL k a y else .bin op k a (.lit y)
  | .lit x, b => bif Nat.beq (opIx op) 6 then orL k (.bin op k (.lit x) b) b x else bif Nat.beq (opIx op) 0 then addTo (addLit k b x) k b x else .bin op k (.lit x) b
  | a, b => bif Nat.beq (opIx op) 1 then subP (.bin op k a b) k a b else bif Nat.beq (opIx op) 0 then addP (.bin op k a b) k a b else .bin op k a b
theorem mkBinA_den (V : Val) (op : BinOp) (k : IntKind) (a b : SE) : (mkBinA op k a b).den V = binI op k (a.den V) (b.den V) := by
  unfold mkBinA
  split
  · simp [SE.den, binF_eq]
  · rename_i y hne
    cases h1 : Nat.beq (opIx op) 9 <;> simp only [cond_true, cond_false]
    · cases h2 : Nat.beq (opIx op) 5 <;> simp only [cond_true, cond_false]
      · by_cases h0 : Nat.beq (opIx op) 6 = true
        · have ho : op = .or := opIx_inj (b := .or) h0
          simp only [h0, cond_true]
          subst ho
          rw [orL_den V (.inl (by simp [SE.den]))]; simp [SE.den]
        have h0 : Nat.beq (opIx op) 6 = false := Bool.eq_false_iff.2 h0
        simp only [h0, cond_false]
        cases h6 : Nat.beq (opIx op) 10 <;> simp only [cond_true, cond_false]
        · cases h7 : Nat.beq (opIx op) 8 <;> simp only [cond_true, cond_false]
          · cases h4 : Nat.beq (opIx op) 0 <;> simp only [cond_true, cond_false]
            · cases h5 : Nat.beq (opIx op) 1 <;> simp only [cond_true, cond_false]
              · cases h9 : Nat.beq (opIx op) 4 <;> simp only [cond_true, cond_false]
                · simp [SE.den]
                · have ho : op = .rem := opIx_inj (b := .rem) h9
                  subst ho
                  rw [remL_den]; simp [SE.den]
              · have ho : op = .sub := opIx_inj (b := .sub) h5
                subst ho
                rw [addZ_den V (by simp only [SE.den, binI]; congr 1)]
                simp only [SE.den, binI]; congr 1
            · have ho : op = .add := opIx_inj (b := .add) h4
              subst ho
              rw [addZ_den V (by simp only [SE.den, binI])]
              simp only [SE.den, binI]
          · have ho : op = .shl := opIx_inj (b := .shl) h7
            subst ho
            rw [shlZ_den]; simp [SE.den]
        · have ho : op = .andNot := opIx_inj (b := .andNot) h6
          subst ho
          rw [andNotL_den]; simp [SE.den]
      · have ho : op = .and := opIx_inj (b := .and) h2
        subst ho
        rw [andH_den]; simp [SE.den]
    · have ho : op = .shr := opIx_inj (b := .shr) h1
      subst ho
      cases h3 : intEq y 0 <;> simp only [cond_true, cond_false]
      · split
        · rename_i r hr
          rw [shrLit_den V hr]
          simp [SE.den]
        · simp [SE.den]
      · have hy := intEq_eq h3
        subst hy
        simp [SE.den, binI]
  · rename_i x _
    cases h0 : Nat.beq (opIx op) 6 <;> simp only [cond_true, cond_false]
    · cases h1 : Nat.beq (opIx op) 0 <;> simp only [cond_true, cond_false]
      · simp [SE.den]
      · have ho : op = .add := opIx_inj (b := .add) h1
        subst ho
        rw [addTo_den V (addLit_den V k b x)]
        simp only [SE.den, binI]
        congr 1; omega
    · have ho : op = .or := opIx_inj (b := .or) h0
      subst ho
      rw [orL_den V (.inr (by simp [SE.den]))]; simp [SE.den]
  · cases h1 : Nat.beq (opIx op) 1 <;> simp only [cond_true, cond_false]
    · cases h0 : Nat.beq (opIx op) 0 <;> simp only [cond_true, cond_false]
      · simp [SE.den]
      · have ho : op = .add := opIx_inj (b := .add) h0
        subst ho
        exact addP_den V (by simp [SE.den, binI])
    · have ho : op = .sub := opIx_inj (b := .sub) h1
      subst ho
      exact subP_den V (by simp [SE.den, binI])
def addMul (k : IntKind) (a b : SE) : Option SE := match b with
  | .lit _ => none
  | b => match a with
    | .bin o k' (.lit c) x => bif Nat.beq (opIx o) 2 && Nat.beq (kIx k') (kIx k) && x.same b then some (.bin .mul k (.lit (c + 1)) b) else none
    | a => bif a.same b then some (.bin .mul k (.lit 2) b) else none
theorem addMul_den (V : Val) {k : IntKind} {a b r : SE} (h : addMul k a b = some r) : r.den V = binI .add k (a.den V) (b.den V) := by
  unfold addMul at h
  split at h
  · cases h
  split at h
  · rename_i o k' c x
    cases hb : (Nat.beq (opIx o) 2 && Nat.beq (kIx k') (kIx k) && x.same b) <;> simp only [hb, cond_true, cond_false] at h
    · cases h
    cases h
    simp only [Bool.and_eq_true] at hb
    have e : o = .mul := opIx_inj (b := .mul) hb.1.1
    subst e
    obtain rfl := kIx_inj hb.1.2
    obtain rfl := SE.same_eq hb.2
    simp only [SE.den, binI, wrap_add]
    congr 1
    rw [Int.add_mul, Int.one_mul]
  · cases hb : a.same b <;> simp only [hb, cond_true, cond_false] at h
    · cases h
    cases h
    obtain rfl := SE.same_eq hb
    simp only [SE.den, binI]
    congr 1
    omega
def shrShl (k : IntKind) (a b : SE) : Option SE := match b with
  | .lit (.ofNat s2) => match a with
    | .bin o k2 y (.lit (.ofNat s)) => bif Nat.beq (opIx o) 8 && Nat.beq s s2 && Nat.blt s k2.bits && Nat.blt s k.bits then (match y.rng with
      | (some lo, some hi) => bif Int.ble1 0 lo && Int.ble1 (hi * .ofNat (Nat.pow 2 s)) k2.max then some y else none
      | _ => none) else none
    | _ => none
  | _ => none
theorem shrShl_den (V : Val) {k : IntKind} {a b r : SE} (h : shrShl k a b = some r) : r.den V = binI .shr k (a.den V) (b.den V) := by
  unfold shrShl at h
  split at h
  case h_2 => cases h
  rename_i s2
  split at h
  case h_2 => cases h
  rename_i o k2 y s
  cases hb : (Nat.beq (opIx o) 8 && Nat.beq s s2 && Nat.blt s k2.bits && Nat.blt s k.bits) <;> simp only [hb, cond_true, cond_false] at h
  · cases h
  simp only [Bool.and_eq_true] at hb
  obtain ⟨⟨⟨b1, b2⟩, b3⟩, b4⟩ := hb
  have e : o = .shl := opIx_inj (b := .shl) b1
  subst e
  obtain rfl := Nat.eq_of_beq_eq_true b2
  have b3 := lt_of_blt b3
  have b4 := lt_of_blt b4
  split at h
  case h_2 => cases h
  rename_i lo hi hr
  cases hc : (Int.ble1 0 lo && Int.ble1 (hi * .ofNat (Nat.pow 2 s)) k2.max) <;> simp only [hc, cond_true, cond_false] at h
  · cases h
  have h' : y = r := Option.some.inj h
  subst h'
  simp only [Bool.and_eq_true] at hc
  obtain ⟨r1, r2⟩ := SE.rng_den V y
  rw [hr] at r1 r2
  have q1 := r1 lo rfl
  have q2 := r2 hi rfl
  have c1 := (Int.ble1_iff _ _).1 hc.1
  have c2 := (Int.ble1_iff _ _).1 hc.2
  have hp : (0 : Int) < 2 ^ s := by rw [← pow2I]; have := Nat.two_pow_pos s; omega
  have c2 : hi * 2 ^ s ≤ k2.max := by rw [← pow2I]; exact c2
  have hle : y.den V * 2 ^ s ≤ hi * 2 ^ s := Int.mul_le_mul_of_nonneg_right q2 (Int.le_of_lt hp)
  have h0 : 0 ≤ y.den V * 2 ^ s := Int.mul_nonneg (by omega) (Int.le_of_lt hp)
  have hmin : k2.min ≤ 0 := by cases k2 <;> decide
  simp only [SE.den, binI]
  rw [show (Int.ofNat s).toNat = s from rfl, Nat.min_eq_left (by omega), Nat.min_eq_left (by omega), wrap_of_in (by omega) (by omega)]
  rw [Int.fdiv_eq_ediv_of_nonneg _ (Int.le_of_lt hp), Int.mul_ediv_cancel _ (by omega)]
def isOne (a : SE) : Bool := match a with
  | .lit n => intEq n 1
  | _ => false
def plain3 (op : BinOp) (k : IntKind) (a b : SE) : Option SE := bif Nat.beq (opIx op) 6 then orMM k a b
  else bif Nat.beq (opIx op) 8 then (bif isZ b && inKd k a then some a else none)
  else bif Nat.beq (opIx op) 0 then addMul k a b
  else bif Nat.beq (opIx op) 9 then shrShl k a b
  else bif Nat.beq (opIx op) 2 then (bif isOne a && inKd k b then some b else none) else none
theorem plain3_den (V : Val) {op : BinOp} {k : IntKind} {a b r : SE} (h : plain3 op k a b = some r) : r.den V = binI op k (a.den V) (b.den V) := by
  unfold plain3 at h
  cases h6 : Nat.beq (opIx op) 6 <;> simp only [h6, cond_true, cond_false] at h
  · cases h8 : Nat.beq (opIx op) 8 <;> simp only [h8, cond_true, cond_false] at h
    · cases h0 : Nat.beq (opIx op) 0 <;> simp only [h0, cond_true, cond_false] at h
      · cases h9 : Nat.beq (opIx op) 9 <;> simp only [h9, cond_true, cond_false] at h
        · cases h2 : Nat.beq (opIx op) 2 <;> simp only [h2, cond_true, cond_false] at h
          · cases h
          · cases hb : (isOne a && inKd k b) <;> simp only [hb, cond_true, cond_false] at h
            · cases h
            cases h
            simp only [Bool.and_eq_true] at hb
            have e : op = .mul := opIx_inj (b := .mul) h2
            subst e
            have hz := hb.1
            unfold isOne at hz
            split at hz
            · obtain rfl := intEq_eq hz
              obtain ⟨q1, q2⟩ := inKd_den V hb.2
              simp only [binI, SE.den, Int.one_mul]
              exact (wrap_of_in q1 q2).symm
            · cases hz
        · have e : op = .shr := opIx_inj (b := .shr) h9
          subst e
          exact shrShl_den V h
      · have e : op = .add := opIx_inj (b := .add) h0
        subst e
        exact addMul_den V h
    · cases hb : (isZ b && inKd k a) <;> simp only [hb, cond_true, cond_false] at h
      · cases h
      cases h
      simp only [Bool.and_eq_true] at hb
      have e : op = .shl := opIx_inj (b := .shl) h8
      subst e
      have hz := hb.1
      unfold isZ at hz
      split at hz
      · obtain rfl := intEq_eq hz
        obtain ⟨q1, q2⟩ := inKd_den V hb.2
        simp only [binI, SE.den]
        have : (2 : Int) ^ (min (Int.toNat 0) k.bits) = 1 := by simp
        rw [this, Int.mul_one]
        exact (wrap_of_in q1 q2).symm
      · cases hz
  · have e : op = .or := opIx_inj (b := .or) h6
    subst e
    exact orMM_den V h
def mkBin (op : BinOp) (k : IntKind) (a b : SE) : SE := match plain3 op k a b with
  | some r => r
  | none => mkBinA op k a b
theorem mkBin_den (V : Val) (op : BinOp) (k : IntKind) (a b : SE) : (mkBin op k a b).den V = binI op k (a.den V) (b.den V) := by
  unfold mkBin
  split
  · rename_i r h
    exact plain3_den V h
  · exact mkBinA_den V op k a b
def mkCv (k : IntKind) (a : SE) : SE :=
  match a with
  | .lit x => .lit (wrapF k x)
  | a => match a.rng with
    | (some lo, some hi) => bif Int.ble1 k.min lo && Int.ble1 hi k.max then a else bif (Nat.beq (kIx k) (kIx .u8) || Nat.beq (kIx k) (kIx .u16)) && Int.ble1 0 lo && Int.ble1 hi 4294967295 then mkBin .and .u32 a (.lit (.ofNat (Nat.sub (Nat.pow 2 k.bits) 1))) else .cv k a
    | _ => .cv k a
theorem mkCv_den (V : Val) (k : IntKind) (a : SE) : (mkCv k a).den V = k.wrap (a.den V) := by
  unfold mkCv
  split
  · simp [SE.den, wrapF_eq]
  · split
    · rename_i lo hi hr
      cases hb : (Int.ble1 k.min lo && Int.ble1 hi k.max) <;> simp only [cond_true, cond_false]
      · cases hc : ((Nat.beq (kIx k) (kIx .u8) || Nat.beq (kIx k) (kIx .u16)) && Int.ble1 0 lo && Int.ble1 hi 4294967295) <;> simp only [cond_true, cond_false]
        · simp [SE.den]
        · simp only [Bool.and_eq_true, Bool.or_eq_true] at hc
          obtain ⟨⟨hk, h0⟩, h1⟩ := hc
          obtain ⟨r1, r2⟩ := SE.rng_den V a
          rw [hr] at r1 r2
          have q1 := r1 lo rfl
          have q2 := r2 hi rfl
          have b1 := (Int.ble1_iff _ _).1 h0
          have b2 := (Int.ble1_iff _ _).1 h1
          obtain ⟨n, hn⟩ := Int.eq_ofNat_of_zero_le (show 0 ≤ a.den V by omega)
          have m4 : IntKind.u32.max = 4294967295 := by decide
          have key : ∀ j : Nat, j ≤ 16 → ∀ k' : IntKind, unsg k' = true → k'.bits = j → (mkBin .and .u32 a (.lit (.ofNat (Nat.sub (Nat.pow 2 k'.bits) 1)))).den V = k'.wrap (a.den V) := by
            intro j hj k' hu hkb
            have hp : 2 ^ j ≤ 2 ^ 16 := Nat.pow_le_pow_right (by decide) hj
            have hp0 : 0 < 2 ^ j := Nat.two_pow_pos j
            rw [mkBin_den, uns_wrap hu, hn, hkb]
            show binI .and .u32 (n : Int) ((2 ^ j - 1 : Nat) : Int) = _
            rw [andN (k := .u32) rfl (by rw [m4]; omega) (by rw [m4]; omega), Nat.and_two_pow_sub_one_eq_mod]
            simp
          rcases hk with hk | hk
          · rw [kIx_inj hk]; exact key 8 (by decide) .u8 rfl rfl
          · rw [kIx_inj hk]; exact key 16 (by decide) .u16 rfl rfl
      · simp only [Bool.and_eq_true] at hb
        obtain ⟨r1, r2⟩ := SE.rng_den V a
        rw [hr] at r1 r2
        have q1 := r1 lo rfl
        have q2 := r2 hi rfl
        have b1 := (Int.ble1_iff _ _).1 hb.1
        have b2 := (Int.ble1_iff _ _).1 hb.2
        exact (wrap_of_in (by omega) (by omega)).symm
    · simp [SE.den]
def factLo (e : SE) : SB × Bool → Option Int
  | (.cmp .lss a (.lit n), false) => bif a.same e then some n else none
  | (.cmp .lss (.lit n) b, true) => bif b.same e then some (n + 1) else none
  | (.cmp .eql a (.lit n), true) => bif a.same e then some n else none
  | _ => none
def factHi (e : SE) : SB × Bool → Option Int
  | (.cmp .lss a (.lit n), true) => bif a.same e then some (n - 1) else none
  | (.cmp .lss (.lit n) b, false) => bif b.same e then some n else none
  | (.cmp .eql a (.lit n), true) => bif a.same e then some n else none
  | _ => none
def PC.lo1 : PC → SE → Option Int
  | [], e => e.rng.1
  | p :: l, e => loMax (factLo e p) (PC.lo1 l e)
def PC.hi1 : PC → SE → Option Int
  | [], e => e.rng.2
  | p :: l, e => hiMin (factHi e p) (PC.hi1 l e)
def eqFact (e : SE) (p : SB × Bool) : Option Int := Prod.casesOn p fun a b => Bool.casesOn b none (SB.casesOn a (fun _ => none) (fun _ => none) (fun op x y => SE.casesOn y (fun n => bif Nat.beq (opIx op) 11 then bif x.same e then some n else none else none) (fun _ => none) (fun _ _ _ _ => none) (fun _ _ => none) (fun _ _ => none)) (fun _ _ => none) (fun _ => none) (fun _ _ => none))
def PC.eqv : PC → SE → Option Int
  | [], _ => none
  | p :: l, e => Option.casesOn (eqFact e p) (PC.eqv l e) fun n => some n
def PC.lo (pc : PC) (e : SE) : Option Int := match e with
  | .lit n => some n
  | e => PC.lo1 pc e
def PC.hi (pc : PC) (e : SE) : Option Int := match e with
  | .lit n => some n
  | e => PC.hi1 pc e
theorem eqFact_den {V : Val} {e : SE} {p : SB × Bool} {n : Int} (hp : p.1.den V = p.2) (h : eqFact e p = some n) : e.den V = n := by
  obtain ⟨a, b⟩ := p
  cases b
  · cases h
  cases a with
  | cmp op x y =>
    cases y with
    | lit m =>
      simp only [eqFact] at h
      cases h1 : Nat.beq (opIx op) 11 <;> simp only [h1, cond_true, cond_false] at h
      · cases h
      cases h2 : x.same e <;> simp only [h2, cond_true, cond_false] at h
      · cases h
      cases h
      have ho : op = .eql := opIx_inj (b := .eql) h1
      subst ho
      rw [← SE.same_eq h2]
      simpa [SB.den, cmpI, SE.den] using hp
    | _ => cases h
  | _ => cases h
theorem PC.eqv_den {V : Val} : ∀ {pc : PC} {e : SE} {n : Int}, pc.holds V → pc.eqv e = some n → e.den V = n
  | [], e, n, h, he => by cases he
  | p :: l, e, n, h, he => by
    unfold PC.eqv at he
    cases h1 : eqFact e p with
    | none =>
      rw [h1] at he
      exact PC.eqv_den (fun q hq => h q (List.mem_cons_of_mem _ hq)) he
    | some m =>
      rw [h1] at he
      cases he
      exact eqFact_den (h p (List.mem_cons_self ..)) h1
theorem factLo_den {V : Val} {e : SE} {p : SB × Bool} (h : p.1.den V = p.2) : isLo (factLo e p) (e.den V) := by
  intro n hn
  unfold factLo at hn
  split at hn
  · rename_i a m
    cases hs : a.same e <;> simp [hs] at hn
    subst hn
    rw [← SE.same_eq hs]
    have h2 : decide (a.den V < m) = false := h
    have := of_decide_eq_false h2
    omega
  · rename_i m b
    cases hs : b.same e <;> simp [hs] at hn
    subst hn
    rw [← SE.same_eq hs]
    have h2 : decide (m < b.den V) = true := h
    have := of_decide_eq_true h2
    omega
  · rename_i a m
    cases hs : a.same e <;> simp [hs] at hn
    subst hn
    rw [← SE.same_eq hs]
    have : a.den V = m := by simpa [SB.den, cmpI, SE.den] using h
    omega
  · cases hn
theorem factHi_den {V : Val} {e : SE} {p : SB × Bool} (h : p.1.den V = p.2) : isHi (factHi e p) (e.den V) := by
  intro n hn
  unfold factHi at hn
  split at hn
  · rename_i a m
    cases hs : a.same e <;> simp [hs] at hn
    subst hn
    rw [← SE.same_eq hs]
    have h2 : decide (a.den V < m) = true := h
    have := of_decide_eq_true h2
    omega
  · rename_i m b
    cases hs : b.same e <;> simp [hs] at hn
    subst hn
    rw [← SE.same_eq hs]
    have h2 : decide (m < b.den V) = false := h
    have := of_decide_eq_false h2
    omega
  · rename_i a m
    cases hs : a.same e <;> simp [hs] at hn
    subst hn
    rw [← SE.same_eq hs]
    have : a.den V = m := by simpa [SB.den, cmpI, SE.den] using h
    omega
  · cases hn
theorem PC.lo1_den {V : Val} : ∀ {pc : PC} {e : SE}, pc.holds V → isLo (pc.lo1 e) (e.den V)
  | [], e, h => (SE.rng_den V e).1
  | p :: l, e, h => isLo_max (factLo_den (h p (List.mem_cons_self ..))) (PC.lo1_den fun q hq => h q (List.mem_cons_of_mem _ hq))
theorem PC.hi1_den {V : Val} : ∀ {pc : PC} {e : SE}, pc.holds V → isHi (pc.hi1 e) (e.den V)
  | [], e, h => (SE.rng_den V e).2
  | p :: l, e, h => isHi_min (factHi_den (h p (List.mem_cons_self ..))) (PC.hi1_den fun q hq => h q (List.mem_cons_of_mem _ hq))
theorem PC.lo_den {V : Val} {pc : PC} {e : SE} (h : pc.holds V) : isLo (pc.lo e) (e.den V) := by
  unfold PC.lo
  split
  · exact isLo_some (Int.le_refl _)
  · exact PC.lo1_den h
theorem PC.hi_den {V : Val} {pc : PC} {e : SE} (h : pc.holds V) : isHi (pc.hi e) (e.den V) := by
  unfold PC.hi
  split
  · exact isHi_some (Int.le_refl _)
  · exact PC.hi1_den h
def ltO : Option Int → Option Int → Bool
  | some x, some y => Int.ble1 (x + 1) y
  | _, _ => false
def leO : Option Int → Option Int → Bool
  | some x, some y => Int.ble1 x y
  | _, _ => false
def PC.one0 (pc : PC) (e : SE) : Option Int :=
  match pc.lo e with
  | some x => match pc.hi e with
    | some y => bif Int.ble1 y x then some x else none
    | none => none
  | none => none
theorem PC.one0_den {V : Val} {pc : PC} (h : pc.holds V) {e : SE} {n : Int} (he : pc.one0 e = some n) : e.den V = n := by
  unfold PC.one0 at he
  split at he
  case h_2 => cases he
  rename_i x hx
  split at he
  case h_2 => cases he
  rename_i y hy
  cases hb : Int.ble1 y x <;> simp [hb] at he
  subst he
  have h1 := PC.lo_den h _ hx
  have h2 := PC.hi_den h _ hy
  have h3 := (Int.ble1_iff _ _).1 hb
  omega
def PC.known0 (pc : PC) : SB → Option Bool
  | .cmp .lss a b => match pc.find (.cmp .lss b a) with
    | some true => some false
    | _ => bif ltO (pc.hi a) (pc.lo b) then some true else bif leO (pc.hi b) (pc.lo a) then some false else none
  | .cmp .eql a b => bif ltO (pc.hi a) (pc.lo b) || ltO (pc.hi b) (pc.lo a) then some false else
      (match pc.one0 a with
      | some x => match pc.one0 b with
        | some y => bif Int.ble1 x y && Int.ble1 y x then some true else none
        | none => none
      | none => none)
  | _ => none
theorem ltO_den {a b : Option Int} {x y : Int} (h : ltO a b = true) (ha : isHi a x) (hb : isLo b y) : x < y := by
  unfold ltO at h
  split at h
  · rw [Int.ble1_iff] at h
    have := ha _ rfl
    have := hb _ rfl
    omega
  · cases h
theorem leO_den {a b : Option Int} {x y : Int} (h : leO a b = true) (ha : isHi a x) (hb : isLo b y) : x ≤ y := by
  unfold leO at h
  split at h
  · rw [Int.ble1_iff] at h
    have := ha _ rfl
    have := hb _ rfl
    omega
  · cases h
theorem PC.known0_den {V : Val} {pc : PC} (h : pc.holds V) {e : SB} {v : Bool} (he : pc.known0 e = some v) : e.den V = v := by
  unfold PC.known0 at he
  split at he
  · rename_i a b
    split at he
    · rename_i hf
      cases he
      have := PC.find_den h hf
      simp only [SB.den, cmpI, decide_eq_true_eq, decide_eq_false_iff_not] at this ⊢
      omega
    · cases h1 : ltO (pc.hi a) (pc.lo b) <;> simp only [h1, cond_true, cond_false] at he
      · cases h2 : leO (pc.hi b) (pc.lo a) <;> simp only [h2, cond_true, cond_false] at he
        · cases he
        cases he
        have := leO_den h2 (PC.hi_den h) (PC.lo_den h)
        simp only [SB.den, cmpI, decide_eq_false_iff_not]
        omega
      · cases he
        have := ltO_den h1 (PC.hi_den h) (PC.lo_den h)
        simp only [SB.den, cmpI, decide_eq_true_eq]
        exact this
  · rename_i a b
    cases h1 : (ltO (pc.hi a) (pc.lo b) || ltO (pc.hi b) (pc.lo a)) <;> simp only [h1, cond_true, cond_false] at he
    · split at he
      case h_2 => cases he
      rename_i x hx
      split at he
      case h_2 => cases he
      rename_i y hy
      cases h2 : (Int.ble1 x y && Int.ble1 y x) <;> simp only [h2, cond_true, cond_false] at he
      · cases he
      cases he
      simp only [Bool.and_eq_true, Int.ble1_iff] at h2
      simp only [SB.den, cmpI, beq_iff_eq, PC.one0_den h hx, PC.one0_den h hy]
      omega
    · cases he
      simp only [Bool.or_eq_true] at h1
      simp only [SB.den, cmpI, beq_eq_false_iff_ne, ne_eq]
      rcases h1 with h1 | h1
      · have := ltO_den h1 (PC.hi_den h) (PC.lo_den h); omega
      · have := ltO_den h1 (PC.hi_den h) (PC.lo_den h); omega
  · cases he

theorem or_rest (V : Val) (k : IntKind) : ∀ l : List SE, bvs V k l = bvOf k (orLit k l) ||| bvs V k (orRest l)
  | [] => by simp [bvs, orLit, orRest, bvOf]
  | .lit n :: l => by
    have ih := or_rest V k l
    simp only [bvs, orLit, orRest, SE.den, binF_eq, bv_or, ih, BitVec.or_assoc]
  | .var i :: l => by
    have ih := or_rest V k l
    simp only [bvs, orLit, orRest, ih]
    rw [← BitVec.or_assoc, ← BitVec.or_assoc, BitVec.or_comm (bvOf k (SE.den V (.var i)))]
  | .bin op k' a b :: l => by
    have ih := or_rest V k l
    simp only [bvs, orLit, orRest, ih]
    rw [← BitVec.or_assoc, ← BitVec.or_assoc, BitVec.or_comm (bvOf k (SE.den V (.bin op k' a b)))]
  | .cv k' a :: l => by
    have ih := or_rest V k l
    simp only [bvs, orLit, orRest, ih]
    rw [← BitVec.or_assoc, ← BitVec.or_assoc, BitVec.or_comm (bvOf k (SE.den V (.cv k' a)))]
  | .sel k' a :: l => by
    have ih := or_rest V k l
    simp only [bvs, orLit, orRest, ih]
    rw [← BitVec.or_assoc, ← BitVec.or_assoc, BitVec.or_comm (bvOf k (SE.den V (.sel k' a)))]
theorem orEq_den (V : Val) {a b : SE} (h : orEq a b = true) : a.den V = b.den V := by
  unfold orEq at h
  split at h
  case h_2 => cases h
  rename_i op k a1 a2 op' k' b1 b2
  cases h0 : (Nat.beq (opIx op) 6 && Nat.beq (opIx op') 6 && Nat.beq (kIx k) (kIx k')) <;> simp only [h0, cond_true, cond_false] at h
  · cases h
  simp only [Bool.and_eq_true] at h0 h
  obtain ⟨⟨g1, g2⟩, g3⟩ := h0
  have ho : op = .or := opIx_inj (b := .or) g1
  have ho' : op' = .or := opIx_inj (b := .or) g2
  have hk := kIx_inj g3
  subst ho; subst ho'; subst hk
  have e1 := ors_den V k (.bin .or k a1 a2)
  have e2 := ors_den V k (.bin .or k b1 b2)
  rw [or_rest] at e1 e2
  rw [sameSEs_eq h.1, intEq_eq h.2] at e1
  have e3 := e1.symm.trans e2
  have c : ∀ x y : Int, binI .or k x y = k.wrap ((bvOf k (binI .or k x y)).toNat : Int) := by
    intro x y
    rw [bv_or]
    rfl
  show binI .or k _ _ = binI .or k _ _
  rw [c, c (b1.den V)]
  congr 2
  exact congrArg BitVec.toNat e3
def SE.evq (pc : PC) : SE → Option Int
  | .lit n => some n
  | .var i => pc.eqv (.var i)
  | .bin op k a b => match pc.eqv (.bin op k a b) with
    | some n => some n
    | none => match a.evq pc with
      | some x => match b.evq pc with
        | some y => some (binF op k x y)
        | none => none
      | none => none
  | .sel s a => pc.eqv (.sel s a)
  | .cv k a => match pc.eqv (.cv k a) with
    | some n => some n
    | none => match a.evq pc with
      | some x => some (wrapF k x)
      | none => none
theorem SE.evq_den {V : Val} {pc : PC} (h : pc.holds V) : ∀ {e : SE} {n : Int}, e.evq pc = some n → e.den V = n
  | .lit m, n, he => by simp only [SE.evq, Option.some.injEq] at he; exact he
  | .var i, n, he => PC.eqv_den h he
  | .bin op k a b, n, he => by
    unfold SE.evq at he
    split at he
    · rename_i m hm
      cases he
      exact PC.eqv_den h hm
    · split at he
      case h_2 => cases he
      rename_i x hx
      split at he
      case h_2 => cases he
      rename_i y hy
      cases he
      simp only [SE.den, SE.evq_den h hx, SE.evq_den h hy, binF_eq]
  | .sel s a, n, he => PC.eqv_den h he
  | .cv k a, n, he => by
    unfold SE.evq at he
    split at he
    · rename_i m hm
      cases he
      exact PC.eqv_den h hm
    · split at he
      case h_2 => cases he
      rename_i x hx
      cases he
      simp only [SE.den, SE.evq_den h hx, wrapF_eq]
def PC.one (pc : PC) (e : SE) : Option Int := match e.evq pc with
  | some n => some n
  | none => pc.one0 e
theorem PC.one_den {V : Val} {pc : PC} (h : pc.holds V) {e : SE} {n : Int} (he : pc.one e = some n) : e.den V = n := by
  unfold PC.one at he
  split at he
  · rename_i m hm
    cases he
    exact SE.evq_den h hm
  · exact PC.one0_den h he
def fieldOf (e : SE) : SE × Nat × Nat := match e with
  | .bin op k x (.lit (.ofNat c)) => bif unsg k && nnK k x then (bif Nat.beq (opIx op) 9 then (bif Nat.ble c k.bits then (x, c, Nat.sub k.bits c) else (e, 0, 64))
      else bif Nat.beq (opIx op) 5 && Nat.beq (Nat.pow 2 (Nat.log2 (Nat.succ c))) (Nat.succ c) && Int.ble1 (.ofNat c) k.max then (match x with
        | .bin op2 k2 z (.lit (.ofNat s)) => bif Nat.beq (opIx op2) 9 && Nat.beq (kIx k) (kIx k2) && nnK k z && Nat.ble s k.bits then (z, s, Nat.log2 (Nat.succ c)) else (x, 0, Nat.log2 (Nat.succ c))
        | x => (x, 0, Nat.log2 (Nat.succ c))) else (e, 0, 64)) else (e, 0, 64)
  | e => (e, 0, 64)
theorem fieldOf_den (V : Val) (e : SE) : fieldOf e = (e, 0, 64) ∨ ∃ n : Nat, (fieldOf e).1.den V = n ∧ e.den V = (fld n (fieldOf e).2.1 (fieldOf e).2.2 : Nat) := by
  unfold fieldOf
  split
  case h_2 => exact .inl rfl
  rename_i op k x c
  cases h0 : (unsg k && nnK k x) <;> simp only [cond_true, cond_false]
  · first | exact .inl rfl | exact .inl trivial
  simp only [Bool.and_eq_true] at h0
  obtain ⟨hu, hx⟩ := h0
  obtain ⟨n, h1, h2⟩ := nnK_den V hx
  have hn := nat_lt hu h2
  have shr : ∀ (z : SE) (s q : Nat), z.den V = q → Nat.ble s k.bits = true → (SE.bin .shr k z (.lit (.ofNat s))).den V = ((q / 2 ^ s : Nat) : Int) := by
    intro z s q hz hs
    simp only [SE.den, binI, hz]
    rw [show (Int.ofNat s).toNat = s from rfl, Nat.min_eq_left (Nat.le_of_ble_eq_true hs), ← pow2I, ← Int.ofNat_fdiv]
  cases h9 : Nat.beq (opIx op) 9 <;> simp only [cond_true, cond_false]
  · cases h5 : (Nat.beq (opIx op) 5 && Nat.beq (Nat.pow 2 (Nat.log2 (Nat.succ c))) (Nat.succ c) && Int.ble1 (.ofNat c) k.max) <;> simp only [cond_true, cond_false]
    · first | exact .inl rfl | exact .inl trivial
    simp only [Bool.and_eq_true] at h5
    obtain ⟨⟨ho, hp⟩, hc⟩ := h5
    have ho : op = .and := opIx_inj (b := .and) ho
    subst ho
    have hc : (c : Int) ≤ k.max := (Int.ble1_iff _ _).1 hc
    have hp : 2 ^ (Nat.log2 (Nat.succ c)) = c + 1 := Nat.eq_of_beq_eq_true hp
    generalize Nat.log2 (Nat.succ c) = j at hp
    have ec : c = 2 ^ j - 1 := by omega
    have plain : (SE.bin .and k x (.lit (.ofNat c))).den V = (fld n 0 j : Nat) := by
      simp only [SE.den, h1]
      rw [show (Int.ofNat c) = (c : Int) from rfl, andN hu h2 hc]
      conv => lhs; rw [ec]
      rw [Nat.and_two_pow_sub_one_eq_mod]; simp [fld]
    split
    · rename_i op2 k2 z s
      cases hb : (Nat.beq (opIx op2) 9 && Nat.beq (kIx k) (kIx k2) && nnK k z && Nat.ble s k.bits) <;> simp only [cond_true, cond_false]
      · exact .inr ⟨n, h1, plain⟩
      · simp only [Bool.and_eq_true] at hb
        obtain ⟨⟨⟨ho2, hk2⟩, hz⟩, hs⟩ := hb
        have ho2 : op2 = .shr := opIx_inj (b := .shr) ho2
        have hk2 := kIx_inj hk2
        subst ho2; subst hk2
        obtain ⟨q, q1, q2⟩ := nnK_den V hz
        refine .inr ⟨q, q1, ?_⟩
        have := shr z s q q1 hs
        rw [this] at h1
        obtain rfl : q / 2 ^ s = n := Int.ofNat.inj h1
        rw [plain]; simp [fld]
    · exact .inr ⟨n, h1, plain⟩
  · have ho : op = .shr := opIx_inj (b := .shr) h9
    subst ho
    cases hs : Nat.ble c k.bits <;> simp only [cond_true, cond_false]
    · first | exact .inl rfl | exact .inl trivial
    refine .inr ⟨n, h1, ?_⟩
    rw [shr x c n h1 hs]
    have hs := Nat.le_of_ble_eq_true hs
    have e : 2 ^ k.bits = 2 ^ c * 2 ^ (k.bits - c) := by rw [← Nat.pow_add]; congr 1; omega
    unfold fld
    rw [Nat.mod_eq_of_lt]
    exact Nat.div_lt_of_lt_mul (show n < 2 ^ c * 2 ^ (k.bits - c) by rw [← e]; exact hn)
def bitF (x : SE) (p : SB × Bool) : Nat × Nat := match p with
  | (.cmp op a (.lit (.ofNat c)), b) => bif Nat.beq (opIx op) 11 then (match fieldOf a with
      | (z, s, m) => bif Nat.beq m 64 then (0, 0) else bif z.same x then (bif b then (Nat.mul (Nat.sub (Nat.pow 2 m) 1) (Nat.pow 2 s), Nat.mul c (Nat.pow 2 s)) else bif Nat.beq m 1 && Nat.ble c 1 then (Nat.pow 2 s, Nat.mul (Nat.sub 1 c) (Nat.pow 2 s)) else (0, 0)) else (0, 0)) else (0, 0)
  | _ => (0, 0)
theorem bitF_den {V : Val} {x : SE} {n : Nat} (hx : x.den V = n) {p : SB × Bool} (hp : p.1.den V = p.2) : n &&& (bitF x p).1 = (bitF x p).2 := by
  unfold bitF
  split
  case h_2 => simp
  rename_i op a c b
  cases ho : Nat.beq (opIx op) 11 <;> simp only [cond_true, cond_false]
  · simp
  have ho : op = .eql := opIx_inj (b := .eql) ho
  subst ho
  have hf := fieldOf_den V a
  generalize fieldOf a = q at hf
  obtain ⟨z, s, m⟩ := q
  simp only at hf ⊢
  cases h64 : Nat.beq m 64 <;> simp only [cond_true, cond_false]
  case true => simp
  rcases hf with hf | ⟨n', h1, h2⟩
  · cases hf
    simp at h64
  cases hs : z.same x <;> simp only [cond_true, cond_false]
  · simp
  obtain rfl := SE.same_eq hs
  rw [hx] at h1
  obtain rfl : n = n' := Int.ofNat.inj h1
  simp only [SB.den, cmpI, SE.den, h2] at hp
  cases b <;> simp only [cond_true, cond_false]
  · cases hm : (Nat.beq m 1 && Nat.ble c 1) <;> simp only [cond_true, cond_false]
    · simp
    simp only [Bool.and_eq_true] at hm
    obtain rfl := Nat.eq_of_beq_eq_true hm.1
    have hc := Nat.le_of_ble_eq_true hm.2
    have h3 : fld n s 1 ≠ c := by
      intro e
      rw [e] at hp
      simp at hp
    have h4 := fld_lt n s 1
    have e := fld_and_mask n s 1
    simp only [Nat.pow_one, Nat.one_mul, show 2 - 1 = 1 from rfl] at e
    show n &&& 2 ^ s = (1 - c) * 2 ^ s
    rw [e]
    congr 1
    omega
  · have h3 : fld n s m = c := Int.ofNat.inj (by simpa using hp)
    show n &&& ((2 ^ m - 1) * 2 ^ s) = c * 2 ^ s
    rw [fld_and_mask, h3]
def kbits (x : SE) : PC → Nat × Nat
  | [] => (0, 0)
  | p :: l => match bitF x p with
    | (M, L) => bif Nat.beq M 0 then kbits x l else match kbits x l with
      | (M', L') => (Nat.lor M M', Nat.lor L L')
theorem kbits_den {V : Val} {x : SE} {n : Nat} (hx : x.den V = n) : ∀ {pc : PC}, pc.holds V → n &&& (kbits x pc).1 = (kbits x pc).2
  | [], h => by simp [kbits]
  | p :: l, h => by
    have i1 := bitF_den hx (h p (List.mem_cons_self ..))
    have i2 := kbits_den hx (pc := l) (fun q hq => h q (List.mem_cons_of_mem _ hq))
    unfold kbits
    generalize bitF x p = q at i1
    obtain ⟨M, L⟩ := q
    simp only at i1 ⊢
    cases Nat.beq M 0 <;> simp only [cond_true, cond_false]
    · generalize kbits x l = q at i2
      obtain ⟨M', L'⟩ := q
      simp only at i2 ⊢
      show n &&& (M ||| M') = L ||| L'
      rw [Nat.and_or_distrib_left, i1, i2]
    · exact i2
def hiBits (pc : PC) (x : SE) : Nat := match pc.hi x with
  | some (.ofNat h) => Nat.sub (Nat.pow 2 64) (Nat.pow 2 (Nat.min 64 (Nat.succ (Nat.log2 h))))
  | _ => 0
theorem hiBits_den {V : Val} {pc : PC} (h : pc.holds V) {x : SE} {n : Nat} (hx : x.den V = n) : n &&& hiBits pc x = 0 := by
  unfold hiBits
  split
  · rename_i hh he
    have q := PC.hi_den h _ he
    rw [hx] at q
    have q : n ≤ hh := Int.ofNat_le.1 q
    have hl : hh < 2 ^ (hh.log2 + 1) := Nat.lt_log2_self
    rcases Nat.lt_or_ge 64 (hh.log2 + 1) with h1 | h1
    · rw [show Nat.min 64 (Nat.succ (Nat.log2 hh)) = 64 from Nat.min_eq_left (by omega)]
      simp
    · rw [show Nat.min 64 (Nat.succ (Nat.log2 hh)) = hh.log2 + 1 from Nat.min_eq_right h1]
      show n &&& (2 ^ 64 - 2 ^ (hh.log2 + 1)) = 0
      generalize hh.log2 + 1 = j at *
      have e : 2 ^ 64 - 2 ^ j = (2 ^ (64 - j) - 1) * 2 ^ j := by rw [Nat.sub_mul, ← Nat.pow_add, show 64 - j + j = 64 by omega, Nat.one_mul]
      rw [e, fld_and_mask, fld_small _ _ _ (by omega), Nat.zero_mul]
  · simp
def kbits' (pc : PC) (x : SE) : Nat × Nat := match kbits x pc with
  | (M, L) => (Nat.lor M (hiBits pc x), L)
theorem kbits'_den {V : Val} {x : SE} {n : Nat} (hx : x.den V = n) {pc : PC} (h : pc.holds V) : n &&& (kbits' pc x).1 = (kbits' pc x).2 := by
  have i1 := kbits_den hx h
  have i2 := hiBits_den h hx
  unfold kbits'
  generalize kbits x pc = q at i1
  obtain ⟨M, L⟩ := q
  show n &&& (M ||| hiBits pc x) = L
  rw [Nat.and_or_distrib_left, i1, i2, Nat.or_zero]
def knownB1 (pc : PC) (x : SE) (s m c : Nat) : Option Bool := match kbits' pc x with
  | (M, L) => bif Nat.beq (Nat.land (Nat.mul (Nat.sub (Nat.pow 2 m) 1) (Nat.pow 2 s)) M) (Nat.mul (Nat.sub (Nat.pow 2 m) 1) (Nat.pow 2 s)) then some (Nat.beq (Nat.land L (Nat.mul (Nat.sub (Nat.pow 2 m) 1) (Nat.pow 2 s))) (Nat.mul c (Nat.pow 2 s)))
    else bif Nat.beq (Nat.land L (Nat.mul (Nat.sub (Nat.pow 2 m) 1) (Nat.pow 2 s))) (Nat.land (Nat.mul c (Nat.pow 2 s)) M) then none else some false
def knownB (pc : PC) (op : BinOp) (a b : SE) : Option Bool := match b with
  | .lit (.ofNat c) => bif Nat.beq (opIx op) 11 then (match fieldOf a with
    | (x, s, m) => bif Nat.beq m 64 then none else knownB1 pc x s m c) else none
  | _ => none
theorem knownB_den {V : Val} {pc : PC} (h : pc.holds V) {op : BinOp} {a b : SE} {v : Bool} (he : knownB pc op a b = some v) : (SB.cmp op a b).den V = v := by
  unfold knownB at he
  split at he
  case h_2 => cases he
  rename_i c
  cases ho : Nat.beq (opIx op) 11 <;> simp only [ho, cond_true, cond_false] at he
  · cases he
  have ho : op = .eql := opIx_inj (b := .eql) ho
  subst ho
  have hf := fieldOf_den V a
  generalize fieldOf a = q at hf he
  obtain ⟨x, s, m⟩ := q
  simp only at hf he
  cases h64 : Nat.beq m 64 <;> simp only [h64, cond_true, cond_false] at he
  case true => cases he
  rcases hf with hf | ⟨n, h1, h2⟩
  · cases hf
    simp at h64
  unfold knownB1 at he
  have hk := kbits'_den h1 h
  generalize kbits' pc x = q at hk he
  obtain ⟨M, L⟩ := q
  simp only at hk he
  have hden : (SB.cmp .eql a (.lit (.ofNat c))).den V = decide (n &&& ((2 ^ m - 1) * 2 ^ s) = c * 2 ^ s) := by
    simp only [SB.den, cmpI, SE.den, h2]
    rw [Bool.eq_iff_iff, beq_iff_eq, decide_eq_true_iff, fld_and_mask]
    constructor
    · intro e; rw [show fld n s m = c from Int.ofNat.inj e]
    · intro e; rw [Nat.eq_of_mul_eq_mul_right (Nat.two_pow_pos s) e]; rfl
  rw [hden]
  change (bif Nat.beq (((2 ^ m - 1) * 2 ^ s) &&& M) ((2 ^ m - 1) * 2 ^ s) then some (Nat.beq (L &&& ((2 ^ m - 1) * 2 ^ s)) (c * 2 ^ s)) else bif Nat.beq (L &&& ((2 ^ m - 1) * 2 ^ s)) ((c * 2 ^ s) &&& M) then none else some false) = some v at he
  generalize (2 ^ m - 1) * 2 ^ s = T at he ⊢
  generalize c * 2 ^ s = C at he ⊢
  cases h3 : Nat.beq (T &&& M) T <;> simp only [h3, cond_true, cond_false] at he
  · cases h4 : Nat.beq (L &&& T) (C &&& M) <;> simp only [h4, cond_true, cond_false] at he
    · cases he
      rw [decide_eq_false_iff_not]
      intro e
      have : L &&& T = C &&& M := by
        rw [← hk, ← e, Nat.and_assoc, Nat.and_assoc, Nat.and_comm M T]
      rw [this] at h4
      simp at h4
    · cases he
  · cases he
    have h3 : T &&& M = T := Nat.eq_of_beq_eq_true h3
    have : n &&& T = L &&& T := by
      rw [← hk, Nat.and_assoc, Nat.and_comm M T, h3]
    rw [this]
    cases h5 : Nat.beq (L &&& T) C
    · rw [decide_eq_false_iff_not]
      intro e
      rw [e] at h5
      simp at h5
    · rw [decide_eq_true_iff]
      exact Nat.eq_of_beq_eq_true h5
inductive Bt where
  | lit (b : Bool)
  | at (e : SE) (i : Nat)
  | no
def btOr : Bt → Bt → Bt
  | .lit false, y => y
  | .lit true, _ => .lit true
  | .at e i, .lit b => bif b then .lit true else .at e i
  | .at e i, .at f j => bif Nat.beq i j && e.same f then .at e i else .no
  | .no, .lit true => .lit true
  | _, _ => .no
def SE.bt (nn : SE → Bool) (rs : Bt → Bt) (k : IntKind) : SE → Nat → Bt
  | .lit n, i => match n with
    | .ofNat n => .lit (Nat.beq (Nat.mod (Nat.div n (Nat.pow 2 i)) 2) 1)
    | _ => .no
  | .bin op k' a b, i => bif Nat.beq (kIx k) (kIx k') then
      (bif Nat.beq (opIx op) 6 then (bif nn a && nn b then btOr (rs (a.bt nn rs k i)) (rs (b.bt nn rs k i)) else .at (.bin op k' a b) i)
      else match b with
        | .lit (.ofNat t) => bif nn a then
            (bif Nat.beq (opIx op) 5 && Int.ble1 (.ofNat t) k.max then (bif Nat.beq (Nat.mod (Nat.div t (Nat.pow 2 i)) 2) 1 then a.bt nn rs k i else .lit false)
            else bif Nat.beq (opIx op) 8 && Nat.ble t k.bits && Nat.blt i k.bits then (bif Nat.blt i t then .lit false else a.bt nn rs k (Nat.sub i t))
            else bif Nat.beq (opIx op) 9 && Nat.ble t k.bits then a.bt nn rs k (Nat.add i t)
            else .at (.bin op k' a b) i) else .at (.bin op k' a b) i
        | _ => .at (.bin op k' a b) i)
      else .at (.bin op k' a b) i
  | .var j, i => .at (.var j) i
  | .cv k' a, i => .at (.cv k' a) i
  | .sel s a, i => .at (.sel s a) i
def BtRel (V : Val) (v : Bool) : Bt → Prop
  | .lit b => v = b
  | .at e i => ∃ m : Nat, e.den V = m ∧ v = m.testBit i
  | .no => True
theorem btOr_rel {V : Val} {v u : Bool} {x y : Bt} (hx : BtRel V v x) (hy : BtRel V u y) : BtRel V (v || u) (btOr x y) := by
  unfold btOr
  split
  · simp only [BtRel] at hx; subst hx; simpa using hy
  · simp only [BtRel] at hx ⊢; subst hx; rfl
  · rename_i e i b
    simp only [BtRel] at hy; subst hy
    cases u <;> simp only [cond_true, cond_false]
    · simpa using hx
    · simp [BtRel]
  · rename_i e i f j
    cases hb : (Nat.beq i j && e.same f) <;> simp only [cond_true, cond_false]
    · trivial
    · simp only [Bool.and_eq_true] at hb
      obtain rfl := Nat.eq_of_beq_eq_true hb.1
      obtain rfl := SE.same_eq hb.2
      obtain ⟨m, h1, h2⟩ := hx
      obtain ⟨m', h3, h4⟩ := hy
      rw [h1] at h3
      obtain rfl : m = m' := Int.ofNat.inj h3
      exact ⟨m, h1, by rw [h2, h4, Bool.or_self]⟩
  · simp only [BtRel] at hy ⊢; subst hy; simp
  · trivial
theorem bit_beq (n i : Nat) : Nat.beq (Nat.mod (Nat.div n (Nat.pow 2 i)) 2) 1 = n.testBit i := by
  rw [Bool.eq_iff_iff, Nat.testBit_eq_decide_div_mod_eq, decide_eq_true_iff]
  exact ⟨Nat.eq_of_beq_eq_true, fun h => by rw [show Nat.mod (Nat.div n (Nat.pow 2 i)) 2 = 1 from h]; rfl⟩
theorem bt_hi (V : Val) {nn : SE → Bool} {rs : Bt → Bt} {k : IntKind} (hnn : ∀ e, nn e = true → ∃ n : Nat, e.den V = n ∧ (n : Int) ≤ k.max) (hrs : ∀ v x, BtRel V v x → BtRel V v (rs x)) (hu : unsg k = true) : ∀ (e : SE) (i n : Nat), k.bits ≤ i → e.den V = n → (n : Int) ≤ k.max → BtRel V (n.testBit i) (e.bt nn rs k i)
  | .lit z, i, n, hi, he, hn => by
    unfold SE.bt
    split
    · rename_i c
      obtain rfl : c = n := Int.ofNat.inj he
      simp only [BtRel, bit_beq]
    · trivial
  | .var j, i, n, hi, he, hn => ⟨n, he, rfl⟩
  | .cv k' a, i, n, hi, he, hn => ⟨n, he, rfl⟩
  | .sel s a, i, n, hi, he, hn => ⟨n, he, rfl⟩
  | .bin op k' a b, i, n, hi, he, hn => by
    unfold SE.bt
    have base : BtRel V (n.testBit i) (.at (.bin op k' a b) i) := ⟨n, he, rfl⟩
    cases hk : Nat.beq (kIx k) (kIx k') <;> simp only [cond_true, cond_false]
    · exact base
    obtain rfl := kIx_inj hk
    cases h6 : Nat.beq (opIx op) 6 <;> simp only [cond_true, cond_false]
    · split
      case h_2 => exact base
      rename_i t
      cases ha : nn a <;> simp only [cond_true, cond_false]
      · exact base
      obtain ⟨x, hx, hxm⟩ := hnn _ ha
      cases h5 : (Nat.beq (opIx op) 5 && Int.ble1 (.ofNat t) k.max) <;> simp only [cond_true, cond_false]
      · cases h8 : (Nat.beq (opIx op) 8 && Nat.ble t k.bits && Nat.blt i k.bits) <;> simp only [cond_true, cond_false]
        · cases h9 : (Nat.beq (opIx op) 9 && Nat.ble t k.bits) <;> simp only [cond_true, cond_false]
          · exact base
          · simp only [Bool.and_eq_true] at h9
            have ho : op = .shr := opIx_inj (b := .shr) h9.1
            subst ho
            have ht := Nat.le_of_ble_eq_true h9.2
            have e1 : (SE.bin .shr k a (.lit (.ofNat t))).den V = ((x / 2 ^ t : Nat) : Int) := by
              simp only [SE.den, binI, hx]
              rw [show (Int.ofNat t).toNat = t from rfl, Nat.min_eq_left ht, ← pow2I, ← Int.ofNat_fdiv]
            rw [e1] at he
            obtain rfl : x / 2 ^ t = n := Int.ofNat.inj he
            rw [Nat.testBit_div_two_pow]
            exact bt_hi V hnn hrs hu a (i + t) x (by omega) hx hxm
        · simp only [Bool.and_eq_true] at h8
          have := lt_of_blt h8.2
          omega
      · simp only [Bool.and_eq_true] at h5
        have ho : op = .and := opIx_inj (b := .and) h5.1
        subst ho
        have ht : (t : Int) ≤ k.max := (Int.ble1_iff _ _).1 h5.2
        have e1 : (SE.bin .and k a (.lit (.ofNat t))).den V = ((x &&& t : Nat) : Int) := by
          simp only [SE.den, hx]; exact andN hu hxm ht
        rw [e1] at he
        obtain rfl : x &&& t = n := Int.ofNat.inj he
        rw [bit_beq, Nat.testBit_and]
        cases t.testBit i <;> simp only [cond_true, cond_false, Bool.and_false, Bool.and_true]
        · rfl
        · exact bt_hi V hnn hrs hu a i x hi hx hxm
    · have ho : op = .or := opIx_inj (b := .or) h6
      subst ho
      cases hb : (nn a && nn b) <;> simp only [cond_true, cond_false]
      · exact base
      simp only [Bool.and_eq_true] at hb
      obtain ⟨x, hx, hxm⟩ := hnn _ hb.1
      obtain ⟨y, hy, hym⟩ := hnn _ hb.2
      have e1 : (SE.bin .or k a b).den V = ((x ||| y : Nat) : Int) := by
        simp only [SE.den, hx, hy]; exact orN hu hxm hym
      rw [e1] at he
      obtain rfl : x ||| y = n := Int.ofNat.inj he
      rw [Nat.testBit_or]
      exact btOr_rel (hrs _ _ (bt_hi V hnn hrs hu a i x hi hx hxm)) (hrs _ _ (bt_hi V hnn hrs hu b i y hi hy hym))
theorem bt_den (V : Val) {nn : SE → Bool} {rs : Bt → Bt} {k : IntKind} (hnn : ∀ e, nn e = true → ∃ n : Nat, e.den V = n ∧ (n : Int) ≤ k.max) (hrs : ∀ v x, BtRel V v x → BtRel V v (rs x)) (hu : unsg k = true) : ∀ (e : SE) (i n : Nat), i < k.bits → e.den V = n → (n : Int) ≤ k.max → BtRel V (n.testBit i) (e.bt nn rs k i)
  | .lit z, i, n, hi, he, hn => by
    unfold SE.bt
    split
    · rename_i c
      obtain rfl : c = n := Int.ofNat.inj he
      simp only [BtRel, bit_beq]
    · trivial
  | .var j, i, n, hi, he, hn => ⟨n, he, rfl⟩
  | .cv k' a, i, n, hi, he, hn => ⟨n, he, rfl⟩
  | .sel s a, i, n, hi, he, hn => ⟨n, he, rfl⟩
  | .bin op k' a b, i, n, hi, he, hn => by
    unfold SE.bt
    have base : BtRel V (n.testBit i) (.at (.bin op k' a b) i) := ⟨n, he, rfl⟩
    cases hk : Nat.beq (kIx k) (kIx k') <;> simp only [cond_true, cond_false]
    · exact base
    obtain rfl := kIx_inj hk
    cases h6 : Nat.beq (opIx op) 6 <;> simp only [cond_true, cond_false]
    · split
      case h_2 => exact base
      rename_i t
      cases ha : nn a <;> simp only [cond_true, cond_false]
      · exact base
      obtain ⟨x, hx, hxm⟩ := hnn _ ha
      cases h5 : (Nat.beq (opIx op) 5 && Int.ble1 (.ofNat t) k.max) <;> simp only [cond_true, cond_false]
      · cases h8 : (Nat.beq (opIx op) 8 && Nat.ble t k.bits && Nat.blt i k.bits) <;> simp only [cond_true, cond_false]
        · cases h9 : (Nat.beq (opIx op) 9 && Nat.ble t k.bits) <;> simp only [cond_true, cond_false]
          · exact base
          · simp only [Bool.and_eq_true] at h9
            have ho : op = .shr := opIx_inj (b := .shr) h9.1
            subst ho
            have ht := Nat.le_of_ble_eq_true h9.2
            have e1 : (SE.bin .shr k a (.lit (.ofNat t))).den V = ((x / 2 ^ t : Nat) : Int) := by
              simp only [SE.den, binI, hx]
              rw [show (Int.ofNat t).toNat = t from rfl, Nat.min_eq_left ht, ← pow2I, ← Int.ofNat_fdiv]
            rw [e1] at he
            obtain rfl : x / 2 ^ t = n := Int.ofNat.inj he
            rw [Nat.testBit_div_two_pow]
            rcases Nat.lt_or_ge (i + t) k.bits with h | h
            · exact bt_den V hnn hrs hu a (i + t) x h hx hxm
            · exact bt_hi V hnn hrs hu a (i + t) x h hx hxm
        · simp only [Bool.and_eq_true] at h8
          have ho : op = .shl := opIx_inj (b := .shl) h8.1.1
          subst ho
          have ht := Nat.le_of_ble_eq_true h8.1.2
          have e0 : (SE.bin .shl k a (.lit (.ofNat t))).den V = ((x * 2 ^ t % 2 ^ k.bits : Nat) : Int) := by
            simp only [SE.den, binI, hx]
            rw [show (Int.ofNat t).toNat = t from rfl, Nat.min_eq_left ht, ← pow2I, ← Int.natCast_mul, uns_wrap hu, ← pow2I]
            exact (Int.natCast_emod _ _).symm
          rw [e0] at he
          obtain rfl : x * 2 ^ t % 2 ^ k.bits = n := Int.ofNat.inj he
          rw [Nat.testBit_mod_two_pow, Nat.mul_comm, Nat.testBit_two_pow_mul]
          cases hlt : Nat.blt i t <;> simp only [cond_true, cond_false]
          · have hge : t ≤ i := by
              rcases Nat.lt_or_ge i t with h | h
              · rw [blt_true h] at hlt; cases hlt
              · exact h
            simp only [hi, decide_true, Bool.true_and, hge]
            exact bt_den V hnn hrs hu a (i - t) x (by omega) hx hxm
          · have := lt_of_blt hlt
            simp [BtRel, show ¬ t ≤ i by omega]
      · simp only [Bool.and_eq_true] at h5
        have ho : op = .and := opIx_inj (b := .and) h5.1
        subst ho
        have ht : (t : Int) ≤ k.max := (Int.ble1_iff _ _).1 h5.2
        have e1 : (SE.bin .and k a (.lit (.ofNat t))).den V = ((x &&& t : Nat) : Int) := by
          simp only [SE.den, hx]; exact andN hu hxm ht
        rw [e1] at he
        obtain rfl : x &&& t = n := Int.ofNat.inj he
        rw [bit_beq, Nat.testBit_and]
        cases t.testBit i <;> simp only [cond_true, cond_false, Bool.and_false, Bool.and_true]
        · rfl
        · exact bt_den V hnn hrs hu a i x hi hx hxm
    · have ho : op = .or := opIx_inj (b := .or) h6
      subst ho
      cases hb : (nn a && nn b) <;> simp only [cond_true, cond_false]
      · exact base
      simp only [Bool.and_eq_true] at hb
      obtain ⟨x, hx, hxm⟩ := hnn _ hb.1
      obtain ⟨y, hy, hym⟩ := hnn _ hb.2
      have e1 : (SE.bin .or k a b).den V = ((x ||| y : Nat) : Int) := by
        simp only [SE.den, hx, hy]; exact orN hu hxm hym
      rw [e1] at he
      obtain rfl : x ||| y = n := Int.ofNat.inj he
      rw [Nat.testBit_or]
      exact btOr_rel (hrs _ _ (bt_den V hnn hrs hu a i x hi hx hxm)) (hrs _ _ (bt_den V hnn hrs hu b i y hi hy hym))
def notT (o : Option Bool) : Option Bool := match o with
  | some false => some false
  | _ => none
def bitsL (nn : SE → Bool) (rs : Bt → Bt) (k : IntKind) (a b : SE) : Nat → Option Bool
  | 0 => some true
  | i + 1 => match rs (a.bt nn rs k i), rs (b.bt nn rs k i) with
    | .lit x, .lit y => bif x == y then bitsL nn rs k a b i else some false
    | .at e p, .at f q => bif Nat.beq p q && e.same f then bitsL nn rs k a b i else notT (bitsL nn rs k a b i)
    | _, _ => notT (bitsL nn rs k a b i)
theorem bitsL_den (V : Val) {nn : SE → Bool} {rs : Bt → Bt} {k : IntKind} (hnn : ∀ e, nn e = true → ∃ n : Nat, e.den V = n ∧ (n : Int) ≤ k.max) (hrs : ∀ v x, BtRel V v x → BtRel V v (rs x)) (hu : unsg k = true) {a b : SE} {n m : Nat} (ha : a.den V = n) (hn : (n : Int) ≤ k.max) (hb : b.den V = m) (hm : (m : Int) ≤ k.max) : ∀ (j : Nat) (v : Bool), j ≤ k.bits → bitsL nn rs k a b j = some v → if v then ∀ i, i < j → n.testBit i = m.testBit i else n ≠ m
  | 0, v, hj, h => by
    simp only [bitsL, Option.some.injEq] at h
    subst h
    simp
  | j + 1, v, hj, h => by
    have i1 := hrs _ _ (bt_den V hnn hrs hu a j n (by omega) ha hn)
    have i2 := hrs _ _ (bt_den V hnn hrs hu b j m (by omega) hb hm)
    unfold bitsL at h
    have step : n.testBit j = m.testBit j → bitsL nn rs k a b j = some v → if v then ∀ i, i < j + 1 → n.testBit i = m.testBit i else n ≠ m := by
      intro e hh
      have ih := bitsL_den V hnn hrs hu ha hn hb hm j v (by omega) hh
      cases v
      · exact ih
      · intro i hi
        rcases Nat.lt_or_ge i j with h | h
        · exact ih i h
        · obtain rfl : i = j := by omega
          exact e
    have no : notT (bitsL nn rs k a b j) = some v → if v then ∀ i, i < j + 1 → n.testBit i = m.testBit i else n ≠ m := by
      intro hh
      unfold notT at hh
      split at hh
      · rename_i hf
        cases hh
        exact bitsL_den V hnn hrs hu ha hn hb hm j false (by omega) hf
      · cases hh
    split at h
    · rename_i x y e1 e2
      rw [e1] at i1; rw [e2] at i2
      simp only [BtRel] at i1 i2
      cases hxy : (x == y) <;> simp only [hxy, cond_true, cond_false] at h
      · cases h
        simp only [Bool.false_eq_true, if_false]
        intro e
        subst e
        rw [i1] at i2
        subst i2
        simp at hxy
      · exact step (by rw [i1, i2]; exact beq_iff_eq.1 hxy) h
    · rename_i e p f q e1 e2
      rw [e1] at i1; rw [e2] at i2
      cases hpq : (Nat.beq p q && e.same f) <;> simp only [hpq, cond_true, cond_false] at h
      · exact no h
      simp only [Bool.and_eq_true] at hpq
      obtain rfl := Nat.eq_of_beq_eq_true hpq.1
      obtain rfl := SE.same_eq hpq.2
      obtain ⟨m1, g1, g2⟩ := i1
      obtain ⟨m2, g3, g4⟩ := i2
      rw [g1] at g3
      obtain rfl : m1 = m2 := Int.ofNat.inj g3
      exact step (by rw [g2, g4]) h
    · exact no h
def bitsK (k : IntKind) (a b : SE) : Option Bool := bif unsg k && nnK k a && nnK k b then bitsL (nnK k) id k a b k.bits else none
def bitsE (op : BinOp) (a b : SE) : Option Bool := bif Nat.beq (opIx op) 11 then (match a with
  | .bin _ k _ _ => bitsK k a b
  | _ => match b with
    | .bin _ k _ _ => bitsK k a b
    | _ => none) else none
theorem bitsE_den (V : Val) {op : BinOp} {a b : SE} {v : Bool} (h : bitsE op a b = some v) : (SB.cmp op a b).den V = v := by
  unfold bitsE at h
  cases ho : Nat.beq (opIx op) 11 <;> simp only [ho, cond_true, cond_false] at h
  · cases h
  have ho : op = .eql := opIx_inj (b := .eql) ho
  subst ho
  have key : ∀ k, bitsK k a b = some v → (SB.cmp .eql a b).den V = v := by
    intro k h
    unfold bitsK at h
    cases hb : (unsg k && nnK k a && nnK k b) <;> simp only [hb, cond_true, cond_false] at h
    · cases h
    simp only [Bool.and_eq_true] at hb
    obtain ⟨⟨hu, ha⟩, hb⟩ := hb
    obtain ⟨n, h1, h2⟩ := nnK_den V ha
    obtain ⟨m, h3, h4⟩ := nnK_den V hb
    have := bitsL_den V (fun e he => nnK_den V he) (fun _ _ h => h) hu h1 h2 h3 h4 k.bits v (Nat.le_refl _) h
    simp only [SB.den, cmpI, h1, h3]
    cases v
    · simp only [Bool.false_eq_true, if_false] at this
      rw [beq_eq_false_iff_ne]
      exact fun e => this (Int.ofNat.inj e)
    · simp only [if_true] at this
      rw [beq_iff_eq]
      congr 1
      apply Nat.eq_of_testBit_eq
      intro i
      rcases Nat.lt_or_ge i k.bits with h | h
      · exact this i h
      · rw [Nat.testBit_lt_two_pow (Nat.lt_of_lt_of_le (nat_lt hu h2) (Nat.pow_le_pow_right (by omega) h)), Nat.testBit_lt_two_pow (Nat.lt_of_lt_of_le (nat_lt hu h4) (Nat.pow_le_pow_right (by omega) h))]
  split at h
  · exact key _ h
  · split at h
    · exact key _ h
    · cases h
def nnP (pc : PC) (k : IntKind) (e : SE) : Bool := nnK k e || (leO (some 0) (pc.lo e) && leO (pc.hi e) (some k.max))
theorem nnP_den {V : Val} {pc : PC} (h : pc.holds V) {k : IntKind} {e : SE} (he : nnP pc k e = true) : ∃ n : Nat, e.den V = n ∧ (n : Int) ≤ k.max := by
  unfold nnP at he
  simp only [Bool.or_eq_true, Bool.and_eq_true] at he
  rcases he with he | ⟨h0, h1⟩
  · exact nnK_den V he
  · have q1 := leO_den h0 (isHi_some (Int.le_refl 0)) (PC.lo_den h)
    have q2 := leO_den h1 (PC.hi_den h) (isLo_some (Int.le_refl _))
    obtain ⟨n, hn⟩ := Int.eq_ofNat_of_zero_le q1
    exact ⟨n, hn, by rw [← hn]; exact q2⟩
def btP (pc : PC) (b : Bt) : Bt := match b with
  | .at e i => match kbits' pc e with
    | (M, L) => bif Nat.beq (Nat.mod (Nat.div M (Nat.pow 2 i)) 2) 1 then .lit (Nat.beq (Nat.mod (Nat.div L (Nat.pow 2 i)) 2) 1) else .at e i
  | b => b
theorem btP_rel {V : Val} {pc : PC} (h : pc.holds V) {v : Bool} {x : Bt} (hx : BtRel V v x) : BtRel V v (btP pc x) := by
  unfold btP
  split
  · rename_i e i
    obtain ⟨n, h1, h2⟩ := hx
    have hk := kbits'_den h1 h
    generalize kbits' pc e = q at hk
    obtain ⟨M, L⟩ := q
    simp only at hk ⊢
    rw [bit_beq, bit_beq]
    cases hM : M.testBit i <;> simp only [cond_true, cond_false]
    · exact ⟨n, h1, h2⟩
    · simp only [BtRel]
      rw [h2, ← hk, Nat.testBit_and, hM, Bool.and_true]
  · exact hx
def bitsKP (pc : PC) (k : IntKind) (a b : SE) : Option Bool := bif unsg k && nnP pc k a && nnP pc k b then bitsL (nnP pc k) (btP pc) k a b k.bits else none
def bitsP (pc : PC) (op : BinOp) (a b : SE) : Option Bool := bif Nat.beq (opIx op) 11 then (match a with
  | .bin _ k _ _ => bitsKP pc k a b
  | _ => match b with
    | .bin _ k _ _ => bitsKP pc k a b
    | _ => none) else none
theorem bitsP_den {V : Val} {pc : PC} (hp : pc.holds V) {op : BinOp} {a b : SE} {v : Bool} (h : bitsP pc op a b = some v) : (SB.cmp op a b).den V = v := by
  unfold bitsP at h
  cases ho : Nat.beq (opIx op) 11 <;> simp only [ho, cond_true, cond_false] at h
  · cases h
  have ho : op = .eql := opIx_inj (b := .eql) ho
  subst ho
  have key : ∀ k, bitsKP pc k a b = some v → (SB.cmp .eql a b).den V = v := by
    intro k h
    unfold bitsKP at h
    cases hb : (unsg k && nnP pc k a && nnP pc k b) <;> simp only [hb, cond_true, cond_false] at h
    · cases h
    simp only [Bool.and_eq_true] at hb
    obtain ⟨⟨hu, ha⟩, hb⟩ := hb
    obtain ⟨n, h1, h2⟩ := nnP_den hp ha
    obtain ⟨m, h3, h4⟩ := nnP_den hp hb
    have := bitsL_den V (fun e he => nnP_den hp he) (fun _ _ h => btP_rel hp h) hu h1 h2 h3 h4 k.bits v (Nat.le_refl _) h
    simp only [SB.den, cmpI, h1, h3]
    cases v
    · simp only [Bool.false_eq_true, if_false] at this
      rw [beq_eq_false_iff_ne]
      exact fun e => this (Int.ofNat.inj e)
    · simp only [if_true] at this
      rw [beq_iff_eq]
      congr 1
      apply Nat.eq_of_testBit_eq
      intro i
      rcases Nat.lt_or_ge i k.bits with h | h
      · exact this i h
      · rw [Nat.testBit_lt_two_pow (Nat.lt_of_lt_of_le (nat_lt hu h2) (Nat.pow_le_pow_right (by omega) h)), Nat.testBit_lt_two_pow (Nat.lt_of_lt_of_le (nat_lt hu h4) (Nat.pow_le_pow_right (by omega) h))]
  split at h
  · exact key _ h
  · split at h
    · exact key _ h
    · cases h
def maskK1 (pc : PC) (a b : SE) : Bool := match a with
  | .bin op k x (.lit (.ofNat M)) => bif Nat.beq (opIx op) 5 then (bif x.same b then Nat.beq (Nat.pow 2 (Nat.log2 (Nat.succ M))) (Nat.succ M) && Int.ble1 (.ofNat M) k.max && leO (some 0) (pc.lo x) && leO (pc.hi x) (some (.ofNat M)) else false) else false
  | _ => false
theorem and_mask {k : IntKind} {j : Nat} {n : Nat} (hn : n < 2 ^ j) (hj : ((2 ^ j - 1 : Nat) : Int) ≤ k.max) : binI .and k (n : Int) ((2 ^ j - 1 : Nat) : Int) = n := by
  have hb := max_lt k
  have hM : 2 ^ j - 1 < 2 ^ k.bits := by
    have : ((2 ^ j - 1 : Nat) : Int) < ((2 ^ k.bits : Nat) : Int) := by
      rw [pow2I]; omega
    exact Int.ofNat_lt.1 this
  simp only [binI]
  rw [BitVec.toNat_and, BitVec.ofInt_natCast, BitVec.ofInt_natCast, BitVec.toNat_ofNat, BitVec.toNat_ofNat, Nat.mod_eq_of_lt (by omega), Nat.mod_eq_of_lt hM, Nat.and_two_pow_sub_one_eq_mod, Nat.mod_eq_of_lt hn]
  exact wrap_of_in (by have : k.min ≤ 0 := by cases k <;> decide
                       omega) (by omega)
theorem maskK1_den {V : Val} {pc : PC} (h : pc.holds V) {a b : SE} (he : maskK1 pc a b = true) : a.den V = b.den V := by
  unfold maskK1 at he
  split at he
  case h_2 => cases he
  rename_i op k x M
  cases h5 : Nat.beq (opIx op) 5 <;> simp only [h5, cond_true, cond_false] at he
  · cases he
  cases hs : x.same b <;> simp only [hs, cond_true, cond_false] at he
  · cases he
  simp only [Bool.and_eq_true] at he
  obtain ⟨⟨⟨hp, hM⟩, h0⟩, h1⟩ := he
  have ho : op = .and := opIx_inj (b := .and) h5
  subst ho
  rw [← SE.same_eq hs]
  have hM := (Int.ble1_iff _ _).1 hM
  have q1 := leO_den h0 (isHi_some (Int.le_refl 0)) (PC.lo_den h)
  have q2 := leO_den h1 (PC.hi_den h) (isLo_some (Int.le_refl _))
  obtain ⟨n, hn⟩ := Int.eq_ofNat_of_zero_le q1
  rw [hn] at q2
  have q2 : n ≤ M := Int.ofNat_le.1 q2
  have hp : 2 ^ (Nat.log2 (Nat.succ M)) = M + 1 := Nat.eq_of_beq_eq_true hp
  simp only [SE.den, hn]
  have e : M = 2 ^ (Nat.log2 (Nat.succ M)) - 1 := by omega
  rw [show (Int.ofNat M) = (M : Int) from rfl] at hM ⊢
  rw [e] at hM ⊢
  exact and_mask (by omega) hM
def PC.knownO (pc : PC) (op : BinOp) (a b : SE) : Option Bool := bif Nat.beq (opIx op) 11 && orEq a b then some true else bif Nat.beq (opIx op) 11 && (maskK1 pc a b || maskK1 pc b a) then some true else match bitsE op a b with
  | some v => some v
  | none => match pc.known0 (.cmp op a b) with
    | some v => some v
    | none => bitsP pc op a b
def PC.knownC (pc : PC) (op : BinOp) (a b : SE) : Option Bool := match b.evq pc with
  | some y => match a.evq pc with
    | some x => some (cmpI op x y)
    | none => match pc.known0 (.cmp op a b) with
      | some v => some v
      | none => match knownB pc op a b with
        | some v => some v
        | none => bitsP pc op a b
  | none => pc.knownO op a b
def PC.known (pc : PC) (e : SB) : Option Bool := match e with
  | .cmp op a b => pc.knownC op a b
  | e => pc.known0 e
theorem PC.known_den {V : Val} {pc : PC} (h : pc.holds V) {e : SB} {v : Bool} (he : pc.known e = some v) : e.den V = v := by
  unfold PC.known at he
  split at he
  · rename_i op a b
    unfold PC.knownC at he
    split at he
    · rename_i y hy
      split at he
      · rename_i x hx
        cases he
        simp only [SB.den, SE.evq_den h hx, SE.evq_den h hy]
      · split at he
        · rename_i v' h0
          cases he
          exact PC.known0_den h h0
        · split at he
          · rename_i v' h1
            cases he
            exact knownB_den h h1
          · exact bitsP_den h he
    · unfold PC.knownO at he
      cases ho : (Nat.beq (opIx op) 11 && orEq a b) <;> simp only [ho, cond_true, cond_false] at he
      · cases hmk : (Nat.beq (opIx op) 11 && (maskK1 pc a b || maskK1 pc b a)) <;> simp only [hmk, cond_true, cond_false] at he
        case true =>
          cases he
          simp only [Bool.and_eq_true, Bool.or_eq_true] at hmk
          have hop : op = .eql := opIx_inj (b := .eql) hmk.1
          subst hop
          rcases hmk.2 with hm | hm
          · simp [SB.den, cmpI, maskK1_den h hm]
          · simp [SB.den, cmpI, maskK1_den h hm]
        split at he
        · rename_i v' h0
          cases he
          exact bitsE_den V h0
        · split at he
          · rename_i v' h1
            cases he
            exact PC.known0_den h h1
          · exact bitsP_den h he
      · cases he
        simp only [Bool.and_eq_true] at ho
        have hop : op = .eql := opIx_inj (b := .eql) ho.1
        subst hop
        simp [SB.den, cmpI, orEq_den V ho.2]
  · exact PC.known0_den h he
def atomK (pc : PC) (e : SB) : Option Bool := match pc.find e with
  | some b => some b
  | none => pc.known e
def sbK (pc : PC) : SB → Option Bool
  | .lit b => some b
  | .not a => match sbK pc a with
    | some b => some (!b)
    | none => none
  | e => atomK pc e
theorem atomK_den {V : Val} {pc : PC} (h : pc.holds V) {e : SB} {b : Bool} (he : atomK pc e = some b) : e.den V = b := by
  unfold atomK at he
  split at he
  · rename_i b' hf
    cases he
    exact PC.find_den h hf
  · exact PC.known_den h he
theorem sbK_den {V : Val} {pc : PC} (h : pc.holds V) : ∀ {e : SB} {b : Bool}, sbK pc e = some b → e.den V = b
  | .lit c, b, he => by simp only [sbK, Option.some.injEq] at he; exact he
  | .not a, b, he => by
    simp only [sbK] at he
    split at he
    · rename_i c hc
      cases he
      simp only [SB.den, sbK_den h hc]
    · cases he
  | .var i, b, he => atomK_den h he
  | .cmp o x y, b, he => atomK_den h he
  | .eq x y, b, he => atomK_den h he
  | .and x y, b, he => atomK_den h he
def nonZero (pc : PC) : SE → Bool
  | .lit n => !(decide (n = 0))
  | e => match pc.find (.cmp .eql e (.lit 0)) with
    | some false => true
    | _ => match pc.find (.cmp .neq e (.lit 0)) with
      | some true => true
      | _ => false
theorem nonZero_den {V : Val} {pc : PC} (h : pc.holds V) {e : SE} (hn : nonZero pc e = true) : e.den V ≠ 0 := by
  unfold nonZero at hn
  split at hn
  · simpa [SE.den] using hn
  · split at hn
    · rename_i hf
      have := PC.find_den h hf
      simpa [SB.den, cmpI, SE.den] using this
    · split at hn
      · rename_i hf
        have := PC.find_den h hf
        simpa [SB.den, cmpI, SE.den] using this
      · cases hn
def notNeg : SE → Bool
  | .lit n => Int.ble1 0 n
  | .bin .and k _ (.lit n) => !k.signed || (Int.ble1 0 n && Int.ble1 n 127)
  | .bin op k _ _ => isArith op && !k.signed
  | .cv k _ => !k.signed
  | _ => false

def nzK (pc : PC) (e : SE) : Bool := match sbK pc (mkCmp .eql e (.lit 0)) with
  | some b => !b
  | none => false
def nonZeroP (pc : PC) (e : SE) : Bool := nonZero pc e || ltO (some 0) (pc.lo e) || ltO (pc.hi e) (some 0) || nzK pc e
theorem nonZeroP_den {V : Val} {pc : PC} (h : pc.holds V) {e : SE} (hn : nonZeroP pc e = true) : e.den V ≠ 0 := by
  unfold nonZeroP at hn
  simp only [Bool.or_eq_true] at hn
  rcases hn with ((hn | hn) | hn) | hn
  · exact nonZero_den h hn
  · have := ltO_den hn (isHi_some (Int.le_refl 0)) (PC.lo_den h); omega
  · have := ltO_den hn (PC.hi_den h) (isLo_some (Int.le_refl 0)); omega
  · unfold nzK at hn
    split at hn
    · rename_i b hb
      have := sbK_den h hb
      rw [mkCmp_den] at this
      simp only [cmpI, SE.den] at this
      cases b
      · intro e; rw [e] at this; simp at this
      · cases hn
    · cases hn
def notNegP (pc : PC) (e : SE) : Bool := notNeg e || leO (some 0) (pc.lo e)
def eqStr (a b : ByteArray) : Bool := a.data.toList == b.data.toList
def eqCells : List SV → List SV → Option SB
  | [], [] => some (.lit true)
  | .int k a :: l, .int k' b :: l' => bif decide (k = k') then (match eqCells l l' with | some r => some (mkAnd (mkCmp .eql a b) r) | none => none) else none
  | .bool a :: l, .bool b :: l' => (match eqCells l l' with | some r => some (mkAnd (mkEq a b) r) | none => none)
  | _, _ => none

def isNil : Nat → SV → Option Bool
  | 0, .nilPtr => some true
  | 0, .ptr .. => some false
  | 1, .nilSlice => some true
  | 1, .slice .. => some false
  | 2, .nilFunc => some true
  | 2, .func .. => some false
  | _, _ => none
def evBin (pc : PC) (op : BinOp) : Nat → SV → SV → Option SV
  | 0, .int k a, .int k' b =>
    bif isShift op then (bif notNegP pc b then some (.int k (mkBin op k a b)) else none)
    else bif !(decide (k = k')) then none
    else bif isArith op then some (.int k (mkBin op k a b))
    else bif isCmp op then some (.bool (mkCmp op a b))
    else bif isDiv op then (bif nonZeroP pc b then some (.int k (mkBin op k a b)) else none)
    else none
  | 1, .bool a, .bool b => match op with
    | .eql => some (.bool (mkEq a b))
    | .neq => some (.bool (mkNot (mkEq a b)))
    | _ => none
  | 2, .str a, .str b => match op with
    | .eql => some (.bool (.lit (eqStr a b)))
    | .neq => some (.bool (.lit (!(eqStr a b))))
    | _ => none
  | 2, .strv a, .str b => match op with
    | .eql => some (.bool (mkCmp .eql a (.lit (strC b))))
    | .neq => some (.bool (mkNot (mkCmp .eql a (.lit (strC b)))))
    | _ => none
  | 2, .str a, .strv b => match op with
    | .eql => some (.bool (mkCmp .eql b (.lit (strC a))))
    | .neq => some (.bool (mkNot (mkCmp .eql b (.lit (strC a)))))
    | _ => none
  | _, _, _ => none

def subL (cs : List SV) (off n : Nat) : Option (List SV) := bif Nat.ble (off + n) cs.length then some ((cs.drop off).take n) else none
def partV (agg : Bool) (off n : Nat) (cs : List SV) : Option SV :=
  bif agg then (match subL cs off n with | some l => some (.agg l) | none => none) else cs[off]?
def fillV : List SV → List (Nat × Nat × SV) → Option (List SV)
  | cells, [] => some cells
  | cells, (off, n, v) :: rest =>
    bif Nat.beq v.cells.length n && Nat.ble (off + n) cells.length && !v.isLost then fillV (cells.take off ++ v.cells ++ cells.drop (off + n)) rest else none
def litNat : SV → Option Nat
  | .int _ (.lit (.ofNat n)) => some n
  | _ => none
def optNat : Option SV → Nat → Option Nat
  | none, d => some d
  | some v, _ => litNat v
def cons? {α : Type} : Option α → Option (List α) → Option (List α)
  | some a, some l => some (a :: l)
  | _, _ => none
def readAll (rd : X → Option SV) : List X → Option (List SV)
  | [] => some []
  | x :: xs => cons? (rd x) (readAll rd xs)
def readFills (rd : X → Option SV) : List (Nat × Nat × X) → Option (List (Nat × Nat × SV))
  | [] => some []
  | (a, b, x) :: xs => cons? (match rd x with | some v => some (a, b, v) | none => none) (readFills rd xs)
def readOpt (rd : X → Option SV) : Option X → Option (Option SV)
  | none => some none
  | some x => match rd x with | some v => some (some v) | none => none

def litNatP (pc : PC) (v : SV) : Option Nat :=
  match v with
  | .int _ (.lit (.ofNat n)) => some n
  | .int _ e => match pc.one e with
    | some (.ofNat n) => some n
    | _ => none
  | _ => none
def optNatP (pc : PC) : Option SV → Nat → Option Nat
  | none, d => some d
  | some v, _ => litNatP pc v
def mxV (pc : PC) (k : IntKind) (a b t f : SE) : Option SV := match sbK pc (mkCmp .lss a b) with
  | some c => some (.int k (bif c then t else f))
  | none => none
theorem mxV_den {V : Val} {pc : PC} (h : pc.holds V) {k : IntKind} {a b t f : SE} {v : SV} (he : mxV pc k a b t f = some v) : v = .int k (if a.den V < b.den V then t else f) := by
  unfold mxV at he
  split at he
  · rename_i c hc
    cases he
    have := sbK_den h hc
    rw [mkCmp_den] at this
    simp only [cmpI] at this
    cases c
    · simp only [decide_eq_false_iff_not] at this; rw [if_neg this]; rfl
    · simp only [decide_eq_true_eq] at this; rw [if_pos this]; rfl
  · cases he
def sraOf (k : IntKind) (a : SE) : Option (SE × Nat × SE) := match a with
  | .bin op k1 (.cv k2 z) (.lit (.ofNat s)) => bif Nat.beq (kIx k) (kIx .u32) && Nat.beq (opIx op) 9 && Nat.beq (kIx k1) (kIx .i32) && Nat.beq (kIx k2) (kIx .i32) && Nat.ble s 31 then (match extTop .u32 z 31 1 with
      | some bit => some (z, s, bit)
      | none => none) else none
  | _ => none
def cvM (pc : PC) (k : IntKind) (a : SE) : SE := match mkCv k a with
  | .cv k' e => bif unsg k && Nat.beq (kIx k) (kIx k') then (match pc.lo e with
    | some lo => match pc.hi e with
      | some (.ofNat h) => bif Int.ble1 0 lo && Int.ble1 (.ofNat (Nat.pow 2 (Nat.succ (Nat.log2 h)))) k.max then bif intEq lo (.ofNat h) then .lit (.ofNat h) else .bin .and k e (.lit (.ofNat (Nat.sub (Nat.pow 2 (Nat.succ (Nat.log2 h))) 1))) else .cv k' e
      | _ => .cv k' e
    | none => .cv k' e) else .cv k' e
  | r => r
def cvR (pc : PC) (k : IntKind) (a : SE) : SE := match a with
  | .bin op k' x (.lit (.ofNat M)) => bif Nat.beq (opIx op) 5 && Nat.beq (Nat.pow 2 (Nat.log2 (Nat.succ M))) (Nat.succ M) && Int.ble1 (.ofNat M) k'.max && leO (some 0) (pc.lo x) && leO (pc.hi x) (some (.ofNat M)) then mkCv k x else cvM pc k a
  | a => cvM pc k a
def cvP0 (pc : PC) (k : IntKind) (a : SE) : SE := match sraOf k a with
  | some (z, s, bit) => (match sbK pc (mkCmp .eql bit (.lit 1)) with
    | some true => mkBin .or .u32 (mkBin .shr .u32 z (.lit (.ofNat s))) (.lit (.ofNat (Nat.sub (Nat.pow 2 32) (Nat.pow 2 (Nat.sub 32 s)))))
    | some false => mkBin .shr .u32 z (.lit (.ofNat s))
    | none => mkCv k a)
  | none => cvR pc k a
theorem cvM_den {V : Val} {pc : PC} (h : pc.holds V) (k : IntKind) (a : SE) : (cvM pc k a).den V = k.wrap (a.den V) := by
  have hc := mkCv_den V k a
  unfold cvM
  split
  · rename_i k' e he
    rw [he] at hc
    cases hb : (unsg k && Nat.beq (kIx k) (kIx k')) <;> simp only [cond_true, cond_false]
    · exact hc
    simp only [Bool.and_eq_true] at hb
    obtain ⟨hu, hk⟩ := hb
    obtain rfl := kIx_inj hk
    split
    · rename_i lo hlo
      split
      · rename_i hh hhi
        cases hb2 : (Int.ble1 0 lo && Int.ble1 (.ofNat (Nat.pow 2 (Nat.succ (Nat.log2 hh)))) k.max) <;> simp only [cond_true, cond_false]
        · exact hc
        simp only [Bool.and_eq_true, Int.ble1_iff] at hb2
        have q1 := PC.lo_den h _ hlo
        have q2 := PC.hi_den h _ hhi
        obtain ⟨n, hn⟩ := Int.eq_ofNat_of_zero_le (show 0 ≤ e.den V by omega)
        rw [hn] at q2
        have q2 : n ≤ hh := Int.ofNat_le.1 q2
        have hl : hh < 2 ^ (hh.log2 + 1) := Nat.lt_log2_self
        have hm : ((2 ^ (hh.log2 + 1) : Nat) : Int) ≤ k.max := hb2.2
        rw [← hc]
        cases hlh : intEq lo (.ofNat hh) <;> simp only [cond_true, cond_false]
        case true =>
          have hlh := intEq_eq hlh
          have hnh : n = hh := by
            rw [hn, hlh] at q1
            have := Int.ofNat_le.1 q1
            omega
          simp only [SE.den, hn, hnh]
          exact (wrap_of_in (by rw [(uns_max hu).2]; exact Int.natCast_nonneg _) (by omega)).symm
        simp only [SE.den, hn]
        rw [show (Int.ofNat (Nat.sub (Nat.pow 2 (Nat.succ (Nat.log2 hh))) 1)) = ((2 ^ (hh.log2 + 1) - 1 : Nat) : Int) from rfl, and_mask (by omega) (by omega)]
        exact (wrap_of_in (by rw [(uns_max hu).2]; exact Int.natCast_nonneg _) (by omega)).symm
      · exact hc
    · exact hc
  · exact hc
theorem cvR_den {V : Val} {pc : PC} (h : pc.holds V) (k : IntKind) (a : SE) : (cvR pc k a).den V = k.wrap (a.den V) := by
  unfold cvR
  split
  · rename_i op k' x M
    cases hb : (Nat.beq (opIx op) 5 && Nat.beq (Nat.pow 2 (Nat.log2 (Nat.succ M))) (Nat.succ M) && Int.ble1 (.ofNat M) k'.max && leO (some 0) (pc.lo x) && leO (pc.hi x) (some (.ofNat M))) <;> simp only [cond_true, cond_false]
    · exact cvM_den h k _
    simp only [Bool.and_eq_true] at hb
    obtain ⟨⟨⟨⟨ho, hp⟩, hM⟩, h0⟩, h1⟩ := hb
    have ho : op = .and := opIx_inj (b := .and) ho
    subst ho
    have hM := (Int.ble1_iff _ _).1 hM
    have q1 := leO_den h0 (isHi_some (Int.le_refl 0)) (PC.lo_den h)
    have q2 := leO_den h1 (PC.hi_den h) (isLo_some (Int.le_refl _))
    obtain ⟨n, hn⟩ := Int.eq_ofNat_of_zero_le q1
    rw [hn] at q2
    have q2 : n ≤ M := Int.ofNat_le.1 q2
    have hp : 2 ^ (Nat.log2 (Nat.succ M)) = M + 1 := Nat.eq_of_beq_eq_true hp
    rw [mkCv_den]
    congr 1
    simp only [SE.den, hn]
    have e : M = 2 ^ (Nat.log2 (Nat.succ M)) - 1 := by omega
    rw [show (Int.ofNat M) = (M : Int) from rfl] at hM ⊢
    rw [e] at hM ⊢
    rw [and_mask (by omega) hM]
  · exact cvM_den h k _
theorem sra_den (n s : Nat) (hn : n < 2 ^ 32) (hs : s ≤ 31) : IntKind.u32.wrap ((IntKind.i32.wrap (n : Int)).fdiv (2 ^ (min s 32))) = if n < 2 ^ 31 then ((n / 2 ^ s : Nat) : Int) else ((n / 2 ^ s + (2 ^ 32 - 2 ^ (32 - s)) : Nat) : Int) := by
  rw [Nat.min_eq_left (by omega), ← pow2I]
  have hd : n / 2 ^ s ≤ n := Nat.div_le_self _ _
  split
  · rename_i h
    have m1 : IntKind.i32.min = -2147483648 := by decide
    have m2 : IntKind.i32.max = 2147483647 := by decide
    have m3 : IntKind.u32.min = 0 := by decide
    have m4 : IntKind.u32.max = 4294967295 := by decide
    rw [show IntKind.i32.wrap (n : Int) = n from wrap_of_in (by rw [m1]; omega) (by rw [m2]; omega), ← Int.ofNat_fdiv]
    exact wrap_of_in (by rw [m3]; exact Int.natCast_nonneg _) (by rw [m4]; have := Int.ofNat_le.2 hd; omega)
  · rename_i h
    have hp : 0 < 2 ^ s := Nat.two_pow_pos s
    have e32 : (2 : Nat) ^ 32 = 2 ^ s * 2 ^ (32 - s) := by rw [← Nat.pow_add]; congr 1; omega
    have e1 : IntKind.i32.wrap (n : Int) = (n : Int) - ((2 ^ s : Nat) : Int) * ((2 ^ (32 - s) : Nat) : Int) := by
      rw [← Int.natCast_mul, ← e32]
      simp only [IntKind.wrap, IntKind.bits, IntKind.signed]
      simp
      omega
    rw [e1, Int.fdiv_eq_ediv_of_nonneg _ (Int.natCast_nonneg _), Int.sub_eq_add_neg, ← Int.mul_neg, Int.add_mul_ediv_left _ _ (by omega), ← Int.natCast_ediv]
    have h3 : 2 ^ (32 - s) ≤ 2 ^ 32 := Nat.pow_le_pow_right (by omega) (by omega)
    have h4 : n / 2 ^ s < 2 ^ (32 - s) := Nat.div_lt_of_lt_mul (by rw [← e32]; exact hn)
    rw [uns_wrap rfl]
    rw [show ((2 : Int) ^ IntKind.u32.bits) = ((2 ^ 32 : Nat) : Int) from rfl]
    generalize n / 2 ^ s = q at h4 hd
    generalize 2 ^ (32 - s) = r at h3 h4
    omega
theorem cvP0_den {V : Val} {pc : PC} (h : pc.holds V) (k : IntKind) (a : SE) : (cvP0 pc k a).den V = k.wrap (a.den V) := by
  unfold cvP0
  split
  · rename_i z s bit hs
    unfold sraOf at hs
    split at hs
    case h_2 => cases hs
    rename_i op k1 k2 z' s'
    cases hb : (Nat.beq (kIx k) (kIx .u32) && Nat.beq (opIx op) 9 && Nat.beq (kIx k1) (kIx .i32) && Nat.beq (kIx k2) (kIx .i32) && Nat.ble s' 31) <;> simp only [hb, cond_true, cond_false] at hs
    · cases hs
    simp only [Bool.and_eq_true] at hb
    obtain ⟨⟨⟨⟨g1, g2⟩, g3⟩, g4⟩, g5⟩ := hb
    have g1 := kIx_inj g1
    have g2 : op = .shr := opIx_inj (b := .shr) g2
    have g3 := kIx_inj g3
    have g4 := kIx_inj g4
    subst g1; subst g2; subst g3; subst g4
    have g5 := Nat.le_of_ble_eq_true g5
    split at hs
    case h_2 => cases hs
    rename_i bit' he
    cases hs
    obtain ⟨_, n, h1, h2, h3⟩ := extTop_den V he
    have hn : n < 2 ^ 32 := nat_lt (k := .u32) rfl h2
    have hden : (SE.bin .shr .i32 (.cv .i32 z) (.lit (.ofNat s))).den V = (IntKind.i32.wrap (n : Int)).fdiv (2 ^ (min s 32)) := by
      simp only [SE.den, binI, h1]; rfl
    have hshr : (mkBin .shr .u32 z (.lit (.ofNat s))).den V = ((n / 2 ^ s : Nat) : Int) := by
      rw [mkBin_den]
      simp only [SE.den, binI, h1]
      rw [show (Int.ofNat s).toNat = s from rfl, Nat.min_eq_left (show s ≤ IntKind.u32.bits by simp [IntKind.bits]; omega), ← pow2I, ← Int.ofNat_fdiv]
    have hsra := sra_den n s hn g5
    split
    · rename_i hk
      have hk := sbK_den h hk
      rw [mkCmp_den] at hk
      simp only [cmpI, SE.den, h3, beq_iff_eq] at hk
      have hk : fld n 31 1 = 1 := Int.ofNat.inj hk
      have hge : ¬ n < 2 ^ 31 := by
        intro hlt
        rw [fld_small n 31 1 hlt] at hk
        cases hk
      rw [hden, hsra, if_neg hge, mkBin_den, hshr]
      have h4 : n / 2 ^ s < 2 ^ (32 - s) := Nat.div_lt_of_lt_mul (by rw [← Nat.pow_add, show s + (32 - s) = 32 by omega]; exact hn)
      have h5 : 2 ^ (32 - s) ≤ 2 ^ 32 := Nat.pow_le_pow_right (by omega) (by omega)
      have e : (Int.ofNat (Nat.sub (Nat.pow 2 32) (Nat.pow 2 (Nat.sub 32 s)))) = ((2 ^ 32 - 2 ^ (32 - s) : Nat) : Int) := rfl
      simp only [SE.den]
      rw [e, orN (k := .u32) rfl (Int.le_trans (Int.ofNat_le.2 (Nat.div_le_self _ _)) h2) (by simp [IntKind.max, IntKind.bits, IntKind.signed]; have := Nat.two_pow_pos (32 - s); omega)]
      congr 1
      rw [or_add]
      have e2 : 2 ^ 32 - 2 ^ (32 - s) = (2 ^ s - 1) * 2 ^ (32 - s) := by
        rw [Nat.sub_mul, ← Nat.pow_add, show s + (32 - s) = 32 by omega, Nat.one_mul]
      rw [e2]
      have := fld_and_mask (n / 2 ^ s) (32 - s) s
      rw [this, fld_small _ _ _ h4, Nat.zero_mul]
    · rename_i hk
      have hk := sbK_den h hk
      rw [mkCmp_den] at hk
      simp only [cmpI, SE.den, h3] at hk
      have hlt : n < 2 ^ 31 := by
        rcases Nat.lt_or_ge n (2 ^ 31) with hlt | hge
        · exact hlt
        · have : fld n 31 1 = 1 := by
            unfold fld
            have : n / 2 ^ 31 = 1 := by omega
            rw [this]
          rw [this] at hk
          simp at hk
      rw [hden, hsra, if_pos hlt, hshr]
    · exact mkCv_den V _ _
  · exact cvR_den h k a
def halfOf (a : SE) : Option SE := match a with
  | .bin op k1 (.bin op2 k2 (.lit y) x) (.lit (.ofNat c)) => bif Nat.beq (opIx op) 1 && Nat.beq (opIx op2) 2 && Nat.beq (kIx k1) (kIx .i64) && Nat.beq (kIx k2) (kIx .i64) && intEq y 2 && Nat.beq (Nat.mod c 2) 0 && Nat.ble c 1000000 && (match x.rng with
    | (some lo, some hi) => Int.ble1 (-1000000) lo && Int.ble1 hi 1000000
    | _ => false) then some (.bin .sub .i64 x (.lit (.ofNat (Nat.div c 2)))) else none
  | _ => none
def halfD (a : SE) : SE := match halfOf a with
  | some y => y
  | none => a
def isBin : SE → Bool
  | .bin _ k _ _ => Nat.beq (kIx k) (kIx .i64)
  | _ => false
def negOf (k : IntKind) (a : SE) : Option (SE × Nat × Nat) := bif isBin a && Nat.beq (kIx k) (kIx .u32) then (match (halfD a).rng with
    | (some (.negSucc l), some (.ofNat h)) => bif Nat.ble l 1000000000 && Nat.ble h 1000000000 then some (halfD a, l, h) else none
    | _ => none) else none
def negT (neg : Bool) (y : SE) (l h : Nat) : SE := bif neg then .bin .or .u32 (.bin .and .u32 y (.lit (.ofNat (Nat.sub (Nat.pow 2 (Nat.succ (Nat.log2 l))) 1)))) (.lit (.ofNat (Nat.sub (Nat.pow 2 32) (Nat.pow 2 (Nat.succ (Nat.log2 l))))))
  else .bin .and .u32 y (.lit (.ofNat (Nat.sub (Nat.pow 2 (Nat.succ (Nat.log2 h))) 1)))
def cvN (pc : PC) (k : IntKind) (a y : SE) (l h : Nat) : SE := match sbK pc (mkCmp .lss y (.lit 0)) with
  | some neg => (match halfOf a with
    | some _ => mkBin .shl .u32 (negT neg y l h) (.lit 1)
    | none => negT neg y l h)
  | none => cvR pc k a
def cvP (pc : PC) (k : IntKind) (a : SE) : SE := match negOf k a with
  | some (y, l, h) => cvN pc k a y l h
  | none => cvP0 pc k a
theorem halfOf_den (V : Val) {a y : SE} (h : halfOf a = some y) : a.den V = 2 * y.den V := by
  unfold halfOf at h
  split at h
  case h_2 => cases h
  rename_i op k1 op2 k2 y' x c
  cases hb : (Nat.beq (opIx op) 1 && Nat.beq (opIx op2) 2 && Nat.beq (kIx k1) (kIx .i64) && Nat.beq (kIx k2) (kIx .i64) && intEq y' 2 && Nat.beq (Nat.mod c 2) 0 && Nat.ble c 1000000 && (match x.rng with
    | (some lo, some hi) => Int.ble1 (-1000000) lo && Int.ble1 hi 1000000
    | _ => false)) <;> simp only [hb, cond_true, cond_false] at h
  · cases h
  cases h
  simp only [Bool.and_eq_true] at hb
  obtain ⟨⟨⟨⟨⟨⟨⟨h1, h2⟩, h3⟩, h4⟩, h5⟩, h6⟩, h7⟩, h8⟩ := hb
  have h1 : op = .sub := opIx_inj (b := .sub) h1
  have h2 : op2 = .mul := opIx_inj (b := .mul) h2
  have h3 := kIx_inj h3
  have h4 := kIx_inj h4
  subst h1; subst h2; subst h3; subst h4
  obtain rfl := intEq_eq h5
  have h6 : c % 2 = 0 := Nat.eq_of_beq_eq_true h6
  have h7 := Nat.le_of_ble_eq_true h7
  split at h8
  · rename_i lo hi hr
    simp only [Bool.and_eq_true, Int.ble1_iff] at h8
    obtain ⟨r1, r2⟩ := SE.rng_den V x
    rw [hr] at r1 r2
    have q1 := r1 lo rfl
    have q2 := r2 hi rfl
    simp only [SE.den, binI]
    generalize x.den V = z at q1 q2
    have m1 : IntKind.i64.min = -9223372036854775808 := by decide
    have m2 : IntKind.i64.max = 9223372036854775807 := by decide
    have w : ∀ n : Int, -9000000000 ≤ n → n ≤ 9000000000 → IntKind.i64.wrap n = n := fun n a b => wrap_of_in (by rw [m1]; omega) (by rw [m2]; omega)
    rw [w (2 * z) (by omega) (by omega)]
    have e1 : (Int.ofNat c) = (c : Int) := rfl
    have e2 : (Int.ofNat (Nat.div c 2)) = ((c / 2 : Nat) : Int) := rfl
    rw [e1, e2, w _ (by omega) (by omega), w _ (by omega) (by omega)]
    omega
  · exact absurd h8 (by simp)
theorem negT_den (V : Val) {y : SE} {l h : Nat} {neg : Bool} (h1 : -(l : Int) - 1 ≤ y.den V) (h2 : y.den V ≤ h) (hl : l ≤ 1000000000) (hh : h ≤ 1000000000) (hn : neg = decide (y.den V < 0)) : (negT neg y l h).den V = IntKind.u32.wrap (y.den V) := by
  have m4 : IntKind.u32.max = 4294967295 := by decide
  have bound : ∀ x : Nat, x ≤ 1000000000 → 2 ^ (x.log2 + 1) ≤ 2000000000 := by
    intro x hx
    rcases Nat.eq_zero_or_pos x with h0 | h0
    · subst h0; decide
    · have := Nat.log2_self_le (n := x) (by omega)
      rw [Nat.pow_succ]; omega
  have hll : l < 2 ^ (l.log2 + 1) := Nat.lt_log2_self
  have hhl : h < 2 ^ (h.log2 + 1) := Nat.lt_log2_self
  have bl := bound l hl
  have bh := bound h hh
  unfold negT
  cases neg <;> simp only [cond_true, cond_false]
  · have hn := of_decide_eq_false hn.symm
    obtain ⟨n, e⟩ := Int.eq_ofNat_of_zero_le (show 0 ≤ y.den V by omega)
    simp only [SE.den, e]
    rw [show (Int.ofNat (Nat.sub (Nat.pow 2 (Nat.succ (Nat.log2 h))) 1)) = ((2 ^ (h.log2 + 1) - 1 : Nat) : Int) from rfl, and_mask (k := .u32) (by omega) (by rw [m4]; omega)]
    exact (wrap_of_in (by have : IntKind.u32.min = 0 := by decide
                          omega) (by rw [m4]; omega)).symm
  · have hn := of_decide_eq_true hn.symm
    generalize hj : l.log2 + 1 = j at hll bl
    have e1 : IntKind.u32.wrap (y.den V) = y.den V + 4294967296 := by
      rw [uns_wrap rfl]
      show y.den V % 4294967296 = _
      omega
    obtain ⟨n, e⟩ := Int.eq_ofNat_of_zero_le (show 0 ≤ y.den V + 4294967296 by omega)
    have e3 : BitVec.ofInt IntKind.u32.bits (y.den V) = BitVec.ofInt IntKind.u32.bits (n : Int) := by
      rw [← ofInt_wrap .u32 (y.den V), e1, e]
    have e4 : binI .and .u32 (y.den V) ((2 ^ j - 1 : Nat) : Int) = ((n % 2 ^ j : Nat) : Int) := by
      have : binI .and .u32 (y.den V) ((2 ^ j - 1 : Nat) : Int) = binI .and .u32 (n : Int) ((2 ^ j - 1 : Nat) : Int) := by
        simp only [binI, e3]
      rw [this, andN (k := .u32) rfl (by rw [m4]; omega) (by rw [m4]; omega), Nat.and_two_pow_sub_one_eq_mod]
    simp only [SE.den]
    rw [show (Int.ofNat (Nat.sub (Nat.pow 2 (Nat.succ (Nat.log2 l))) 1)) = ((2 ^ (l.log2 + 1) - 1 : Nat) : Int) from rfl, show (Int.ofNat (Nat.sub (Nat.pow 2 32) (Nat.pow 2 (Nat.succ (Nat.log2 l))))) = ((2 ^ 32 - 2 ^ (l.log2 + 1) : Nat) : Int) from rfl, hj, e4]
    have hp : 0 < 2 ^ j := Nat.two_pow_pos j
    have hm : n % 2 ^ j < 2 ^ j := Nat.mod_lt _ hp
    have hj32 : j ≤ 32 := by
      rcases Nat.lt_or_ge 32 j with h | h
      · have := Nat.pow_le_pow_right (n := 2) (by omega) h
        omega
      · exact h
    have e32 : (2 : Nat) ^ 32 = 2 ^ j * 2 ^ (32 - j) := by rw [← Nat.pow_add]; congr 1; omega
    have hn2 : n = (2 ^ 32 - 2 ^ j) + n % 2 ^ j := by
      have hge : 2 ^ 32 - 2 ^ j ≤ n := by omega
      have hlt : n < 2 ^ 32 := by omega
      have ed : 2 ^ 32 - 2 ^ j = 2 ^ j * (2 ^ (32 - j) - 1) := by rw [Nat.mul_sub, ← e32, Nat.mul_one]
      have hq : n - (2 ^ 32 - 2 ^ j) < 2 ^ j := by omega
      have : n % 2 ^ j = n - (2 ^ 32 - 2 ^ j) := by
        conv => lhs; rw [show n = (n - (2 ^ 32 - 2 ^ j)) + 2 ^ j * (2 ^ (32 - j) - 1) by rw [← ed]; omega]
        rw [Nat.add_mul_mod_self_left, Nat.mod_eq_of_lt hq]
      omega
    rw [orN (k := .u32) rfl (by rw [m4]; omega) (by rw [m4]; omega), or_add]
    · rw [e1, e, Nat.add_comm, ← hn2]
    · have ed : 2 ^ 32 - 2 ^ j = (2 ^ (32 - j) - 1) * 2 ^ j := by rw [Nat.sub_mul, ← Nat.pow_add, show 32 - j + j = 32 by omega, Nat.one_mul]
      rw [ed, fld_and_mask, fld_small _ _ _ hm, Nat.zero_mul]
theorem cvN_den {V : Val} {pc : PC} (hp : pc.holds V) {k : IntKind} {a y : SE} {l h : Nat} (hn : negOf k a = some (y, l, h)) : (cvN pc k a y l h).den V = k.wrap (a.den V) := by
  unfold cvN
  split
  · rename_i neg hs
    unfold negOf at hn
    cases hk : (isBin a && Nat.beq (kIx k) (kIx .u32)) <;> simp only [hk, cond_true, cond_false] at hn
    · cases hn
    simp only [Bool.and_eq_true] at hk
    obtain rfl := kIx_inj hk.2
    split at hn
    case h_2 => cases hn
    rename_i l' h' hr
    cases hb : (Nat.ble l' 1000000000 && Nat.ble h' 1000000000) <;> simp only [hb, cond_true, cond_false] at hn
    · cases hn
    cases hn
    simp only [Bool.and_eq_true] at hb
    have b1 := Nat.le_of_ble_eq_true hb.1
    have b2 := Nat.le_of_ble_eq_true hb.2
    have hs := sbK_den hp hs
    rw [mkCmp_den] at hs
    simp only [cmpI, SE.den] at hs
    obtain ⟨r1, r2⟩ := SE.rng_den V (halfD a)
    rw [hr] at r1 r2
    have q1 := r1 _ rfl
    have q2 := r2 _ rfl
    have ht := negT_den V (y := halfD a) (l := l) (h := h) (neg := neg) (by rw [Int.negSucc_eq] at q1; omega) q2 b1 b2 hs.symm
    split
    · rename_i y' hy
      rw [mkBin_den, ht]
      have e1 : halfD a = y' := by unfold halfD; rw [hy]
      rw [halfOf_den V hy, e1]
      simp only [binI, SE.den]
      rw [uns_wrap rfl, uns_wrap rfl, uns_wrap rfl]
      show y'.den V % 4294967296 * 2 ^ (min 1 32) % 4294967296 = 2 * y'.den V % 4294967296
      rw [show min 1 32 = 1 from rfl, Int.pow_one]
      omega
    · rename_i hy
      have e1 : halfD a = a := by unfold halfD; rw [hy]
      rw [ht, e1]
  · exact cvR_den hp k a
theorem cvP_den {V : Val} {pc : PC} (h : pc.holds V) (k : IntKind) (a : SE) : (cvP pc k a).den V = k.wrap (a.den V) := by
  unfold cvP
  split
  · rename_i y l hh hn
    exact cvN_den h hn
  · exact cvP0_den h k a
def inX (pc : PC) (e n : SE) : Bool := (match sbK pc (mkCmp .lss e (.lit 0)) with
  | some b => !b
  | none => false) && (match sbK pc (mkCmp .lss e n) with
  | some b => b
  | none => false)
theorem inX_den {V : Val} {pc : PC} (h : pc.holds V) {e n : SE} (hx : inX pc e n = true) : 0 ≤ e.den V ∧ e.den V < n.den V := by
  unfold inX at hx
  simp only [Bool.and_eq_true] at hx
  obtain ⟨h1, h2⟩ := hx
  constructor
  · split at h1
    · rename_i b hb
      have := sbK_den h hb
      rw [mkCmp_den] at this
      cases b
      · have h3 : ¬ (e.den V < 0) := of_decide_eq_false this
        omega
      · cases h1
    · cases h1
  · split at h2
    · rename_i b hb
      have := sbK_den h hb
      rw [mkCmp_den] at this
      subst h2
      simpa [cmpI] using this
    · cases h2
def symX (pc : PC) (id o len sz sz' : Nat) : SV → Option SV
  | .int _ e => bif inX pc e (.lit (.ofNat len)) && Nat.beq sz sz' then some (.xptr id e (.lit (.ofNat len)) sz o) else none
  | _ => none
def symS (pc : PC) (id o len sz sz' : Nat) : Option SV → Option SV → Option SV
  | some (.int _ e), none => bif inX pc e (.lit (.ofNat len)) && Nat.beq sz sz' then some (.vsl id e (.lit (.ofNat len)) sz o) else none
  | _, _ => none
def addX (pc : PC) (a b : SE) : Bool := match pc.hi a, pc.hi b with
  | some x, some y => Int.ble1 (x + y) IntKind.i64.max
  | _, _ => false
def symI (pc : PC) (id : Nat) (e n : SE) (sz o sz' : Nat) : SV → Option SV
  | .int _ j => bif Nat.beq sz sz' && notNegP pc j && addX pc e j && inX pc (mkBin .add .i64 e j) n then some (.xptr id (mkBin .add .i64 e j) n sz o) else none
  | _ => none
def forkE (k : IntKind) (a : SE) : Option SB := match negOf k a with
  | some (y, _, _) => some (mkCmp .lss y (.lit 0))
  | none => match sraOf k a with
    | some (_, _, bit) => some (mkCmp .eql bit (.lit 1))
    | none => none
def evP (rd : X → Option SV) (pc : PC) : POp → Option SV
  | .mv x => rd x
  | .build zero fills => match readFills rd fills with
    | some l => match fillV zero l with
      | some cs => some (.agg cs)
      | none => none
    | none => none
  | .nilCheck x => match rd x with
    | some (.ptr id o) => some (.ptr id o)
    | some (.iface t v) => some (.iface t v)
    | some (.func (.func f) a b) => some (.func (.func f) a b)
    | _ => none
  | .bin cls op x y => match rd x, rd y with
    | some a, some b => evBin pc op cls a b
    | _, _ => none
  | .nilEq cls neg x y => match rd x, rd y with
    | some a, some b => match isNil cls a, isNil cls b with
      | some true, some c => some (.bool (.lit (neg != c)))
      | some c, some true => some (.bool (.lit (neg != c)))
      | _, _ => none
    | _, _ => none
  | .un op x => match op, rd x with
    | .neg, some (.int k a) => some (.int k (mkBin .sub k (.lit 0) a))
    | .xor, some (.int k a) => some (.int k (mkBin .xor k (.lit (if k.signed then -1 else k.max)) a))
    | .not, some (.bool b) => some (.bool (mkNot b))
    | _, _ => none
  | .conv k x => match rd x with
    | some (.int _ a) => some (.int k (cvP pc k a))
    | _ => none
  | .mkIface t x => match rd x with
    | some v => some (.iface t v)
    | none => none
  | .mkFunc f first caps => match readAll rd first, readAll rd caps with
    | some a, some b => some (.func (.func f) a b)
    | _, _ => none
  | .slice sz x lo hi => match rd x, readOpt rd lo, readOpt rd hi with
    | some (.slice id o len cap sz'), some lo, some hi => match optNatP pc lo 0, optNatP pc hi len with
      | some l, some h => bif Nat.beq sz sz' && Nat.ble h cap && Nat.ble l h then some (.slice id (o + l * sz) (h - l) (cap - l) sz) else none
      | _, _ => symS pc id o len sz sz' lo hi
    | some .nilSlice, some lo, some hi => match optNatP pc lo 0, optNatP pc hi 0 with
      | some 0, some 0 => some .nilSlice
      | _, _ => none
    | _, _, _ => none
  | .fieldAddr off x => match rd x with
    | some (.ptr id o) => some (.ptr id (o + off))
    | _ => none
  | .field agg off n x => match rd x with
    | some (.agg cs) => partV agg off n cs
    | _ => none
  | .idxArr n sz x i => match rd x, rd i with
    | some (.ptr id o), some j => match litNatP pc j with
      | some k => bif Nat.blt k n then some (.ptr id (o + k * sz)) else none
      | none => none
    | _, _ => none
  | .idxSl sz x i => match rd x, rd i with
    | some (.slice id o len _ sz'), some j => match litNatP pc j with
      | some k => bif Nat.blt k len && Nat.beq sz sz' then some (.ptr id (o + k * sz)) else none
      | none => symX pc id o len sz sz' j
    | some (.xsl id n), some (.int _ e) => bif inX pc e n then some (.xptr id e n sz 0) else none
    | some (.vsl id e n sz' o), some j => symI pc id e n sz o sz' j
    | _, _ => none
  | .index agg n sz x i => match rd x, rd i with
    | some (.agg cs), some j => match litNatP pc j with
      | some k => bif Nat.blt k n then partV agg (k * sz) sz cs else none
      | none => none
    | _, _ => none
  | .idxStr x i => match rd x, rd i with
    | some (.str s), some j => match litNatP pc j with
      | some k => match s.data.toList[k]? with
        | some b => some (.int .u8 (.lit (.ofNat b.toNat)))
        | none => none
      | none => none
    | _, _ => none
  | .extract i x => match rd x with
    | some (.tuple vs) => vs[i]?
    | _ => none
  | .tyAs t ok zero x => match rd x with
    | some .nilIface => bif ok then some (.tuple [zero, .bool (.lit false)]) else none
    | some (.iface u v) => bif Nat.beq u t then (bif ok then some (.tuple [v, .bool (.lit true)]) else some v)
      else (bif ok then some (.tuple [zero, .bool (.lit false)]) else none)
    | _ => none
  | .lenS x => match rd x with
    | some (.xsl _ n) => some (.int .i64 n)
    | some (.slice _ _ len _ _) => some (.int .i64 (.lit (.ofNat len)))
    | some .nilSlice => some (.int .i64 (.lit 0))
    | _ => none
  | .lenStr x => match rd x with
    | some (.str s) => some (.int .i64 (.lit (.ofNat s.data.toList.length)))
    | _ => none
  | .lenN n => some (.int .i64 (.lit (.ofNat n)))
  | .mx x y => match rd x, rd y with
    | some (.int k a), some (.int _ b) => mxV pc k a b b a
    | _, _ => none
  | .mn x y => match rd x, rd y with
    | some (.int k a), some (.int _ b) => mxV pc k a b a b
    | _, _ => none
end Go.Sx
