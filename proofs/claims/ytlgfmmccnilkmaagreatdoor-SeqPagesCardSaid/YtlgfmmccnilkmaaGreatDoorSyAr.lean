/- The symbolic machine: what its whole numbers' operations are, for plain arithmetic. No condition: plain lemmas. -/
import Derived.Test.YtlgfmmccnilkmaaGreatDoorSyBase
import Derived.Laws.Bits64
import Derived.Laws.BitsLemmas
namespace Go.Sx
theorem pow2 (k : Nat) : ((2 ^ k : Nat) : Int) = (2 : Int) ^ k := by simp
theorem add32 (x y : Int) : binI .add .u32 x y = (x + y) % 4294967296 := by simp [binI, IntKind.wrap_u32]
theorem sub32 (x y : Int) : binI .sub .u32 x y = (x - y) % 4294967296 := by simp [binI, IntKind.wrap_u32]
theorem mul32 (x y : Int) : binI .mul .u32 x y = (x * y) % 4294967296 := by simp [binI, IntKind.wrap_u32]
theorem shr_any (k : IntKind) (x : Int) (j : Nat) (h : j ≤ k.bits) : binI .shr k x (j : Int) = x / (2 : Int) ^ j := by
  have hp : (0 : Int) ≤ 2 ^ j := by rw [← pow2]; exact Int.natCast_nonneg _
  simp [binI, Nat.min_eq_left h, Int.fdiv_eq_ediv_of_nonneg _ hp]
theorem shl32 (x : Int) (j : Nat) (h : j ≤ 32) : binI .shl .u32 x (j : Int) = (x * 2 ^ j) % 4294967296 := by
  simp [binI, IntKind.wrap_u32, IntKind.bits, Nat.min_eq_left h]
theorem mod32 (x : Int) : (x % 4294967296).toNat < 4294967296 := by omega
theorem and32 (x y : Int) (hx : 0 ≤ x ∧ x < 4294967296) (hy : 0 ≤ y ∧ y < 4294967296) : binI .and .u32 x y = ((x.toNat &&& y.toNat : Nat) : Int) := by
  have h1 : (x % 4294967296).toNat = x.toNat := by omega
  have h2 : (y % 4294967296).toNat = y.toNat := by omega
  have h3 : x.toNat &&& y.toNat < 2 ^ 32 := Nat.and_lt_two_pow _ (by omega)
  have e1 : (BitVec.ofInt 32 x).toNat = x.toNat := by rw [BitVec.toNat_ofInt]; simpa using h1
  have e2 : (BitVec.ofInt 32 y).toNat = y.toNat := by rw [BitVec.toNat_ofInt]; simpa using h2
  show IntKind.u32.wrap ((BitVec.ofInt 32 x &&& BitVec.ofInt 32 y).toNat : Int) = _
  rw [IntKind.wrap_u32, BitVec.toNat_and, e1, e2]
  omega
theorem or32 (x y : Int) (hx : 0 ≤ x ∧ x < 4294967296) (hy : 0 ≤ y ∧ y < 4294967296) : binI .or .u32 x y = ((x.toNat ||| y.toNat : Nat) : Int) := by
  have h1 : (x % 4294967296).toNat = x.toNat := by omega
  have h2 : (y % 4294967296).toNat = y.toNat := by omega
  have h3 : x.toNat ||| y.toNat < 2 ^ 32 := Nat.or_lt_two_pow (by omega) (by omega)
  have e1 : (BitVec.ofInt 32 x).toNat = x.toNat := by rw [BitVec.toNat_ofInt]; simpa using h1
  have e2 : (BitVec.ofInt 32 y).toNat = y.toNat := by rw [BitVec.toNat_ofInt]; simpa using h2
  show IntKind.u32.wrap ((BitVec.ofInt 32 x ||| BitVec.ofInt 32 y).toNat : Int) = _
  rw [IntKind.wrap_u32, BitVec.toNat_or, e1, e2]
  omega
theorem xor32 (x y : Int) (hx : 0 ≤ x ∧ x < 4294967296) (hy : 0 ≤ y ∧ y < 4294967296) : binI .xor .u32 x y = ((x.toNat ^^^ y.toNat : Nat) : Int) := by
  have h1 : (x % 4294967296).toNat = x.toNat := by omega
  have h2 : (y % 4294967296).toNat = y.toNat := by omega
  have h3 : x.toNat ^^^ y.toNat < 2 ^ 32 := Nat.xor_lt_two_pow (by omega) (by omega)
  have e1 : (BitVec.ofInt 32 x).toNat = x.toNat := by rw [BitVec.toNat_ofInt]; simpa using h1
  have e2 : (BitVec.ofInt 32 y).toNat = y.toNat := by rw [BitVec.toNat_ofInt]; simpa using h2
  show IntKind.u32.wrap ((BitVec.ofInt 32 x ^^^ BitVec.ofInt 32 y).toNat : Int) = _
  rw [IntKind.wrap_u32, BitVec.toNat_xor, e1, e2]
  omega
theorem mask32 (x m : Int) (j : Nat) (hj : j ≤ 32) (hm : m = 2 ^ j - 1) : binI .and .u32 x m = x % 2 ^ j := by
  have hjp : (2 ^ j : Nat) ≤ 2 ^ 32 := Nat.pow_le_pow_right (by omega) hj
  have hjp' : (2 : Int) ^ j ≤ 4294967296 := by rw [← pow2]; omega
  have hj0 : (1 : Int) ≤ 2 ^ j := by rw [← pow2]; have := Nat.one_le_two_pow (n := j); omega
  have hd : (2 : Int) ^ j ∣ 4294967296 := by
    have h := Nat.pow_dvd_pow 2 hj
    have := Int.natCast_dvd_natCast.2 h
    rw [pow2] at this
    simpa using this
  have h0 : binI .and .u32 x m = binI .and .u32 (x % 4294967296) m := by
    have e : BitVec.ofInt 32 (x % 4294967296) = BitVec.ofInt 32 x := BitVec.eq_of_toNat_eq (by rw [BitVec.toNat_ofInt, BitVec.toNat_ofInt]; simp)
    show IntKind.u32.wrap ((BitVec.ofInt 32 x &&& BitVec.ofInt 32 m).toNat : Int) = IntKind.u32.wrap ((BitVec.ofInt 32 (x % 4294967296) &&& BitVec.ofInt 32 m).toNat : Int)
    rw [e]
  rw [h0, and32 _ _ (by omega) (by omega)]
  have h2 : m.toNat = 2 ^ j - 1 := by rw [hm, ← pow2]; omega
  rw [h2, Nat.and_two_pow_sub_one_eq_mod]
  rw [Int.natCast_emod, pow2, Int.toNat_of_nonneg (by omega), Int.emod_emod_of_dvd _ hd]
theorem range32 (op : BinOp) (x y : Int) (h : op = .and ∨ op = .or ∨ op = .xor ∨ op = .add ∨ op = .sub ∨ op = .mul ∨ op = .shl) : 0 ≤ binI op .u32 x y ∧ binI op .u32 x y < 4294967296 := by
  rcases h with rfl | rfl | rfl | rfl | rfl | rfl | rfl <;> simp only [binI, IntKind.wrap_u32] <;> omega
theorem bitN (m k : Nat) : m / 2 ^ k % 2 = (m.testBit k).toNat := by
  rw [Nat.testBit_eq_decide_div_mod_eq]
  by_cases h : m / 2 ^ k % 2 = 1
  · simp [h]
  · have : m / 2 ^ k % 2 = 0 := by omega
    simp [this]
theorem bitI (x : Int) (k : Nat) (hx : 0 ≤ x) : x / (2 : Int) ^ k % 2 = ((x.toNat.testBit k).toNat : Int) := by
  rw [← bitN, Int.natCast_emod, Int.natCast_ediv, pow2, Int.toNat_of_nonneg hx]; rfl
theorem bit_and (x y : Int) (hx : 0 ≤ x ∧ x < 4294967296) (hy : 0 ≤ y ∧ y < 4294967296) (k : Nat) : binI .and .u32 x y / (2 : Int) ^ k % 2 = (x / (2 : Int) ^ k % 2) * (y / (2 : Int) ^ k % 2) := by
  rw [bitI _ _ (range32 .and x y (by simp)).1, bitI _ _ hx.1, bitI _ _ hy.1, and32 _ _ hx hy]
  simp only [Int.toNat_natCast, Nat.testBit_and]
  cases x.toNat.testBit k <;> cases y.toNat.testBit k <;> rfl
theorem bit_or (x y : Int) (hx : 0 ≤ x ∧ x < 4294967296) (hy : 0 ≤ y ∧ y < 4294967296) (k : Nat) : binI .or .u32 x y / (2 : Int) ^ k % 2 = (x / (2 : Int) ^ k % 2) + (y / (2 : Int) ^ k % 2) - (x / (2 : Int) ^ k % 2) * (y / (2 : Int) ^ k % 2) := by
  rw [bitI _ _ (range32 .or x y (by simp)).1, bitI _ _ hx.1, bitI _ _ hy.1, or32 _ _ hx hy]
  simp only [Int.toNat_natCast, Nat.testBit_or]
  cases x.toNat.testBit k <;> cases y.toNat.testBit k <;> rfl
theorem bit_xor (x y : Int) (hx : 0 ≤ x ∧ x < 4294967296) (hy : 0 ≤ y ∧ y < 4294967296) (k : Nat) : binI .xor .u32 x y / (2 : Int) ^ k % 2 = ((x / (2 : Int) ^ k % 2) + (y / (2 : Int) ^ k % 2)) % 2 := by
  rw [bitI _ _ (range32 .xor x y (by simp)).1, bitI _ _ hx.1, bitI _ _ hy.1, xor32 _ _ hx hy]
  simp only [Int.toNat_natCast, Nat.testBit_xor]
  cases x.toNat.testBit k <;> cases y.toNat.testBit k <;> rfl
theorem and_or_nat : ∀ (n x y : Nat), x < 2 ^ n → (x &&& y) + (x ||| y) = x + y
  | 0, x, y, h => by
    have : x = 0 := by omega
    subst this; simp
  | n + 1, x, y, h => by
    have ih := and_or_nat n (x / 2) (y / 2) (by omega)
    have h1 : (x &&& y) / 2 = x / 2 &&& y / 2 := Nat.and_div_two
    have h2 : (x ||| y) / 2 = x / 2 ||| y / 2 := Nat.or_div_two
    have b := fun m => bitN m 0
    simp only [Nat.pow_zero, Nat.div_one] at b
    have b1 := b (x &&& y)
    have b2 := b (x ||| y)
    have b3 := b x
    have b4 := b y
    rw [Nat.testBit_and] at b1
    rw [Nat.testBit_or] at b2
    have hb : (x.testBit 0 && y.testBit 0).toNat + (x.testBit 0 || y.testBit 0).toNat = (x.testBit 0).toNat + (y.testBit 0).toNat := by
      cases x.testBit 0 <;> cases y.testBit 0 <;> rfl
    omega
theorem xor_comm32 (x y : Int) : binI .xor .u32 x y = binI .xor .u32 y x := by simp [binI, BitVec.xor_comm]
theorem xor_self32 (x : Int) : binI .xor .u32 x x = 0 := by simp [binI, IntKind.wrap_u32]
end Go.Sx
