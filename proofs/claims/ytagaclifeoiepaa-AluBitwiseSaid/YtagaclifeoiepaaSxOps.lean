/- The symbolic machine's operations that leave memory alone, and that the model's operations do as they say. No condition: lemmas of the machine. -/
import Derived.Test.YtagaclifeoiepaaSxAppend
import Derived.Laws.Strings
namespace Go.Sx
set_option linter.unusedVariables false

/-- Operands. -/
inductive X where
  | t (i : Nat)
  | c (v : SV)
  | f (i : Nat)
  | g (i : Nat)
inductive POp where
  | mv (x : X)
  | build (zero : List SV) (fills : List (Nat × Nat × X))
  | nilCheck (x : X)
  | bin (cls : Nat) (op : BinOp) (x y : X)
  | nilEq (cls : Nat) (neg : Bool) (x y : X)
  | un (op : UnOp) (x : X)
  | conv (k : IntKind) (x : X)
  | mkIface (t : Nat) (x : X)
  | mkFunc (f : Nat) (first caps : List X)
  | slice (sz : Nat) (x : X) (lo hi : Option X)
  | fieldAddr (off : Nat) (x : X)
  | field (agg : Bool) (off n : Nat) (x : X)
  | idxArr (n sz : Nat) (x i : X)
  | idxSl (sz : Nat) (x i : X)
  | index (agg : Bool) (n sz : Nat) (x i : X)
  | extract (i : Nat) (x : X)
  | idxStr (x i : X)
  | lenS (x : X)
  | lenStr (x : X)
  | lenN (n : Nat)
  | mx (x y : X)
  | mn (x y : X)

def Int.ble1 (a b : Int) : Bool :=
  match b - a with
  | .ofNat _ => true
  | .negSucc _ => false
theorem Int.ble1_iff (a b : Int) : Int.ble1 a b = true ↔ a ≤ b := by
  unfold Int.ble1
  constructor
  · intro h; split at h
    · rename_i n e; have h0 : (0 : Int) ≤ Int.ofNat n := Int.natCast_nonneg n; omega
    · cases h
  · intro h; split
    · rfl
    · rename_i n e; omega
def inKind (k : IntKind) (n : Int) : Bool :=
  match k with
  | .i64 => Int.ble1 (-9223372036854775808) n && Int.ble1 n 9223372036854775807
  | .u32 => Int.ble1 0 n && Int.ble1 n 4294967295
  | .u64 => Int.ble1 0 n && Int.ble1 n 18446744073709551615
  | .u8 => Int.ble1 0 n && Int.ble1 n 255
  | _ => false
def wrapF (k : IntKind) (n : Int) : Int := bif inKind k n then n else k.wrap n
theorem wrapF_eq (k : IntKind) (n : Int) : wrapF k n = k.wrap n := by
  unfold wrapF
  cases h : inKind k n
  · rfl
  · cases k <;> simp [inKind, Int.ble1_iff] at h <;> simp [IntKind.wrap, IntKind.bits, IntKind.signed] <;> omega
def binF (op : BinOp) (k : IntKind) (x y : Int) : Int :=
  match op with
  | .add => wrapF k (x + y)
  | .sub => wrapF k (x - y)
  | .mul => wrapF k (x * y)
  | _ => binI op k x y
theorem binF_eq (op : BinOp) (k : IntKind) (x y : Int) : binF op k x y = binI op k x y := by
  cases op <;> simp [binF, binI, wrapF_eq]
def mkBin (op : BinOp) (k : IntKind) (a b : SE) : SE :=
  match a, b with
  | .lit x, .lit y => .lit (binF op k x y)
  | a, b => .bin op k a b
theorem mkBin_den (V : Val) (op : BinOp) (k : IntKind) (a b : SE) : (mkBin op k a b).den V = binI op k (a.den V) (b.den V) := by
  unfold mkBin
  split
  · simp [SE.den, binF_eq]
  · simp [SE.den]
def mkCv (k : IntKind) (a : SE) : SE :=
  match a with
  | .lit x => .lit (wrapF k x)
  | a => .cv k a
theorem mkCv_den (V : Val) (k : IntKind) (a : SE) : (mkCv k a).den V = k.wrap (a.den V) := by
  unfold mkCv
  split
  · simp [SE.den, wrapF_eq]
  · simp [SE.den]
def SE.same : SE → SE → Bool
  | .lit a, .lit b => decide (a = b)
  | .var i, .var j => Nat.beq i j
  | .bin o k a b, .bin o' k' a' b' => decide (o = o') && decide (k = k') && a.same a' && b.same b'
  | .cv k a, .cv k' a' => decide (k = k') && a.same a'
  | _, _ => false
theorem SE.same_eq : ∀ {a b : SE}, a.same b = true → a = b
  | .lit a, b, h => by cases b <;> simp [SE.same] at h; subst h; rfl
  | .var i, b, h => by cases b <;> simp [SE.same] at h; subst h; rfl
  | .bin o k a b, c, h => by
    cases c <;> simp [SE.same] at h
    obtain ⟨⟨⟨rfl, rfl⟩, h1⟩, h2⟩ := h
    rw [SE.same_eq h1, SE.same_eq h2]
  | .cv k a, c, h => by
    cases c <;> simp [SE.same] at h
    obtain ⟨rfl, h1⟩ := h
    rw [SE.same_eq h1]
def mkCmp (op : BinOp) (a b : SE) : SB :=
  match a, b with
  | .lit x, .lit y => .lit (cmpI op x y)
  | a, b => bif a.same b then .lit (cmpI op 0 0) else .cmp op a b
theorem cmpI_self (op : BinOp) (x : Int) : cmpI op x x = cmpI op 0 0 := by cases op <;> simp [cmpI]
theorem mkCmp_den (V : Val) (op : BinOp) (a b : SE) : (mkCmp op a b).den V = cmpI op (a.den V) (b.den V) := by
  unfold mkCmp
  split
  · simp [SB.den, SE.den]
  · cases h : a.same b
    · simp [SB.den]
    · rw [SE.same_eq h]
      simp [SB.den, cmpI_self op (b.den V)]
def mkNot : SB → SB
  | .lit b => .lit (!b)
  | .not a => a
  | a => .not a
theorem mkNot_den (V : Val) (a : SB) : (mkNot a).den V = !(a.den V) := by
  cases a <;> simp [mkNot, SB.den]
def mkEq : SB → SB → SB
  | .lit true, b => b
  | .lit false, b => mkNot b
  | a, .lit true => a
  | a, .lit false => mkNot a
  | a, b => .eq a b
theorem mkEq_den (V : Val) (a b : SB) : (mkEq a b).den V = (a.den V == b.den V) := by
  unfold mkEq
  split <;> simp [SB.den, mkNot_den]
def mkAnd : SB → SB → SB
  | .lit true, b => b
  | .lit false, _ => .lit false
  | a, .lit true => a
  | a, b => .and a b
theorem mkAnd_den (V : Val) (a b : SB) : (mkAnd a b).den V = (a.den V && b.den V) := by
  unfold mkAnd
  split <;> simp [SB.den]

def isArith : BinOp → Bool
  | .add | .sub | .mul | .and | .or | .xor | .andNot => true
  | _ => false
def isCmp : BinOp → Bool
  | .eql | .neq | .lss | .leq | .gtr | .geq => true
  | _ => false
def isShift : BinOp → Bool
  | .shl | .shr => true
  | _ => false
def isDiv : BinOp → Bool
  | .quo | .rem => true
  | _ => false

def SB.same : SB → SB → Bool
  | .lit a, .lit b => a == b
  | .var i, .var j => Nat.beq i j
  | .cmp o a b, .cmp o' a' b' => decide (o = o') && a.same a' && b.same b'
  | .eq a b, .eq a' b' => a.same a' && b.same b'
  | .not a, .not a' => a.same a'
  | .and a b, .and a' b' => a.same a' && b.same b'
  | _, _ => false
theorem SB.same_eq : ∀ {a b : SB}, a.same b = true → a = b
  | .lit a, b, h => by cases b <;> simp [SB.same] at h; subst h; rfl
  | .var i, b, h => by cases b <;> simp [SB.same] at h; subst h; rfl
  | .cmp o a b, c, h => by
    cases c <;> simp [SB.same] at h
    obtain ⟨⟨rfl, h1⟩, h2⟩ := h
    rw [SE.same_eq h1, SE.same_eq h2]
  | .eq a b, c, h => by
    cases c <;> simp [SB.same] at h
    rw [SB.same_eq h.1, SB.same_eq h.2]
  | .not a, c, h => by
    cases c <;> simp [SB.same] at h
    rw [SB.same_eq h]
  | .and a b, c, h => by
    cases c <;> simp [SB.same] at h
    rw [SB.same_eq h.1, SB.same_eq h.2]

abbrev PC := List (SB × Bool)
def PC.find : PC → SB → Option Bool
  | [], _ => none
  | (b, v) :: l, a => bif a.same b then some v else PC.find l a
def PC.holds (V : Val) (pc : PC) : Prop := ∀ p ∈ pc, p.1.den V = p.2
theorem PC.find_den {V : Val} : ∀ {pc : PC} {a : SB} {v : Bool}, pc.holds V → pc.find a = some v → a.den V = v
  | [], a, v, h, hf => by simp [PC.find] at hf
  | (b, u) :: l, a, v, h, hf => by
    unfold PC.find at hf
    cases hs : a.same b <;> simp only [hs, cond_true, cond_false] at hf
    · exact PC.find_den (fun p hp => h p (List.mem_cons_of_mem _ hp)) hf
    · cases hf
      rw [SB.same_eq hs]
      exact h (b, u) (List.mem_cons_self ..)

/-- A divisor that is surely not 0. -/
def nonZero (pc : PC) : SE → Bool
  | .lit n => !(decide (n = 0))
  | e => match pc.find (.cmp .eql e (.lit 0)) with
    | some false => true
    | _ => match pc.find (.cmp .neq e (.lit 0)) with
      | some true => true
      | _ => false
theorem nonZero_den {V : Val} {pc : PC} (h : pc.holds V) {e : SE} (hn : nonZero pc e = true) : e.den V ≠ 0 := by
  unfold nonZero at hn
  split at hn
  · simpa [SE.den] using hn
  · split at hn
    · rename_i hf
      have := PC.find_den h hf
      simpa [SB.den, cmpI, SE.den] using this
    · split at hn
      · rename_i hf
        have := PC.find_den h hf
        simpa [SB.den, cmpI, SE.den] using this
      · cases hn
/-- A shift's count that is surely not below 0. -/
def notNeg : SE → Bool
  | .lit n => Int.ble1 0 n
  | .bin .and k _ (.lit n) => !k.signed || (Int.ble1 0 n && Int.ble1 n 127)
  | .bin op k _ _ => isArith op && !k.signed
  | .cv k _ => !k.signed
  | _ => false

def eqStr (a b : ByteArray) : Bool := a.data.toList == b.data.toList
/-- Whether two lists of cells are equal, where all are whole numbers of one kind, or truths. -/
def eqCells : List SV → List SV → Option SB
  | [], [] => some (.lit true)
  | .int k a :: l, .int k' b :: l' => bif decide (k = k') then (match eqCells l l' with | some r => some (mkAnd (mkCmp .eql a b) r) | none => none) else none
  | .bool a :: l, .bool b :: l' => (match eqCells l l' with | some r => some (mkAnd (mkEq a b) r) | none => none)
  | _, _ => none

/-- Is it nil, of a pointer's (0), a slice's (1), a function's (2) type? -/
def isNil : Nat → SV → Option Bool
  | 0, .nilPtr => some true
  | 0, .ptr .. => some false
  | 1, .nilSlice => some true
  | 1, .slice .. => some false
  | 2, .nilFunc => some true
  | 2, .func .. => some false
  | _, _ => none
/-- Two values of whole numbers' (0), truths' (1), strings' (2) types. -/
def evBin (pc : PC) (op : BinOp) : Nat → SV → SV → Option SV
  | 0, .int k a, .int k' b =>
    bif isShift op then (bif notNeg b then some (.int k (mkBin op k a b)) else none)
    else bif !(decide (k = k')) then none
    else bif isArith op then some (.int k (mkBin op k a b))
    else bif isCmp op then some (.bool (mkCmp op a b))
    else bif isDiv op then (bif nonZero pc b then some (.int k (mkBin op k a b)) else none)
    else none
  | 1, .bool a, .bool b => match op with
    | .eql => some (.bool (mkEq a b))
    | .neq => some (.bool (mkNot (mkEq a b)))
    | _ => none
  | 2, .str a, .str b => match op with
    | .eql => some (.bool (.lit (eqStr a b)))
    | .neq => some (.bool (.lit (!(eqStr a b))))
    | _ => none
  | _, _, _ => none

def subL (cs : List SV) (off n : Nat) : Option (List SV) := bif Nat.ble (off + n) cs.length then some ((cs.drop off).take n) else none
def partV (agg : Bool) (off n : Nat) (cs : List SV) : Option SV :=
  bif agg then (match subL cs off n with | some l => some (.agg l) | none => none) else cs[off]?
def fillV : List SV → List (Nat × Nat × SV) → Option (List SV)
  | cells, [] => some cells
  | cells, (off, n, v) :: rest =>
    bif Nat.beq v.cells.length n && Nat.ble (off + n) cells.length then fillV (cells.take off ++ v.cells ++ cells.drop (off + n)) rest else none
def litNat : SV → Option Nat
  | .int _ (.lit (.ofNat n)) => some n
  | _ => none
def optNat : Option SV → Nat → Option Nat
  | none, d => some d
  | some v, _ => litNat v
def cons? {α : Type} : Option α → Option (List α) → Option (List α)
  | some a, some l => some (a :: l)
  | _, _ => none
def readAll (rd : X → Option SV) : List X → Option (List SV)
  | [] => some []
  | x :: xs => cons? (rd x) (readAll rd xs)
def readFills (rd : X → Option SV) : List (Nat × Nat × X) → Option (List (Nat × Nat × SV))
  | [] => some []
  | (a, b, x) :: xs => cons? (match rd x with | some v => some (a, b, v) | none => none) (readFills rd xs)
def readOpt (rd : X → Option SV) : Option X → Option (Option SV)
  | none => some none
  | some x => match rd x with | some v => some (some v) | none => none

def evP (rd : X → Option SV) (pc : PC) : POp → Option SV
  | .mv x => rd x
  | .build zero fills => match readFills rd fills with
    | some l => match fillV zero l with
      | some cs => some (.agg cs)
      | none => none
    | none => none
  | .nilCheck x => match rd x with
    | some (.ptr id o) => some (.ptr id o)
    | some (.iface t v) => some (.iface t v)
    | some (.func (.func f) a b) => some (.func (.func f) a b)
    | _ => none
  | .bin cls op x y => match rd x, rd y with
    | some a, some b => evBin pc op cls a b
    | _, _ => none
  | .nilEq cls neg x y => match rd x, rd y with
    | some a, some b => match isNil cls a, isNil cls b with
      | some true, some c => some (.bool (.lit (neg != c)))
      | some c, some true => some (.bool (.lit (neg != c)))
      | _, _ => none
    | _, _ => none
  | .un op x => match op, rd x with
    | .neg, some (.int k a) => some (.int k (mkBin .sub k (.lit 0) a))
    | .xor, some (.int k a) => some (.int k (mkBin .xor k (.lit (if k.signed then -1 else k.max)) a))
    | .not, some (.bool b) => some (.bool (mkNot b))
    | _, _ => none
  | .conv k x => match rd x with
    | some (.int _ a) => some (.int k (mkCv k a))
    | _ => none
  | .mkIface t x => match rd x with
    | some v => some (.iface t v)
    | none => none
  | .mkFunc f first caps => match readAll rd first, readAll rd caps with
    | some a, some b => some (.func (.func f) a b)
    | _, _ => none
  | .slice sz x lo hi => match rd x, readOpt rd lo, readOpt rd hi with
    | some (.slice id o len cap sz'), some lo, some hi => match optNat lo 0, optNat hi len with
      | some l, some h => bif Nat.beq sz sz' && Nat.ble h cap && Nat.ble l h then some (.slice id (o + l * sz) (h - l) (cap - l) sz) else none
      | _, _ => none
    | some .nilSlice, some lo, some hi => match optNat lo 0, optNat hi 0 with
      | some 0, some 0 => some .nilSlice
      | _, _ => none
    | _, _, _ => none
  | .fieldAddr off x => match rd x with
    | some (.ptr id o) => some (.ptr id (o + off))
    | _ => none
  | .field agg off n x => match rd x with
    | some (.agg cs) => partV agg off n cs
    | _ => none
  | .idxArr n sz x i => match rd x, rd i with
    | some (.ptr id o), some j => match litNat j with
      | some k => bif Nat.blt k n then some (.ptr id (o + k * sz)) else none
      | none => none
    | _, _ => none
  | .idxSl sz x i => match rd x, rd i with
    | some (.slice id o len _ sz'), some j => match litNat j with
      | some k => bif Nat.blt k len && Nat.beq sz sz' then some (.ptr id (o + k * sz)) else none
      | none => none
    | _, _ => none
  | .index agg n sz x i => match rd x, rd i with
    | some (.agg cs), some j => match litNat j with
      | some k => bif Nat.blt k n then partV agg (k * sz) sz cs else none
      | none => none
    | _, _ => none
  | .idxStr x i => match rd x, rd i with
    | some (.str s), some j => match litNat j with
      | some k => match s.data.toList[k]? with
        | some b => some (.int .u8 (.lit (.ofNat b.toNat)))
        | none => none
      | none => none
    | _, _ => none
  | .extract i x => match rd x with
    | some (.tuple vs) => vs[i]?
    | _ => none
  | .lenS x => match rd x with
    | some (.slice _ _ len _ _) => some (.int .i64 (.lit (.ofNat len)))
    | some .nilSlice => some (.int .i64 (.lit 0))
    | _ => none
  | .lenStr x => match rd x with
    | some (.str s) => some (.int .i64 (.lit (.ofNat s.data.toList.length)))
    | _ => none
  | .lenN n => some (.int .i64 (.lit (.ofNat n)))
  | .mx x y => match rd x, rd y with
    | some (.int k (.lit a)), some (.int _ (.lit b)) => some (.int k (.lit (bif Int.ble1 b a then a else b)))
    | _, _ => none
  | .mn x y => match rd x, rd y with
    | some (.int k (.lit a)), some (.int _ (.lit b)) => some (.int k (.lit (bif Int.ble1 a b then a else b)))
    | _, _ => none
end Go.Sx
