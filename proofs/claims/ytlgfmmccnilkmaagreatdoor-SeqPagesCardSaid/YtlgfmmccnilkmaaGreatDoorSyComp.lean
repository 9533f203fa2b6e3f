/- The symbolic machine's code, and how it is made of the program's: types are looked up once. No condition: plain definitions. -/
import Derived.Test.YtlgfmmccnilkmaaGreatDoorSyOps
namespace Go.Sx
set_option linter.unusedVariables false

inductive AOp where
  | p (op : POp)
  | pick (c a b : X)
  | load (agg : Bool) (n : Nat) (x : X)
  | slarr (n sz : Nat) (x : X) (lo hi : Option X)
  | ptrEq (neg : Bool) (x y : X)
  | ifEq (neg lit : Bool) (ts : List Nat) (x y : X)
  | newC (cs : List SV)
  | box (n : Nat) (x : X)
  | mkArr (sz len : Nat) (zero : List SV) (fills : List (Nat × Nat × X))
  | mkSl (sz bytes : Nat) (zero : List SV) (len cap : X)
  | store (n : Nat) (a x : X)
  | append (sz bytes : Nat) (s x : X)
  | copy (sz : Nat) (d s : X)
  | clear (sz : Nat) (zero : List SV) (x : X)
  | mkMap
  | mget (kk : IntKind) (ok : Bool) (z : SV) (m i : X)
  | mset (kk : IntKind) (m i x : X)
  | call (f : X) (args : List X)
  | bad
structure AOper where
  dst : Option Nat
  op : AOp
  guard : Option (Nat × Bool)
inductive ACode where
  | skip
  | reg (ops : List AOper)
  | draw (ops : List (AOper × List Nat))
  | seq (a b : ACode)
  | cond (c : X) (a b : ACode)
  | block (id : Nat) (c : ACode)
  | loop (c : ACode)
  | exit (id : Nat)
  | ret
inductive ARes where
  | t (i : Nat)
  | cell (i : Nat) (agg : Bool) (n : Nat)
structure AFunc where
  ntmps : Nat
  res : List ARes
  body : ACode

def cval1 : Value → Option SV
  | .bool b => some (.bool (.lit b))
  | .int k n => some (.int k (.lit n))
  | .string s => some (.str s)
  | .pointer none => some .nilPtr
  | .slice none 0 0 => some .nilSlice
  | .func (.func f) ⟨[]⟩ ⟨[]⟩ => some (.func (.func f) [] [])
  | .nilFunc => some .nilFunc
  | .nilIface => some .nilIface
  | _ => none
def cval1s : List Value → Option (List SV)
  | [] => some []
  | v :: vs => cons? (cval1 v) (cval1s vs)
def cval : Value → Option SV
  | .agg cs => match cval1s cs.toList with | some l => some (.agg l) | none => none
  | .tuple cs => match cval1s cs.toList with | some l => some (.tuple l) | none => none
  | v => cval1 v
def cX : Operand → Option X
  | .tmp t => some (.t t)
  | .const v => match cval v with | some s => some (.c s) | none => none
  | .func f => some (.f f)
  | .global g => some (.g g)
def cXs : List Operand → Option (List X)
  | [] => some []
  | x :: xs => cons? (cX x) (cXs xs)
def cXo : Option Operand → Option (Option X)
  | none => some none
  | some x => match cX x with | some y => some (some y) | none => none
def aggOf (P : Program) (t : TypeId) : Option Bool :=
  match P.underlying t with
  | some (.struct _) => some true
  | some (.array _ _) => some true
  | some _ => some false
  | none => none
def sizeIn (P : Program) (t : TypeId) : Option Nat := match P.info? t with | some i => some i.size | none => none
def zeroIn (P : Program) (t : TypeId) : Option (List SV) :=
  match P.info? t with
  | some i => match i.zero with
    | some z => cval1s z.cells.toList
    | none => none
  | none => none
def sizesIn (P : Program) : List Field → Option (List (Nat × Nat))
  | [] => some []
  | f :: fs => cons? (match sizeIn P f.type with | some n => some (f.offset, n) | none => none) (sizesIn P fs)
def cFills (place : Nat → Option (Nat × Nat)) : List (Nat × Operand) → Option (List (Nat × Nat × X))
  | [] => some []
  | (i, x) :: rest => cons? (match place i, cX x with | some (o, n), some y => some (o, n, y) | _, _ => none) (cFills place rest)
def elemIn (P : Program) (t : TypeId) : Option (Nat × Nat × List SV) :=
  match P.underlying t with
  | some (.slice e) => match P.info? e with
    | some i => match i.zero with
      | some z => bif Nat.beq z.cells.size i.size && Nat.blt 0 i.size then (match cval1s z.cells.toList with | some zs => some (i.size, i.bytes, zs) | none => none) else none
      | none => none
    | none => none
  | _ => none
def isSliceTy (P : Program) (t : TypeId) : Bool := match P.underlying t with | some (.slice _) => true | _ => false

def cBuiltin (P : Program) (b : Builtin) (args : List Operand) (tys : List TypeId) : Option AOp :=
  match b, args, tys with
  | .len, [x], [t] => match P.underlying t with
    | some .string => match cX x with | some y => some (.p (.lenStr y)) | none => none
    | some (.slice _) => match cX x with | some y => some (.p (.lenS y)) | none => none
    | some (.array n _) => some (.p (.lenN n))
    | some (.pointer arr) => match P.underlying arr with
      | some (.array n _) => some (.p (.lenN n))
      | _ => none
    | _ => none
  | .append, [s, x], [t, tx] => bif isSliceTy P tx then (match elemIn P t, cX s, cX x with | some (sz, by', _), some s, some x => some (.append sz by' s x) | _, _, _ => none) else none
  | .copy, [d, s], [t, ts] => bif isSliceTy P ts then (match elemIn P t, cX d, cX s with | some (sz, _, _), some d, some s => some (.copy sz d s) | _, _, _ => none) else none
  | .clear, [x], [t] => match elemIn P t, cX x with | some (sz, _, z), some x => some (.clear sz z x) | _, _ => none
  | .max, [x, y], _ => match cX x, cX y with | some x, some y => some (.p (.mx x y)) | _, _ => none
  | .min, [x, y], _ => match cX x, cX y with | some x, some y => some (.p (.mn x y)) | _, _ => none
  | _, _, _ => none

def flatTy (P : Program) : Nat → TypeId → Bool
  | 0, _ => false
  | d + 1, t => match P.underlying t with
    | some .bool => true
    | some (.int _) => true
    | some (.array _ e) => flatTy P d e
    | some (.struct fs) => !(P.stoodInHeld t) && fs.toList.all fun f => f.name != "_" && flatTy P d f.type
    | _ => false
def isPtrTy (P : Program) (t : TypeId) : Bool := match P.underlying t with | some (.pointer e) => (match sizeIn P e with | some n => Nat.blt 0 n | none => false) | _ => false
def scalarTy (P : Program) (t : TypeId) : Option Nat := match P.underlying t with | some .bool => some 1 | some .string => some 2 | some (.int _) => some 0 | _ => none
def nilConst : Operand → Bool
  | .const (.pointer none) | .const (.slice none 0 0) | .const .nilFunc => true
  | _ => false
def nilTy (P : Program) (t : TypeId) : Option Nat := match P.underlying t with | some (.pointer _) => some 0 | some (.slice _) => some 1 | some (.func _ _ _) => some 2 | _ => none
def isIfTy (P : Program) (t : TypeId) : Bool := match P.underlying t with | some (.interface _) => true | _ => false
def litIf : Operand → Bool
  | .const .nilIface => true
  | _ => false
def cmpTy (P : Program) (t : TypeId) : Bool := isPtrTy P t && (match P.info? t with | some i => i.comparable | none => false)
def cmpTys (P : Program) : List Nat := (List.range P.types.size).filter (cmpTy P)
def zero1 (P : Program) (t : TypeId) : Option SV := match P.info? t with | some i => (match i.zero with | some z => cval1 z | none => none) | none => none
def eqlOf : BinOp → Option Bool
  | .eql => some false
  | .neq => some true
  | _ => none
def mapTy : Option TypeDesc → Option (TypeId × TypeId)
  | some (.map k e) => some (k, e)
  | _ => none
def intTy : Option TypeDesc → Option IntKind
  | some (.int k) => some k
  | _ => none
theorem mapTy_eq {o : Option TypeDesc} {p : TypeId × TypeId} (h : mapTy o = some p) : o = some (.map p.1 p.2) := by
  unfold mapTy at h
  split at h
  · cases h; rfl
  · cases h
theorem intTy_eq {o : Option TypeDesc} {k : IntKind} (h : intTy o = some k) : o = some (.int k) := by
  unfold intTy at h
  split at h
  · cases h; rfl
  · cases h
def cLook (P : Program) (t : TypeId) (x i : Option X) (ok : Bool) : Option AOp := match mapTy (P.underlying t) with
  | some p => (match intTy (P.underlying p.1) with
    | some kk => (match zero1 P p.2 with
      | some z => (match x with
        | some m => (match i with
          | some j => some (.mget kk ok z m j)
          | none => none)
        | none => none)
      | none => none)
    | none => none)
  | none => none
def cPut (P : Program) (t : TypeId) (m k x : Option X) : Option AOp := match mapTy (P.underlying t) with
  | some p => (match intTy (P.underlying p.1) with
    | some kk => (match m with
      | some m => (match k with
        | some j => (match x with
          | some y => some (.mset kk m j y)
          | none => none)
        | none => none)
      | none => none)
    | none => none)
  | none => none
theorem cLook_spec {P : Program} {t : TypeId} {x i : Option X} {ok : Bool} {q : AOp} (h : cLook P t x i ok = some q) : ∃ kt e kk z m j, P.underlying t = some (.map kt e) ∧ P.underlying kt = some (.int kk) ∧ zero1 P e = some z ∧ x = some m ∧ i = some j ∧ q = .mget kk ok z m j := by
  unfold cLook at h
  split at h
  case h_2 => cases h
  rename_i p hp
  split at h
  case h_2 => cases h
  rename_i kk hk
  split at h
  case h_2 => cases h
  rename_i z hz
  split at h
  case h_2 => cases h
  split at h
  case h_2 => cases h
  cases h
  exact ⟨p.1, p.2, kk, z, _, _, mapTy_eq hp, intTy_eq hk, hz, rfl, rfl, rfl⟩
theorem cPut_spec {P : Program} {t : TypeId} {m k x : Option X} {q : AOp} (h : cPut P t m k x = some q) : ∃ kt e kk m' j y, P.underlying t = some (.map kt e) ∧ P.underlying kt = some (.int kk) ∧ m = some m' ∧ k = some j ∧ x = some y ∧ q = .mset kk m' j y := by
  unfold cPut at h
  split at h
  case h_2 => cases h
  rename_i p hp
  split at h
  case h_2 => cases h
  rename_i kk hk
  split at h
  case h_2 => cases h
  split at h
  case h_2 => cases h
  split at h
  case h_2 => cases h
  cases h
  exact ⟨p.1, p.2, kk, _, _, _, mapTy_eq hp, intTy_eq hk, rfl, rfl, rfl, rfl⟩
def cOp (P : Program) (o : Oper) : Option AOp :=
  match o.op with
  | .move x => match cX x with | some y => some (.p (.mv y)) | none => none
  | .assign x => match cX x with | some y => some (.p (.mv y)) | none => none
  | .pick c a b => match cX c, cX a, cX b with | some c, some a, some b => some (.pick c a b) | _, _, _ => none
  | .alloc e => match zeroIn P e with | some cs => some (.newC cs) | none => none
  | .box e x => match sizeIn P e, cX x with | some n, some y => some (.box n y) | _, _ => none
  | .build t parts => match zeroIn P t with
    | some z => match P.underlying t with
      | some (.struct fs) => match sizesIn P fs.toList with
        | some ps => match cFills (fun i => ps[i]?) parts.toList with
          | some fl => some (.p (.build z fl))
          | none => none
        | none => none
      | some (.array _ e) => match sizeIn P e with
        | some n => match cFills (fun i => some (i * n, n)) parts.toList with
          | some fl => some (.p (.build z fl))
          | none => none
        | none => none
      | _ => none
    | none => none
  | .buildSlice t len parts => match elemIn P t with
    | some (sz, _, z) => bif Nat.ble (len * sz) 16777216 then (match cFills (fun i => some (i * sz, sz)) parts.toList with
      | some fl => some (.mkArr sz len z fl)
      | none => none) else none
    | none => none
  | .load t x => match aggOf P t, sizeIn P t, cX x with | some a, some n, some y => bif a || Nat.beq n 1 then some (.load a n y) else none | _, _, _ => none
  | .store t a x => match sizeIn P t, cX a, cX x with | some n, some y, some z => some (.store n y z) | _, _, _ => none
  | .nilCheck x => match cX x with | some y => some (.p (.nilCheck y)) | none => none
  | .binOp op t x y _ => match cX x, cX y with
    | some a, some b =>
      match scalarTy P t with
      | some cls => some (.p (.bin cls op a b))
      | none =>
      bif nilConst x || nilConst y then (match nilTy P t, eqlOf op with | some c, some n => some (.p (.nilEq c n a b)) | _, _ => none)
      else bif isPtrTy P t then (match eqlOf op with | some n => some (.ptrEq n a b) | none => none)
      else bif isIfTy P t then (match eqlOf op with | some n => some (.ifEq n (litIf x || litIf y) (cmpTys P) a b) | none => none)
      else none
    | _, _ => none
  | .unOp op _ x => match cX x with | some y => some (.p (.un op y)) | none => none
  | .convert s d x => match P.underlying s, P.underlying d, cX x with
    | some _, some (.int k), some y => some (.p (.conv k y))
    | _, _, _ => none
  | .makeInterface t x => match P.underlying t, cX x with
    | some (.interface _), _ => none
    | some _, some y => some (.p (.mkIface t y))
    | _, _ => none
  | .makeFunc (.func f) first caps => match cXs first.toList, cXs caps.toList with | some a, some b => some (.p (.mkFunc f a b)) | _, _ => none
  | .makeSlice t l c => match elemIn P t, cX l, cX c with | some (sz, by', z), some l, some c => some (.mkSl sz by' z l c) | _, _, _ => none
  | .slice t x lo hi none => match P.underlying t, cX x, cXo lo, cXo hi with
    | some (.slice e), some y, some l, some h => match sizeIn P e with | some sz => some (.p (.slice sz y l h)) | none => none
    | some (.array n e), some y, some l, some h => match sizeIn P e with | some sz => some (.slarr n sz y l h) | none => none
    | _, _, _, _ => none
  | .fieldAddr s x f => match P.underlying s, cX x with
    | some (.struct fs), some y => match fs[f]? with
      | some fd => match sizeIn P fd.type with
        | some n => bif Nat.blt 0 n then some (.p (.fieldAddr fd.offset y)) else none
        | none => none
      | none => none
    | _, _ => none
  | .field s x f => match P.underlying s, cX x with
    | some (.struct fs), some y => match fs[f]? with
      | some fd => match aggOf P fd.type, sizeIn P fd.type with
        | some a, some n => some (.p (.field a fd.offset n y))
        | _, _ => none
      | none => none
    | _, _ => none
  | .indexAddr t x i => match P.underlying t, cX x, cX i with
    | some (.array n e), some y, some j => match sizeIn P e with | some sz => some (.p (.idxArr n sz y j)) | none => none
    | some (.slice e), some y, some j => match sizeIn P e with | some sz => some (.p (.idxSl sz y j)) | none => none
    | _, _, _ => none
  | .index t x i => match P.underlying t, cX x, cX i with
    | some (.array n e), some y, some j => match aggOf P e, sizeIn P e with | some a, some sz => some (.p (.index a n sz y j)) | _, _ => none
    | some .string, some y, some j => some (.p (.idxStr y j))
    | _, _, _ => none
  | .typeAssert x _ t ok => match P.underlying t, zero1 P t, cX x with
    | some (.interface _), _, _ => none
    | some _, some z, some y => some (.p (.tyAs t ok z y))
    | _, _, _ => none
  | .extract x i => match cX x with | some y => some (.p (.extract i y)) | none => none
  | .makeMap _ none => some .mkMap
  | .lookup t x i ok => cLook P t (cX x) (cX i) ok
  | .mapUpdate t m k x => cPut P t (cX m) (cX k) (cX x)
  | .call c => match c.callee with
    | .value f => match cX f, cXs c.args.toList with | some g, some as => some (.call g as) | _, _ => none
    | .builtin b => cBuiltin P b c.args.toList c.argTypes.toList
    | _ => none
  | _ => none
end Go.Sx
