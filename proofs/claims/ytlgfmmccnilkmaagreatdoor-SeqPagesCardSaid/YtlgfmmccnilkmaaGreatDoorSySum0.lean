/- The symbolic machine: what is known of a function that has to do with plain values alone, laid down as a tree, and how a call takes it. No condition: plain definitions. -/
import Derived.Test.YtlgfmmccnilkmaaGreatDoorSyTree
namespace Go.Sx
set_option linter.unusedVariables false

/- Terms in the place of variables. -/
def SE.sub (θ : List SV) : SE → SE
  | .lit n => .lit n
  | .var i => match θ[i]? with
    | some (.int _ e) => e
    | some (.strv e) => e
    | _ => .lit 0
  | .bin op k a b => mkBin op k (a.sub θ) (b.sub θ)
  | .cv k a => mkCv k (a.sub θ)
  | .sel s a => .sel s (a.sub θ)
def SB.sub (θ : List SV) : SB → SB
  | .lit b => .lit b
  | .var i => match θ[i]? with
    | some (.bool e) => e
    | _ => .lit false
  | .cmp op a b => mkCmp op (a.sub θ) (b.sub θ)
  | .eq a b => mkEq (a.sub θ) (b.sub θ)
  | .not a => mkNot (a.sub θ)
  | .and a b => mkAnd (a.sub θ) (b.sub θ)
mutual
def SV.sub (θ : List SV) : SV → SV
  | .int k e => .int k (e.sub θ)
  | .bool b => .bool (b.sub θ)
  | .str s => .str s
  | .strv e => .strv (e.sub θ)
  | .nilPtr => .nilPtr
  | .ptr id o => .ptr id o
  | .nilSlice => .nilSlice
  | .slice a b c d e => .slice a b c d e
  | .func fn a b => .func fn (SVs.sub θ a) (SVs.sub θ b)
  | .nilFunc => .nilFunc
  | .iface t v => .iface t (v.sub θ)
  | .nilIface => .nilIface
  | .agg l => .agg (SVs.sub θ l)
  | .tuple l => .tuple (SVs.sub θ l)
  | .lost => .lost
  | .xsl i e => .xsl i (e.sub θ)
  | .xptr i e n m o => .xptr i (e.sub θ) (n.sub θ) m o
  | .nilMap => .nilMap
  | .mapv i => .mapv i
  | .vsl i e n m o => .vsl i (e.sub θ) (n.sub θ) m o
def SVs.sub (θ : List SV) : List SV → List SV
  | [] => []
  | v :: vs => v.sub θ :: SVs.sub θ vs
end
/- A term with places: all places hold the same. -/
def SE.plug : SE → SE → SE
  | .lit n, _ => .lit n
  | .var _, x => x
  | .bin op k a b, x => .bin op k (a.plug x) (b.plug x)
  | .cv k a, x => .cv k (a.plug x)
  | .sel _ _, _ => .lit 0
def SE.find : SE → SE → Option SE
  | .var _, a => some a
  | .bin _ _ p q, .bin _ _ a b => match SE.find p a with
    | some x => some x
    | none => SE.find q b
  | .cv _ p, .cv _ a => SE.find p a
  | _, _ => none
inductive C1 where
  | int (k : IntKind)
  | pat (k kx : IntKind) (e : SE)
  | bool
  | str
  | lit (v : SV)
def C1.n : C1 → Nat
  | .lit _ => 0
  | _ => 1
def C1s.n : List C1 → Nat
  | [] => 0
  | c :: cs => c.n + C1s.n cs
def SV.closed : SV → Bool
  | .int _ (.lit _) => true
  | .bool (.lit _) => true
  | .str _ => true
  | .nilPtr => true
  | .nilSlice => true
  | .nilIface => true
  | .nilFunc => true
  | _ => false
def patC (i : Nat) : C1 → SV
  | .int k => .int k (.cv k (.var i))
  | .pat k kx e => .int k (e.plug (.cv kx (.var i)))
  | .bool => .bool (.var i)
  | .str => .strv (.var i)
  | .lit v => v
def patCs : Nat → List C1 → List SV
  | _, [] => []
  | i, c :: cs => patC i c :: patCs (i + c.n) cs
def patA (i : Nat) : Bool × List C1 → SV
  | (false, c :: _) => patC i c
  | (false, []) => sundef
  | (true, cs) => .agg (patCs i cs)
def patAs : Nat → List (Bool × List C1) → List SV
  | _, [] => []
  | i, a :: as => patA i a :: patAs (i + C1s.n a.2) as
def matC : C1 → SV → Option (List SV)
  | .int k, .int k' e => bif decide (k = k') then some [.int k e] else none
  | .pat k kx e, .int k' a => bif decide (k = k') then (match e.find a with
    | some x => bif (e.plug x).same a then some [.int kx x] else none
    | none => none) else none
  | .bool, .bool b => some [.bool b]
  | .str, .strv e => some [.strv e]
  | .lit v, a => bif v.closed && v.same a then some [] else none
  | _, _ => none
def app? : Option (List SV) → Option (List SV) → Option (List SV)
  | some a, some b => some (a ++ b)
  | _, _ => none
def matCs : List C1 → List SV → Option (List SV)
  | [], [] => some []
  | c :: cs, v :: vs => app? (matC c v) (matCs cs vs)
  | _, _ => none
def matA : Bool × List C1 → SV → Option (List SV)
  | (false, [c]), v => matC c v
  | (true, cs), .agg l => matCs cs l
  | _, _ => none
def matAs : List (Bool × List C1) → List SV → Option (List SV)
  | [], [] => some []
  | a :: as, v :: vs => app? (matA a v) (matAs as vs)
  | _, _ => none
def bdOK (pc : PC) : SV → Bool
  | .int k e => leO (some k.min) (pc.lo e) && leO (pc.hi e) (some k.max)
  | _ => true
inductive RT where
  | dead
  | leaf (v : SV)
  | node (e : SB) (a b : RT)
noncomputable def RT.app (θ : List SV) : RT → PC → TT (SV × PC)
  | .dead, _ => .fail
  | .leaf v, pc => .ret (v.sub θ, pc)
  | .node e a b, pc => (decD (e.sub θ) pc).bind fun x => bif x.1 then a.app θ x.2 else b.app θ x.2
structure Sm where
  sh : List (Bool × List C1)
  door : Bool
  t : RT
def agree (D h : Hp) : Bool := Nat.ble D.sz h.sz && (List.range D.sz).all fun i => match D.get i, h.get i with
  | some (.cells a true), some (.cells b true) => SVs.same a b
  | _, _ => false
noncomputable def Sm.app (D : Hp) (sm : Sm) (args : List SV) (p : SP) : Option (TT (SV × SP)) :=
  match matAs sm.sh args with
  | some θ => bif (θ.all fun v => bdOK p.pc v) && (!sm.door || agree D p.h) then some ((sm.t.app θ p.pc).bind fun x => .ret (x.1, ⟨p.h, x.2⟩)) else none
  | none => none
noncomputable def tryS (D : Hp) (args : List SV) (p : SP) : List Sm → Option (TT (SV × SP))
  | [] => none
  | sm :: l => match sm.app D args p with
    | some m => some m
    | none => tryS D args p l
noncomputable def SofT (D : Hp) (tb : Tr (List Sm)) (f : Nat) (args : List SV) (p : SP) : Option (TT (SV × SP)) := match tb.get f with
  | some l => tryS D args p l
  | none => none
def isLeaf (n : Nat) (v : SV) (pc : PC) (x : SV × SP) : Bool := x.1.same v && samePC' x.2.pc pc && v.bnd n
where samePC' : PC → PC → Bool
  | [], [] => true
  | (a, x) :: l, (b, y) :: k => a.same b && x == y && samePC' l k
  | _, _ => false
def RT.ok (n : Nat) : RT → TT (SV × SP) → PC → Bool
  | .dead, m, pc => true
  | .leaf v, m, pc => TT.casesOn m false (fun x => isLeaf n v pc x) fun _ _ _ => false
  | .node e a b, m, pc => TT.casesOn m false (fun _ => false) fun e' t f => e'.same e && a.ok n t ((e, true) :: pc) && b.ok n f ((e, false) :: pc)
def TT.go {α : Type} (m : TT α) : List Bool → TT α
  | [] => m
  | b :: l => TT.casesOn m .fail (fun _ => .fail) fun _ t f => (bif b then t else f).go l
end Go.Sx
