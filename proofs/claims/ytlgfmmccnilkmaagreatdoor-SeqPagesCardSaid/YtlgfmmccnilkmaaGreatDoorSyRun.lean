/- The symbolic machine: regions, code, functions; and that the program's calls do as it says. No condition: lemmas of the machine. -/
import Derived.Test.YtlgfmmccnilkmaaGreatDoorSyStep
import Derived.Tactics
namespace Go.Sx
set_option linter.unusedVariables false
set_option linter.unusedSimpArgs false

structure St where
  h : Hp
  orc : List Bool
  pc : PC
structure Fr where
  n : Nat
  t : Tr SV
inductive Ex where
  | normal
  | exit (id : Nat)
  | ret

inductive TT (α : Type) where
  | fail
  | ret (a : α)
  | ask (e : SB) (t f : TT α)
noncomputable def TT.bind {α β : Type} (m : TT α) (k : α → TT β) : TT β := TT.rec (motive := fun _ => TT β) .fail (fun a => k a) (fun e _ _ x y => .ask e x y) m
structure SP where
  h : Hp
  pc : PC
def SP.st (p : SP) (o : List Bool) : St := ⟨p.h, o, p.pc⟩
def runO {α : Type} : TT α → List Bool → Option (α × List Bool)
  | .fail, _ => none
  | .ret a, o => some (a, o)
  | .ask _ _ _, [] => none
  | .ask _ t _, true :: o => runO t o
  | .ask _ _ f, false :: o => runO f o
theorem runO_bind {α β : Type} {k : α → TT β} : ∀ {m : TT α} {o : List Bool} {r : β × List Bool}, runO (m.bind k) o = some r → ∃ a o1, runO m o = some (a, o1) ∧ runO (k a) o1 = some r
  | .fail, o, r, h => by simp [TT.bind, runO] at h
  | .ret a, o, r, h => ⟨a, o, rfl, h⟩
  | .ask e t f, [], r, h => by simp [TT.bind, runO] at h
  | .ask e t f, true :: o, r, h => runO_bind (m := t) h
  | .ask e t f, false :: o, r, h => runO_bind (m := f) h

structure Cfg where
  F : Nat → Option AFunc
  G : Nat → Option Nat
  S : Nat → List SV → SP → Option (TT (SV × SP)) := fun _ _ _ => none
  L : ACode → Fr → SP → Option (TT (Ex × Fr × SP)) := fun _ _ _ => none
def outC (m : TT (SV × SP)) (o : List Bool) : Option (SV × St) := match runO m o with
  | some ((v, p), o') => some (v, p.st o')
  | none => none
def outL (m : TT (Ex × Fr × SP)) (o : List Bool) : Option (Ex × Fr × St) := match runO m o with
  | some ((x, fr, p), o') => some (x, fr, p.st o')
  | none => none
def St.sp (s : St) : SP := ⟨s.h, s.pc⟩

def decAtom (s : St) (e : SB) : Option (Bool × St) :=
  match s.pc.find e with
  | some b => some (b, s)
  | none => match s.pc.known e with
    | some b => some (b, s)
    | none => match s.orc with
      | [] => none
      | d :: ds => some (d, ⟨s.h, ds, (e, d) :: s.pc⟩)
def dec (s : St) : SB → Option (Bool × St)
  | .lit b => some (b, s)
  | .not a => match dec s a with
    | some (b, s') => some (!b, s')
    | none => none
  | .and a b => match dec s a with
    | some (true, s') => dec s' b
    | some (false, s') => some (false, s')
    | none => none
  | .var i => decAtom s (.var i)
  | .cmp o a b => decAtom s (.cmp o a b)
  | .eq a b => decAtom s (.eq a b)
def rdX (G : Nat → Option Nat) (fr : Fr) : X → Option SV
  | .t i => match fr.t.get i with
    | some v => bif v.isLost then none else some v
    | none => some sundef
  | .c v => some v
  | .f i => some (.func (.func i) [] [])
  | .g i => match G i with
    | some id => some (.ptr id 0)
    | none => none
def Fr.put (fr : Fr) (dst : Option Nat) (v : SV) : Option Fr :=
  match dst with
  | none => some fr
  | some d => bif Nat.blt d fr.n then (match Tr.set 48 fr.t d v with | some t => some ⟨fr.n, t⟩ | none => none) else none
def stripP (pc : PC) (e : SE) : SE × Int := match e with
  | .bin op k x (.lit c) => match pc.lo x with
    | some lo => match pc.hi x with
      | some hi => bif Nat.beq (opIx op) 0 && Int.ble1 k.min (lo + c) && Int.ble1 (hi + c) k.max then (x, -c) else bif Nat.beq (opIx op) 1 && Int.ble1 k.min (lo - c) && Int.ble1 (hi - c) k.max then (x, c) else (e, 0)
      | none => (e, 0)
    | none => (e, 0)
  | e => (e, 0)
def forkN (e : SE) : Nat → Int → St → Option St
  | 0, _, _ => none
  | n + 1, j, s => match decAtom s (.cmp .eql e (.lit j)) with
    | some (true, s') => some s'
    | some (false, s') => forkN e n (j + 1) s'
    | none => none
def forkV (s : St) (v : Option SV) (n : Nat) : Option St :=
  match v with
  | some (.int _ (.lit _)) => some s
  | some (.int _ e) => match s.pc.one e with
    | some _ => some s
    | none => forkN (stripP s.pc e).1 n (stripP s.pc e).2 s
  | _ => some s
def forkO (rd : X → Option SV) (s : St) (x : Option X) (n : Nat) : Option St :=
  match x with
  | none => some s
  | some x => forkV s (rd x) n
def forkM (rd : X → Option SV) (s : St) (x y : X) : Option St := match rd x, rd y with
  | some (.int _ a), some (.int _ b) => match dec s (mkCmp .lss a b) with
    | some (_, s') => some s'
    | none => none
  | _, _ => some s
def forkC (rd : X → Option SV) (s : St) (k : IntKind) (x : X) : Option St := match rd x with
  | some (.int _ a) => match forkE k a with
    | some q => match dec s q with
      | some (_, s') => some s'
      | none => none
    | none => some s
  | _ => some s
def bigB (h : Hp) (id : Nat) : Bool := match h.get id with
  | some (.big _ _ _) => true
  | _ => false
def inXV (pc : PC) (v : Option SV) (len : Nat) : Bool := match v with
  | some (.int _ e) => (match e with
    | .lit _ => false
    | e => match pc.one e with
      | some _ => false
      | none => inX pc e (.lit (.ofNat len)))
  | _ => false
def inXO (rd : X → Option SV) (pc : PC) (lo hi : Option X) (len : Nat) : Bool := match lo, hi with
  | some x, none => inXV pc (rd x) len
  | _, _ => false
def forkP (rd : X → Option SV) (s : St) : POp → Option St
  | .idxArr n _ _ i => forkV s (rd i) n
  | .index _ n _ _ i => forkV s (rd i) n
  | .idxSl _ x i => match rd x with
    | some (.slice id _ len _ _) => bif bigB s.h id && inXV s.pc (rd i) len then some s else forkV s (rd i) len
    | _ => some s
  | .idxStr x i => match rd x with
    | some (.str b) => forkV s (rd i) b.size
    | _ => some s
  | .slice _ x lo hi => match rd x with
    | some (.slice id _ len cap _) => bif bigB s.h id && inXO rd s.pc lo hi len then some s else match forkO rd s lo (cap + 1) with
      | some s' => forkO rd s' hi (cap + 1)
      | none => none
    | _ => some s
  | .bin 0 op _ y => bif isDiv op then (match rd y with
      | some (.int _ e) => bif nonZeroP s.pc e then some s else (match decAtom s (.cmp .eql e (.lit 0)) with
        | some (false, s') => some s'
        | _ => none)
      | _ => some s)
    else bif isShift op then (match rd y with
      | some (.int _ e) => bif notNegP s.pc e then some s else (match decAtom s (.cmp .lss e (.lit 0)) with
        | some (false, s') => some s'
        | _ => none)
      | _ => some s)
    else some s
  | .mx x y => forkM rd s x y
  | .mn x y => forkM rd s x y
  | .conv k x => forkC rd s k x
  | _ => some s
def evOp (callF : Nat → List SV → St → Option (SV × St)) (rd : X → Option SV) (s : St) : AOp → Option (SV × St)
  | .p q => match forkP rd s q with
    | some s' => match evP rd s'.pc q with
      | some v => some (v, s')
      | none => none
    | none => none
  | .pick c a b => match rd c with
    | some (.bool e) => match dec s e with
      | some (t, s') => match rd (bif t then a else b) with
        | some v => some (v, s')
        | none => none
      | none => none
    | _ => none
  | .call f args => match rd f, readAll rd args with
    | some (.func (.func g) first caps), some vs => callF g (first ++ vs ++ caps) s
    | _, _ => none
  | q => match evM rd s.h q with
    | some (v, h') => some (v, ⟨h', s.orc, s.pc⟩)
    | none => none
def aParts (rd : X → Option SV) : AOp → Option (List SV × (Nat → SV))
  | .newC cs => some (cs, fun id => .ptr id 0)
  | .box n x => match rd x with
    | some v => bif Nat.beq v.cells.length n && !v.isLost then some (v.cells, fun id => .ptr id 0) else none
    | none => none
  | .mkArr sz len zero fills => match readFills rd fills with
    | some l => match fillV (repL zero len) l with
      | some cs => some (cs, fun id => .slice id 0 len len sz)
      | none => none
    | none => none
  | .mkSl sz by' zero l c => match rd l, rd c with
    | some l, some c => match litNat l, litNat c with
      | some l, some c => bif Nat.ble l c && Nat.ble c most && Nat.ble (by' * c) most then some (repL zero c, fun id => .slice id 0 l c sz) else none
      | _, _ => none
    | _, _ => none
  | _ => none
def isA : AOp → Bool
  | .newC _ | .box _ _ | .mkArr _ _ _ _ | .mkSl _ _ _ _ _ => true
  | _ => false
def oX : Option X → List X
  | none => []
  | some x => [x]
def POp.xs : POp → List X
  | .mv x | .nilCheck x | .un _ x | .conv _ x | .mkIface _ x | .fieldAddr _ x | .field _ _ _ x | .extract _ x | .lenS x | .lenStr x => [x]
  | .build _ fs => fs.map (·.2.2)
  | .bin _ _ x y | .nilEq _ _ x y | .idxArr _ _ x y | .idxSl _ x y | .index _ _ _ x y | .idxStr x y | .mx x y | .mn x y => [x, y]
  | .mkFunc _ a b => a ++ b
  | .slice _ x lo hi => x :: (oX lo ++ oX hi)
  | .tyAs _ _ _ x => [x]
  | .lenN _ => []
def AOp.xs : AOp → List X
  | .p q => q.xs
  | .pick c a b => [c, a, b]
  | .load _ _ x | .box _ x | .clear _ _ x => [x]
  | .slarr _ _ x lo hi => x :: (oX lo ++ oX hi)
  | .ptrEq _ x y | .ifEq _ _ _ x y | .mkSl _ _ _ x y | .store _ x y | .append _ _ x y | .copy _ x y => [x, y]
  | .newC _ | .mkMap | .bad => []
  | .mget _ _ _ m i => [m, i]
  | .mset _ m i x => [m, i, x]
  | .mkArr _ _ _ fs => fs.map (·.2.2)
  | .call f as => f :: as

def eqFn : Fn → Fn → Bool
  | .func a, .func b => Nat.beq a b
  | _, _ => false
mutual
def SV.same : SV → SV → Bool
  | .int k a, .int k' b => decide (k = k') && a.same b
  | .bool a, .bool b => a.same b
  | .str a, .str b => decide (a.data.toList = b.data.toList)
  | .strv a, .strv b => a.same b
  | .nilPtr, .nilPtr => true
  | .ptr i o, .ptr j p => Nat.beq i j && Nat.beq o p
  | .nilSlice, .nilSlice => true
  | .slice a b c d e, .slice a' b' c' d' e' => Nat.beq a a' && Nat.beq b b' && Nat.beq c c' && Nat.beq d d' && Nat.beq e e'
  | .func f a b, .func g c d => eqFn f g && SVs.same a c && SVs.same b d
  | .nilFunc, .nilFunc => true
  | .iface t v, .iface u w => Nat.beq t u && v.same w
  | .nilIface, .nilIface => true
  | .agg a, .agg b => SVs.same a b
  | .tuple a, .tuple b => SVs.same a b
  | .xsl i e, .xsl j f => Nat.beq i j && e.same f
  | .xptr i e n m o, .xptr j f k p q => Nat.beq i j && e.same f && n.same k && Nat.beq m p && Nat.beq o q
  | .nilMap, .nilMap => true
  | .mapv i, .mapv j => Nat.beq i j
  | .vsl i e n m o, .vsl j f k p q => Nat.beq i j && e.same f && n.same k && Nat.beq m p && Nat.beq o q
  | _, _ => false
def SVs.same : List SV → List SV → Bool
  | [], [] => true
  | a :: as, b :: bs => a.same b && SVs.same as bs
  | _, _ => false
end
/- Are all the objects that a value names below a number? -/
mutual
def SV.bnd (n : Nat) : SV → Bool
  | .ptr i _ => Nat.blt i n
  | .slice i _ _ _ _ => Nat.blt i n
  | .func _ a b => SVs.bnd n a && SVs.bnd n b
  | .iface _ v => v.bnd n
  | .agg a => SVs.bnd n a
  | .tuple a => SVs.bnd n a
  | .xsl i _ => Nat.blt i n
  | .xptr i _ _ _ _ => Nat.blt i n
  | .mapv i => Nat.blt i n
  | .vsl i _ _ _ _ => Nat.blt i n
  | _ => true
def SVs.bnd (n : Nat) : List SV → Bool
  | [] => true
  | a :: as => a.bnd n && SVs.bnd n as
end

def AOp.cls : AOp → Nat
  | .p _ | .pick _ _ _ => 0
  | .load _ _ _ | .slarr _ _ _ _ _ | .ptrEq _ _ _ | .ifEq _ _ _ _ _ | .mget _ _ _ _ _ => 1
  | .newC _ | .box _ _ | .mkArr _ _ _ _ | .mkSl _ _ _ _ _ => 2
  | _ => 3
def memN (x : Nat) : List Nat → Bool
  | [] => false
  | y :: l => Nat.beq x y || memN x l
def hasT (t : Nat) : List X → Bool
  | [] => false
  | .t i :: l => Nat.beq i t || hasT t l
  | _ :: l => hasT t l
def AOper.reads (o : AOper) (t : Nat) : Bool := hasT t o.op.xs || (match o.guard with | some (g, _) => Nat.beq g t | none => false)
def AOper.writes (o : AOper) (t : Nat) : Bool := match o.dst with | some d => Nat.beq d t | none => false
def apartB (x y : AOper) : Bool :=
  (match x.dst with | some d => !(y.reads d) && !(y.writes d) | none => true) && (match y.dst with | some d => !(x.reads d) | none => true)
def unionL : List Nat → List Nat → List Nat
  | [], r => r
  | x :: p, r => bif memN x r then unionL p r else x :: unionL p r
def predOf (acc : List (List Nat)) : List Edge → Option (List Nat)
  | [] => some []
  | e :: es => match predOf acc es with
    | none => none
    | some r => bif Region.binds .any e then (match acc[e.on]? with | some p => some (unionL (e.on :: p) r) | none => none) else some r
def predsAux : List Oper → List (List Nat) → Option (List (List Nat))
  | [], acc => some acc
  | o :: os, acc => match predOf acc o.after.toList with
    | some p => predsAux os (acc ++ [p])
    | none => none
def pairOK (as : List AOper) (pre : List (List Nat)) (i j : Nat) : Bool :=
  match as[i]?, as[j]?, pre[j]? with
  | some x, some y, some p => memN i p || (apartB x y && !(Nat.beq x.op.cls 3 && Nat.beq y.op.cls 3))
  | _, _, _ => false
def allPairs (as : List AOper) (pre : List (List Nat)) : Bool := (List.range as.length).all fun j => (List.range j).all fun i => pairOK as pre i j
def loose (as : List AOper) (pre : List (List Nat)) (i e : Nat) : Bool :=
  match as[e]?, pre[i]?, pre[e]? with
  | some y, some p, some q => Nat.beq y.op.cls 3 && (bif Nat.blt e i then !(memN e p) else !(memN i q))
  | _, _, _ => false
def looses (as : List AOper) (pre : List (List Nat)) : Nat → List AOper → List (AOper × List Nat)
  | _, [] => []
  | i, o :: os => (o, bif Nat.beq o.op.cls 1 then (List.range as.length).filter (loose as pre i) else []) :: looses as pre (i + 1) os
structure Rec where
  fr : Fr
  s : St
  g : Bool
  v : SV
def evGuard (C : Cfg) (fr : Fr) (s : St) (g : Option (Nat × Bool)) : Option (Bool × St) :=
  match g with
  | none => some (true, s)
  | some (t, want) => match rdX C.G fr (.t t) with
    | some (.bool e) => match dec s e with
      | some (b, s') => some (b == want, s')
      | none => none
    | some _ => some (false, s)
    | none => none
def allYoung (rd : X → Option SV) (n : Nat) (q : AOp) : Bool := q.xs.all fun x => (match rd x with | some v => v.bnd n | none => true)
def youngOK (rd : X → Option SV) (n : Nat) (q : AOp) : Bool :=
  bif Nat.beq q.cls 3 || Nat.beq q.cls 1 then allYoung rd n q
  else bif Nat.beq q.cls 2 then (match aParts rd q with | some (cs, _) => SVs.bnd n cs | none => false)
  else true
def evTr (C : Cfg) (callF : Nat → List SV → St → Option (SV × St)) : List AOper → Fr → St → Option (List Rec × Fr × St)
  | [], fr, s => some ([], fr, s)
  | o :: os, fr, s =>
    match evGuard C fr s o.guard with
    | none => none
    | some (true, s1) => bif youngOK (rdX C.G fr) s.h.sz o.op then
        (match evOp callF (rdX C.G fr) s1 o.op with
        | some (v, s2) => bif Nat.ble s.h.sz s2.h.sz then (match fr.put o.dst v with
          | some fr' => match evTr C callF os fr' s2 with
            | some (rs, fr2, s3) => some (⟨fr, s, true, v⟩ :: rs, fr2, s3)
            | none => none
          | none => none) else none
        | none => none) else none
    | some (false, s1) => match fr.put o.dst sundef with
      | some fr' => match evTr C callF os fr' s1 with
        | some (rs, fr2, s3) => some (⟨fr, s, false, sundef⟩ :: rs, fr2, s3)
        | none => none
      | none => none
def heapAt (rs : List Rec) (fin : Hp) (i : Nat) : Hp := match rs[i]? with | some r => r.s.h | none => fin
def chk1 (C : Cfg) (q : AOp) (r : Rec) (h : Hp) : Bool := allYoung (rdX C.G r.fr) h.sz q && (match evM (rdX C.G r.fr) h q with | some (v, _) => v.same r.v | none => false)
def chks (C : Cfg) (all : List Rec) (fin : Hp) : List (AOper × List Nat) → List Rec → Bool
  | [], [] => true
  | (o, l) :: os, r :: rs => (!r.g || l.all fun e => chk1 C o.op r (heapAt all fin e) && chk1 C o.op r (heapAt all fin (e + 1))) && chks C all fin os rs
  | _, _ => false
def fsts : List (AOper × List Nat) → List AOper
  | [] => []
  | (o, _) :: l => o :: fsts l
def evDraw (C : Cfg) (callF : Nat → List SV → St → Option (SV × St)) (ops : List (AOper × List Nat)) (fr : Fr) (s : St) : Option (Fr × St) :=
  match evTr C callF (fsts ops) fr s with
  | some (rs, fr', s') => bif chks C rs s'.h ops rs then some (fr', s') else none
  | none => none
def evOps (C : Cfg) (callF : Nat → List SV → St → Option (SV × St)) : List AOper → Fr → St → Option (Fr × St)
  | [], fr, s => some (fr, s)
  | o :: os, fr, s =>
    match (match o.guard with
      | none => some (true, s)
      | some (t, want) => match rdX C.G fr (.t t) with
        | some (.bool e) => match dec s e with
          | some (b, s') => some (b == want, s')
          | none => none
        | some _ => some (false, s)
        | none => none) with
    | none => none
    | some (true, s) => match evOp callF (rdX C.G fr) s o.op with
      | some (v, s') => match fr.put o.dst v with
        | some fr' => evOps C callF os fr' s'
        | none => none
      | none => none
    | some (false, s) => match fr.put o.dst sundef with
      | some fr' => evOps C callF os fr' s
      | none => none
def enterT : List SV → Nat → Tr SV → Option (Tr SV)
  | [], _, t => some t
  | v :: vs, i, t => match Tr.set 48 t i v with
    | some t' => enterT vs (i + 1) t'
    | none => none
def evRes (G : Nat → Option Nat) (fr : Fr) (h : Hp) : ARes → Option SV
  | .t i => rdX G fr (.t i)
  | .cell i ag n => match rdX G fr (.t i) with
    | some (.ptr id o) => match ldc h id o n with
      | some vs => bif ag then some (.agg vs) else (match vs with | [v] => some v | _ => none)
      | none => none
    | _ => none
def evRess (G : Nat → Option Nat) (fr : Fr) (h : Hp) : List ARes → Option (List SV)
  | [] => some []
  | r :: rs => cons? (evRes G fr h r) (evRess G fr h rs)
def packRes : List SV → SV
  | [v] => v
  | vs => .tuple vs
def evCall (C : Cfg) (code : ACode → Fr → St → Option (Ex × Fr × St)) (f : Nat) (args : List SV) (s : St) : Option (SV × St) :=
  match C.S f args s.sp with
  | some m => outC m s.orc
  | none => match C.F f with
  | none => none
  | some af => bif Nat.ble args.length af.ntmps then
      (match enterT args 0 .e with
      | none => none
      | some t => match code af.body ⟨af.ntmps, t⟩ s with
        | some (.exit _, _, _) => none
        | some (_, fr, s') => match evRess C.G fr s'.h af.res with
          | some vs => some (packRes vs, s')
          | none => none
        | none => none)
    else none
def evCode (C : Cfg) : Nat → ACode → Fr → St → Option (Ex × Fr × St)
  | 0, _, _, _ => none
  | n + 1, c, fr, s => match c with
    | .skip => some (.normal, fr, s)
    | .reg ops => match evOps C (evCall C (evCode C n)) ops fr s with
      | some (fr', s') => some (.normal, fr', s')
      | none => none
    | .draw ops => match evDraw C (evCall C (evCode C n)) ops fr s with
      | some (fr', s') => some (.normal, fr', s')
      | none => none
    | .seq a b => match evCode C n a fr s with
      | some (.normal, fr', s') => evCode C n b fr' s'
      | r => r
    | .cond c a b => match rdX C.G fr c with
      | some (.bool e) => match dec s e with
        | some (t, s') => evCode C n (bif t then a else b) fr s'
        | none => none
      | _ => none
    | .block id c => match evCode C n c fr s with
      | some (.exit k, fr', s') => bif Nat.beq k id then some (.normal, fr', s') else some (.exit k, fr', s')
      | r => r
    | .loop c => match C.L c fr s.sp with
      | some m => outL m s.orc
      | none => match evCode C n c fr s with
        | some (.normal, fr', s') => evCode C n (.loop c) fr' s'
        | r => r
    | .exit id => some (.exit id, fr, s)
    | .ret => some (.ret, fr, s)
def evFn (C : Cfg) (n : Nat) (f : Nat) (args : List SV) (s : St) : Option (SV × St) := evCall C (evCode C n) f args s

def guardOf (ops : Array Oper) : Option (Nat × Bool) → Option (Option (Nat × Bool))
  | none => some none
  | some (j, want) => match (ops[j]?).bind (·.dst) with
    | some t => some (some (t, want))
    | none => none
def cOps (P : Program) (ops : Array Oper) : List Oper → Option (List AOper)
  | [] => some []
  | o :: os => cons? (match guardOf ops o.guard with | some g => some ⟨o.dst, (match cOp P o with | some q => q | none => .bad), g⟩ | none => none) (cOps P ops os)
def cDraw (P : Program) (ops : Array Oper) : Option (List (AOper × List Nat)) :=
  match cOps P ops ops.toList, predsAux ops.toList [] with
  | some as, some pre => bif allPairs as pre then some (looses as pre 0 as) else none
  | _, _ => none
def cCode (P : Program) : Code → Option ACode
  | .skip => some .skip
  | .region _ ops false => match cOps P ops ops.toList with
    | some l => some (.reg l)
    | none => none
  | .region _ ops true => match cDraw P ops with
    | some l => some (.draw l)
    | none => none
  | .seq a b => match cCode P a, cCode P b with
    | some x, some y => some (.seq x y)
    | _, _ => none
  | .cond c a b => match cX c, cCode P a, cCode P b with
    | some k, some x, some y => some (.cond k x y)
    | _, _, _ => none
  | .block id c => match cCode P c with
    | some x => some (.block id x)
    | none => none
  | .loop c => match cCode P c with
    | some x => some (.loop x)
    | none => none
  | .exit id => some (.exit id)
  | .ret => some .ret
  | _ => none
def cRes (P : Program) : List ResultVar → Option (List ARes)
  | [] => some []
  | .tmp t :: rs => cons? (some (.t t)) (cRes P rs)
  | .cell p t :: rs => cons? (match aggOf P t, sizeIn P t with | some a, some n => bif a || Nat.beq n 1 then some (.cell p a n) else none | _, _ => none) (cRes P rs)
def cFunc (P : Program) (f : Nat) : Option AFunc :=
  match P.funcs[f]? with
  | some fn => match fn.body with
    | some c => match cCode P c, cRes P fn.results.toList with
      | some b, some r => bif fn.name == "runtime.NumGoroutine" then none else some ⟨fn.ntmps, r, b⟩
      | _, _ => none
    | none => none
  | none => none

section
variable {P : Program} {V : Val} {ι : Nat → Option Loc} {B : Nat} {σ σ' : Hp} {w : World} {C : Cfg}

theorem PC.holds_tail {p : SB × Bool} {pc : PC} (h : PC.holds V (p :: pc)) : pc.holds V := fun q hq => h q (List.mem_cons_of_mem _ hq)
theorem decAtom_sound {s s' : St} {e : SB} {b : Bool} (h : decAtom s e = some (b, s')) : s'.h = s.h ∧ (s'.pc.holds V → s.pc.holds V ∧ e.den V = b) := by
  unfold decAtom at h
  split at h
  · rename_i b' hf
    simp only [Option.some.injEq, Prod.mk.injEq] at h
    obtain ⟨rfl, rfl⟩ := h
    exact ⟨rfl, fun hp => ⟨hp, PC.find_den hp hf⟩⟩
  · split at h
    · rename_i b' hf
      simp only [Option.some.injEq, Prod.mk.injEq] at h
      obtain ⟨rfl, rfl⟩ := h
      exact ⟨rfl, fun hp => ⟨hp, PC.known_den hp hf⟩⟩
    · split at h
      · cases h
      · simp only [Option.some.injEq, Prod.mk.injEq] at h
        obtain ⟨rfl, rfl⟩ := h
        exact ⟨rfl, fun hp => ⟨PC.holds_tail hp, hp _ (List.mem_cons_self ..)⟩⟩
theorem dec_sound : ∀ {e : SB} {s s' : St} {b : Bool}, dec s e = some (b, s') → s'.h = s.h ∧ (s'.pc.holds V → s.pc.holds V ∧ e.den V = b)
  | .lit c, s, s', b, h => by
    simp only [dec, Option.some.injEq, Prod.mk.injEq] at h
    obtain ⟨rfl, rfl⟩ := h
    exact ⟨rfl, fun hp => ⟨hp, rfl⟩⟩
  | .not a, s, s', b, h => by
    simp only [dec] at h
    split at h
    case h_2 => cases h
    rename_i c s1 h1
    simp only [Option.some.injEq, Prod.mk.injEq] at h
    obtain ⟨rfl, rfl⟩ := h
    obtain ⟨k1, k2⟩ := dec_sound (e := a) h1
    exact ⟨k1, fun hp => ⟨(k2 hp).1, by simp [SB.den, (k2 hp).2]⟩⟩
  | .and a c, s, s', b, h => by
    simp only [dec] at h
    split at h
    · rename_i s1 h1
      obtain ⟨k1, k2⟩ := dec_sound (e := a) h1
      obtain ⟨m1, m2⟩ := dec_sound (e := c) h
      exact ⟨m1.trans k1, fun hp => ⟨(k2 (m2 hp).1).1, by simp [SB.den, (k2 (m2 hp).1).2, (m2 hp).2]⟩⟩
    · rename_i s1 h1
      simp only [Option.some.injEq, Prod.mk.injEq] at h
      obtain ⟨rfl, rfl⟩ := h
      obtain ⟨k1, k2⟩ := dec_sound (e := a) h1
      exact ⟨k1, fun hp => ⟨(k2 hp).1, by simp [SB.den, (k2 hp).2]⟩⟩
    · cases h
  | .var i, s, s', b, h => decAtom_sound h
  | .cmp o x y, s, s', b, h => decAtom_sound h
  | .eq x y, s, s', b, h => decAtom_sound h

theorem forkN_sound {e : SE} : ∀ {n : Nat} {j : Int} {s s' : St}, forkN e n j s = some s' → s'.h = s.h ∧ (s'.pc.holds V → s.pc.holds V)
  | 0, j, s, s', h => by simp [forkN] at h
  | n + 1, j, s, s', h => by
    simp only [forkN] at h
    split at h
    · rename_i s1 h1
      cases h
      obtain ⟨k1, k2⟩ := decAtom_sound (V := V) h1
      exact ⟨k1, fun hp => (k2 hp).1⟩
    · rename_i s1 h1
      obtain ⟨k1, k2⟩ := decAtom_sound (V := V) h1
      obtain ⟨k3, k4⟩ := forkN_sound h
      exact ⟨k3.trans k1, fun hp => (k2 (k4 hp)).1⟩
    · cases h
theorem forkV_sound {s s' : St} {v : Option SV} {n : Nat} (h : forkV s v n = some s') : s'.h = s.h ∧ (s'.pc.holds V → s.pc.holds V) := by
  unfold forkV at h
  split at h
  · cases h; exact ⟨rfl, id⟩
  · split at h
    · cases h; exact ⟨rfl, id⟩
    · exact forkN_sound h
  · cases h; exact ⟨rfl, id⟩
theorem forkO_sound {rd : X → Option SV} {s s' : St} {x : Option X} {n : Nat} (h : forkO rd s x n = some s') : s'.h = s.h ∧ (s'.pc.holds V → s.pc.holds V) := by
  unfold forkO at h
  split at h
  · cases h; exact ⟨rfl, id⟩
  · exact forkV_sound h
theorem forkM_sound {rd : X → Option SV} {s s' : St} {x y : X} (h : forkM rd s x y = some s') : s'.h = s.h ∧ (s'.pc.holds V → s.pc.holds V) := by
  unfold forkM at h
  split at h
  · split at h
    · rename_i b s1 h1
      cases h
      obtain ⟨k1, k2⟩ := dec_sound (V := V) h1
      exact ⟨k1, fun hp => (k2 hp).1⟩
    · cases h
  · cases h; exact ⟨rfl, id⟩
theorem forkC_sound {rd : X → Option SV} {s s' : St} {k : IntKind} {x : X} (h : forkC rd s k x = some s') : s'.h = s.h ∧ (s'.pc.holds V → s.pc.holds V) := by
  unfold forkC at h
  split at h
  · split at h
    · split at h
      · rename_i b s1 h1
        cases h
        obtain ⟨k1, k2⟩ := dec_sound (V := V) h1
        exact ⟨k1, fun hp => (k2 hp).1⟩
      · cases h
    · cases h; exact ⟨rfl, id⟩
  · cases h; exact ⟨rfl, id⟩
theorem forkP_sound {rd : X → Option SV} {s s' : St} {q : POp} (h : forkP rd s q = some s') : s'.h = s.h ∧ (s'.pc.holds V → s.pc.holds V) := by
  have kb : ∀ {e : SB} {r : Option St}, r = some s' → (r = match decAtom s e with | some (false, s'') => some s'' | _ => none) → s'.h = s.h ∧ (s'.pc.holds V → s.pc.holds V) := by
    intro e r hr hm
    rw [hr] at hm
    split at hm
    · rename_i s1 h1
      cases hm
      obtain ⟨k1, k2⟩ := decAtom_sound (V := V) h1
      exact ⟨k1, fun hp => (k2 hp).1⟩
    · cases hm
  unfold forkP at h
  split at h
  · exact forkV_sound h
  · exact forkV_sound h
  · split at h
    · rw [Bool.cond_eq_ite] at h
      split at h
      · cases h; exact ⟨rfl, id⟩
      · exact forkV_sound h
    · cases h; exact ⟨rfl, id⟩
  · split at h
    · exact forkV_sound h
    · cases h; exact ⟨rfl, id⟩
  · split at h
    · rename_i id' _ len' cap' _ _
      rw [Bool.cond_eq_ite] at h
      split at h
      · cases h; exact ⟨rfl, id⟩
      split at h
      · rename_i s1 h1
        obtain ⟨k1, k2⟩ := forkO_sound (V := V) h1
        obtain ⟨k3, k4⟩ := forkO_sound (V := V) h
        exact ⟨k3.trans k1, fun hp => k2 (k4 hp)⟩
      · cases h
    · cases h; exact ⟨rfl, id⟩
  · rename_i op x y
    cases h1 : isDiv op <;> simp only [h1, cond_true, cond_false] at h
    · cases h2 : isShift op <;> simp only [h2, cond_true, cond_false] at h
      · cases h; exact ⟨rfl, id⟩
      · split at h
        · rename_i k e h4
          cases h3 : notNegP s.pc e <;> simp only [h3, cond_true, cond_false] at h
          · exact kb h rfl
          · cases h; exact ⟨rfl, id⟩
        · cases h; exact ⟨rfl, id⟩
    · split at h
      · rename_i k e h4
        cases h3 : nonZeroP s.pc e <;> simp only [h3, cond_true, cond_false] at h
        · exact kb h rfl
        · cases h; exact ⟨rfl, id⟩
      · cases h; exact ⟨rfl, id⟩
  · exact forkM_sound h
  · exact forkM_sound h
  · exact forkC_sound h
  · cases h; exact ⟨rfl, id⟩

def GRel (G : Nat → Option Nat) (ι : Nat → Option Loc) : Prop := ∀ g id, G g = some id → ∃ l, ι id = some l ∧ l.blk = g ∧ l.off = 0
structure FrRel (V : Val) (ι : Nat → Option Loc) (fr : Fr) (a : Act) : Prop where
  size : a.tmps.size = fr.n
  defers : a.defers = []
  val : ∀ i, VRel V ι ((fr.t.get i).getD sundef) (a.tmps.getD i undef)
theorem FrRel.mono {ι' : Nat → Option Loc} (hm : ∀ id l, ι id = some l → ι' id = some l) {fr : Fr} {a : Act} (h : FrRel V ι fr a) : FrRel V ι' fr a :=
  ⟨h.size, h.defers, fun i => VRel.mono hm _ _ (h.val i)⟩
theorem GRel.mono {G : Nat → Option Nat} {ι' : Nat → Option Loc} (hm : ∀ id l, ι id = some l → ι' id = some l) (h : GRel G ι) : GRel G ι' :=
  fun g id hg => let ⟨l, h1, h2⟩ := h g id hg; ⟨l, hm _ _ h1, h2⟩
theorem FrRel.rd {fr : Fr} {a : Act} (h : FrRel V ι fr a) (hg : GRel C.G ι) : RdRel V ι (rdX C.G fr) a.eval := by
  intro x y v hx hv
  cases x with
  | tmp t =>
    simp only [cX, Option.some.injEq] at hx
    subst hx
    have := h.val t
    simp only [rdX] at hv
    split at hv
    · rename_i v' hgt
      cases hl : v'.isLost <;> simp only [hl, cond_true, cond_false] at hv
      · cases hv
        rw [hgt] at this
        exact this
      · cases hv
    · rename_i hgt
      cases hv
      rw [hgt] at this
      exact this
  | const c =>
    simp only [cX] at hx
    split at hx <;> simp at hx
    subst hx
    simp only [rdX, Option.some.injEq] at hv
    subst hv
    exact cval_rel ‹_›
  | func f =>
    simp only [cX, Option.some.injEq] at hx
    subst hx
    simp only [rdX, Option.some.injEq] at hv
    subst hv
    exact ⟨#[], #[], rfl, by simp [VRels], by simp [VRels]⟩
  | global g =>
    simp only [cX, Option.some.injEq] at hx
    subst hx
    simp only [rdX] at hv
    split at hv <;> simp at hv
    subst hv
    obtain ⟨l, h1, h2, h3⟩ := hg g _ ‹_›
    exact ⟨l, h1, by simp [Act.eval, h2, h3]⟩
theorem FrRel.put {fr fr' : Fr} {a : Act} (h : FrRel V ι fr a) {dst : Option Nat} {v : SV} {c : Value} (hv : VRel V ι v c) (hp : fr.put dst v = some fr') : FrRel V ι fr' (a.put dst c) := by
  unfold Fr.put at hp
  split at hp
  · cases hp; exact h
  · rename_i d
    cases hb : Nat.blt d fr.n <;> simp only [hb, cond_true, cond_false] at hp
    · cases hp
    split at hp
    case h_2 => cases hp
    rename_i t ht
    cases hp
    have hd := lt_of_blt hb
    refine ⟨by simpa [Act.put] using h.size, h.defers, fun i => ?_⟩
    simp only [Tr.get_set 48 _ _ _ _ ht i, Act.put]
    by_cases hi : i = d
    · subst hi
      have : i < a.tmps.size := by rw [h.size]; exact hd
      simp [this, hv]
    · rw [if_neg hi]
      have := h.val i
      simpa [Array.getElem?_setIfInBounds_ne (Ne.symm hi)] using this

def CallOK (P : Program) (V : Val) (B : Nat) (C : Cfg) (callF : Nat → List SV → St → Option (SV × St)) : Prop :=
  ∀ f args s v s', callF f args s = some (v, s') → s'.pc.holds V → s.pc.holds V ∧
    ∀ ι w cargs, VRels V ι args cargs → HRel V ι B s.h w → GRel C.G ι →
      (∀ w, (callFunc f cargs.toArray).run P w = .ok (.enter f cargs.toArray) w) ∧
      Calls P f cargs.toArray w fun e w' => ∃ c ι', e = .returned c ∧ VRel V ι' v c ∧ HRel V ι' B s'.h w' ∧ Ext ι s.h w ι' s'.h w'
end
end Go.Sx
