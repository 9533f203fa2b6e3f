/- The symbolic machine as a tree of decisions, written for the kernel: what lies ahead of a parting is run once; each operation's text by itself, so that a step turns little over. No condition: lemmas of the machine. -/
import Derived.Test.YtlgfmmccnilkmaaGreatDoorSyCode
namespace Go.Sx
set_option linter.unusedVariables false
set_option linter.unusedSimpArgs false

def retO (o : Option SV) (p : SP) : TT (SV × SP) := Option.casesOn o .fail fun v => .ret (v, p)
def ofM (p : SP) (o : Option (SV × Hp)) : TT (SV × SP) := Option.casesOn o .fail fun x => Prod.casesOn x fun v h' => .ret (v, ⟨h', p.pc⟩)

def atomD (pc : PC) (e : SB) (o : Option Bool) : TT (Bool × PC) := Option.casesOn o (.ask e (.ret (true, (e, true) :: pc)) (.ret (false, (e, false) :: pc))) fun b => .ret (b, pc)
def decAtomD (pc : PC) (e : SB) : TT (Bool × PC) := Option.casesOn (pc.find e) (atomD pc e (pc.known e)) fun b => .ret (b, pc)
noncomputable def notD (m : TT (Bool × PC)) : TT (Bool × PC) := m.bind fun x => .ret (!x.1, x.2)
noncomputable def andD (m : TT (Bool × PC)) (k : PC → TT (Bool × PC)) : TT (Bool × PC) := m.bind fun x => bif x.1 then k x.2 else .ret (false, x.2)
noncomputable def decD : SB → PC → TT (Bool × PC)
  | .lit b, pc => .ret (b, pc)
  | .not a, pc => notD (decD a pc)
  | .and a b, pc => andD (decD a pc) fun pc' => decD b pc'
  | .var i, pc => decAtomD pc (.var i)
  | .cmp o a b, pc => decAtomD pc (.cmp o a b)
  | .eq a b, pc => decAtomD pc (.eq a b)
noncomputable def forkND (e : SE) : Nat → Int → PC → TT PC
  | 0, _, _ => .fail
  | n + 1, j, pc => (decAtomD pc (.cmp .eql e (.lit j))).bind fun x => bif x.1 then .ret x.2 else forkND e n (j + 1) x.2
noncomputable def forkVD (pc : PC) (v : Option SV) (n : Nat) : TT PC :=
  match v with
  | some (.int _ (.lit _)) => .ret pc
  | some (.int _ e) => match pc.one e with
    | some _ => .ret pc
    | none => forkND (stripP pc e).1 n (stripP pc e).2 pc
  | _ => .ret pc
noncomputable def forkOD (rd : X → Option SV) (pc : PC) (x : Option X) (n : Nat) : TT PC :=
  match x with
  | none => .ret pc
  | some x => forkVD pc (rd x) n
def seqFill : Nat → List (Nat × Nat × SV) → Option (List SV)
  | _, [] => some []
  | o, (off, n, v) :: r => bif Nat.beq off o then bif Nat.beq v.cells.length n && !v.isLost then (match seqFill (Nat.add o n) r with
      | some l => some (List.append v.cells l)
      | none => none) else none else none
theorem fillV_seq : ∀ (r : List (Nat × Nat × SV)) (o : Nat) (cs cells : List SV), seqFill o r = some cs → o + cs.length ≤ cells.length → fillV cells r = some (cells.take o ++ cs ++ cells.drop (o + cs.length))
  | [], o, cs, cells, h, hl => by
    simp [seqFill] at h; subst h
    simp [fillV]
  | (off, n, v) :: r, o, cs, cells, h, hl => by
    unfold seqFill at h
    cases h1 : Nat.beq off o <;> simp only [h1, cond_true, cond_false] at h
    · cases h
    cases h2 : (Nat.beq v.cells.length n && !v.isLost) <;> simp only [h2, cond_true, cond_false] at h
    · cases h
    split at h
    case h_2 => cases h
    rename_i l hs
    cases h
    simp only [Bool.and_eq_true] at h2
    obtain ⟨h2, hnl⟩ := h2
    obtain rfl := Nat.eq_of_beq_eq_true h1
    obtain rfl := Nat.eq_of_beq_eq_true h2
    have hs : seqFill (off + v.cells.length) r = some l := hs
    have e0 : List.append v.cells l = v.cells ++ l := rfl
    rw [e0] at hl ⊢
    simp only [List.length_append] at hl ⊢
    have hb : Nat.ble (off + v.cells.length) cells.length = true := Nat.ble_eq_true_of_le (by omega)
    unfold fillV
    simp only [h2, hb, hnl, Bool.and_self, cond_true]
    have hlen : (cells.take off ++ v.cells ++ cells.drop (off + v.cells.length)).length = cells.length := by
      simp only [List.length_append, List.length_take, List.length_drop]; omega
    rw [fillV_seq r _ l _ hs (by rw [hlen]; omega)]
    have a1 : (cells.take off ++ v.cells).length = off + v.cells.length := by simp only [List.length_append, List.length_take]; omega
    have a2 : (cells.take off ++ v.cells ++ cells.drop (off + v.cells.length)).take (off + v.cells.length) = cells.take off ++ v.cells := by
      rw [List.take_append_of_le_length (by omega), List.take_of_length_le (by omega)]
    have a3 : (cells.take off ++ v.cells ++ cells.drop (off + v.cells.length)).drop (off + v.cells.length + l.length) = cells.drop (off + (v.cells.length + l.length)) := by
      rw [List.drop_append, List.drop_of_length_le (by omega), List.nil_append, List.drop_drop, a1]
      congr 1; omega
    rw [a2, a3]
    simp only [List.append_assoc]
def fillQ (zero : List SV) (len : Nat) (l : List (Nat × Nat × SV)) : Option (List SV) := match seqFill 0 l with
  | some cs => bif Nat.beq cs.length (Nat.mul len zero.length) then some cs else fillV (repL zero len) l
  | none => fillV (repL zero len) l
theorem fillQ_eq (zero : List SV) (len : Nat) (l : List (Nat × Nat × SV)) : fillQ zero len l = fillV (repL zero len) l := by
  unfold fillQ
  split
  · rename_i cs hs
    cases hb : Nat.beq cs.length (Nat.mul len zero.length) <;> simp only [cond_true, cond_false]
    have e : cs.length = len * zero.length := Nat.eq_of_beq_eq_true hb
    have hl : (repL zero len).length = cs.length := by rw [repL_length, e]
    rw [fillV_seq l 0 cs _ hs (by omega)]
    simp only [List.take_zero, List.nil_append, Nat.zero_add]
    rw [List.drop_of_length_le (by omega), List.append_nil]
  · rfl
section
variable (rd : X → Option SV)
def o_mv (pc : PC) (x : X) : Option SV := rd x
def o_build (pc : PC) (zero : List SV) (fills : List (Nat × Nat × X)) : Option SV := match readFills rd fills with
    | some l => match fillV zero l with
      | some cs => some (.agg cs)
      | none => none
    | none => none
def o_nilCheck (pc : PC) (x : X) : Option SV := match rd x with
    | some (.ptr id o) => some (.ptr id o)
    | some (.iface t v) => some (.iface t v)
    | some (.func (.func f) a b) => some (.func (.func f) a b)
    | _ => none
def o_bin (pc : PC) (cls : Nat) (op : BinOp) (x : X) (y : X) : Option SV := match rd x, rd y with
    | some a, some b => evBin pc op cls a b
    | _, _ => none
def o_nilEq (pc : PC) (cls : Nat) (neg : Bool) (x : X) (y : X) : Option SV := match rd x, rd y with
    | some a, some b => match isNil cls a, isNil cls b with
      | some true, some c => some (.bool (.lit (neg != c)))
      | some c, some true => some (.bool (.lit (neg != c)))
      | _, _ => none
    | _, _ => none
def o_un (pc : PC) (op : UnOp) (x : X) : Option SV := match op, rd x with
    | .neg, some (.int k a) => some (.int k (mkBin .sub k (.lit 0) a))
    | .xor, some (.int k a) => some (.int k (mkBin .xor k (.lit (if k.signed then -1 else k.max)) a))
    | .not, some (.bool b) => some (.bool (mkNot b))
    | _, _ => none
def o_conv (pc : PC) (k : IntKind) (x : X) : Option SV := match rd x with
    | some (.int _ a) => some (.int k (cvP pc k a))
    | _ => none
def o_mkIface (pc : PC) (t : Nat) (x : X) : Option SV := match rd x with
    | some v => some (.iface t v)
    | none => none
def o_mkFunc (pc : PC) (f : Nat) (first : List X) (caps : List X) : Option SV := match readAll rd first, readAll rd caps with
    | some a, some b => some (.func (.func f) a b)
    | _, _ => none
def o_slice (pc : PC) (sz : Nat) (x : X) (lo : Option X) (hi : Option X) : Option SV := match rd x, readOpt rd lo, readOpt rd hi with
    | some (.slice id o len cap sz'), some lo, some hi => match optNatP pc lo 0, optNatP pc hi len with
      | some l, some h => bif Nat.beq sz sz' && Nat.ble h cap && Nat.ble l h then some (.slice id (o + l * sz) (h - l) (cap - l) sz) else none
      | _, _ => symS pc id o len sz sz' lo hi
    | some .nilSlice, some lo, some hi => match optNatP pc lo 0, optNatP pc hi 0 with
      | some 0, some 0 => some .nilSlice
      | _, _ => none
    | _, _, _ => none
def o_fieldAddr (pc : PC) (off : Nat) (x : X) : Option SV := match rd x with
    | some (.ptr id o) => some (.ptr id (o + off))
    | _ => none
def o_field (pc : PC) (agg : Bool) (off : Nat) (n : Nat) (x : X) : Option SV := match rd x with
    | some (.agg cs) => partV agg off n cs
    | _ => none
def o_idxArr (pc : PC) (n : Nat) (sz : Nat) (x : X) (i : X) : Option SV := match rd x, rd i with
    | some (.ptr id o), some j => match litNatP pc j with
      | some k => bif Nat.blt k n then some (.ptr id (o + k * sz)) else none
      | none => none
    | _, _ => none
def o_idxSl (pc : PC) (sz : Nat) (x : X) (i : X) : Option SV := match rd x, rd i with
    | some (.slice id o len _ sz'), some j => match litNatP pc j with
      | some k => bif Nat.blt k len && Nat.beq sz sz' then some (.ptr id (o + k * sz)) else none
      | none => symX pc id o len sz sz' j
    | some (.xsl id n), some (.int _ e) => bif inX pc e n then some (.xptr id e n sz 0) else none
    | some (.vsl id e n sz' o), some j => symI pc id e n sz o sz' j
    | _, _ => none
def o_index (pc : PC) (agg : Bool) (n : Nat) (sz : Nat) (x : X) (i : X) : Option SV := match rd x, rd i with
    | some (.agg cs), some j => match litNatP pc j with
      | some k => bif Nat.blt k n then partV agg (k * sz) sz cs else none
      | none => none
    | _, _ => none
def o_extract (pc : PC) (i : Nat) (x : X) : Option SV := match rd x with
    | some (.tuple vs) => vs[i]?
    | _ => none
def o_idxStr (pc : PC) (x : X) (i : X) : Option SV := match rd x, rd i with
    | some (.str s), some j => match litNatP pc j with
      | some k => match s.data.toList[k]? with
        | some b => some (.int .u8 (.lit (.ofNat b.toNat)))
        | none => none
      | none => none
    | _, _ => none
def o_lenS (pc : PC) (x : X) : Option SV := match rd x with
    | some (.xsl _ n) => some (.int .i64 n)
    | some (.slice _ _ len _ _) => some (.int .i64 (.lit (.ofNat len)))
    | some .nilSlice => some (.int .i64 (.lit 0))
    | _ => none
def o_lenStr (pc : PC) (x : X) : Option SV := match rd x with
    | some (.str s) => some (.int .i64 (.lit (.ofNat s.data.toList.length)))
    | _ => none
def o_lenN (pc : PC) (n : Nat) : Option SV := some (.int .i64 (.lit (.ofNat n)))
def o_tyAs (pc : PC) (t : Nat) (ok : Bool) (zero : SV) (x : X) : Option SV := match rd x with
    | some .nilIface => bif ok then some (.tuple [zero, .bool (.lit false)]) else none
    | some (.iface u v) => bif Nat.beq u t then (bif ok then some (.tuple [v, .bool (.lit true)]) else some v)
      else (bif ok then some (.tuple [zero, .bool (.lit false)]) else none)
    | _ => none
def o_mx (pc : PC) (x : X) (y : X) : Option SV := match rd x, rd y with
    | some (.int k a), some (.int _ b) => mxV pc k a b b a
    | _, _ => none
def o_mn (pc : PC) (x : X) (y : X) : Option SV := match rd x, rd y with
    | some (.int k a), some (.int _ b) => mxV pc k a b a b
    | _, _ => none
noncomputable def fd_idxSl (h : Hp) (pc : PC) (x i : X) : TT PC := match rd x with
    | some (.slice id _ len _ _) => bif bigB h id && inXV pc (rd i) len then .ret pc else forkVD pc (rd i) len
    | _ => .ret pc
noncomputable def fd_idxStr (pc : PC) (x i : X) : TT PC := match rd x with
    | some (.str b) => forkVD pc (rd i) b.size
    | _ => .ret pc
noncomputable def fd_slice (h : Hp) (pc : PC) (x : X) (lo hi : Option X) : TT PC := match rd x with
    | some (.slice id _ len cap _) => bif bigB h id && inXO rd pc lo hi len then .ret pc else (forkOD rd pc lo (cap + 1)).bind fun pc' => forkOD rd pc' hi (cap + 1)
    | _ => .ret pc
noncomputable def falseD (m : TT (Bool × PC)) : TT PC := m.bind fun x => bif x.1 then .fail else .ret x.2
noncomputable def fd_div (pc : PC) (y : X) : TT PC := match rd y with
      | some (.int _ e) => bif nonZeroP pc e then .ret pc else falseD (decAtomD pc (.cmp .eql e (.lit 0)))
      | _ => .ret pc
noncomputable def fd_shift (pc : PC) (y : X) : TT PC := match rd y with
      | some (.int _ e) => bif notNegP pc e then .ret pc else falseD (decAtomD pc (.cmp .lss e (.lit 0)))
      | _ => .ret pc
noncomputable def fd_bin (pc : PC) (cls : Nat) (op : BinOp) (y : X) : TT PC :=
  bif Nat.beq cls 0 then bif isDiv op then fd_div rd pc y else bif isShift op then fd_shift rd pc y else .ret pc else .ret pc
noncomputable def fd_mx (pc : PC) (x y : X) : TT PC := match rd x, rd y with
    | some (.int _ a), some (.int _ b) => (decD (mkCmp .lss a b) pc).bind fun x => .ret x.2
    | _, _ => .ret pc
noncomputable def fd_conv (pc : PC) (k : IntKind) (x : X) : TT PC := match rd x with
    | some (.int _ a) => match forkE k a with
      | some q => (decD q pc).bind fun x => .ret x.2
      | none => .ret pc
    | _ => .ret pc
noncomputable def thenD (h : Hp) (o : TT PC) (k : PC → Option SV) : TT (SV × SP) := o.bind fun pc => retO (k pc) ⟨h, pc⟩
noncomputable def popD (p : SP) (q : POp) : TT (SV × SP) := POp.casesOn q
  (fun x => retO (rd x) p)
  (fun zero fills => retO (o_build rd p.pc zero fills) p)
  (fun x => retO (o_nilCheck rd p.pc x) p)
  (fun cls op x y => thenD p.h (fd_bin rd p.pc cls op y) fun pc => o_bin rd pc cls op x y)
  (fun cls neg x y => retO (o_nilEq rd p.pc cls neg x y) p)
  (fun op x => retO (o_un rd p.pc op x) p)
  (fun k x => thenD p.h (fd_conv rd p.pc k x) fun pc => o_conv rd pc k x)
  (fun t x => retO (o_mkIface rd p.pc t x) p)
  (fun f first caps => retO (o_mkFunc rd p.pc f first caps) p)
  (fun sz x lo hi => thenD p.h (fd_slice rd p.h p.pc x lo hi) fun pc => o_slice rd pc sz x lo hi)
  (fun off x => retO (o_fieldAddr rd p.pc off x) p)
  (fun agg off n x => retO (o_field rd p.pc agg off n x) p)
  (fun n sz x i => thenD p.h (forkVD p.pc (rd i) n) fun pc => o_idxArr rd pc n sz x i)
  (fun sz x i => thenD p.h (fd_idxSl rd p.h p.pc x i) fun pc => o_idxSl rd pc sz x i)
  (fun agg n sz x i => thenD p.h (forkVD p.pc (rd i) n) fun pc => o_index rd pc agg n sz x i)
  (fun i x => retO (o_extract rd p.pc i x) p)
  (fun x i => thenD p.h (fd_idxStr rd p.pc x i) fun pc => o_idxStr rd pc x i)
  (fun x => retO (o_lenS rd p.pc x) p)
  (fun x => retO (o_lenStr rd p.pc x) p)
  (fun n => retO (o_lenN p.pc n) p)
  (fun t ok zero x => retO (o_tyAs rd p.pc t ok zero x) p)
  (fun x y => thenD p.h (fd_mx rd p.pc x y) fun pc => o_mx rd pc x y)
  (fun x y => thenD p.h (fd_mx rd p.pc x y) fun pc => o_mn rd pc x y)

def m_load (h : Hp) (ag : Bool) (n : Nat) (x : X) : Option (SV × Hp) := match rd x with
    | some (.xptr id e k m o) => ldx h ag n id e k m o
    | some (.ptr id o) => match ldc h id o n with
      | some vs => bif ag then some (.agg vs, h) else (match vs with | [v] => some (v, h) | _ => none)
      | none => none
    | _ => none
def m_slarr (h : Hp) (n : Nat) (sz : Nat) (x : X) (lo : Option X) (hi : Option X) : Option (SV × Hp) := match rd x, readOpt rd lo, readOpt rd hi with
    | some (.ptr id o), some lo, some hi => match optNat lo 0, optNat hi n, ldc h id o (n * sz) with
      | some l, some k, some _ => bif Nat.ble k n && Nat.ble l k then some (.slice id (o + l * sz) (k - l) (n - l) sz, h) else none
      | _, _, _ => none
    | _, _, _ => none
def m_ptrEq (h : Hp) (neg : Bool) (x : X) (y : X) : Option (SV × Hp) := match rd x, rd y with
    | some x, some y => match samePtr h x y with
      | some b => some (.bool (.lit (neg != b)), h)
      | none => none
    | _, _ => none
def m_ifEq (h : Hp) (neg : Bool) (lit : Bool) (ts : List Nat) (x : X) (y : X) : Option (SV × Hp) := match rd x, rd y with
    | some x, some y => match sameIf h lit ts x y with
      | some b => some (.bool (.lit (neg != b)), h)
      | none => none
    | _, _ => none
def m_newC (h : Hp) (cs : List SV) : Option (SV × Hp) := match nwo h cs with
    | some h' => some (.ptr h.sz 0, h')
    | none => none
def m_box (h : Hp) (n : Nat) (x : X) : Option (SV × Hp) := match rd x with
    | some v => bif Nat.beq v.cells.length n && !v.isLost then (match nwo h v.cells with | some h' => some (.ptr h.sz 0, h') | none => none) else none
    | none => none
def m_mkArr (h : Hp) (sz : Nat) (len : Nat) (zero : List SV) (fills : List (Nat × Nat × X)) : Option (SV × Hp) := match readFills rd fills with
    | some l => match fillQ zero len l with
      | some cs => match nwo h cs with | some h' => some (.slice h.sz 0 len len sz, h') | none => none
      | none => none
    | none => none
def m_mkSl (h : Hp) (sz : Nat) (by' : Nat) (zero : List SV) (l : X) (c : X) : Option (SV × Hp) := match rd l, rd c with
    | some l, some c => match litNat l, litNat c with
      | some l, some c => bif Nat.ble l c && Nat.ble c most && Nat.ble (by' * c) most then (match nwo h (repL zero c) with | some h' => some (.slice h.sz 0 l c sz, h') | none => none) else none
      | _, _ => none
    | _, _ => none
def m_store (h : Hp) (n : Nat) (a : X) (x : X) : Option (SV × Hp) := match rd a, rd x with
    | some (.ptr id o), some v => bif Nat.beq v.cells.length n && !v.isLost then (match stc h id o v.cells with | some h' => some (sundef, h') | none => none) else none
    | _, _ => none
def m_append (h : Hp) (sz : Nat) (by' : Nat) (s : X) (x : X) : Option (SV × Hp) := match rd s, rd x with
    | some s, some x => appendV h sz by' s x
    | _, _ => none
def m_copy (h : Hp) (sz : Nat) (d : X) (s : X) : Option (SV × Hp) := match rd d, rd s with
    | some (.slice id o len cap sz'), some s => match srcOf h sz s with
      | some (n, vs) => bif Nat.beq sz sz' && !(Nat.beq (Nat.min n len) 0) then (match stc h id o (vs.take (Nat.min n len * sz)) with
        | some h' => some (.int .i64 (.lit (.ofNat (Nat.min n len))), h')
        | none => none) else none
      | none => none
    | _, _ => none
def m_clear (h : Hp) (sz : Nat) (zero : List SV) (x : X) : Option (SV × Hp) := match rd x with
    | some .nilSlice => some (.tuple [], h)
    | some (.slice id o len cap sz') => bif Nat.beq len 0 then some (.tuple [], h)
      else bif Nat.beq sz sz' then (match stc h id o (repL zero len) with | some h' => some (.tuple [], h') | none => none) else none
    | _ => none
noncomputable def pickD (p : SP) (c a b : X) : TT (SV × SP) := match rd c with
    | some (.bool e) => (decD e p.pc).bind fun x => retO (rd (bif x.1 then a else b)) ⟨p.h, x.2⟩
    | _ => .fail
def callD (callF : Nat → List SV → SP → TT (SV × SP)) (p : SP) (f : X) (args : List X) : TT (SV × SP) := match rd f, readAll rd args with
    | some (.func (.func g) first caps), some vs => callF g (first ++ vs ++ caps) p
    | _, _ => .fail
noncomputable def evOpD (callF : Nat → List SV → SP → TT (SV × SP)) (p : SP) (q : AOp) : TT (SV × SP) := AOp.casesOn q
  (fun q => popD rd p q)
  (fun c a b => pickD rd p c a b)
  (fun ag n x => ofM p (m_load rd p.h ag n x))
  (fun n sz x lo hi => ofM p (m_slarr rd p.h n sz x lo hi))
  (fun neg x y => ofM p (m_ptrEq rd p.h neg x y))
  (fun neg lit ts x y => ofM p (m_ifEq rd p.h neg lit ts x y))
  (fun cs => ofM p (m_newC p.h cs))
  (fun n x => ofM p (m_box rd p.h n x))
  (fun sz len zero fills => ofM p (m_mkArr rd p.h sz len zero fills))
  (fun sz by' zero l c => ofM p (m_mkSl rd p.h sz by' zero l c))
  (fun n a x => ofM p (m_store rd p.h n a x))
  (fun sz by' s' x => ofM p (m_append rd p.h sz by' s' x))
  (fun sz d s' => ofM p (m_copy rd p.h sz d s'))
  (fun sz zero x => ofM p (m_clear rd p.h sz zero x))
  (ofM p (m_mkMap p.h))
  (fun kk ok z m i => ofM p (m_mget rd p.h kk ok z m i))
  (fun kk m i x => ofM p (m_mset rd p.h kk m i x))
  (fun f args => callD rd callF p f args)
  .fail
end

section
variable (C : Cfg) (callF : Nat → List SV → SP → TT (SV × SP))
noncomputable def guardD (fr : Fr) (p : SP) (g : Nat × Bool) : TT (Bool × SP) := match rdX C.G fr (.t g.1) with
    | some (.bool e) => (decD e p.pc).bind fun x => .ret (x.1 == g.2, ⟨p.h, x.2⟩)
    | some _ => .ret (false, p)
    | none => .fail
noncomputable def evGuardD (fr : Fr) (p : SP) (g : Option (Nat × Bool)) : TT (Bool × SP) := Option.casesOn g (.ret (true, p)) fun g => guardD C fr p g
noncomputable def opPutD (ih : Fr → SP → TT (Fr × SP)) (fr : Fr) (dst : Option Nat) (m : TT (SV × SP)) : TT (Fr × SP) := m.bind fun x => Option.casesOn (fr.put dst x.1) .fail fun fr' => ih fr' x.2
noncomputable def opNotD (ih : Fr → SP → TT (Fr × SP)) (fr : Fr) (dst : Option Nat) (p : SP) : TT (Fr × SP) := Option.casesOn (fr.put dst sundef) .fail fun fr' => ih fr' p
noncomputable def opGD (ih : Fr → SP → TT (Fr × SP)) (fr : Fr) (o : AOper) (m : TT (Bool × SP)) : TT (Fr × SP) := m.bind fun x => Bool.casesOn x.1 (opNotD ih fr o.dst x.2) (opPutD ih fr o.dst (evOpD (rdX C.G fr) callF x.2 o.op))
noncomputable def opStepD (o : AOper) (ih : Fr → SP → TT (Fr × SP)) (fr : Fr) (p : SP) : TT (Fr × SP) :=
  Option.casesOn o.guard (opPutD ih fr o.dst (evOpD (rdX C.G fr) callF p o.op)) fun g => opGD C callF ih fr o (guardD C fr p g)
noncomputable def evOpsD (os : List AOper) : Fr → SP → TT (Fr × SP) := List.rec (motive := fun _ => Fr → SP → TT (Fr × SP)) (fun fr p => .ret (fr, p)) (fun o _ ih fr p => opStepD C callF o ih fr p) os
structure RecD where
  fr : Fr
  h : Hp
  g : Bool
  v : SV
noncomputable def trPutD (fr : Fr) (h : Hp) (b : Bool) (dst : Option Nat) (v : SV) (ih : Fr → SP → TT (List RecD × Fr × SP)) (p2 : SP) : TT (List RecD × Fr × SP) :=
  Option.casesOn (fr.put dst v) .fail fun fr' => (ih fr' p2).bind fun x => .ret (⟨fr, h, b, v⟩ :: x.1, x.2.1, x.2.2)
noncomputable def trOpD (ih : Fr → SP → TT (List RecD × Fr × SP)) (fr : Fr) (h : Hp) (dst : Option Nat) (m : TT (SV × SP)) : TT (List RecD × Fr × SP) := m.bind fun x => bif Nat.ble h.sz x.2.h.sz then trPutD fr h true dst x.1 ih x.2 else .fail
noncomputable def trStepD (o : AOper) (ih : Fr → SP → TT (List RecD × Fr × SP)) (fr : Fr) (p : SP) : TT (List RecD × Fr × SP) :=
  (evGuardD C fr p o.guard).bind fun x => Bool.casesOn x.1 (trPutD fr p.h false o.dst sundef ih x.2) (bif youngOK (rdX C.G fr) p.h.sz o.op then trOpD ih fr p.h o.dst (evOpD (rdX C.G fr) callF x.2 o.op) else .fail)
noncomputable def evTrD (os : List AOper) : Fr → SP → TT (List RecD × Fr × SP) := List.rec (motive := fun _ => Fr → SP → TT (List RecD × Fr × SP)) (fun fr p => .ret ([], fr, p)) (fun o _ ih fr p => trStepD C callF o ih fr p) os
def heapAtD (rs : List RecD) (fin : Hp) (i : Nat) : Hp := match rs[i]? with | some r => r.h | none => fin
def chk1D (q : AOp) (r : RecD) (h : Hp) : Bool := allYoung (rdX C.G r.fr) h.sz q && (match evM (rdX C.G r.fr) h q with | some (v, _) => v.same r.v | none => false)
def chksD (all : List RecD) (fin : Hp) : List (AOper × List Nat) → List RecD → Bool
  | [], [] => true
  | (o, l) :: os, r :: rs => (!r.g || l.all fun e => chk1D C o.op r (heapAtD all fin e) && chk1D C o.op r (heapAtD all fin (e + 1))) && chksD all fin os rs
  | _, _ => false
noncomputable def evDrawD (ops : List (AOper × List Nat)) (fr : Fr) (p : SP) : TT (Fr × SP) := (evTrD C callF (fsts ops) fr p).bind fun x => bif chksD C x.1 x.2.2.h ops x.1 then .ret (x.2.1, x.2.2) else .fail
end
section
variable (C : Cfg) (ih : ACode → Fr → SP → TT (Ex × Fr × SP))
noncomputable def resD (af : AFunc) (x : Ex × Fr × SP) : TT (SV × SP) := match x.1 with
  | .exit _ => .fail
  | _ => Option.casesOn (evRess C.G x.2.1 x.2.2.h af.res) .fail fun vs => .ret (packRes vs, x.2.2)
noncomputable def callAF (af : AFunc) (args : List SV) (p : SP) : TT (SV × SP) := bif Nat.ble args.length af.ntmps then Option.casesOn (enterT args 0 .e) .fail fun t => (ih af.body ⟨af.ntmps, t⟩ p).bind fun x => resD C af x else .fail
noncomputable def evCallD (f : Nat) (args : List SV) (p : SP) : TT (SV × SP) := Option.casesOn (C.S f args p) (Option.casesOn (C.F f) .fail fun af => callAF C ih af args p) fun m => m
noncomputable def d_norm (m : TT (Fr × SP)) : TT (Ex × Fr × SP) := m.bind fun x => .ret (.normal, x.1, x.2)
noncomputable def d_seq (a b : ACode) (fr : Fr) (p : SP) : TT (Ex × Fr × SP) := (ih a fr p).bind fun x => Ex.casesOn x.1 (ih b x.2.1 x.2.2) (fun _ => .ret x) (.ret x)
noncomputable def d_cond (c : X) (a b : ACode) (fr : Fr) (p : SP) : TT (Ex × Fr × SP) := match rdX C.G fr c with
      | some (.bool e) => (decD e p.pc).bind fun x => ih (bif x.1 then a else b) fr ⟨p.h, x.2⟩
      | _ => .fail
noncomputable def d_block (id : Nat) (c : ACode) (fr : Fr) (p : SP) : TT (Ex × Fr × SP) := (ih c fr p).bind fun x => Ex.casesOn x.1 (.ret x) (fun k => bif Nat.beq k id then .ret (.normal, x.2.1, x.2.2) else .ret x) (.ret x)
noncomputable def d_loop (c : ACode) (fr : Fr) (p : SP) : TT (Ex × Fr × SP) := Option.casesOn (C.L c fr p) ((ih c fr p).bind fun x => Ex.casesOn x.1 (ih (.loop c) x.2.1 x.2.2) (fun _ => .ret x) (.ret x)) fun m => m
noncomputable def codeD (c : ACode) (fr : Fr) (p : SP) : TT (Ex × Fr × SP) := ACode.casesOn c (.ret (.normal, fr, p)) (fun ops => d_norm (evOpsD C (evCallD C ih) ops fr p)) (fun ops => d_norm (evDrawD C (evCallD C ih) ops fr p))
  (fun a b => d_seq ih a b fr p) (fun c a b => d_cond C ih c a b fr p) (fun id c => d_block ih id c fr p) (fun c => d_loop C ih c fr p) (fun id => .ret (.exit id, fr, p)) (.ret (.ret, fr, p))
end
noncomputable def evCodeD (C : Cfg) (n : Nat) : ACode → Fr → SP → TT (Ex × Fr × SP) := Nat.rec (motive := fun _ => ACode → Fr → SP → TT (Ex × Fr × SP)) (fun _ _ _ => .fail) (fun _ ih c fr p => codeD C ih c fr p) n
noncomputable def evFnD (C : Cfg) (n : Nat) (f : Nat) (args : List SV) (p : SP) : TT (SV × SP) := evCallD C (evCodeD C n) f args p

theorem retO_run {o : Option SV} {p p' : SP} {v : SV} {l l' : List Bool} (h : runO (retO o p) l = some ((v, p'), l')) : o = some v ∧ p' = p ∧ l' = l := by
  cases o with
  | none => simp [retO, runO] at h
  | some x => simp [retO, runO] at h; obtain ⟨⟨rfl, rfl⟩, rfl⟩ := h; exact ⟨rfl, rfl, rfl⟩
theorem decAtomD_sim {h : Hp} {pc pc' : PC} {e : SB} {b : Bool} {o o' : List Bool} (hr : runO (decAtomD pc e) o = some ((b, pc'), o')) : decAtom ⟨h, o, pc⟩ e = some (b, ⟨h, o', pc'⟩) := by
  unfold decAtomD at hr
  unfold decAtom
  simp only
  cases hf : pc.find e with
  | some x =>
    simp only [hf, runO, Option.some.injEq, Prod.mk.injEq] at hr
    obtain ⟨⟨rfl, rfl⟩, rfl⟩ := hr
    rfl
  | none =>
    simp only [hf, atomD] at hr
    cases hk : pc.known e with
    | some x =>
      simp only [hk, runO, Option.some.injEq, Prod.mk.injEq] at hr
      obtain ⟨⟨rfl, rfl⟩, rfl⟩ := hr
      rfl
    | none =>
      simp only [hk] at hr
      cases o with
      | nil => simp [runO] at hr
      | cons d o =>
        cases d <;> simp only [runO, Option.some.injEq, Prod.mk.injEq] at hr <;> obtain ⟨⟨rfl, rfl⟩, rfl⟩ := hr <;> rfl
theorem decD_sim {h : Hp} : ∀ {e : SB} {pc pc' : PC} {b : Bool} {o o' : List Bool}, runO (decD e pc) o = some ((b, pc'), o') → dec ⟨h, o, pc⟩ e = some (b, ⟨h, o', pc'⟩)
  | .lit c, pc, pc', b, o, o', hr => by
    simp only [decD, runO, Option.some.injEq, Prod.mk.injEq] at hr
    obtain ⟨⟨rfl, rfl⟩, rfl⟩ := hr
    rfl
  | .not a, pc, pc', b, o, o', hr => by
    unfold decD notD at hr
    obtain ⟨⟨x, pc1⟩, o1, h1, h2⟩ := runO_bind hr
    simp only [runO, Option.some.injEq, Prod.mk.injEq] at h2
    obtain ⟨⟨rfl, rfl⟩, rfl⟩ := h2
    simp only [dec, decD_sim h1]
  | .and a c, pc, pc', b, o, o', hr => by
    unfold decD andD at hr
    obtain ⟨⟨x, pc1⟩, o1, h1, h2⟩ := runO_bind hr
    cases x <;> simp only [cond_true, cond_false] at h2
    · simp only [runO, Option.some.injEq, Prod.mk.injEq] at h2
      obtain ⟨⟨rfl, rfl⟩, rfl⟩ := h2
      simp only [dec, decD_sim h1]
    · simp only [dec, decD_sim h1, decD_sim h2]
  | .var i, pc, pc', b, o, o', hr => decAtomD_sim hr
  | .cmp op x y, pc, pc', b, o, o', hr => decAtomD_sim hr
  | .eq x y, pc, pc', b, o, o', hr => decAtomD_sim hr
theorem forkND_sim {h : Hp} {e : SE} : ∀ {n : Nat} {j : Int} {pc pc' : PC} {o o' : List Bool}, runO (forkND e n j pc) o = some (pc', o') → forkN e n j ⟨h, o, pc⟩ = some ⟨h, o', pc'⟩
  | 0, j, pc, pc', o, o', hr => by simp [forkND, runO] at hr
  | n + 1, j, pc, pc', o, o', hr => by
    unfold forkND at hr
    obtain ⟨⟨x, pc1⟩, o1, h1, h2⟩ := runO_bind hr
    cases x <;> simp only [cond_true, cond_false] at h2
    · simp only [forkN, decAtomD_sim (h := h) h1, forkND_sim (h := h) h2]
    · simp only [runO, Option.some.injEq, Prod.mk.injEq] at h2
      obtain ⟨rfl, rfl⟩ := h2
      simp only [forkN, decAtomD_sim (h := h) h1]
theorem forkVD_sim {h : Hp} {v : Option SV} {n : Nat} {pc pc' : PC} {o o' : List Bool} (hr : runO (forkVD pc v n) o = some (pc', o')) : forkV ⟨h, o, pc⟩ v n = some ⟨h, o', pc'⟩ := by
  have key : ∀ e : SE, runO (match pc.one e with | some _ => .ret pc | none => forkND (stripP pc e).1 n (stripP pc e).2 pc) o = some (pc', o') → (match pc.one e with | some _ => some (⟨h, o, pc⟩ : St) | none => forkN (stripP pc e).1 n (stripP pc e).2 ⟨h, o, pc⟩) = some ⟨h, o', pc'⟩ := by
    intro e he
    cases h1 : pc.one e with
    | none => rw [h1] at he; exact forkND_sim he
    | some x =>
      rw [h1] at he
      simp only [runO, Option.some.injEq, Prod.mk.injEq] at he
      obtain ⟨rfl, rfl⟩ := he
      rfl
  have base : runO (TT.ret pc) o = some (pc', o') → some (⟨h, o, pc⟩ : St) = some ⟨h, o', pc'⟩ := by
    intro he
    simp only [runO, Option.some.injEq, Prod.mk.injEq] at he
    obtain ⟨rfl, rfl⟩ := he
    rfl
  unfold forkVD at hr
  unfold forkV
  split at hr
  · exact base hr
  · rename_i k e hne
    have := key e hr
    split
    · rename_i h2; exact absurd h2 (by intro e2; cases e2; exact hne _ rfl)
    · rename_i h2
      cases h2
      exact this
    · rename_i h2; exact absurd rfl (h2 _ _)
  · rename_i h1 h2
    split
    · exact base hr
    · rename_i h3; exact absurd rfl (h2 _ _)
    · exact base hr
theorem forkOD_sim {h : Hp} {rd : X → Option SV} {x : Option X} {n : Nat} {pc pc' : PC} {o o' : List Bool} (hr : runO (forkOD rd pc x n) o = some (pc', o')) : forkO rd ⟨h, o, pc⟩ x n = some ⟨h, o', pc'⟩ := by
  cases x with
  | none =>
    simp only [forkOD, runO, Option.some.injEq, Prod.mk.injEq] at hr
    obtain ⟨rfl, rfl⟩ := hr
    rfl
  | some x => exact forkVD_sim hr
theorem thenD_sim {callF : Nat → List SV → St → Option (SV × St)} {rd : X → Option SV} {p p' : SP} {q : POp} {m : TT PC} {k : PC → Option SV} {v : SV} {o o' : List Bool} (hm : ∀ o pc1 o1, runO m o = some (pc1, o1) → forkP rd ⟨p.h, o, p.pc⟩ q = some ⟨p.h, o1, pc1⟩)
    (hk : ∀ pc, k pc = evP rd pc q) (hr : runO (thenD p.h m k) o = some ((v, p'), o')) : evOp callF rd (p.st o) (.p q) = some (v, p'.st o') := by
  unfold thenD at hr
  obtain ⟨pc1, o1, h1, h2⟩ := runO_bind hr
  obtain ⟨e1, rfl, rfl⟩ := retO_run h2
  rw [hk] at e1
  simp only [evOp, SP.st, hm _ _ _ h1, e1]
theorem retP_sim {callF : Nat → List SV → St → Option (SV × St)} {rd : X → Option SV} {p p' : SP} {q : POp} {e : Option SV} {v : SV} {o o' : List Bool} (hf : forkP rd (p.st o) q = some (p.st o)) (he : e = evP rd p.pc q) (hr : runO (retO e p) o = some ((v, p'), o')) :
    evOp callF rd (p.st o) (.p q) = some (v, p'.st o') := by
  obtain ⟨e1, rfl, rfl⟩ := retO_run hr
  rw [he] at e1
  simp only [evOp, hf]
  simp only [SP.st, e1]
theorem falseD_sim {h : Hp} {pc pc' : PC} {e : SB} {o o' : List Bool} (hr : runO (falseD (decAtomD pc e)) o = some (pc', o')) : decAtom ⟨h, o, pc⟩ e = some (false, ⟨h, o', pc'⟩) := by
  unfold falseD at hr
  obtain ⟨⟨x, pc1⟩, o1, h1, h2⟩ := runO_bind hr
  cases x <;> simp only [cond_true, cond_false, runO] at h2
  · simp only [Option.some.injEq, Prod.mk.injEq] at h2
    obtain ⟨rfl, rfl⟩ := h2
    exact decAtomD_sim h1
  · cases h2
theorem ret_run {α : Type} {a b : α} {o o' : List Bool} (h : runO (TT.ret a) o = some (b, o')) : b = a ∧ o' = o := by
  simp only [runO, Option.some.injEq, Prod.mk.injEq] at h
  exact ⟨h.1.symm, h.2.symm⟩
theorem fd_mx_sim {h : Hp} {rd : X → Option SV} {x y : X} {pc pc' : PC} {o o' : List Bool} (hr : runO (fd_mx rd pc x y) o = some (pc', o')) : forkM rd ⟨h, o, pc⟩ x y = some ⟨h, o', pc'⟩ := by
  unfold fd_mx at hr
  unfold forkM
  split at hr
  · rename_i h1 h2
    obtain ⟨⟨b, pc1⟩, o1, k1, k2⟩ := runO_bind hr
    obtain ⟨rfl, rfl⟩ := ret_run k2
    simp only [h1, h2, decD_sim (h := h) k1]
  · rename_i hne
    obtain ⟨rfl, rfl⟩ := ret_run hr
    split
    · rename_i h1 h2; exact (hne _ _ _ _ h1 h2).elim
    · rfl
theorem fd_conv_sim {h : Hp} {rd : X → Option SV} {k : IntKind} {x : X} {pc pc' : PC} {o o' : List Bool} (hr : runO (fd_conv rd pc k x) o = some (pc', o')) : forkC rd ⟨h, o, pc⟩ k x = some ⟨h, o', pc'⟩ := by
  unfold fd_conv at hr
  unfold forkC
  split at hr
  · rename_i h1
    simp only [h1]
    split at hr
    · rename_i q hq
      obtain ⟨⟨b, pc1⟩, o1, k1, k2⟩ := runO_bind hr
      obtain ⟨rfl, rfl⟩ := ret_run k2
      simp only [hq, decD_sim (h := h) k1]
    · rename_i hq
      obtain ⟨rfl, rfl⟩ := ret_run hr
      simp only [hq]
  · rename_i hne
    obtain ⟨rfl, rfl⟩ := ret_run hr
    split
    · rename_i h1; exact (hne _ _ h1).elim
    · rfl
theorem popD_sim {callF : Nat → List SV → St → Option (SV × St)} {rd : X → Option SV} {p p' : SP} {q : POp} {v : SV} {o o' : List Bool} (hr : runO (popD rd p q) o = some ((v, p'), o')) : evOp callF rd (p.st o) (.p q) = some (v, p'.st o') := by
  cases q
  case bin cls op x y =>
    refine thenD_sim (m := fd_bin rd p.pc cls op y) (k := fun pc => o_bin rd pc cls op x y) ?_ (fun pc => rfl) hr
    intro o pc1 o1 h1
    unfold fd_bin at h1
    match cls with
    | n + 1 =>
      obtain ⟨rfl, rfl⟩ := ret_run h1
      rfl
    | 0 =>
      simp only [show Nat.beq 0 0 = true from rfl, cond_true] at h1
      simp only [forkP]
      cases hd : isDiv op <;> simp only [hd, cond_true, cond_false] at h1 ⊢
      · cases hs : isShift op <;> simp only [hs, cond_true, cond_false] at h1 ⊢
        · obtain ⟨rfl, rfl⟩ := ret_run h1; rfl
        · unfold fd_shift at h1
          split at h1
          · rename_i k e he
            simp only [he]
            cases hn : notNegP p.pc e <;> simp only [hn, cond_true, cond_false] at h1 ⊢
            · rw [falseD_sim (h := p.h) h1]
            · obtain ⟨rfl, rfl⟩ := ret_run h1; rfl
          · rename_i hne
            obtain ⟨rfl, rfl⟩ := ret_run h1
            split
            · rename_i k e heq; exact (hne _ _ heq).elim
            · rfl
      · unfold fd_div at h1
        split at h1
        · rename_i k e he
          simp only [he]
          cases hn : nonZeroP p.pc e <;> simp only [hn, cond_true, cond_false] at h1 ⊢
          · rw [falseD_sim (h := p.h) h1]
          · obtain ⟨rfl, rfl⟩ := ret_run h1; rfl
        · rename_i hne
          obtain ⟨rfl, rfl⟩ := ret_run h1
          split
          · rename_i k e heq; exact (hne _ _ heq).elim
          · rfl
  case slice sz x lo hi =>
    refine thenD_sim (m := fd_slice rd p.h p.pc x lo hi) (k := fun pc => o_slice rd pc sz x lo hi) ?_ (fun pc => rfl) hr
    intro o pc1 o1 h1
    unfold fd_slice at h1
    simp only [forkP]
    split at h1
    · rename_i id _ len cap _ h2
      cases hbb : (bigB p.h id && inXO rd p.pc lo hi len) <;> simp only [hbb, cond_true, cond_false] at h1
      · obtain ⟨pc2, o2, k1, k2⟩ := runO_bind h1
        simp only [h2, hbb, cond_false, forkOD_sim (h := p.h) k1, forkOD_sim (h := p.h) k2]
      · obtain ⟨rfl, rfl⟩ := ret_run h1
        simp only [h2, hbb, cond_true]
    · rename_i h2
      obtain ⟨rfl, rfl⟩ := ret_run h1
      split
      · rename_i h3; exact absurd h3 (h2 _ _ _ _ _)
      · rfl
  case idxArr n sz x i => exact thenD_sim (q := .idxArr n sz x i) (m := forkVD p.pc (rd i) n) (k := fun pc => o_idxArr rd pc n sz x i) (fun o pc1 o1 h1 => forkVD_sim h1) (fun pc => rfl) hr
  case index ag n sz x i => exact thenD_sim (q := .index ag n sz x i) (m := forkVD p.pc (rd i) n) (k := fun pc => o_index rd pc ag n sz x i) (fun o pc1 o1 h1 => forkVD_sim h1) (fun pc => rfl) hr
  case idxSl sz x i =>
    refine thenD_sim (m := fd_idxSl rd p.h p.pc x i) (k := fun pc => o_idxSl rd pc sz x i) ?_ (fun pc => rfl) hr
    intro o pc1 o1 h1
    unfold fd_idxSl at h1
    simp only [forkP]
    split at h1
    · rename_i id _ len _ _ h2
      cases hbb : (bigB p.h id && inXV p.pc (rd i) len) <;> simp only [hbb, cond_true, cond_false] at h1
      · simp only [h2, hbb, cond_false, forkVD_sim (h := p.h) h1]
      · obtain ⟨rfl, rfl⟩ := ret_run h1
        simp only [h2, hbb, cond_true]
    · rename_i h2
      obtain ⟨rfl, rfl⟩ := ret_run h1
      split
      · rename_i h3; exact absurd h3 (h2 _ _ _ _ _)
      · rfl
  case idxStr x i =>
    refine thenD_sim (m := fd_idxStr rd p.pc x i) (k := fun pc => o_idxStr rd pc x i) ?_ (fun pc => rfl) hr
    intro o pc1 o1 h1
    unfold fd_idxStr at h1
    simp only [forkP]
    split at h1
    · rename_i h2
      simp only [h2, forkVD_sim (h := p.h) h1]
    · rename_i h2
      obtain ⟨rfl, rfl⟩ := ret_run h1
      split
      · rename_i h3; exact absurd h3 (h2 _)
      · rfl
  case conv k x => exact thenD_sim (q := .conv k x) (m := fd_conv rd p.pc k x) (k := fun pc => o_conv rd pc k x) (fun o pc1 o1 h1 => fd_conv_sim h1) (fun pc => rfl) hr
  case mx x y => exact thenD_sim (q := .mx x y) (m := fd_mx rd p.pc x y) (k := fun pc => o_mx rd pc x y) (fun o pc1 o1 h1 => fd_mx_sim h1) (fun pc => rfl) hr
  case mn x y => exact thenD_sim (q := .mn x y) (m := fd_mx rd p.pc x y) (k := fun pc => o_mn rd pc x y) (fun o pc1 o1 h1 => fd_mx_sim h1) (fun pc => rfl) hr
  all_goals exact retP_sim rfl rfl hr
theorem ofM_sim {callF : Nat → List SV → St → Option (SV × St)} {rd : X → Option SV} {p p' : SP} {q : AOp} {e : Option (SV × Hp)} {v : SV} {o o' : List Bool} (he : e = evM rd p.h q)
    (hq : evOp callF rd (p.st o) q = match evM rd p.h q with | some (v, h') => some (v, ⟨h', o, p.pc⟩) | none => none) (hr : runO (ofM p e) o = some ((v, p'), o')) : evOp callF rd (p.st o) q = some (v, p'.st o') := by
  subst he
  rw [hq]
  cases h1 : evM rd p.h q with
  | none => rw [h1] at hr; simp [ofM, runO] at hr
  | some x =>
    obtain ⟨u, h'⟩ := x
    rw [h1] at hr
    simp only [ofM, runO, Option.some.injEq, Prod.mk.injEq] at hr
    obtain ⟨⟨rfl, rfl⟩, rfl⟩ := hr
    rfl
def SimC (callFD : Nat → List SV → SP → TT (SV × SP)) (callF : Nat → List SV → St → Option (SV × St)) : Prop :=
  ∀ f args p o v p' o', runO (callFD f args p) o = some ((v, p'), o') → callF f args (p.st o) = some (v, p'.st o')
theorem evOpD_sim {callFD : Nat → List SV → SP → TT (SV × SP)} {callF : Nat → List SV → St → Option (SV × St)} (hc : SimC callFD callF) {rd : X → Option SV} {p p' : SP} {q : AOp} {v : SV} {o o' : List Bool} (hr : runO (evOpD rd callFD p q) o = some ((v, p'), o')) :
    evOp callF rd (p.st o) q = some (v, p'.st o') := by
  cases q
  case p q => exact popD_sim hr
  case pick c a b =>
    have hr : runO (pickD rd p c a b) o = some ((v, p'), o') := hr
    unfold pickD at hr
    simp only [evOp]
    split at hr
    · rename_i e he
      simp only [he]
      obtain ⟨⟨x, pc1⟩, o1, h1, h2⟩ := runO_bind hr
      obtain ⟨e1, rfl, rfl⟩ := retO_run h2
      simp only [SP.st, decD_sim (h := p.h) h1, e1]
    · simp [runO] at hr
  case call f as =>
    have hr : runO (callD rd callFD p f as) o = some ((v, p'), o') := hr
    unfold callD at hr
    simp only [evOp]
    split at hr
    · rename_i g first caps vs h1 h2
      simp only [h1, h2]
      exact hc _ _ _ _ _ _ _ hr
    · simp [runO] at hr
  case bad => simp [evOpD, runO] at hr
  case mkArr sz len zero fills => exact ofM_sim (q := .mkArr sz len zero fills) (by simp only [m_mkArr, evM, fillQ_eq]; rfl) rfl hr
  all_goals exact ofM_sim rfl rfl hr
theorem guardD_sim {C : Cfg} {fr : Fr} {p p' : SP} {g : Nat × Bool} {b : Bool} {o o' : List Bool} (hr : runO (guardD C fr p g) o = some ((b, p'), o')) : evGuard C fr (p.st o) (some g) = some (b, p'.st o') := by
  obtain ⟨t, w⟩ := g
  unfold guardD at hr
  simp only [evGuard]
  split at hr
  · rename_i e he
    simp only [he]
    obtain ⟨⟨x, pc1⟩, o1, h1, h2⟩ := runO_bind hr
    obtain ⟨h2, rfl⟩ := ret_run h2
    simp only [Prod.mk.injEq] at h2
    obtain ⟨rfl, rfl⟩ := h2
    simp only [SP.st, decD_sim (h := p.h) h1]
  · rename_i v' hne h1
    obtain ⟨h2, rfl⟩ := ret_run hr
    simp only [Prod.mk.injEq] at h2
    obtain ⟨rfl, rfl⟩ := h2
    simp only [h1]
  · simp [runO] at hr
theorem evGuardD_sim {C : Cfg} {fr : Fr} {p p' : SP} {g : Option (Nat × Bool)} {b : Bool} {o o' : List Bool} (hr : runO (evGuardD C fr p g) o = some ((b, p'), o')) : evGuard C fr (p.st o) g = some (b, p'.st o') := by
  cases g with
  | none =>
    obtain ⟨h2, rfl⟩ := ret_run (show runO (TT.ret (true, p)) o = _ from hr)
    simp only [Prod.mk.injEq] at h2
    obtain ⟨rfl, rfl⟩ := h2
    rfl
  | some g => exact guardD_sim hr
theorem evOpsD_sim {C : Cfg} {callFD : Nat → List SV → SP → TT (SV × SP)} {callF : Nat → List SV → St → Option (SV × St)} (hc : SimC callFD callF) : ∀ {os : List AOper} {fr fr' : Fr} {p p' : SP} {o o' : List Bool},
    runO (evOpsD C callFD os fr p) o = some ((fr', p'), o') → evOps C callF os fr (p.st o) = some (fr', p'.st o')
  | [], fr, fr', p, p', o, o', hr => by
    obtain ⟨h2, rfl⟩ := ret_run (show runO (TT.ret (fr, p)) o = _ from hr)
    simp only [Prod.mk.injEq] at h2
    obtain ⟨rfl, rfl⟩ := h2
    rfl
  | x :: os, fr, fr', p, p', o, o', hr => by
    have hr : runO (opStepD C callFD x (evOpsD C callFD os) fr p) o = some ((fr', p'), o') := hr
    have put : ∀ {m : TT (SV × SP)} {p : SP} {o : List Bool} {r : Option (SV × St)}, (∀ o1 v p1, runO m o = some ((v, p1), o1) → r = some (v, p1.st o1)) → runO (opPutD (evOpsD C callFD os) fr x.dst m) o = some ((fr', p'), o') →
        (match r with | some (v, s') => (match fr.put x.dst v with | some fr' => evOps C callF os fr' s' | none => none) | none => none) = some (fr', p'.st o') := by
      intro m p o r hm h
      unfold opPutD at h
      obtain ⟨⟨v, p1⟩, o1, h1, h2⟩ := runO_bind h
      rw [hm _ _ _ h1]
      cases h3 : fr.put x.dst v with
      | none => simp [h3, runO] at h2
      | some fr1 =>
        simp only [h3] at h2 ⊢
        exact evOpsD_sim hc h2
    obtain ⟨dst, op, guard⟩ := x
    rw [evOps_eq]
    cases guard with
    | none => exact put (p := p) (fun o1 v p1 h => evOpD_sim hc h) hr
    | some g =>
      have hr : runO (opGD C callFD (evOpsD C callFD os) fr ⟨dst, op, some g⟩ (guardD C fr p g)) o = some ((fr', p'), o') := hr
      unfold opGD at hr
      obtain ⟨⟨b, p1⟩, o1, h1, h2⟩ := runO_bind hr
      simp only [guardD_sim h1]
      cases b with
      | true => exact put (p := p1) (fun o1 v p1 h => evOpD_sim hc h) h2
      | false =>
        simp only [opNotD] at h2
        cases h3 : fr.put dst sundef with
        | none => simp [h3, runO] at h2
        | some fr1 =>
          simp only [h3] at h2
          exact evOpsD_sim hc h2
inductive SameR : List Rec → List RecD → Prop where
  | nil : SameR [] []
  | cons {fr : Fr} {s : St} {h : Hp} {b : Bool} {v : SV} {l : List Rec} {l' : List RecD} (e : s.h = h) (t : SameR l l') : SameR (⟨fr, s, b, v⟩ :: l) (⟨fr, h, b, v⟩ :: l')
theorem SameR.get {l : List Rec} {l' : List RecD} (h : SameR l l') (i : Nat) : (match l[i]? with | some r => some r.s.h | none => none) = (match l'[i]? with | some r => some r.h | none => none) := by
  induction h generalizing i with
  | nil => simp
  | cons e t ih =>
    cases i with
    | zero => simp [e]
    | succ i => simpa using ih i
theorem SameR.heapAt {l : List Rec} {l' : List RecD} (h : SameR l l') (fin : Hp) (i : Nat) : heapAt l fin i = heapAtD l' fin i := by
  have := h.get i
  unfold Go.Sx.heapAt heapAtD
  cases h1 : l[i]? <;> cases h2 : l'[i]? <;> simp_all
theorem chks_same {C : Cfg} {all : List Rec} {all' : List RecD} (ha : SameR all all') {fin : Hp} : ∀ {os : List (AOper × List Nat)} {l : List Rec} {l' : List RecD}, SameR l l' → chks C all fin os l = chksD C all' fin os l'
  | [], [], _, h => by cases h; rfl
  | [], _ :: _, _, h => by cases h; rfl
  | (x, ms) :: os, [], _, h => by cases h; rfl
  | (x, ms) :: os, r :: l, l', h => by
    cases h with
    | @cons fr s h b v l l' e t =>
      have key : ∀ e, (chk1 C x.op ⟨fr, s, b, v⟩ (Go.Sx.heapAt all fin e) && chk1 C x.op ⟨fr, s, b, v⟩ (Go.Sx.heapAt all fin (e + 1))) = (chk1D C x.op ⟨fr, h, b, v⟩ (heapAtD all' fin e) && chk1D C x.op ⟨fr, h, b, v⟩ (heapAtD all' fin (e + 1))) := fun e => by
        rw [ha.heapAt, ha.heapAt]
        rfl
      simp only [chks, chksD, chks_same ha t, key]
theorem evTrD_sim {C : Cfg} {callFD : Nat → List SV → SP → TT (SV × SP)} {callF : Nat → List SV → St → Option (SV × St)} (hc : SimC callFD callF) : ∀ {os : List AOper} {fr fr' : Fr} {p p' : SP} {o o' : List Bool} {rs' : List RecD},
    runO (evTrD C callFD os fr p) o = some ((rs', fr', p'), o') → ∃ rs, SameR rs rs' ∧ evTr C callF os fr (p.st o) = some (rs, fr', p'.st o')
  | [], fr, fr', p, p', o, o', rs', hr => by
    obtain ⟨h2, rfl⟩ := ret_run (show runO (TT.ret (([] : List RecD), fr, p)) o = _ from hr)
    simp only [Prod.mk.injEq] at h2
    obtain ⟨rfl, rfl, rfl⟩ := h2
    exact ⟨[], .nil, rfl⟩
  | x :: os, fr, fr', p, p', o, o', rs', hr => by
    have hr : runO (trStepD C callFD x (evTrD C callFD os) fr p) o = some ((rs', fr', p'), o') := hr
    unfold trStepD at hr
    obtain ⟨⟨b, p1⟩, o1, h1, h2⟩ := runO_bind hr
    have put : ∀ {b : Bool} {v : SV} {p2 : SP} {o2 : List Bool}, runO (trPutD fr p.h b x.dst v (evTrD C callFD os) p2) o2 = some ((rs', fr', p'), o') →
        ∃ fr1 rs, fr.put x.dst v = some fr1 ∧ SameR (⟨fr, p.st o, b, v⟩ :: rs) rs' ∧ evTr C callF os fr1 (p2.st o2) = some (rs, fr', p'.st o') := by
      intro b v p2 o2 h
      unfold trPutD at h
      cases h3 : fr.put x.dst v with
      | none => simp [h3, runO] at h
      | some fr1 =>
        simp only [h3] at h
        obtain ⟨⟨l, fr2, p3⟩, o3, k1, k2⟩ := runO_bind h
        obtain ⟨k3, rfl⟩ := ret_run k2
        simp only [Prod.mk.injEq] at k3
        obtain ⟨rfl, rfl, rfl⟩ := k3
        obtain ⟨rs, i1, i2⟩ := evTrD_sim hc k1
        exact ⟨fr1, rs, rfl, .cons rfl i1, i2⟩
    simp only [evTr, evGuardD_sim h1]
    cases b with
    | false =>
      obtain ⟨fr1, rs, j1, j2, j3⟩ := put h2
      exact ⟨_, j2, by simp only [j1, j3]⟩
    | true =>
      simp only at h2
      cases hy : youngOK (rdX C.G fr) p.h.sz x.op <;> simp only [hy, cond_true, cond_false] at h2
      · simp [runO] at h2
      unfold trOpD at h2
      obtain ⟨⟨v, p2⟩, o2, k1, k2⟩ := runO_bind h2
      simp only at k2
      cases hz : Nat.ble p.h.sz p2.h.sz <;> simp only [hz, cond_true, cond_false] at k2
      · simp [runO] at k2
      obtain ⟨fr1, rs, j1, j2, j3⟩ := put k2
      refine ⟨_, j2, ?_⟩
      have hy' : youngOK (rdX C.G fr) (p.st o).h.sz x.op = true := hy
      have hz' : Nat.ble (p.st o).h.sz (p2.st o2).h.sz = true := hz
      simp only [hy', cond_true, evOpD_sim hc k1, hz', j1, j3]
theorem evDrawD_sim {C : Cfg} {callFD : Nat → List SV → SP → TT (SV × SP)} {callF : Nat → List SV → St → Option (SV × St)} (hc : SimC callFD callF) {ops : List (AOper × List Nat)} {fr fr' : Fr} {p p' : SP} {o o' : List Bool}
    (hr : runO (evDrawD C callFD ops fr p) o = some ((fr', p'), o')) : evDraw C callF ops fr (p.st o) = some (fr', p'.st o') := by
  unfold evDrawD at hr
  obtain ⟨⟨rs', fr1, p1⟩, o1, h1, h2⟩ := runO_bind hr
  obtain ⟨rs, s1, s2⟩ := evTrD_sim hc h1
  simp only at h2
  cases hk : chksD C rs' p1.h ops rs' <;> simp only [hk, cond_true, cond_false] at h2
  · simp [runO] at h2
  obtain ⟨h3, rfl⟩ := ret_run h2
  simp only [Prod.mk.injEq] at h3
  obtain ⟨rfl, rfl⟩ := h3
  unfold evDraw
  have hk' : chks C rs (p'.st o').h ops rs = true := by rw [chks_same s1 s1]; exact hk
  simp only [s2, hk', cond_true]
def SimK (C : Cfg) (n : Nat) : Prop := ∀ c fr p o x fr' p' o', runO (evCodeD C n c fr p) o = some ((x, fr', p'), o') → evCode C n c fr (p.st o) = some (x, fr', p'.st o')
theorem evCallD_sim {C : Cfg} {n : Nat} (hn : SimK C n) : SimC (evCallD C (evCodeD C n)) (evCall C (evCode C n)) := by
  intro f args p o v p' o' hr
  unfold evCallD at hr
  unfold evCall
  have hsp : (p.st o).sp = p := rfl
  rw [hsp]
  cases hs : C.S f args p with
  | some m =>
    simp only [hs] at hr ⊢
    unfold outC
    have : (p.st o).orc = o := rfl
    rw [this, hr]
  | none =>
    simp only [hs] at hr ⊢
    cases hf : C.F f with
    | none => simp [hf, runO] at hr
    | some af =>
      simp only [hf, callAF] at hr ⊢
      cases hb : Nat.ble args.length af.ntmps <;> simp only [hb, cond_true, cond_false] at hr ⊢
      · simp [runO] at hr
      cases ht : enterT args 0 .e with
      | none => simp [ht, runO] at hr
      | some t =>
        simp only [ht] at hr ⊢
        obtain ⟨⟨x, fr1, p1⟩, o1, h1, h2⟩ := runO_bind hr
        rw [hn _ _ _ _ _ _ _ _ h1]
        unfold resD at h2
        cases x with
        | exit id => simp [runO] at h2
        | normal =>
          simp only at h2 ⊢
          cases hv : evRess C.G fr1 p1.h af.res with
          | none => simp [hv, runO] at h2
          | some vs =>
            simp only [hv] at h2
            obtain ⟨h3, rfl⟩ := ret_run h2
            simp only [Prod.mk.injEq] at h3
            obtain ⟨rfl, rfl⟩ := h3
            simp only [SP.st, hv]
        | ret =>
          simp only at h2 ⊢
          cases hv : evRess C.G fr1 p1.h af.res with
          | none => simp [hv, runO] at h2
          | some vs =>
            simp only [hv] at h2
            obtain ⟨h3, rfl⟩ := ret_run h2
            simp only [Prod.mk.injEq] at h3
            obtain ⟨rfl, rfl⟩ := h3
            simp only [SP.st, hv]
theorem evCodeD_sim {C : Cfg} : ∀ n, SimK C n
  | 0 => by
    intro c fr p o x fr' p' o' hr
    simp [evCodeD, runO] at hr
  | n + 1 => by
    intro c fr p o x fr' p' o' hr0
    have ih := evCodeD_sim (C := C) n
    have hr : runO (codeD C (evCodeD C n) c fr p) o = some ((x, fr', p'), o') := hr0
    clear hr0
    cases c
    case skip =>
      obtain ⟨h3, rfl⟩ := ret_run (show runO (TT.ret (Ex.normal, fr, p)) o = _ from hr)
      simp only [Prod.mk.injEq] at h3
      obtain ⟨rfl, rfl, rfl⟩ := h3
      rfl
    case exit id =>
      obtain ⟨h3, rfl⟩ := ret_run (show runO (TT.ret (Ex.exit id, fr, p)) o = _ from hr)
      simp only [Prod.mk.injEq] at h3
      obtain ⟨rfl, rfl, rfl⟩ := h3
      rfl
    case ret =>
      obtain ⟨h3, rfl⟩ := ret_run (show runO (TT.ret (Ex.ret, fr, p)) o = _ from hr)
      simp only [Prod.mk.injEq] at h3
      obtain ⟨rfl, rfl, rfl⟩ := h3
      rfl
    case reg ops =>
      have hr : runO (d_norm (evOpsD C (evCallD C (evCodeD C n)) ops fr p)) o = some ((x, fr', p'), o') := hr
      unfold d_norm at hr
      obtain ⟨⟨fr1, p1⟩, o1, h1, h2⟩ := runO_bind hr
      obtain ⟨h3, rfl⟩ := ret_run h2
      simp only [Prod.mk.injEq] at h3
      obtain ⟨rfl, rfl, rfl⟩ := h3
      simp only [evCode, evOpsD_sim (evCallD_sim ih) h1]
    case draw ops =>
      have hr : runO (d_norm (evDrawD C (evCallD C (evCodeD C n)) ops fr p)) o = some ((x, fr', p'), o') := hr
      unfold d_norm at hr
      obtain ⟨⟨fr1, p1⟩, o1, h1, h2⟩ := runO_bind hr
      obtain ⟨h3, rfl⟩ := ret_run h2
      simp only [Prod.mk.injEq] at h3
      obtain ⟨rfl, rfl, rfl⟩ := h3
      simp only [evCode, evDrawD_sim (evCallD_sim ih) h1]
    case seq a b =>
      have hr : runO (d_seq (evCodeD C n) a b fr p) o = some ((x, fr', p'), o') := hr
      unfold d_seq at hr
      obtain ⟨⟨x1, fr1, p1⟩, o1, h1, h2⟩ := runO_bind hr
      simp only [evCode, ih _ _ _ _ _ _ _ _ h1]
      cases x1 with
      | normal => exact ih _ _ _ _ _ _ _ _ h2
      | exit id =>
        obtain ⟨h3, rfl⟩ := ret_run h2
        simp only [Prod.mk.injEq] at h3
        obtain ⟨rfl, rfl, rfl⟩ := h3
        rfl
      | ret =>
        obtain ⟨h3, rfl⟩ := ret_run h2
        simp only [Prod.mk.injEq] at h3
        obtain ⟨rfl, rfl, rfl⟩ := h3
        rfl
    case cond k a b =>
      have hr : runO (d_cond C (evCodeD C n) k a b fr p) o = some ((x, fr', p'), o') := hr
      unfold d_cond at hr
      simp only [evCode]
      split at hr
      · rename_i e he
        simp only [he]
        obtain ⟨⟨b1, pc1⟩, o1, h1, h2⟩ := runO_bind hr
        have := decD_sim (h := p.h) h1
        simp only [SP.st] at this ⊢
        rw [this]
        exact ih _ _ _ _ _ _ _ _ h2
      · simp [runO] at hr
    case block id c =>
      have hr : runO (d_block (evCodeD C n) id c fr p) o = some ((x, fr', p'), o') := hr
      unfold d_block at hr
      obtain ⟨⟨x1, fr1, p1⟩, o1, h1, h2⟩ := runO_bind hr
      simp only [evCode, ih _ _ _ _ _ _ _ _ h1]
      cases x1 with
      | normal =>
        obtain ⟨h3, rfl⟩ := ret_run h2
        simp only [Prod.mk.injEq] at h3
        obtain ⟨rfl, rfl, rfl⟩ := h3
        rfl
      | exit k =>
        simp only at h2 ⊢
        cases hb : Nat.beq k id <;> simp only [hb, cond_true, cond_false] at h2 ⊢ <;> obtain ⟨h3, rfl⟩ := ret_run h2 <;> simp only [Prod.mk.injEq] at h3 <;> obtain ⟨rfl, rfl, rfl⟩ := h3 <;> rfl
      | ret =>
        obtain ⟨h3, rfl⟩ := ret_run h2
        simp only [Prod.mk.injEq] at h3
        obtain ⟨rfl, rfl, rfl⟩ := h3
        rfl
    case loop c =>
      have hr : runO (d_loop C (evCodeD C n) c fr p) o = some ((x, fr', p'), o') := hr
      unfold d_loop at hr
      have hsp : (p.st o).sp = p := rfl
      simp only [evCode, hsp]
      cases hl : C.L c fr p with
      | some m =>
        simp only [hl] at hr ⊢
        unfold outL
        have : (p.st o).orc = o := rfl
        rw [this, hr]
      | none =>
        simp only [hl] at hr ⊢
        obtain ⟨⟨x1, fr1, p1⟩, o1, h1, h2⟩ := runO_bind hr
        simp only [ih _ _ _ _ _ _ _ _ h1]
        cases x1 with
        | normal => exact ih _ _ _ _ _ _ _ _ h2
        | exit id =>
          obtain ⟨h3, rfl⟩ := ret_run h2
          simp only [Prod.mk.injEq] at h3
          obtain ⟨rfl, rfl, rfl⟩ := h3
          rfl
        | ret =>
          obtain ⟨h3, rfl⟩ := ret_run h2
          simp only [Prod.mk.injEq] at h3
          obtain ⟨rfl, rfl, rfl⟩ := h3
          rfl
theorem evFnD_sim {C : Cfg} (n : Nat) : SimC (evFnD C n) (evFn C n) := evCallD_sim (evCodeD_sim n)
end Go.Sx
