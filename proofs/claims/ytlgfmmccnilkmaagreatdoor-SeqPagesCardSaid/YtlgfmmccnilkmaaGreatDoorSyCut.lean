/- The symbolic machine: a law's body in parts. Between two parts stands a template: what is in the slots and objects, with variables of its own, and what is known of these. No condition: lemmas of the machine. -/
import Derived.Test.YtlgfmmccnilkmaaGreatDoorSyUse
import Derived.Test.YtlgfmmccnilkmaaGreatDoorSyDoor
namespace Go.Sx
set_option linter.unusedVariables false
set_option linter.unusedSimpArgs false
open Go.RowKit

structure Tp where
  slots : List SV
  objs : List SObj
  pc : PC
def Tp.fr (T : Tp) : Fr := ⟨T.slots.length, match enterT T.slots 0 .e with | some t => t | none => .e⟩
def Tp.hp (T : Tp) : Hp := match pushAll hpE T.objs with | some h => h | none => hpE
def Tp.sp (T : Tp) : SP := ⟨T.hp, T.pc⟩
def Tp.okT (T : Tp) : Bool := (match enterT T.slots 0 .e with | some _ => true | none => false) && (match pushAll hpE T.objs with | some _ => true | none => false)

def rho (ρ : List Nat) (id : Nat) : Nat := match ρ[id]? with
  | some x => x
  | none => id
mutual
def SV.inst (θ : List SV) (ρ : List Nat) : SV → SV
  | .int k e => .int k (e.sub θ)
  | .bool b => .bool (b.sub θ)
  | .str s => .str s
  | .strv e => .strv (e.sub θ)
  | .nilPtr => .nilPtr
  | .ptr id o => .ptr (rho ρ id) o
  | .nilSlice => .nilSlice
  | .slice a b c d e => .slice (rho ρ a) b c d e
  | .func fn a b => .func fn (SVs.inst θ ρ a) (SVs.inst θ ρ b)
  | .nilFunc => .nilFunc
  | .iface t v => .iface t (v.inst θ ρ)
  | .nilIface => .nilIface
  | .agg l => .agg (SVs.inst θ ρ l)
  | .tuple l => .tuple (SVs.inst θ ρ l)
  | .lost => .lost
  | .xsl i e => .xsl (rho ρ i) (e.sub θ)
  | .xptr i e n m o => .xptr (rho ρ i) (e.sub θ) (n.sub θ) m o
  | .nilMap => .nilMap
  | .mapv i => .mapv (rho ρ i)
  | .vsl i e n m o => .vsl (rho ρ i) (e.sub θ) (n.sub θ) m o
def SVs.inst (θ : List SV) (ρ : List Nat) : List SV → List SV
  | [] => []
  | v :: vs => v.inst θ ρ :: SVs.inst θ ρ vs
end
def iotaR (ι : Nat → Option Loc) (ρ : List Nat) (n : Nat) : Nat → Option Loc := fun id => if id < n then ι (rho ρ id) else none
section
variable {V : Val} {θ : List SV} {ρ : List Nat} {ι : Nat → Option Loc} {n : Nat}
mutual
theorem VRel_inst : ∀ (v : SV) (c : Value), v.bnd n = true → VRel V ι (v.inst θ ρ) c → VRel (comp V θ) (iotaR ι ρ n) v c
  | .int k e, c, hb, h => by simpa [VRel, SV.inst, SE.sub_den] using h
  | .bool b, c, hb, h => by simpa [VRel, SV.inst, SB.sub_den] using h
  | .str s, c, hb, h => by simpa [VRel, SV.inst] using h
  | .strv e, c, hb, h => by simpa [VRel, SV.inst, SE.sub_den] using h
  | .nilPtr, c, hb, h => by simpa [VRel, SV.inst] using h
  | .ptr id o, c, hb, h => by
    obtain ⟨l, h1, h2⟩ := h
    exact ⟨l, by unfold iotaR; rw [if_pos (lt_of_blt hb)]; exact h1, h2⟩
  | .nilSlice, c, hb, h => by simpa [VRel, SV.inst] using h
  | .slice id o len cap sz, c, hb, h => by
    obtain ⟨l, a, cc, h1, h2⟩ := h
    exact ⟨l, a, cc, by unfold iotaR; rw [if_pos (lt_of_blt hb)]; exact h1, h2⟩
  | .func fn fs gs, c, hb, h => by
    obtain ⟨f, g, h1, h2, h3⟩ := h
    simp only [SV.bnd, Bool.and_eq_true] at hb
    exact ⟨f, g, h1, VRels_inst fs _ hb.1 h2, VRels_inst gs _ hb.2 h3⟩
  | .nilFunc, c, hb, h => by simpa [VRel, SV.inst] using h
  | .iface t v, c, hb, h => by
    obtain ⟨u, h1, h2⟩ := h
    exact ⟨u, h1, VRel_inst v _ hb h2⟩
  | .nilIface, c, hb, h => by simpa [VRel, SV.inst] using h
  | .agg cs, c, hb, h => by
    obtain ⟨l, h1, h2⟩ := h
    exact ⟨l, h1, VRels_inst cs _ hb h2⟩
  | .tuple cs, c, hb, h => by
    obtain ⟨l, h1, h2⟩ := h
    exact ⟨l, h1, VRels_inst cs _ hb h2⟩
  | .lost, c, hb, h => trivial
  | .xsl id e, c, hb, h => by
    obtain ⟨l, m, cc, h1, h2, h3⟩ := h
    exact ⟨l, m, cc, by unfold iotaR; rw [if_pos (lt_of_blt hb)]; exact h1, by rw [← SE.sub_den]; exact h2, h3⟩
  | .xptr id e m k o, c, hb, h => by
    obtain ⟨l, h1, h2, h3, h4⟩ := h
    simp only [SE.sub_den] at h2 h3 h4
    exact ⟨l, by unfold iotaR; rw [if_pos (lt_of_blt hb)]; exact h1, h2, h3, h4⟩
  | .nilMap, c, hb, h => by simpa [VRel, SV.inst] using h
  | .mapv id, c, hb, h => by
    obtain ⟨l, h1, h2⟩ := h
    exact ⟨l, by unfold iotaR; rw [if_pos (lt_of_blt hb)]; exact h1, h2⟩
  | .vsl id e m k o, c, hb, h => by
    obtain ⟨l, cc, h1, h2, h3, h4⟩ := h
    simp only [SE.sub_den] at h2 h3 h4
    exact ⟨l, cc, by unfold iotaR; rw [if_pos (lt_of_blt hb)]; exact h1, h2, h3, h4⟩
theorem VRels_inst : ∀ (vs : List SV) (l : List Value), SVs.bnd n vs = true → VRels V ι (SVs.inst θ ρ vs) l → VRels (comp V θ) (iotaR ι ρ n) vs l
  | [], l, hb, h => by simpa [VRels, SVs.inst] using h
  | v :: vs, l, hb, h => by
    obtain ⟨c, cs, h1, h2, h3⟩ := h
    simp only [SVs.bnd, Bool.and_eq_true] at hb
    exact ⟨c, cs, h1, VRel_inst v _ hb.1 h2, VRels_inst vs _ hb.2 h3⟩
end
end
theorem SVs.inst_get {θ : List SV} {ρ : List Nat} : ∀ {vs : List SV} {j : Nat} {v : SV}, vs[j]? = some v → (SVs.inst θ ρ vs)[j]? = some (v.inst θ ρ)
  | [], j, v, h => by simp at h
  | x :: xs, 0, v, h => by simp at h; subst h; rfl
  | x :: xs, j + 1, v, h => by simpa [SVs.inst] using SVs.inst_get (vs := xs) (by simpa using h)
theorem SVs.inst_len {θ : List SV} {ρ : List Nat} : ∀ {vs : List SV}, (SVs.inst θ ρ vs).length = vs.length
  | [] => rfl
  | x :: xs => by simp [SVs.inst, SVs.inst_len (vs := xs)]
theorem inst_one {θ : List SV} {ρ : List Nat} {v : SV} (h : (v.inst θ ρ).one = true) : v.one = true := by
  cases v <;> simp [SV.inst, SV.one] at h ⊢
theorem SVs.bnd_get {n : Nat} {vs : List SV} (h : SVs.bnd n vs = true) {j : Nat} {v : SV} (hj : vs[j]? = some v) : v.bnd n = true := SVs.bnd_mem h (List.mem_of_getElem? hj)

def SE.norm : SE → SE
  | .lit n => .lit n
  | .var i => .var i
  | .bin op k a b => mkBin op k a.norm b.norm
  | .cv k a => mkCv k a.norm
  | .sel s a => .sel s a
theorem SE.norm_den (V : Val) : ∀ e : SE, e.norm.den V = e.den V
  | .lit n => rfl
  | .var i => rfl
  | .bin op k a b => by simp only [SE.norm, SE.den, mkBin_den, SE.norm_den V a, SE.norm_den V b]
  | .cv k a => by simp only [SE.norm, SE.den, mkCv_den, SE.norm_den V a]
  | .sel s a => rfl
/- Is a state one of a template's? -/
mutual
def SV.sameK (pc : PC) : SV → SV → Bool
  | .int k (.lit n), .int k' e => bif decide (k = k') then (match e with
    | .lit m => intEq n m
    | e => match pc.one e with
      | some m => intEq n m
      | none => false) else false
  | .bool (.lit b), .bool e => (match sbK pc e with
    | some c => b == c
    | none => false)
  | .agg a, .agg b => SVs.sameK pc a b
  | .int k a, .int k' b => decide (k = k') && (a.same b || a.same b.norm)
  | a, b => a.same b
def SVs.sameK (pc : PC) : List SV → List SV → Bool
  | [], [] => true
  | a :: as, b :: bs => a.sameK pc b && SVs.sameK pc as bs
  | _, _ => false
end
def slotsOK (pc : PC) (θ : List SV) (ρ : List Nat) (n : Nat) (fr : Fr) : Nat → List SV → Bool
  | _, [] => true
  | i, v :: vs => (v.isLost || (v.bnd n && (v.inst θ ρ).sameK pc (match fr.t.get i with | some u => u | none => sundef))) && slotsOK pc θ ρ n fr (i + 1) vs
def akEq : AK → AK → Bool
  | .int k, .int k' => Nat.beq (kIx k) (kIx k')
  | .bool, .bool => true
  | _, _ => false
def aksEq : List AK → List AK → Bool
  | [], [] => true
  | a :: as, b :: bs => akEq a b && aksEq as bs
  | _, _ => false
theorem akEq_eq {a b : AK} (h : akEq a b = true) : a = b := by
  cases a with
  | int k => cases b with
    | int k' =>
      have e : k = k' := kIx_inj (show Nat.beq (kIx k) (kIx k') = true from h)
      subst e; rfl
    | bool => cases h
  | bool => cases b with
    | int k' => cases h
    | bool => rfl
theorem aksEq_eq : ∀ {a b : List AK}, aksEq a b = true → a = b
  | [], [], _ => rfl
  | [], _ :: _, h => by cases h
  | _ :: _, [], h => by cases h
  | a :: as, b :: bs, h => by
    simp only [aksEq, Bool.and_eq_true] at h
    rw [akEq_eq h.1, aksEq_eq h.2]
def cellOK (pc : PC) (θ : List SV) (ρ : List Nat) (n : Nat) (a b : SV) : Bool := a.bnd n && (a.inst θ ρ).sameK pc b
def isE (t : Tr SV) : Bool := match t with
  | .e => true
  | _ => false
def getZ (o : Option SV) (z : SV) : SV := match o with
  | some v => v
  | none => z
def trOK (f : SV → SV → Bool) (z z' : SV) : Nat → Tr SV → Tr SV → Bool
  | 0, _, _ => false
  | k + 1, t, t' => bif isE t && isE t' then true else f (getZ t.top z) (getZ t'.top z') && trOK f z z' k t.lt t'.lt && trOK f z z' k t.rt t'.rt
def trCs (f : SV → SV → Bool) (t : Tr SV) (z : SV) : Nat → List SV → Bool
  | _, [] => true
  | j, c :: cs => f (bigAt t z j) c && trCs f t z (j + 1) cs
def allF (f : SV → Bool) : List SV → Bool
  | [] => true
  | c :: cs => f c && allF f cs
def bigCs (f : SV → SV → Bool) (t : Tr SV) (z : SV) (cs : List SV) : Bool := bif isE t then allF (f z) cs else trCs f t z 0 cs
def esOK (f : SV → SV → Bool) : List (SV × SV) → List (SV × SV) → Bool
  | [], [] => true
  | (a, b) :: l, (a', b') :: l' => f a a' && f b b' && esOK f l l'
  | _, _ => false
def objsOK (pc : PC) (θ : List SV) (ρ : List Nat) (n : Nat) (h : Hp) : Nat → List SObj → Bool
  | _, [] => true
  | i, .dead :: os => objsOK pc θ ρ n h (i + 1) os
  | i, .arr s k m :: os => (match h.get (rho ρ i) with
    | some (.arr s' k' m') => Nat.beq s s' && aksEq k k' && (m.sub θ).same m'
    | _ => false) && objsOK pc θ ρ n h (i + 1) os
  | i, .map es :: os => (match h.get (rho ρ i) with
    | some (.map es') => esOK (cellOK pc θ ρ n) es es'
    | _ => false) && objsOK pc θ ρ n h (i + 1) os
  | i, .big t m z :: os => (match h.get (rho ρ i) with
    | some (.big t' m' z') => Nat.beq m m' && cellOK pc θ ρ n z z' && trOK (cellOK pc θ ρ n) z z' 48 t t'
    | some (.cells cs' false) => Nat.beq m cs'.length && bigCs (cellOK pc θ ρ n) t z cs'
    | _ => false) && objsOK pc θ ρ n h (i + 1) os
  | i, .cells cs ro :: os => (match h.get (rho ρ i) with
    | some (.cells cs' ro') => (ro == ro') && SVs.bnd n cs && SVs.sameK pc (SVs.inst θ ρ cs) cs'
    | _ => false) && objsOK pc θ ρ n h (i + 1) os
def nodupB : List Nat → Bool
  | [] => true
  | x :: l => !(memN x l) && nodupB l
def factsOK (θ : List SV) (pc' : PC) : PC → Bool
  | [] => true
  | (e, b) :: l => (match sbK pc' (e.sub θ) with
    | some c => c == b
    | none => false) && factsOK θ pc' l
def doorR (ρ : List Nat) : Nat → Bool
  | 0 => true
  | i + 1 => Nat.beq (rho ρ i) i && doorR ρ i
def matchOK (d : Nat) (T : Tp) (fr : Fr) (p : SP) (θ : List SV) (ρ : List Nat) : Bool :=
  T.okT && Nat.beq fr.n T.slots.length && Nat.beq ρ.length T.objs.length && nodupB ρ && Nat.ble d T.objs.length && doorR ρ d && slotsOK p.pc θ ρ T.objs.length fr 0 T.slots && objsOK p.pc θ ρ T.objs.length p.h 0 T.objs && factsOK θ p.pc T.pc
/- Finding how it is one. -/
structure Fnd where
  t : Tr SV
  r : Tr Nat
def Fnd.v (f : Fnd) (i : Nat) (v : SV) : Fnd := match f.t.get i with
  | some _ => f
  | none => match Tr.set 0 f.t i v with
    | some t => ⟨t, f.r⟩
    | none => f
def Fnd.o (f : Fnd) (i j : Nat) : Fnd := match f.r.get i with
  | some _ => f
  | none => match Tr.set 0 f.r i j with
    | some r => ⟨f.t, r⟩
    | none => f
def fndE : SE → SE → Fnd → Fnd
  | .cv k (.var i), e, f => f.v i (.int k e)
  | .var i, e, f => f.v i (.int .i64 e)
  | .bin .and _ (.cv k (.var i)) (.lit _), e, f => f.v i (.int k e)
  | .bin _ _ a b, .bin _ _ c d, f => fndE b d (fndE a c f)
  | .cv _ a, .cv _ b, f => fndE a b f
  | _, _, f => f
mutual
def fndV : SV → SV → Fnd → Fnd
  | .int _ (.var i), .int k e, f => f.v i (.int k e)
  | .int _ (.cv _ (.var i)), .int k e, f => f.v i (.int k e)
  | .int _ a, .int _ b, f => fndE a b f
  | .bool (.var i), .bool b, f => f.v i (.bool b)
  | .strv (.var i), .strv e, f => f.v i (.strv e)
  | .ptr i _, .ptr j _, f => f.o i j
  | .mapv i, .mapv j, f => f.o i j
  | .vsl i a b _ _, .vsl j c d _ _, f => fndE b d (fndE a c (f.o i j))
  | .slice i _ _ _ _, .slice j _ _ _ _, f => f.o i j
  | .xsl i (.var k), .xsl j e, f => (f.o i j).v k (.int .i64 e)
  | .xsl i _, .xsl j _, f => f.o i j
  | .func _ a b, .func _ c d, f => fndVs b d (fndVs a c f)
  | .iface _ a, .iface _ b, f => fndV a b f
  | .agg a, .agg b, f => fndVs a b f
  | .tuple a, .tuple b, f => fndVs a b f
  | _, _, f => f
def fndVs : List SV → List SV → Fnd → Fnd
  | a :: as, b :: bs, f => fndVs as bs (fndV a b f)
  | _, _, f => f
end
def fndS (fr : Fr) : Nat → List SV → Fnd → Fnd
  | _, [], f => f
  | i, v :: vs, f => fndS fr (i + 1) vs (match fr.t.get i with
    | some u => fndV v u f
    | none => f)
def fndTr : Nat → Tr SV → Tr SV → Fnd → Fnd
  | 0, _, _, f => f
  | k + 1, t, t', f => bif isE t then f else fndTr k t.rt t'.rt (fndTr k t.lt t'.lt (match t.top, t'.top with
    | some v, some v' => fndV v v' f
    | _, _ => f))
def fndO (h : Hp) : Nat → List SObj → Fnd → Fnd
  | _, [], f => f
  | i, .cells cs _ :: os, f => fndO h (i + 1) os (match f.r.get i with
    | some j => (match h.get j with
      | some (.cells cs' _) => fndVs cs cs' f
      | _ => f)
    | none => f)
  | i, .map es :: os, f => fndO h (i + 1) os (match f.r.get i with
    | some j => (match h.get j with
      | some (.map es') => fndVs (es.map (·.2)) (es'.map (·.2)) f
      | _ => f)
    | none => f)
  | i, .big t _ _ :: os, f => fndO h (i + 1) os (match f.r.get i with
    | some j => (match h.get j with
      | some (.big t' _ _) => fndTr 48 t t' f
      | _ => f)
    | none => f)
  | i, _ :: os, f => fndO h (i + 1) os f
def listT (f : Fnd) : Nat → List SV → List SV
  | 0, l => l
  | i + 1, l => listT f i ((match f.t.get i with
    | some v => v
    | none => .int .i64 (.lit 0)) :: l)
def listR (f : Fnd) : Nat → List Nat → List Nat
  | 0, l => l
  | i + 1, l => listR f i ((match f.r.get i with
    | some v => v
    | none => i) :: l)
def doorF : Nat → Fnd → Fnd
  | 0, f => f
  | i + 1, f => doorF i (f.o i i)
def find3 (nv : Nat) (d : Nat) (T : Tp) (fr : Fr) (p : SP) : Fnd := fndO p.h 0 T.objs (fndO p.h 0 T.objs (fndO p.h 0 T.objs (fndS fr 0 T.slots (doorF d ⟨.e, .e⟩))))
def matchF (T : Tp) (d nv : Nat) (fr : Fr) (p : SP) (f : Fnd) : Bool := matchOK d T fr p (listT f nv []) (listR f T.objs.length [])
def matchT (d nv : Nat) (T : Tp) (fr : Fr) (p : SP) : Bool := matchF T d nv fr p (find3 nv d T fr p)

structure Kept (W w : World) : Prop where
  size : W.heap.size ≤ w.heap.size
  os : w.os = W.os
  output : w.output = W.output
  frame : ∀ b, b < W.heap.size → w.heap[b]? = W.heap[b]?
  frz : ∀ a, w.frozen? a = W.frozen? a
theorem Kept.refl (W : World) : Kept W W := ⟨Nat.le_refl _, rfl, rfl, fun _ _ => rfl, fun _ => rfl⟩
theorem Kept.step {V : Val} {ι ι' : Nat → Option Loc} {σ σ' : Hp} {W w w' : World} (h : Kept W w) (hh : HRel V ι W.heap.size σ w) (x : Ext ι σ w ι' σ' w') : Kept W w' := by
  refine ⟨Nat.le_trans h.size x.size, x.os.trans h.os, x.output.trans h.output, fun b hb => ?_, fun a => (x.frz a).trans (h.frz a)⟩
  have hlt : b < w.heap.size := Nat.lt_of_lt_of_le hb h.size
  rw [x.frame b hlt, h.frame b hb]
  rintro ⟨id, o, l, h1, h0, h2, h3⟩
  have := hh.own_ge h1 h0 h2
  omega
theorem Kept.grown {W w : World} (h : Kept W w) : Grown W w := by
  refine ⟨⟨h.os, h.output, fun i hi => ?_⟩, h.frz, h.size⟩
  rw [h.frame i hi]
  split
  · rename_i c t fr c' t' fr' h1 h2
    rw [h1] at h2; cases h2
    exact ⟨rfl, rfl, rfl, fun _ _ => rfl⟩
  · rename_i h1 h2
    rw [h1] at h2; cases h2
    exact .inr ⟨rfl, rfl⟩
  · rfl
def Sat (G : Nat → Option Nat) (W : World) (T : Tp) (a : Act) (w : World) : Prop :=
  ∃ V ι, T.pc.holds V ∧ FrRel V ι T.fr a ∧ HRel V ι W.heap.size T.hp w ∧ GRel G ι ∧ Kept W w

theorem memN_mem {x : Nat} : ∀ {l : List Nat}, x ∈ l → memN x l = true
  | [], h => by cases h
  | y :: l, h => by
    rcases List.mem_cons.1 h with rfl | h
    · simp [memN]
    · simp [memN, memN_mem h]
theorem nodupB_inj : ∀ {l : List Nat} {i j x : Nat}, nodupB l = true → l[i]? = some x → l[j]? = some x → i = j
  | [], i, j, x, h, h1, h2 => by simp at h1
  | y :: l, 0, 0, x, h, h1, h2 => rfl
  | y :: l, 0, j + 1, x, h, h1, h2 => by
    simp at h1; subst h1
    simp only [nodupB, Bool.and_eq_true] at h
    rw [memN_mem (List.mem_of_getElem? (by simpa using h2))] at h
    simp at h
  | y :: l, i + 1, 0, x, h, h1, h2 => by
    simp at h2; subst h2
    simp only [nodupB, Bool.and_eq_true] at h
    rw [memN_mem (List.mem_of_getElem? (by simpa using h1))] at h
    simp at h
  | y :: l, i + 1, j + 1, x, h, h1, h2 => by
    simp only [nodupB, Bool.and_eq_true] at h
    have := nodupB_inj (l := l) (i := i) (j := j) (x := x) h.2 (by simpa using h1) (by simpa using h2)
    omega
section
variable {V : Val} {ι : Nat → Option Loc} {pc : PC}
mutual
theorem sameK_rel (hp : pc.holds V) : ∀ (a b : SV) (c : Value), a.sameK pc b = true → VRel V ι b c → VRel V ι a c
  | a, b, c, h, hv => by
    unfold SV.sameK at h
    split at h
    · rename_i k n k' e
      cases hk : decide (k = k') <;> simp only [hk, cond_true, cond_false] at h
      · cases h
      obtain rfl := of_decide_eq_true hk
      simp only [VRel, SE.den] at hv ⊢
      split at h
      · rename_i m
        rw [intEq_eq h]
        simpa [SE.den] using hv
      · split at h
        · rename_i m hm
          rw [hv, PC.one_den hp hm, intEq_eq h]
        · cases h
    · rename_i b' e
      simp only [VRel, SB.den] at hv ⊢
      split at h
      · rename_i d hd
        simp only [beq_iff_eq] at h
        rw [hv, sbK_den hp hd, h]
      · cases h
    · rename_i x y
      obtain ⟨l, rfl, h2⟩ := hv
      exact ⟨l, rfl, sameKs_rel hp x y _ h h2⟩
    · rename_i k x k' y _
      simp only [Bool.and_eq_true, Bool.or_eq_true, decide_eq_true_eq] at h
      obtain ⟨rfl, h⟩ := h
      simp only [VRel] at hv ⊢
      rcases h with h | h
      · rw [SE.same_eq h]; exact hv
      · rw [SE.same_eq h, SE.norm_den]; exact hv
    · rw [SV.same_eq h]; exact hv
theorem sameKs_rel (hp : pc.holds V) : ∀ (a b : List SV) (l : List Value), SVs.sameK pc a b = true → VRels V ι b l → VRels V ι a l
  | [], [], l, h, hv => hv
  | [], _ :: _, l, h, hv => by cases h
  | _ :: _, [], l, h, hv => by cases h
  | x :: xs, y :: ys, l, h, hv => by
    simp only [SVs.sameK, Bool.and_eq_true] at h
    obtain ⟨c, cs, rfl, h1, h2⟩ := hv
    exact ⟨c, cs, rfl, sameK_rel hp x y c h.1 h1, sameKs_rel hp xs ys cs h.2 h2⟩
end
theorem sameK_one {a b : SV} (h : a.sameK pc b = true) (hb : b.one = true) : a.one = true := by
  unfold SV.sameK at h
  split at h
  · rfl
  · rfl
  · cases hb
  · rfl
  · rw [SV.same_eq h]; exact hb
theorem sameKs_get : ∀ {a b : List SV} {j : Nat} {v : SV}, SVs.sameK pc a b = true → a[j]? = some v → ∃ u, b[j]? = some u ∧ v.sameK pc u = true
  | [], [], j, v, h, hj => by simp at hj
  | [], _ :: _, j, v, h, hj => by cases h
  | _ :: _, [], j, v, h, hj => by cases h
  | x :: xs, y :: ys, 0, v, h, hj => by
    simp only [SVs.sameK, Bool.and_eq_true] at h
    simp at hj; subst hj
    exact ⟨y, rfl, h.1⟩
  | x :: xs, y :: ys, j + 1, v, h, hj => by
    simp only [SVs.sameK, Bool.and_eq_true] at h
    simpa using sameKs_get h.2 (by simpa using hj)
theorem sameKs_len : ∀ {a b : List SV}, SVs.sameK pc a b = true → a.length = b.length
  | [], [], h => rfl
  | [], _ :: _, h => by cases h
  | _ :: _, [], h => by cases h
  | x :: xs, y :: ys, h => by
    simp only [SVs.sameK, Bool.and_eq_true] at h
    simp [sameKs_len h.2]
end
theorem slotsOK_get {pc : PC} {θ : List SV} {ρ : List Nat} {n : Nat} {fr : Fr} : ∀ {vs : List SV} {i j : Nat} {v : SV}, slotsOK pc θ ρ n fr i vs = true → vs[j]? = some v → v.isLost = true ∨ (v.bnd n = true ∧ (v.inst θ ρ).sameK pc ((fr.t.get (i + j)).getD sundef) = true)
  | [], i, j, v, h, hj => by simp at hj
  | x :: xs, i, 0, v, h, hj => by
    simp at hj; subst hj
    simp only [slotsOK, Bool.and_eq_true, Bool.or_eq_true] at h
    refine h.1.imp id fun ⟨h1, h2⟩ => ⟨h1, ?_⟩
    rw [Nat.add_zero]
    cases hg : fr.t.get i <;> simp only [hg] at h2 <;> exact h2
  | x :: xs, i, j + 1, v, h, hj => by
    simp only [slotsOK, Bool.and_eq_true] at h
    have := slotsOK_get h.2 (j := j) (v := v) (by simpa using hj)
    rwa [show i + 1 + j = i + (j + 1) by omega] at this
theorem objsOK_get {pc : PC} {θ : List SV} {ρ : List Nat} {n : Nat} {h : Hp} : ∀ {os : List SObj} {i j : Nat} {cs : List SV} {ro : Bool}, objsOK pc θ ρ n h i os = true → os[j]? = some (.cells cs ro) → SVs.bnd n cs = true ∧ ∃ cs', h.get (rho ρ (i + j)) = some (.cells cs' ro) ∧ SVs.sameK pc (SVs.inst θ ρ cs) cs' = true
  | [], i, j, cs, ro, hh, hj => by simp at hj
  | .dead :: os, i, 0, cs, ro, hh, hj => by simp at hj
  | .arr _ _ _ :: os, i, 0, cs, ro, hh, hj => by simp at hj
  | .map _ :: os, i, 0, cs, ro, hh, hj => by simp at hj
  | .map _ :: os, i, j + 1, cs, ro, hh, hj => by
    simp only [objsOK, Bool.and_eq_true] at hh
    have := objsOK_get (j := j) hh.2 (by simpa using hj)
    rwa [show i + 1 + j = i + (j + 1) by omega] at this
  | .big _ _ _ :: os, i, 0, cs, ro, hh, hj => by simp at hj
  | .big _ _ _ :: os, i, j + 1, cs, ro, hh, hj => by
    simp only [objsOK, Bool.and_eq_true] at hh
    have := objsOK_get (j := j) hh.2 (by simpa using hj)
    rwa [show i + 1 + j = i + (j + 1) by omega] at this
  | .cells ds r :: os, i, 0, cs, ro, hh, hj => by
    simp at hj
    obtain ⟨rfl, rfl⟩ := hj
    simp only [objsOK, Bool.and_eq_true] at hh
    have h1 := hh.1
    rw [Nat.add_zero]
    split at h1
    · rename_i cs' ro' hg
      simp only [Bool.and_eq_true, beq_iff_eq] at h1
      refine ⟨h1.1.2, cs', ?_, h1.2⟩
      rw [hg, h1.1.1]
    · cases h1
  | .arr _ _ _ :: os, i, j + 1, cs, ro, hh, hj => by
    simp only [objsOK, Bool.and_eq_true] at hh
    have := objsOK_get (j := j) hh.2 (by simpa using hj)
    rwa [show i + 1 + j = i + (j + 1) by omega] at this
  | .dead :: os, i, j + 1, cs, ro, hh, hj => by
    have := objsOK_get (i := i + 1) (j := j) (cs := cs) (ro := ro) (show objsOK pc θ ρ n h (i + 1) os = true from hh) (by simpa using hj)
    rwa [show i + 1 + j = i + (j + 1) by omega] at this
  | .cells ds r :: os, i, j + 1, cs, ro, hh, hj => by
    simp only [objsOK, Bool.and_eq_true] at hh
    have := objsOK_get (j := j) hh.2 (by simpa using hj)
    rwa [show i + 1 + j = i + (j + 1) by omega] at this
theorem objsOK_arr {pc : PC} {θ : List SV} {ρ : List Nat} {n : Nat} {h : Hp} : ∀ {os : List SObj} {i j : Nat} {s : Nat} {k : List AK} {m : SE}, objsOK pc θ ρ n h i os = true → os[j]? = some (.arr s k m) → h.get (rho ρ (i + j)) = some (.arr s k (m.sub θ))
  | [], i, j, s, k, m, hh, hj => by simp at hj
  | .dead :: os, i, 0, s, k, m, hh, hj => by simp at hj
  | .cells _ _ :: os, i, 0, s, k, m, hh, hj => by simp at hj
  | .map _ :: os, i, 0, s, k, m, hh, hj => by simp at hj
  | .map _ :: os, i, j + 1, s, k, m, hh, hj => by
    simp only [objsOK, Bool.and_eq_true] at hh
    have := objsOK_arr (j := j) hh.2 (by simpa using hj)
    rwa [show i + 1 + j = i + (j + 1) by omega] at this
  | .big _ _ _ :: os, i, 0, s, k, m, hh, hj => by simp at hj
  | .big _ _ _ :: os, i, j + 1, s, k, m, hh, hj => by
    simp only [objsOK, Bool.and_eq_true] at hh
    have := objsOK_arr (j := j) hh.2 (by simpa using hj)
    rwa [show i + 1 + j = i + (j + 1) by omega] at this
  | .arr s' k' m' :: os, i, 0, s, k, m, hh, hj => by
    simp at hj
    obtain ⟨rfl, rfl, rfl⟩ := hj
    simp only [objsOK, Bool.and_eq_true] at hh
    have h1 := hh.1
    rw [Nat.add_zero]
    split at h1
    · rename_i s2 k2 m2 hg
      simp only [Bool.and_eq_true] at h1
      rw [hg, ← SE.same_eq h1.2, ← Nat.eq_of_beq_eq_true h1.1.1, ← aksEq_eq h1.1.2]
    · cases h1
  | .dead :: os, i, j + 1, s, k, m, hh, hj => by
    have := objsOK_arr (i := i + 1) (j := j) (s := s) (k := k) (m := m) (show objsOK pc θ ρ n h (i + 1) os = true from hh) (by simpa using hj)
    rwa [show i + 1 + j = i + (j + 1) by omega] at this
  | .cells _ _ :: os, i, j + 1, s, k, m, hh, hj => by
    simp only [objsOK, Bool.and_eq_true] at hh
    have := objsOK_arr (j := j) hh.2 (by simpa using hj)
    rwa [show i + 1 + j = i + (j + 1) by omega] at this
  | .arr _ _ _ :: os, i, j + 1, s, k, m, hh, hj => by
    simp only [objsOK, Bool.and_eq_true] at hh
    have := objsOK_arr (j := j) hh.2 (by simpa using hj)
    rwa [show i + 1 + j = i + (j + 1) by omega] at this
theorem isE_eq {t : Tr SV} (h : isE t = true) : t = .e := by
  cases t with
  | e => rfl
  | n o l r => cases h
theorem trOK_get {f : SV → SV → Bool} {z z' : SV} (hz : f z z' = true) : ∀ (m i k : Nat) (t t' : Tr SV), trOK f z z' k t t' = true → f (getZ ((gF m i).run t) z) (getZ ((gF m i).run t') z') = true := by
  have he : ∀ (m i : Nat) (t t' : Tr SV), (isE t && isE t') = true → f (getZ ((gF m i).run t) z) (getZ ((gF m i).run t') z') = true := by
    intro m i t t' h
    simp only [Bool.and_eq_true] at h
    rw [isE_eq h.1, isE_eq h.2, gF_e]
    exact hz
  intro m
  induction m with
  | zero =>
    intro i k t t' h
    cases k with
    | zero => cases h
    | succ k =>
      unfold trOK at h
      cases hb : (isE t && isE t') <;> simp only [hb, cond_true, cond_false] at h
      · simp only [Bool.and_eq_true] at h
        exact h.1.1
      · exact he 0 i t t' hb
  | succ m ih =>
    intro i k t t' h
    cases k with
    | zero => cases h
    | succ k =>
      unfold trOK at h
      cases hb : (isE t && isE t') <;> simp only [hb, cond_true, cond_false] at h
      · simp only [Bool.and_eq_true] at h
        cases i0 : Nat.beq i 0
        · cases i1 : Nat.beq (Nat.mod i 2) 1
          · rw [gF_rt _ _ _ i0 i1, gF_rt _ _ _ i0 i1]
            exact ih _ k _ _ h.2
          · rw [gF_lt _ _ _ i0 i1, gF_lt _ _ _ i0 i1]
            exact ih _ k _ _ h.1.2
        · rw [gF_z _ _ _ i0, gF_z _ _ _ i0]
          exact h.1.1
      · exact he (m + 1) i t t' hb
theorem bigAt_Z (t : Tr SV) (z : SV) (j : Nat) : bigAt t z j = getZ (t.get j) z := rfl
theorem trOK_at {f : SV → SV → Bool} {z z' : SV} {k : Nat} {t t' : Tr SV} (hz : f z z' = true) (h : trOK f z z' k t t' = true) (j : Nat) : f (bigAt t z j) (bigAt t' z' j) = true := by
  rw [bigAt_Z, bigAt_Z]
  unfold Tr.get
  cases Nat.blt j paLim <;> simp only [cond_true, cond_false]
  · exact hz
  · exact trOK_get hz 40 j k t t' h
theorem trCs_at {f : SV → SV → Bool} {t : Tr SV} {z : SV} : ∀ {cs : List SV} {i j : Nat} {v : SV}, trCs f t z i cs = true → cs[j]? = some v → f (bigAt t z (i + j)) v = true
  | [], i, j, v, h, hj => by simp at hj
  | c :: cs, i, 0, v, h, hj => by
    simp only [trCs, Bool.and_eq_true] at h
    simp at hj; subst hj
    exact h.1
  | c :: cs, i, j + 1, v, h, hj => by
    simp only [trCs, Bool.and_eq_true] at h
    have := trCs_at (i := i + 1) (j := j) h.2 (by simpa using hj)
    rwa [show i + 1 + j = i + (j + 1) by omega] at this
theorem allF_get {f : SV → Bool} : ∀ {cs : List SV} {j : Nat} {v : SV}, allF f cs = true → cs[j]? = some v → f v = true
  | [], j, v, h, hj => by simp at hj
  | c :: cs, 0, v, h, hj => by
    simp only [allF, Bool.and_eq_true] at h
    simp at hj; subst hj
    exact h.1
  | c :: cs, j + 1, v, h, hj => by
    simp only [allF, Bool.and_eq_true] at h
    exact allF_get h.2 (by simpa using hj)
theorem bigCs_at {f : SV → SV → Bool} {t : Tr SV} {z : SV} {cs : List SV} (h : bigCs f t z cs = true) {j : Nat} {v : SV} (hj : cs[j]? = some v) : f (bigAt t z j) v = true := by
  unfold bigCs at h
  cases hb : isE t <;> simp only [hb, cond_true, cond_false] at h
  · have := trCs_at (i := 0) h hj
    rwa [Nat.zero_add] at this
  · have : bigAt t z j = z := by rw [bigAt_Z, isE_eq hb, Tr.get_e]; rfl
    rw [this]
    exact allF_get h hj
theorem objsOK_big {pc : PC} {θ : List SV} {ρ : List Nat} {n : Nat} {h : Hp} : ∀ {os : List SObj} {i j : Nat} {t : Tr SV} {m : Nat} {z : SV}, objsOK pc θ ρ n h i os = true → os[j]? = some (.big t m z) →
    (∃ t' z', h.get (rho ρ (i + j)) = some (.big t' m z') ∧ ∀ j, cellOK pc θ ρ n (bigAt t z j) (bigAt t' z' j) = true) ∨ (∃ cs', h.get (rho ρ (i + j)) = some (.cells cs' false) ∧ cs'.length = m ∧ ∀ (j : Nat) (v : SV), cs'[j]? = some v → cellOK pc θ ρ n (bigAt t z j) v = true)
  | [], i, j, t, m, z, hh, hj => by simp at hj
  | .dead :: os, i, 0, t, m, z, hh, hj => by simp at hj
  | .cells _ _ :: os, i, 0, t, m, z, hh, hj => by simp at hj
  | .arr _ _ _ :: os, i, 0, t, m, z, hh, hj => by simp at hj
  | .big t0 m0 z0 :: os, i, 0, t, m, z, hh, hj => by
    simp at hj
    obtain ⟨rfl, rfl, rfl⟩ := hj
    simp only [objsOK, Bool.and_eq_true] at hh
    have h1 := hh.1
    rw [Nat.add_zero]
    split at h1
    · rename_i t' m' z' hg
      simp only [Bool.and_eq_true] at h1
      obtain rfl := Nat.eq_of_beq_eq_true h1.1.1
      exact .inl ⟨t', z', hg, fun j => trOK_at h1.1.2 h1.2 j⟩
    · rename_i cs' hg
      simp only [Bool.and_eq_true] at h1
      exact .inr ⟨cs', hg, (Nat.eq_of_beq_eq_true h1.1).symm, fun j v hj => bigCs_at h1.2 hj⟩
    · cases h1
  | .dead :: os, i, j + 1, t, m, z, hh, hj => by
    have := objsOK_big (i := i + 1) (j := j) (t := t) (m := m) (z := z) (show objsOK pc θ ρ n h (i + 1) os = true from hh) (by simpa using hj)
    rwa [show i + 1 + j = i + (j + 1) by omega] at this
  | .cells _ _ :: os, i, j + 1, t, m, z, hh, hj => by
    simp only [objsOK, Bool.and_eq_true] at hh
    have := objsOK_big (j := j) hh.2 (by simpa using hj)
    rwa [show i + 1 + j = i + (j + 1) by omega] at this
  | .arr _ _ _ :: os, i, j + 1, t, m, z, hh, hj => by
    simp only [objsOK, Bool.and_eq_true] at hh
    have := objsOK_big (j := j) hh.2 (by simpa using hj)
    rwa [show i + 1 + j = i + (j + 1) by omega] at this
  | .map _ :: os, i, 0, t, m, z, hh, hj => by simp at hj
  | .map _ :: os, i, j + 1, t, m, z, hh, hj => by
    simp only [objsOK, Bool.and_eq_true] at hh
    have := objsOK_big (j := j) hh.2 (by simpa using hj)
    rwa [show i + 1 + j = i + (j + 1) by omega] at this
  | .big _ _ _ :: os, i, j + 1, t, m, z, hh, hj => by
    simp only [objsOK, Bool.and_eq_true] at hh
    have := objsOK_big (j := j) hh.2 (by simpa using hj)
    rwa [show i + 1 + j = i + (j + 1) by omega] at this
theorem objsOK_map {pc : PC} {θ : List SV} {ρ : List Nat} {n : Nat} {h : Hp} : ∀ {os : List SObj} {i j : Nat} {es : List (SV × SV)}, objsOK pc θ ρ n h i os = true → os[j]? = some (.map es) → ∃ es', h.get (rho ρ (i + j)) = some (.map es') ∧ esOK (cellOK pc θ ρ n) es es' = true
  | [], i, j, es, hh, hj => by simp at hj
  | .dead :: os, i, 0, es, hh, hj => by simp at hj
  | .cells _ _ :: os, i, 0, es, hh, hj => by simp at hj
  | .arr _ _ _ :: os, i, 0, es, hh, hj => by simp at hj
  | .big _ _ _ :: os, i, 0, es, hh, hj => by simp at hj
  | .map es0 :: os, i, 0, es, hh, hj => by
    simp at hj
    subst hj
    simp only [objsOK, Bool.and_eq_true] at hh
    have h1 := hh.1
    rw [Nat.add_zero]
    split at h1
    · exact ⟨_, ‹_›, h1⟩
    · cases h1
  | .dead :: os, i, j + 1, es, hh, hj => by
    have := objsOK_map (i := i + 1) (j := j) (es := es) (show objsOK pc θ ρ n h (i + 1) os = true from hh) (by simpa using hj)
    rwa [show i + 1 + j = i + (j + 1) by omega] at this
  | .cells _ _ :: os, i, j + 1, es, hh, hj => by
    simp only [objsOK, Bool.and_eq_true] at hh
    have := objsOK_map (j := j) hh.2 (by simpa using hj)
    rwa [show i + 1 + j = i + (j + 1) by omega] at this
  | .arr _ _ _ :: os, i, j + 1, es, hh, hj => by
    simp only [objsOK, Bool.and_eq_true] at hh
    have := objsOK_map (j := j) hh.2 (by simpa using hj)
    rwa [show i + 1 + j = i + (j + 1) by omega] at this
  | .big _ _ _ :: os, i, j + 1, es, hh, hj => by
    simp only [objsOK, Bool.and_eq_true] at hh
    have := objsOK_map (j := j) hh.2 (by simpa using hj)
    rwa [show i + 1 + j = i + (j + 1) by omega] at this
  | .map _ :: os, i, j + 1, es, hh, hj => by
    simp only [objsOK, Bool.and_eq_true] at hh
    have := objsOK_map (j := j) hh.2 (by simpa using hj)
    rwa [show i + 1 + j = i + (j + 1) by omega] at this
theorem objsOK_knd {pc : PC} {θ : List SV} {ρ : List Nat} {n : Nat} {h : Hp} : ∀ {os : List SObj} {i j : Nat} {o : SObj}, objsOK pc θ ρ n h i os = true → os[j]? = some o → o.knd ≠ 0 → ∃ x, h.get (rho ρ (i + j)) = some x ∧ x.knd = o.knd := by
  intro os i j o hh hj hk
  cases o with
  | dead => exact absurd rfl hk
  | arr s k m => exact absurd rfl hk
  | map es =>
    obtain ⟨es', q, _⟩ := objsOK_map hh hj
    exact ⟨_, q, rfl⟩
  | big t m z =>
    rcases objsOK_big hh hj with ⟨t', z', q, _⟩ | ⟨cs', q, _⟩
    · exact ⟨_, q, rfl⟩
    · exact ⟨_, q, rfl⟩
  | cells cs ro =>
    obtain ⟨_, cs', q2, _⟩ := objsOK_get hh hj
    exact ⟨_, q2, by cases ro <;> rfl⟩
theorem factsOK_holds {V : Val} {θ : List SV} {pc' : PC} (h : pc'.holds V) : ∀ {pc : PC}, factsOK θ pc' pc = true → pc.holds (comp V θ)
  | [], hf => fun q hq => by cases hq
  | (e, b) :: l, hf => by
    simp only [factsOK, Bool.and_eq_true] at hf
    intro q hq
    rcases List.mem_cons.1 hq with rfl | hq
    · have h1 := hf.1
      split at h1
      · rename_i c hc
        have := sbK_den h hc
        rw [SB.sub_den] at this
        simp only [beq_iff_eq] at h1
        rw [this, h1]
      · cases h1
    · exact factsOK_holds h hf.2 q hq
theorem doorR_get {ρ : List Nat} : ∀ {d i : Nat}, doorR ρ d = true → i < d → rho ρ i = i
  | 0, i, h, hi => by omega
  | d + 1, i, h, hi => by
    simp only [doorR, Bool.and_eq_true] at h
    rcases Nat.lt_or_ge i d with h1 | h1
    · exact doorR_get h.2 h1
    · obtain rfl : i = d := by omega
      exact Nat.eq_of_beq_eq_true h.1
theorem Tp.hp_get {T : Tp} (h : T.okT = true) : T.hp.sz = T.objs.length ∧ ∀ j, T.hp.get j = T.objs[j]? := by
  unfold Tp.okT at h
  simp only [Bool.and_eq_true] at h
  have h2 := h.2
  unfold Tp.hp
  split at h2
  · rename_i σ hσ
    obtain ⟨p1, p2⟩ := pushAll_get hσ
    exact ⟨by simp [p1, hpE], fun j => by simp only [p2 j]; simp [hpE]⟩
  · cases h2
theorem Tp.fr_get {T : Tp} (h : T.okT = true) (i : Nat) : T.fr.t.get i = T.slots[i]? := by
  unfold Tp.okT at h
  simp only [Bool.and_eq_true] at h
  have h1 := h.1
  unfold Tp.fr
  split at h1
  · rename_i t ht
    simp only [ht]
    rw [enterT_get ht i]
    simp only [Nat.zero_le, true_and, Nat.zero_add, Nat.sub_zero]
    split
    · rfl
    · rename_i hi
      rw [Tr.get_e, List.getElem?_eq_none_iff.2 (by omega)]
  · cases h1
theorem match_sat' {G : Nat → Option Nat} {W : World} {d : Nat} (hG : ∀ g id, G g = some id → id < d) {T : Tp} {fr : Fr} {p : SP} {θ : List SV} {ρ : List Nat} (hm : matchOK d T fr p θ ρ = true) {V : Val} (hpc : p.pc.holds V)
    {ι : Nat → Option Loc} {a : Act} {w : World} (hfr : FrRel V ι fr a) (hh : HRel V ι W.heap.size p.h w) (hg : GRel G ι) (hk : Kept W w) : ∃ V' ι', T.pc.holds V' ∧ FrRel V' ι' T.fr a ∧ HRel V' ι' W.heap.size T.hp w ∧ GRel G ι' ∧ Kept W w ∧ V' = comp V θ := by
  unfold matchOK at hm
  simp only [Bool.and_eq_true] at hm
  obtain ⟨⟨⟨⟨⟨⟨⟨⟨h0, h1⟩, h2⟩, h3⟩, h4⟩, h5⟩, h6⟩, h7⟩, h8⟩ := hm
  have h1 := Nat.eq_of_beq_eq_true h1
  have h2 := Nat.eq_of_beq_eq_true h2
  have h4 := Nat.le_of_ble_eq_true h4
  obtain ⟨g1, g2⟩ := Tp.hp_get h0
  refine ⟨comp V θ, iotaR ι ρ T.objs.length, factsOK_holds hpc h8, ⟨?_, hfr.defers, fun i => ?_⟩, ⟨hh.base, ?_, ?_, ?_⟩, ?_, hk, rfl⟩
  · rw [hfr.size, h1]; rfl
  · rw [Tp.fr_get h0 i]
    cases hi : T.slots[i]? with
    | none =>
      have : a.tmps.getD i undef = undef := by
        have hs := hfr.size
        rw [List.getElem?_eq_none_iff] at hi
        simp only [Array.getD_eq_getD_getElem?]
        rw [Array.getElem?_eq_none_iff.2 (by omega)]; rfl
      rw [this]
      exact VRel.undef
    | some v =>
      rcases slotsOK_get h6 hi with hl | ⟨hb, he⟩
      · cases v <;> simp [SV.isLost] at hl
        trivial
      · have := hfr.val i
        rw [Nat.zero_add] at he
        exact VRel_inst v _ hb (sameK_rel hpc _ _ _ he this)
  · intro id o l ho hl
    rw [g2] at ho
    have hid : id < T.objs.length := (List.getElem?_eq_some_iff.1 ho).1
    have hl : ι (rho ρ id) = some l := by
      unfold iotaR at hl
      rwa [if_pos hid] at hl
    cases o with
    | dead => trivial
    | arr s k m =>
      have q2 := objsOK_arr h7 ho
      rw [Nat.zero_add] at q2
      obtain ⟨N, r1, r2⟩ := hh.obj _ _ l q2 hl
      exact ⟨N, by rw [← SE.sub_den]; exact r1, r2⟩
    | map es =>
      obtain ⟨es', q, hq⟩ := objsOK_map h7 ho
      rw [Nat.zero_add] at q
      obtain ⟨ms, r1, r2, r3⟩ := hh.obj _ _ l q hl
      have len : ∀ {l l' : List (SV × SV)}, esOK (cellOK p.pc θ ρ T.objs.length) l l' = true → l.length = l'.length := by
        intro l
        induction l with
        | nil => intro l' h; cases l' <;> simp [esOK] at h ⊢
        | cons x l ih =>
          intro l' h
          cases l' with
          | nil => simp [esOK] at h
          | cons y l' =>
            obtain ⟨a, b⟩ := x
            obtain ⟨a', b'⟩ := y
            simp only [esOK, Bool.and_eq_true] at h
            simp [ih h.2]
      have one : ∀ (a b : SV) (u : Value), cellOK p.pc θ ρ T.objs.length a b = true → VRel V ι b u → VRel (comp V θ) (iotaR ι ρ T.objs.length) a u := by
        intro a b u hc hu
        unfold cellOK at hc
        simp only [Bool.and_eq_true] at hc
        exact VRel_inst a u hc.1 (sameK_rel hpc _ _ _ hc.2 hu)
      have all : ∀ {i : Nat} {l l' : List (SV × SV)} {ms : List MapEntry}, esOK (cellOK p.pc θ ρ T.objs.length) l l' = true → MRel V ι i l' ms → MRel (comp V θ) (iotaR ι ρ T.objs.length) i l ms := by
        intro i l
        induction l generalizing i with
        | nil =>
          intro l' ms h hm
          cases l' with
          | nil => cases ms with
            | nil => trivial
            | cons _ _ => exact hm.elim
          | cons _ _ => simp [esOK] at h
        | cons x l ih =>
          intro l' ms h hm
          cases l' with
          | nil => simp [esOK] at h
          | cons y l' =>
            obtain ⟨a, b⟩ := x
            obtain ⟨a', b'⟩ := y
            cases ms with
            | nil => exact hm.elim
            | cons m ms =>
              simp only [esOK, Bool.and_eq_true] at h
              exact ⟨one _ _ _ h.1.1 hm.1, one _ _ _ h.1.2 hm.2.1, hm.2.2.1, ih h.2 hm.2.2.2⟩
      exact ⟨ms, by rw [len hq]; exact r1, r2, all hq r3⟩
    | big t m z =>
      have one : ∀ (a b : SV) (u : Value), cellOK p.pc θ ρ T.objs.length a b = true → b.one = true → VRel V ι b u → a.one = true ∧ VRel (comp V θ) (iotaR ι ρ T.objs.length) a u := by
        intro a b u hc hb hu
        unfold cellOK at hc
        simp only [Bool.and_eq_true] at hc
        exact ⟨inst_one (sameK_one hc.2 hb), VRel_inst a u hc.1 (sameK_rel hpc _ _ _ hc.2 hu)⟩
      rcases objsOK_big h7 ho with ⟨t', z', q, hq⟩ | ⟨cs', q, hm, hq⟩
      · rw [Nat.zero_add] at q
        obtain ⟨c, e, r1, r2, r3, r4, r5⟩ := hh.obj _ _ l q hl
        refine ⟨c, e, r1, r2, r3, r4, fun j hj => ?_⟩
        obtain ⟨s1, u, s2, s3⟩ := r5 j hj
        obtain ⟨b1, b2⟩ := one _ _ u (hq j) s1 s3
        exact ⟨b1, u, s2, b2⟩
      · rw [Nat.zero_add] at q
        obtain ⟨c, e, fz, r1, r2, r3, r4⟩ := hh.obj _ _ l q hl
        obtain ⟨rfl, r5, r6⟩ := r2 rfl
        refine ⟨c, e, r1, r5, r6, by rw [← hm]; exact r3.1, fun j hj => ?_⟩
        have hlt : j < cs'.length := by omega
        obtain ⟨s1, u, s2, s3⟩ := r4 j _ (List.getElem?_eq_getElem hlt)
        obtain ⟨b1, b2⟩ := one _ _ u (hq j _ (List.getElem?_eq_getElem hlt)) s1 s3
        exact ⟨b1, u, s2, b2⟩
    | cells cs ro =>
      obtain ⟨q1, cs', q2, q3⟩ := objsOK_get h7 ho
      rw [Nat.zero_add] at q2
      obtain ⟨c, e, fz, r1, r2, r3, r4⟩ := hh.obj _ _ l q2 hl
      rw [← sameKs_len q3, SVs.inst_len] at r3
      refine ⟨c, e, fz, r1, r2, r3, fun j v hj => ?_⟩
      obtain ⟨x, x1, x2⟩ := sameKs_get q3 (SVs.inst_get hj)
      obtain ⟨s1, u, s2, s3⟩ := r4 j _ x1
      exact ⟨inst_one (sameK_one x2 s1), u, s2, VRel_inst v u (SVs.bnd_get q1 hj) (sameK_rel hpc _ _ _ x2 s3)⟩
  · intro id id' o o' l l' ho ho' n1 n2 hne hl hl'
    rw [g2] at ho ho'
    have hid : id < T.objs.length := (List.getElem?_eq_some_iff.1 ho).1
    have hid' : id' < T.objs.length := (List.getElem?_eq_some_iff.1 ho').1
    unfold iotaR at hl hl'
    rw [if_pos hid] at hl
    rw [if_pos hid'] at hl'
    obtain ⟨x, q2, k1⟩ := objsOK_knd h7 ho n1
    obtain ⟨x', q2', k2⟩ := objsOK_knd h7 ho' n2
    rw [Nat.zero_add] at q2 q2'
    have := hh.inj _ _ _ _ l l' q2 q2' (by omega) (by omega) (fun e => hne ?_) hl hl'
    · rw [k1, k2] at this; exact this
    have e1 : ρ[id]? = some (rho ρ id) := by
      unfold rho
      rw [List.getElem?_eq_getElem (by omega)]
    have e2 : ρ[id']? = some (rho ρ id') := by
      unfold rho
      rw [List.getElem?_eq_getElem (by omega)]
    rw [← e] at e2
    exact nodupB_inj h3 e1 e2
  · intro id hid
    rw [g1] at hid
    unfold iotaR
    rw [if_neg (by omega)]
  · intro g id hgi
    have hlt := hG g id hgi
    obtain ⟨l, l1, l2⟩ := hg g id hgi
    exact ⟨l, by unfold iotaR; rw [if_pos (by omega), doorR_get h5 hlt]; exact l1, l2⟩
theorem match_sat {G : Nat → Option Nat} {W : World} {d : Nat} (hG : ∀ g id, G g = some id → id < d) {T : Tp} {fr : Fr} {p : SP} {θ : List SV} {ρ : List Nat} (hm : matchOK d T fr p θ ρ = true) {V : Val} (hpc : p.pc.holds V)
    {ι : Nat → Option Loc} {a : Act} {w : World} (hfr : FrRel V ι fr a) (hh : HRel V ι W.heap.size p.h w) (hg : GRel G ι) (hk : Kept W w) : Sat G W T a w := by
  obtain ⟨V', ι', h1, h2, h3, h4, h5, _⟩ := match_sat' hG hm hpc hfr hh hg hk
  exact ⟨V', ι', h1, h2, h3, h4, h5⟩

/- Parts of a body. -/
noncomputable def preStep (m : TT (Ex × Fr × SP)) (k : Fr → SP → TT (Ex × Fr × SP)) : TT (Ex × Fr × SP) := m.bind fun x => match x with
  | (.normal, fr, p) => k fr p
  | x => .ret x
noncomputable def evPre (C : Cfg) (n : Nat) : Nat → ACode → Fr → SP → TT (Ex × Fr × SP)
  | 0, _, fr, p => .ret (.normal, fr, p)
  | k + 1, .seq a b, fr, p => preStep (evCodeD C n a fr p) fun fr p => evPre C n k b fr p
  | _ + 1, _, _, _ => .fail
noncomputable def forkS : List (Nat × Nat × Int) → Fr → SP → TT (Ex × Fr × SP)
  | [], fr, p => .ret (.normal, fr, p)
  | (i, n, lo) :: l, fr, p => match fr.t.get i with
    | some (.int _ e) => (forkND e n lo p.pc).bind fun pc => forkS l fr ⟨p.h, pc⟩
    | _ => .fail
noncomputable def evPreF (C : Cfg) (n k : Nat) (l : List (Nat × Nat × Int)) (c : ACode) (fr : Fr) (p : SP) : TT (Ex × Fr × SP) := preStep (evPre C n k c fr p) fun fr p => forkS l fr p
def sufC : Nat → ACode → ACode
  | 0, c => c
  | k + 1, .seq _ b => sufC k b
  | _ + 1, _ => .skip
def sufCode : Nat → Code → Code
  | 0, c => c
  | k + 1, .seq _ b => sufCode k b
  | _ + 1, _ => .skip
theorem cCode_seq {P : Program} {c : Code} {x y : ACode} (h : cCode P c = some (.seq x y)) : ∃ a b, c = .seq a b ∧ cCode P a = some x ∧ cCode P b = some y := by
  cases c
  case seq a b =>
    simp only [cCode] at h
    split at h
    · rename_i x' y' h1 h2
      cases h
      exact ⟨a, b, rfl, h1, h2⟩
    · cases h
  case region i ops m =>
    cases m <;> simp only [cCode] at h <;> split at h <;> cases h
  all_goals first
    | (simp [cCode] at h; done)
    | (simp only [cCode] at h; split at h <;> cases h; done)
section
variable {P : Program} {C : Cfg}
theorem suf_ok : ∀ {k : Nat} {c : Code} {ac : ACode}, cCode P c = some ac → cCode P (sufCode k c) = some (sufC k ac)
  | 0, c, ac, h => h
  | k + 1, c, ac, h => by
    cases ac with
    | seq x y =>
      obtain ⟨a, b, rfl, h1, h2⟩ := cCode_seq h
      exact suf_ok (k := k) h2
    | _ =>
      have : ∀ a b, c ≠ .seq a b := by
        rintro a b rfl
        simp only [cCode] at h
        split at h <;> cases h
      cases c <;> first | rfl | exact absurd rfl (this _ _)
theorem pre_ok (hmix : P.follows .mixedOrders = true) (hF : ∀ f af, C.F f = some af → cFunc P f = some af) {V : Val} {B : Nat} (hS : SOK P V B C) (hL : LOK P V B C) (n : Nat) : ∀ {k : Nat} {c : Code} {ac : ACode} {fr fr' : Fr} {p p' : SP} {x : Ex} {o o' : List Bool}, cCode P c = some ac →
    runO (evPre C n k ac fr p) o = some ((x, fr', p'), o') → p'.pc.holds V → p.pc.holds V ∧ ∀ ι w a, FrRel V ι fr a → HRel V ι B p.h w → GRel C.G ι → ∀ (Q : Exit → Act → World → Prop),
      (∀ a' w' ι', FrRel V ι' fr' a' → HRel V ι' B p'.h w' → Ext ι p.h w ι' p'.h w' → match x with | .normal => (sufCode k c).wp P Q a' w' | x => Q x.ex a' w') → c.wp P Q a w
  | 0, c, ac, fr, fr', p, p', x, o, o', hc, hr, hp => by
    obtain ⟨h1, rfl⟩ := ret_run (show runO (TT.ret (Ex.normal, fr, p)) o = _ from hr)
    simp only [Prod.mk.injEq] at h1
    obtain ⟨rfl, rfl, rfl⟩ := h1
    exact ⟨hp, fun ι w a hfr hh hg Q hQ => hQ a w ι hfr hh (Ext.refl _ _ _)⟩
  | k + 1, c, ac, fr, fr', p, p', x, o, o', hc, hr, hp => by
    cases ac with
    | seq y z =>
      obtain ⟨a1, b1, rfl, h1, h2⟩ := cCode_seq hc
      have hr : runO (preStep (evCodeD C n y fr p) fun fr p => evPre C n k z fr p) o = some ((x, fr', p'), o') := hr
      unfold preStep at hr
      obtain ⟨⟨x1, fr1, p1⟩, o1, r1, r2⟩ := runO_bind hr
      have ev := evCodeD_sim n _ _ _ _ _ _ _ _ r1
      cases x1 with
      | normal =>
        obtain ⟨i1, i2⟩ := pre_ok hmix hF hS hL n (k := k) h2 (show runO (evPre C n k z fr1 p1) o1 = _ from r2) hp
        obtain ⟨j1, j2⟩ := evCode_ok hmix hF hS hL n _ _ _ _ _ _ _ h1 ev i1
        refine ⟨j1, fun ι w a hfr hh hg Q hQ => wp_seq (j2 ι w a hfr hh hg _ ?_)⟩
        intro a' w' ι' q1 q2 q3
        refine i2 ι' w' a' q1 q2 (hg.mono (q3.mono hh)) Q ?_
        intro a'' w'' ι'' s1 s2 s3
        exact hQ a'' w'' ι'' s1 s2 (q3.trans s3)
      | exit id =>
        obtain ⟨h3, rfl⟩ := ret_run (show runO (TT.ret (Ex.exit id, fr1, p1)) o1 = _ from r2)
        simp only [Prod.mk.injEq] at h3
        obtain ⟨rfl, rfl, rfl⟩ := h3
        obtain ⟨j1, j2⟩ := evCode_ok hmix hF hS hL n _ _ _ _ _ _ _ h1 ev hp
        refine ⟨j1, fun ι w a hfr hh hg Q hQ => wp_seq (j2 ι w a hfr hh hg _ ?_)⟩
        intro a' w' ι' q1 q2 q3
        exact hQ a' w' ι' q1 q2 q3
      | ret =>
        obtain ⟨h3, rfl⟩ := ret_run (show runO (TT.ret (Ex.ret, fr1, p1)) o1 = _ from r2)
        simp only [Prod.mk.injEq] at h3
        obtain ⟨rfl, rfl, rfl⟩ := h3
        obtain ⟨j1, j2⟩ := evCode_ok hmix hF hS hL n _ _ _ _ _ _ _ h1 ev hp
        refine ⟨j1, fun ι w a hfr hh hg Q hQ => wp_seq (j2 ι w a hfr hh hg _ ?_)⟩
        intro a' w' ι' q1 q2 q3
        exact hQ a' w' ι' q1 q2 q3
    | _ => simp [evPre, runO] at hr
end
/- The check of a tree: each leaf is what is asked for, or is never come to. -/
def chkL {α : Type} (pcOf : α → PC) (acc : α → Bool) : TT α → PC → Bool
  | .fail, pc => clash pc
  | .ret x, pc => samePC (pcOf x) pc && (acc x || clash pc)
  | .ask e t f, pc => chkL pcOf acc t ((e, true) :: pc) && chkL pcOf acc f ((e, false) :: pc)
theorem chkL_sound {α : Type} {V : Val} {pcOf : α → PC} {acc : α → Bool} : ∀ {m : TT α} {pc : PC}, chkL pcOf acc m pc = true → pc.holds V → ∃ o x, runO m o = some (x, []) ∧ acc x = true ∧ (pcOf x).holds V
  | .fail, pc, h, hp => (clash_sound h hp).elim
  | .ret x, pc, h, hp => by
    simp only [chkL, Bool.and_eq_true, Bool.or_eq_true] at h
    rcases h.2 with h2 | h2
    · exact ⟨[], x, rfl, h2, by rw [samePC_eq h.1]; exact hp⟩
    · exact (clash_sound h2 hp).elim
  | .ask e t f, pc, h, hp => by
    simp only [chkL, Bool.and_eq_true] at h
    cases he : e.den V
    · obtain ⟨o, x, h1, h2, h3⟩ := chkL_sound h.2 (fun q hq => by
        rcases List.mem_cons.1 hq with rfl | hq
        · exact he
        · exact hp q hq)
      exact ⟨false :: o, x, h1, h2, h3⟩
    · obtain ⟨o, x, h1, h2, h3⟩ := chkL_sound h.1 (fun q hq => by
        rcases List.mem_cons.1 hq with rfl | hq
        · exact he
        · exact hp q hq)
      exact ⟨true :: o, x, h1, h2, h3⟩
def askOf {α : Type} (m : TT α) : SB := TT.casesOn m (.lit true) (fun _ => .lit true) fun e _ _ => e
def isAskT {α : Type} (m : TT α) : Bool := TT.casesOn m false (fun _ => false) fun _ _ _ => true
theorem chkL_node {α : Type} {pcOf : α → PC} {acc : α → Bool} {M : TT α} {p : List Bool} {e : SB} {pc : PC} (h : isAsk e (M.go p) = true) (ha : chkL pcOf acc (M.go (p ++ [true])) ((e, true) :: pc) = true) (hb : chkL pcOf acc (M.go (p ++ [false])) ((e, false) :: pc) = true) : chkL pcOf acc (M.go p) pc = true := by
  rw [TT.go_append] at ha hb
  generalize M.go p = m at h ha hb
  cases m with
  | fail => simp [isAsk] at h
  | ret => simp [isAsk] at h
  | ask e' t f =>
    simp only [isAsk] at h
    obtain rfl := SB.same_eq h
    simp only [TT.go, cond_true, cond_false] at ha hb
    simp only [chkL, ha, hb, Bool.and_self]
inductive Sk where
  | all
  | hole
  | node (a b : Sk)
def TT.pcGo {α : Type} (m : TT α) (l : List Bool) (pc : PC) : PC := match l with
  | [] => pc
  | b :: l => TT.casesOn m pc (fun _ => pc) fun e t f => (bif b then t else f).pcGo l ((e, b) :: pc)
def chkSk {α : Type} (pcOf : α → PC) (acc : α → Bool) : Sk → TT α → PC → Bool
  | .all, m, pc => chkL pcOf acc m pc
  | .hole, _, _ => true
  | .node a b, m, pc => TT.casesOn m false (fun _ => false) fun e t f => chkSk pcOf acc a t ((e, true) :: pc) && chkSk pcOf acc b f ((e, false) :: pc)
def Sk.holes : Sk → List Bool → List (List Bool)
  | .all, _ => []
  | .hole, p => [p.reverse]
  | .node a b, p => a.holes (true :: p) ++ b.holes (false :: p)
def allP (q : List Bool → Prop) : List (List Bool) → Prop
  | [] => True
  | p :: l => q p ∧ allP q l
theorem allP_mem {q : List Bool → Prop} : ∀ {l : List (List Bool)}, allP q l → ∀ p ∈ l, q p
  | [], h, p, hp => by cases hp
  | x :: l, h, p, hp => by
    rcases List.mem_cons.1 hp with rfl | hp
    · exact h.1
    · exact allP_mem h.2 p hp
theorem chkSk_sound {α : Type} {pcOf : α → PC} {acc : α → Bool} : ∀ {s : Sk} {m : TT α} {pc : PC}, chkSk pcOf acc s m pc = true → (∀ p ∈ s.holes [], chkL pcOf acc (m.go p) (m.pcGo p pc) = true) → chkL pcOf acc m pc = true
  | .all, m, pc, h, hh => h
  | .hole, m, pc, h, hh => by
    have := hh [] (by simp [Sk.holes])
    simpa [TT.go, TT.pcGo] using this
  | .node a b, m, pc, h, hh => by
    have pre : ∀ (s : Sk) (x : List Bool), s.holes x = (s.holes []).map (x.reverse ++ ·) := by
      intro s
      induction s with
      | all => intro x; simp [Sk.holes]
      | hole => intro x; simp [Sk.holes]
      | node a b iha ihb =>
        intro x
        simp only [Sk.holes]
        rw [iha (true :: x), ihb (false :: x), iha [true], ihb [false]]
        simp [Function.comp_def]
    cases m with
    | fail => simp [chkSk] at h
    | ret => simp [chkSk] at h
    | ask e t f =>
      simp only [chkSk, Bool.and_eq_true] at h
      simp only [Sk.holes] at hh
      rw [pre a [true], pre b [false]] at hh
      simp only [chkL, Bool.and_eq_true]
      refine ⟨chkSk_sound h.1 fun p hp => ?_, chkSk_sound h.2 fun p hp => ?_⟩
      · have := hh (true :: p) (List.mem_append_left _ (List.mem_map.2 ⟨p, hp, rfl⟩))
        simpa [TT.go, TT.pcGo] using this
      · have := hh (false :: p) (List.mem_append_right _ (List.mem_map.2 ⟨p, hp, rfl⟩))
        simpa [TT.go, TT.pcGo] using this
def pcX (x : Ex × Fr × SP) : PC := x.2.2.pc
def retOK (G : Nat → Option Nat) (res : List ARes) (fr : Fr) (p : SP) : Bool := match evRess G fr p.h res with
  | some [.bool b] => (match sbK p.pc b with
    | some c => c
    | none => false)
  | _ => false
def anyT (d nv : Nat) (fr : Fr) (p : SP) : List Tp → Bool
  | [] => false
  | T :: l => matchT d nv T fr p || anyT d nv fr p l
def accT (G : Nat → Option Nat) (d nv : Nat) (res : List ARes) (Ts : List Tp) (x : Ex × Fr × SP) : Bool := match x with
  | (.normal, fr, p) => anyT d nv fr p Ts
  | (.ret, fr, p) => retOK G res fr p
  | _ => false
def accF (G : Nat → Option Nat) (res : List ARes) (x : Ex × Fr × SP) : Bool := match x with
  | (.exit _, _, _) => false
  | (_, fr, p) => retOK G res fr p
def Done (W : World) (e : Ending) (w' : World) : Prop := e = .returned (.bool true) ∧ Grown W w'
theorem anyT_mem {d nv : Nat} {fr : Fr} {p : SP} : ∀ {l : List Tp}, anyT d nv fr p l = true → ∃ T ∈ l, matchT d nv T fr p = true
  | [], h => by cases h
  | T :: l, h => by
    simp only [anyT, Bool.or_eq_true] at h
    rcases h with h | h
    · exact ⟨T, List.mem_cons_self .., h⟩
    · obtain ⟨x, h1, h2⟩ := anyT_mem h
      exact ⟨x, List.mem_cons_of_mem _ h1, h2⟩
section
variable {P : Program} {C : Cfg} {fn : Func} {res : List ARes} {W : World}
theorem ret_done (hrc : cRes P fn.results.toList = some res) {V : Val} {ι : Nat → Option Loc} {fr : Fr} {p : SP} {a : Act} {w : World} (h : retOK C.G res fr p = true) (hpc : p.pc.holds V) (hfr : FrRel V ι fr a) (hh : HRel V ι W.heap.size p.h w) (hg : GRel C.G ι) (hk : Kept W w) {x : Exit} (hx : x = .normal ∨ x = .ret) :
    bodyPost P fn (Done W) x a w := by
  unfold retOK at h
  split at h
  case h_2 => cases h
  rename_i b hb
  split at h
  case h_2 => cases h
  rename_i c hc
  subst h
  have hd := sbK_den hpc hc
  obtain ⟨us, u1, u2⟩ := evRes_sound (P := P) hfr hg hh hrc hb
  have hres : (results fn a.tmps).run P w = .ok (if h : us.toArray.size = 1 then us.toArray[0] else .tuple us.toArray) w := by
    rw [results_eq, Array.mapM_eq_mapM_toList]
    simp only [map_eq_pure_bind, Sem.run_bind, Sem.run_pure, u1, Result.andThen_ok]
  have hv := packRes_rel u2
  simp only [packRes, VRel, hd] at hv
  rw [hv] at hres
  rcases hx with rfl | rfl <;> exact ⟨hfr.defers, _, hres, rfl, hk.grown⟩
theorem cut_wp (hmix : P.follows .mixedOrders = true) (hF : ∀ f af, C.F f = some af → cFunc P f = some af) (hS : ∀ V B, SOK P V B C) (hL : ∀ V B, LOK P V B C) (hrc : cRes P fn.results.toList = some res) {d nv : Nat} (hG : ∀ g id, C.G g = some id → id < d) {n k : Nat} {c : Code} {ac : ACode} (hc : cCode P c = some ac) {T : Tp} {Ts : List Tp}
    (hok : chkL pcX (accT C.G d nv res Ts) (evPre C n k ac T.fr T.sp) T.pc = true) (hT : ∀ T' ∈ Ts, ∀ a w, Sat C.G W T' a w → (sufCode k c).wp P (bodyPost P fn (Done W)) a w) : ∀ a w, Sat C.G W T a w → c.wp P (bodyPost P fn (Done W)) a w := by
  rintro a w ⟨V, ι, hpc, hfr, hh, hg, hk⟩
  obtain ⟨o, ⟨x, fr', p'⟩, h1, h2, h3⟩ := chkL_sound hok hpc
  obtain ⟨_, k2⟩ := pre_ok hmix hF (hS V _) (hL V _) n hc h1 h3
  refine k2 ι w a hfr hh hg _ fun a' w' ι' q1 q2 q3 => ?_
  have hg' := hg.mono (q3.mono hh)
  have hk' := hk.step hh q3
  cases x with
  | normal =>
    obtain ⟨T', t1, t2⟩ := anyT_mem (show anyT d nv fr' p' Ts = true from h2)
    exact hT T' t1 a' w' (match_sat hG t2 h3 q1 q2 hg' hk')
  | ret => exact ret_done (C := C) hrc h2 h3 q1 q2 hg' hk' (.inr rfl)
  | exit id => cases h2
theorem forkS_ok {V : Val} : ∀ {l : List (Nat × Nat × Int)} {fr fr' : Fr} {p p' : SP} {x : Ex} {o o' : List Bool}, runO (forkS l fr p) o = some ((x, fr', p'), o') → x = .normal ∧ fr' = fr ∧ p'.h = p.h ∧ (p'.pc.holds V → p.pc.holds V)
  | [], fr, fr', p, p', x, o, o', h => by
    obtain ⟨h1, _⟩ := ret_run (show runO (TT.ret (Ex.normal, fr, p)) o = _ from h)
    cases h1
    exact ⟨rfl, rfl, rfl, fun q => q⟩
  | (i, n, lo) :: l, fr, fr', p, p', x, o, o', h => by
    simp only [forkS] at h
    split at h
    · obtain ⟨pc1, o1, r1, r2⟩ := runO_bind h
      obtain ⟨i1, i2, i3, i4⟩ := forkS_ok r2
      obtain ⟨_, k2⟩ := forkN_sound (V := V) (forkND_sim (h := p.h) r1)
      exact ⟨i1, i2, i3, fun q => k2 (i4 q)⟩
    · simp [runO] at h
theorem cut_wpF (hmix : P.follows .mixedOrders = true) (hF : ∀ f af, C.F f = some af → cFunc P f = some af) (hS : ∀ V B, SOK P V B C) (hL : ∀ V B, LOK P V B C) (hrc : cRes P fn.results.toList = some res) {d nv : Nat} (hG : ∀ g id, C.G g = some id → id < d) {n k : Nat} {l : List (Nat × Nat × Int)} {c : Code} {ac : ACode} (hc : cCode P c = some ac) {T : Tp} {Ts : List Tp}
    (hok : chkL pcX (accT C.G d nv res Ts) (evPreF C n k l ac T.fr T.sp) T.pc = true) (hT : ∀ T' ∈ Ts, ∀ a w, Sat C.G W T' a w → (sufCode k c).wp P (bodyPost P fn (Done W)) a w) : ∀ a w, Sat C.G W T a w → c.wp P (bodyPost P fn (Done W)) a w := by
  rintro a w ⟨V, ι, hpc, hfr, hh, hg, hk⟩
  obtain ⟨o, ⟨x, fr', p'⟩, h1, h2, h3⟩ := chkL_sound hok hpc
  unfold evPreF preStep at h1
  obtain ⟨⟨x1, fr1, p1⟩, o1, r1, r2⟩ := runO_bind h1
  cases x1 with
  | normal =>
    obtain ⟨e1, e2, e3, e4⟩ := forkS_ok (V := V) (show runO (forkS l fr1 p1) o1 = _ from r2)
    subst e1
    subst e2
    obtain ⟨_, k2⟩ := pre_ok hmix hF (hS V _) (hL V _) n hc r1 (e4 h3)
    refine k2 ι w a hfr hh hg _ fun a' w' ι' q1 q2 q3 => ?_
    have hg' := hg.mono (q3.mono hh)
    have hk' := hk.step hh q3
    obtain ⟨T', t1, t2⟩ := anyT_mem (show anyT d nv fr' p' Ts = true from h2)
    rw [← e3] at q2
    exact hT T' t1 a' w' (match_sat hG t2 h3 q1 q2 hg' hk')
  | ret =>
    obtain ⟨e1, _⟩ := ret_run (show runO (TT.ret (Ex.ret, fr1, p1)) o1 = _ from r2)
    cases e1
    obtain ⟨_, k2⟩ := pre_ok hmix hF (hS V _) (hL V _) n hc r1 h3
    refine k2 ι w a hfr hh hg _ fun a' w' ι' q1 q2 q3 => ?_
    exact ret_done (C := C) hrc h2 h3 q1 q2 (hg.mono (q3.mono hh)) (hk.step hh q3) (.inr rfl)
  | exit id =>
    obtain ⟨e1, _⟩ := ret_run (show runO (TT.ret (Ex.exit id, fr1, p1)) o1 = _ from r2)
    cases e1
    cases h2
theorem fin_wp (hmix : P.follows .mixedOrders = true) (hF : ∀ f af, C.F f = some af → cFunc P f = some af) (hS : ∀ V B, SOK P V B C) (hL : ∀ V B, LOK P V B C) (hrc : cRes P fn.results.toList = some res) {n : Nat} {c : Code} {ac : ACode} (hc : cCode P c = some ac) {T : Tp}
    (hok : chkL pcX (accF C.G res) (evCodeD C n ac T.fr T.sp) T.pc = true) : ∀ a w, Sat C.G W T a w → c.wp P (bodyPost P fn (Done W)) a w := by
  rintro a w ⟨V, ι, hpc, hfr, hh, hg, hk⟩
  obtain ⟨o, ⟨x, fr', p'⟩, h1, h2, h3⟩ := chkL_sound hok hpc
  have ev := evCodeD_sim (C := C) n _ _ _ _ _ _ _ _ h1
  obtain ⟨_, k2⟩ := evCode_ok hmix hF (hS V _) (hL V _) n _ _ _ _ _ _ _ hc ev h3
  refine k2 ι w a hfr hh hg _ fun a' w' ι' q1 q2 q3 => ?_
  have hg' := hg.mono (q3.mono hh)
  have hk' := hk.step hh q3
  cases x with
  | normal => exact ret_done (C := C) hrc h2 h3 q1 q2 hg' hk' (.inl rfl)
  | ret => exact ret_done (C := C) hrc h2 h3 q1 q2 hg' hk' (.inr rfl)
  | exit id => cases h2
theorem law_parts (hF : ∀ f af, C.F f = some af → cFunc P f = some af) {f : Nat} {af : AFunc} (hf : C.F f = some af) {args : List SV} {D : Hp} {T0 : Tp} (hle : Nat.ble args.length af.ntmps = true)
    (hT0 : T0.slots = args ++ List.replicate (af.ntmps - args.length) sundef) (hok : T0.okT = true) (hhp : ∀ j, T0.hp.get j = D.get j) (hsz : T0.hp.sz = D.sz)
    (hw : ∀ fn c, cCode P c = some af.body → cRes P fn.results.toList = some af.res → ∀ a w, Sat C.G W T0 a w → c.wp P (bodyPost P fn (Done W)) a w)
    (V : Val) (hpc : T0.pc.holds V) {ι : Nat → Option Loc} {cargs : List Value} (ha : VRels V ι args cargs) (h0 : HRel V ι W.heap.size D W) (hg : GRel C.G ι) :
    Calls P f cargs.toArray W (Done W) := by
  have hcf := hF f af hf
  unfold cFunc at hcf
  split at hcf
  case h_2 => cases hcf
  rename_i fn hfn
  split at hcf
  case h_2 => cases hcf
  rename_i c hbody
  split at hcf
  case h_2 => cases hcf
  rename_i bc rc hbc hrc
  cases hnm : (fn.name == "runtime.NumGoroutine") <;> simp only [hnm, cond_true, cond_false] at hcf
  case true => cases hcf
  cases hcf
  refine calls_of_wp hfn hbody (hw fn c hbc hrc _ _ ⟨V, ι, hpc, ⟨?_, rfl, fun i => ?_⟩, ?_, hg, Kept.refl W⟩)
  · have hal := ha.length
    have hb := Nat.le_of_ble_eq_true hle
    simp only at hb
    simp [Tp.fr, hT0]; omega
  · rw [Tp.fr_get hok i, hT0]
    have hal := ha.length
    have hb := Nat.le_of_ble_eq_true hle
    simp only at hb
    by_cases hi : i < args.length
    · rw [List.getElem?_append_left hi]
      obtain ⟨c', h1, h2⟩ := ha.get i _ (List.getElem?_eq_getElem hi)
      have : (cargs.toArray ++ Array.replicate (fn.ntmps - cargs.toArray.size) undef)[i]? = some c' := by
        rw [Array.getElem?_append_left (by simp; omega)]
        simpa using h1
      rw [List.getElem?_eq_getElem hi]
      simp only [Array.getD_eq_getD_getElem?, this, Option.getD_some]
      exact h2
    · rw [List.getElem?_append_right (by omega)]
      have h1 : (((List.replicate (fn.ntmps - args.length) sundef)[i - args.length]?).getD sundef) = sundef := by
        rw [List.getElem?_replicate]
        split <;> rfl
      have h2 : ((cargs.toArray ++ Array.replicate (fn.ntmps - cargs.toArray.size) undef)[i]?).getD undef = undef := by
        rw [Array.getElem?_append_right (by simp; omega)]
        simp only [Array.getElem?_replicate]
        split <;> rfl
      simp only [h1, Array.getD_eq_getD_getElem?, h2]
      exact VRel.undef
  · exact ⟨h0.base, fun id o l ho hl => h0.obj id o l (by rw [← hhp]; exact ho) hl, fun id id' o o' l l' h h' => h0.inj id id' o o' l l' (by rw [← hhp]; exact h) (by rw [← hhp]; exact h'), fun id hid => h0.dom id (by rw [← hsz]; exact hid)⟩
end
end Go.Sx
