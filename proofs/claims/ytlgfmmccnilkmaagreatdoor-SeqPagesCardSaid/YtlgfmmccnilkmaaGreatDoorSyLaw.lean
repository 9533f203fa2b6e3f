/- The symbolic machine: from runs along all paths to a law's call. No condition: lemmas of the machine. -/
import Derived.Test.YtlgfmmccnilkmaaGreatDoorSyCode
import Derived.RowKit3
namespace Go.Sx
set_option linter.unusedVariables false
open Go.RowKit

def hp0 : Hp := ⟨0, .e⟩
def no : Nat → Option Loc := fun _ => none
theorem get_hp0 (i : Nat) : hp0.get i = none := Hp.get_ge (Nat.zero_le _)
theorem HRel.start (V : Val) (W : World) : HRel V no W.heap.size hp0 W :=
  ⟨Nat.le_refl _, (fun id o l h => by rw [get_hp0] at h; cases h), (fun id id' o o' l l' h => by rw [get_hp0] at h; cases h), fun _ _ => rfl⟩
theorem grown_of {W w' : World} {ι' : Nat → Option Loc} {σ' : Hp} (h : Ext no hp0 W ι' σ' w') : Grown W w' := by
  refine ⟨⟨h.os, h.output, fun i hi => ?_⟩, h.frz, h.size⟩
  have e : w'.heap[i]? = W.heap[i]? := h.frame i hi fun ⟨id, o, l, h1, _⟩ => by rw [get_hp0] at h1; cases h1
  rw [e]
  split
  · rename_i c t fr c' t' fr' h1 h2
    rw [h1] at h2; cases h2
    exact ⟨rfl, rfl, rfl, fun _ _ => rfl⟩
  · rename_i h1 h2
    rw [h1] at h2; cases h2
    exact .inr ⟨rfl, rfl⟩
  · rfl

def samePC : PC → PC → Bool
  | [], [] => true
  | (a, x) :: l, (b, y) :: k => a.same b && x == y && samePC l k
  | _, _ => false
theorem samePC_eq : ∀ {a b : PC}, samePC a b = true → a = b
  | [], b, h => by cases b <;> simp [samePC] at h; rfl
  | (a, x) :: l, b, h => by
    cases b with
    | nil => simp [samePC] at h
    | cons p k =>
      obtain ⟨b, y⟩ := p
      simp only [samePC, Bool.and_eq_true, beq_iff_eq] at h
      rw [SB.same_eq h.1.1, h.1.2, samePC_eq h.2]
inductive Pt where
  | fin
  | dead
  | res (e : SB)
  | node (e : SB) (a b : Pt)
def Pt.ok (run : List Bool → Option (SV × St)) : Pt → List Bool → PC → Bool
  | .fin, p, pc => match run p.reverse with
    | some (.bool (.lit true), s) => samePC s.pc pc
    | _ => false
  | .dead, _, _ => true
  | .res e, p, pc => match run p.reverse with
    | some (.bool e', s) => e'.same e && samePC s.pc pc
    | _ => false
  | .node e a b, p, pc => a.ok run (true :: p) ((e, true) :: pc) && b.ok run (false :: p) ((e, false) :: pc)
theorem Pt.ok_node {run : List Bool → Option (SV × St)} {e : SB} {a b : Pt} {p : List Bool} {pc : PC} (ha : a.ok run (true :: p) ((e, true) :: pc) = true) (hb : b.ok run (false :: p) ((e, false) :: pc) = true) : (Pt.node e a b).ok run p pc = true := by
  simp [Pt.ok, ha, hb]
def Pt.due (V : Val) : Pt → Prop
  | .fin => True
  | .dead => False
  | .res e => e.den V = true
  | .node e a b => (e.den V = true → a.due V) ∧ (e.den V = false → b.due V)
theorem Pt.sound {run : List Bool → Option (SV × St)} {V : Val} : ∀ {t : Pt} {p : List Bool} {pc : PC}, t.ok run p pc = true → t.due V → pc.holds V → ∃ path b s, run path = some (.bool b, s) ∧ b.den V = true ∧ s.pc.holds V
  | .fin, p, pc, h, hd, hp => by
    simp only [Pt.ok] at h
    split at h
    · rename_i s hr
      exact ⟨_, _, s, hr, rfl, by rw [samePC_eq h]; exact hp⟩
    · cases h
  | .dead, p, pc, h, hd, hp => hd.elim
  | .res e, p, pc, h, hd, hp => by
    simp only [Pt.ok] at h
    split at h
    · rename_i e' s hr
      simp only [Bool.and_eq_true] at h
      exact ⟨_, _, s, hr, by rw [SB.same_eq h.1]; exact hd, by rw [samePC_eq h.2]; exact hp⟩
    · cases h
  | .node e a b, p, pc, h, hd, hp => by
    simp only [Pt.ok, Bool.and_eq_true] at h
    cases he : e.den V
    · exact Pt.sound h.2 (hd.2 he) fun q hq => by
        rcases List.mem_cons.1 hq with rfl | hq
        · exact he
        · exact hp q hq
    · exact Pt.sound h.1 (hd.1 he) fun q hq => by
        rcases List.mem_cons.1 hq with rfl | hq
        · exact he
        · exact hp q hq
def runL (C : Cfg) (n f : Nat) (args : List SV) (o : List Bool) : Option (SV × St) := evFn C n f args ⟨hp0, o, []⟩

theorem law_calls {P : Program} {F : Nat → Option AFunc} (hmix : P.follows .mixedOrders = true) (hF : ∀ f af, F f = some af → cFunc P f = some af) {n f : Nat} {args : List SV} {t : Pt}
    (hok : t.ok (runL ⟨F, fun _ => none, fun _ _ _ => none, fun _ _ _ => none⟩ n f args) [] [] = true) (V : Val) (hd : t.due V) {cargs : List Value} (ha : VRels V no args cargs) (W : World) :
    Calls P f cargs.toArray W fun e w' => e = .returned (.bool true) ∧ Grown W w' := by
  obtain ⟨path, b, s, hr, hb, hpc⟩ := Pt.sound hok hd (fun q hq => by cases hq)
  have h := (evFn_ok (V := V) (B := W.heap.size) (C := ⟨F, fun _ => none, fun _ _ _ => none, fun _ _ _ => none⟩) hmix hF (SOK_none fun _ _ _ => rfl) (LOK_none fun _ _ _ => rfl) n f args _ _ _ hr hpc).2 no W cargs ha (HRel.start V W) (fun g id h => by cases h)
  refine h.2.mono fun e w' he => ?_
  obtain ⟨c, ι', rfl, h1, h2, h3⟩ := he
  simp only [VRel, hb] at h1
  exact ⟨by rw [h1], grown_of h3⟩
def runH (C : Cfg) (σ : Hp) (pc : PC) (n f : Nat) (args : List SV) (o : List Bool) : Option (SV × St) := evFn C n f args ⟨σ, o, pc⟩
theorem law_calls2 {P : Program} {F : Nat → Option AFunc} {G : Nat → Option Nat} (hmix : P.follows .mixedOrders = true) (hF : ∀ f af, F f = some af → cFunc P f = some af) {n f : Nat} {args : List SV} {t : Pt} {σ : Hp} {pc : PC}
    (hok : t.ok (runH ⟨F, G, fun _ _ _ => none, fun _ _ _ => none⟩ σ pc n f args) [] pc = true) (V : Val) (hd : t.due V) (hpc : pc.holds V) {ι : Nat → Option Loc} {cargs : List Value} (ha : VRels V ι args cargs) (W : World)
    (h0 : HRel V ι W.heap.size σ W) (hG : GRel G ι) (hro : ∀ id o, σ.get id = some o → o.knd ≠ 2) :
    Calls P f cargs.toArray W fun e w' => e = .returned (.bool true) ∧ Grown W w' := by
  obtain ⟨path, b, s, hr, hb, hpc'⟩ := Pt.sound hok hd hpc
  have h := (evFn_ok (V := V) (B := W.heap.size) (C := ⟨F, G, fun _ _ _ => none, fun _ _ _ => none⟩) hmix hF (SOK_none fun _ _ _ => rfl) (LOK_none fun _ _ _ => rfl) n f args _ _ _ hr hpc').2 ι W cargs ha h0 hG
  refine h.2.mono fun e w' he => ?_
  obtain ⟨c, ι', rfl, h1, h2, h3⟩ := he
  simp only [VRel, hb] at h1
  refine ⟨by rw [h1], ⟨h3.os, h3.output, fun i hi => ?_⟩, h3.frz, h3.size⟩
  have e : w'.heap[i]? = W.heap[i]? := h3.frame i hi fun ⟨id, o, l, h1, h0, _⟩ => hro id o h1 h0
  rw [e]
  split
  · rename_i c t fr c' t' fr' h1 h2
    rw [h1] at h2; cases h2
    exact ⟨rfl, rfl, rfl, fun _ _ => rfl⟩
  · rename_i h1 h2
    rw [h1] at h2; cases h2
    exact .inr ⟨rfl, rfl⟩
  · rfl
def mkV (is : List Int) (bs : List Bool) : Val := ⟨fun i => is.getD i 0, fun i => bs.getD i false, fun _ _ => 0⟩
end Go.Sx
