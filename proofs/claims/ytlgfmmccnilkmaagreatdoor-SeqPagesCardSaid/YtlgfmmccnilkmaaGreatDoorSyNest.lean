/- The symbolic machine: marks inside the functions that a law calls. Between two marks a run; at a mark the frames of all calls that are open stand one behind the other. No condition: lemmas of the machine. -/
import Derived.Test.YtlgfmmccnilkmaaGreatDoorSyLoop
namespace Go.Sx
set_option linter.unusedVariables false
set_option linter.unusedSimpArgs false
open Go.RowKit

inductive DC where
  | run (c : ACode)
  | seq (a b : DC)
  | cond (c : X) (a b : DC)
  | block (id : Nat) (a : DC)
  | loop (m r : Nat) (a : DC)
  | mark (m : Nat) (a : DC)
  | fork (l : List (Nat × Nat × Int)) (a : DC)
  | call (pre : List AOper) (o : AOper) (post : List AOper) (f nt : Nat) (res : List ARes) (body : DC)
def DC.erase : DC → ACode
  | .run c => c
  | .seq a b => .seq a.erase b.erase
  | .cond c a b => .cond c a.erase b.erase
  | .block id a => .block id a.erase
  | .loop _ _ a => .loop a.erase
  | .mark _ a => a.erase
  | .fork _ a => a.erase
  | .call pre o post _ _ _ _ => .reg (pre ++ o :: post)
def DC.has (m : Nat) : DC → Bool
  | .run _ => false
  | .seq a b => a.has m || b.has m
  | .cond _ a b => a.has m || b.has m
  | .block _ a => a.has m
  | .loop k _ a => Nat.beq k m || a.has m
  | .mark k a => Nat.beq k m || a.has m
  | .fork _ a => a.has m
  | .call _ _ _ _ _ _ a => a.has m
def DC.valid (F : Nat → Option AFunc) : DC → Prop
  | .run _ => True
  | .seq a b => a.valid F ∧ b.valid F
  | .cond _ a b => a.valid F ∧ b.valid F
  | .block _ a => a.valid F
  | .loop _ _ a => a.valid F
  | .mark _ a => a.valid F
  | .fork _ a => a.valid F
  | .call _ _ _ f nt res a => F f = some ⟨nt, res, a.erase⟩ ∧ a.valid F
def DC.runs (P : Program) : DC → Prop
  | .run c => ∃ k, cCode P k = some c
  | .seq a b => a.runs P ∧ b.runs P
  | .cond _ a b => a.runs P ∧ b.runs P
  | .block _ a => a.runs P
  | .loop _ _ a => a.runs P
  | .mark _ a => a.runs P
  | .fork _ a => a.runs P
  | .call _ _ _ _ _ _ a => a.runs P
inductive Out where
  | fin (x : Ex) (fr : Fr) (p : SP)
  | at (m : Nat) (frs : List Fr) (p : SP)
def Out.pc : Out → PC
  | .fin _ _ p => p.pc
  | .at _ _ p => p.pc
def outHas (a : DC) (b : Bool) (x : Out) : TT Out := match x with
  | .at m frs p => bif a.has m == b then .ret (.at m frs p) else .fail
  | .fin x fr p => .ret (.fin x fr p)
noncomputable def outSeq (a : DC) (m : TT Out) (k : Fr → SP → TT Out) : TT Out := m.bind fun x => match x with
  | .fin .normal fr p => (k fr p).bind (outHas a false)
  | x => outHas a true x
noncomputable def outBlock (id : Nat) (m : TT Out) : TT Out := m.bind fun x => match x with
  | .fin (.exit k) fr p => bif Nat.beq k id then .ret (.fin .normal fr p) else .ret (.fin (.exit k) fr p)
  | x => .ret x
def headAt (k : Nat) (a : DC) (fr : Fr) (p : SP) : TT Out := bif a.has k then .fail else .ret (.at k [fr] p)
noncomputable def outLoop (k : Nat) (a : DC) (next : Fr → SP → TT Out) (m : TT Out) : TT Out := m.bind fun x => match x with
  | .fin .normal fr p => next fr p
  | x => outHas a true x
noncomputable def rounds (k : Nat) (a : DC) (ev : Fr → SP → TT Out) : Nat → Fr → SP → TT Out
  | 0, fr, p => headAt k a fr p
  | r + 1, fr, p => outLoop k a (rounds k a ev r) (ev fr p)
noncomputable def forkB (l : List (Nat × Nat × Int)) (fr : Fr) (p : SP) (k : Fr → SP → TT Out) : TT Out := (forkS l fr p).bind fun x => k x.2.1 x.2.2
section
variable (C : Cfg) (n : Nat)
def finCall (fr : Fr) (dst : Option Nat) (res : List ARes) (frc : Fr) (p : SP) : Option Fr := match evRess C.G frc p.h res with
  | some vs => fr.put dst (packRes vs)
  | none => none
noncomputable def outCall (dst : Option Nat) (post : List AOper) (res : List ARes) (fr : Fr) (m : TT Out) : TT Out := m.bind fun x => match x with
  | .fin (.exit _) _ _ => .fail
  | .fin _ frc p => match finCall C fr dst res frc p with
    | some fr' => (evOpsD C (evCallD C (evCodeD C n)) post fr' p).bind fun z => .ret (.fin .normal z.1 z.2)
    | none => .fail
  | .at m frs p => .ret (.at m (fr :: frs) p)
def goesIn (fr : Fr) (o : AOper) (f nt : Nat) : Option Fr := match o.guard, o.op with
  | none, .call g as => (match rdX C.G fr g, readAll (rdX C.G fr) as with
    | some (.func (.func g') first caps), some vs => bif Nat.beq g' f && Nat.ble (first ++ vs ++ caps).length nt then (match enterT (first ++ vs ++ caps) 0 .e with
      | some t => some ⟨nt, t⟩
      | none => none) else none
    | _, _ => none)
  | _, _ => none
noncomputable def callIn (pre : List AOper) (o : AOper) (post : List AOper) (f nt : Nat) (res : List ARes) (body : Fr → SP → TT Out) (fr : Fr) (p : SP) : TT Out :=
  (evOpsD C (evCallD C (evCodeD C n)) pre fr p).bind fun x => match goesIn C x.1 o f nt with
    | some fr' => outCall C n o.dst post res x.1 (body fr' x.2)
    | none => .fail
noncomputable def condIn (c : X) (fr : Fr) (p : SP) (a b : SP → TT Out) : TT Out := match rdX C.G fr c with
  | some (.bool e) => (decD e p.pc).bind fun x => bif x.1 then a ⟨p.h, x.2⟩ else b ⟨p.h, x.2⟩
  | _ => .fail
noncomputable def evDC : DC → Fr → SP → TT Out
  | .run c, fr, p => (evCodeD C n c fr p).bind fun x => .ret (.fin x.1 x.2.1 x.2.2)
  | .seq a b, fr, p => outSeq a (evDC a fr p) (evDC b)
  | .cond c a b, fr, p => condIn C c fr p (fun p => (evDC a fr p).bind (outHas a true)) (fun p => (evDC b fr p).bind (outHas a false))
  | .block id a, fr, p => outBlock id (evDC a fr p)
  | .loop k _ a, fr, p => headAt k a fr p
  | .mark k a, fr, p => headAt k a fr p
  | .fork l a, fr, p => forkB l fr p (evDC a)
  | .call pre o post f nt res a, fr, p => callIn C n pre o post f nt res (evDC a) fr p
def one1 (frs : List Fr) (p : SP) (k : Fr → SP → TT Out) : TT Out := match frs with
  | [fr] => k fr p
  | _ => .fail
noncomputable def evFrom (m : Nat) : DC → List Fr → SP → TT Out
  | .run _, _, _ => .fail
  | .seq a b, frs, p => bif a.has m then outSeq a (evFrom m a frs p) (evDC C n b) else (evFrom m b frs p).bind (outHas a false)
  | .cond _ a b, frs, p => bif a.has m then (evFrom m a frs p).bind (outHas a true) else (evFrom m b frs p).bind (outHas a false)
  | .block id a, frs, p => outBlock id (evFrom m a frs p)
  | .loop k r a, frs, p => bif a.has m then outLoop k a (headAt k a) (evFrom m a frs p) else bif Nat.beq k m then one1 frs p (rounds k a (evDC C n a) (r + 1)) else .fail
  | .mark k a, frs, p => bif a.has m then (evFrom m a frs p).bind (outHas a true) else bif Nat.beq k m then one1 frs p fun fr p => (evDC C n a fr p).bind (outHas a true) else .fail
  | .fork _ a, frs, p => evFrom m a frs p
  | .call pre o post f nt res a, frs, p => match frs with
    | fr :: inner => outCall C n o.dst post res fr (evFrom m a inner p)
    | [] => .fail
end
def wpA (P : Program) (d : DC) (Q : Exit → Act → World → Prop) (a : Act) (w : World) : Prop := ∀ c, cCode P c = some d.erase → c.wp P Q a w
def loopA (P : Program) (d : DC) (Q : Exit → Act → World → Prop) (a : Act) (w : World) : Prop := ∀ c, cCode P c = some d.erase → loopWp P c Q a w
def restA (P : Program) (dst : Option Nat) (post : List AOper) (Q : Exit → Act → World → Prop) (a0 : Act) (e : Ending) (w : World) : Prop :=
  ∃ v, e = .returned v ∧ ∀ ops os, cOps P ops os = some post → wpList P ops Q os (a0.put dst v) w
def retA (P : Program) (f : Nat) (dst : Option Nat) (post : List AOper) (Q : Exit → Act → World → Prop) (a0 : Act) : Exit → Act → World → Prop :=
  fun e a w => ∀ fn, P.funcs[f]? = some fn → bodyPost P fn (restA P dst post Q a0) e a w
def Rsm (P : Program) (m : Nat) : DC → (Exit → Act → World → Prop) → List Act → World → Prop
  | .run _, _, _, _ => False
  | .seq a b, Q, as, w => if a.has m = true then Rsm P m a (Exit.then (wpA P b Q) Q) as w else Rsm P m b Q as w
  | .cond _ a b, Q, as, w => if a.has m = true then Rsm P m a Q as w else Rsm P m b Q as w
  | .block id a, Q, as, w => Rsm P m a (Exit.inBlock id Q) as w
  | .loop k _ a, Q, as, w => if a.has m = true then Rsm P m a (Exit.then (loopA P a Q) Q) as w else k = m ∧ ∃ a0, as = [a0] ∧ loopA P a Q a0 w
  | .mark k a, Q, as, w => if a.has m = true then Rsm P m a Q as w else k = m ∧ ∃ a0, as = [a0] ∧ wpA P a Q a0 w
  | .fork _ a, Q, as, w => Rsm P m a Q as w
  | .call _ o post f _ _ a, Q, as, w => ∃ a0 as', as = a0 :: as' ∧ Rsm P m a (retA P f o.dst post Q a0) as' w
def FrsRel (V : Val) (ι : Nat → Option Loc) : List Fr → List Act → Prop
  | [], [] => True
  | f :: fs, a :: as => FrRel V ι f a ∧ FrsRel V ι fs as
  | _, _ => False
theorem FrsRel.mono {V : Val} {ι ι' : Nat → Option Loc} (hm : ∀ id l, ι id = some l → ι' id = some l) : ∀ {fs : List Fr} {as : List Act}, FrsRel V ι fs as → FrsRel V ι' fs as
  | [], [], h => trivial
  | [], _ :: _, h => h.elim
  | _ :: _, [], h => h.elim
  | f :: fs, a :: as, h => ⟨h.1.mono hm, FrsRel.mono hm h.2⟩
section
variable {P : Program} {V : Val} {B : Nat} {C : Cfg} {n : Nat}
def OutOK (P : Program) (V : Val) (B : Nat) (d : DC) (Q : Exit → Act → World → Prop) (ι : Nat → Option Loc) (σ : Hp) (w : World) : Out → Prop
  | .fin x fr' p' => ∀ a' w' ι', FrRel V ι' fr' a' → HRel V ι' B p'.h w' → Ext ι σ w ι' p'.h w' → Q x.ex a' w'
  | .at m frs p' => ∀ as' w' ι', FrsRel V ι' frs as' → HRel V ι' B p'.h w' → Ext ι σ w ι' p'.h w' → Rsm P m d Q as' w'
theorem evOps_app {callF : Nat → List SV → St → Option (SV × St)} (hcall : CallOK P V B C callF) {ops : Array Oper} {os2 : List Oper} : ∀ {os : List Oper} {as : List AOper} {fr fr' : Fr} {s s' : St}, cOps P ops os = some as → evOps C callF as fr s = some (fr', s') → s'.pc.holds V →
    s.pc.holds V ∧ ∀ ι w a, FrRel V ι fr a → HRel V ι B s.h w → GRel C.G ι → ∀ (Q : Exit → Act → World → Prop),
      (∀ a' w' ι', FrRel V ι' fr' a' → HRel V ι' B s'.h w' → Ext ι s.h w ι' s'.h w' → wpList P ops Q os2 a' w') → wpList P ops Q (os ++ os2) a w
  | [], as, fr, fr', s, s', hc, he, hpc => by
    simp [cOps] at hc; subst hc
    simp only [evOps, Option.some.injEq, Prod.mk.injEq] at he
    obtain ⟨rfl, rfl⟩ := he
    exact ⟨hpc, fun ι w a h1 h2 h3 Q hQ => hQ a w ι h1 h2 (Ext.refl _ _ _)⟩
  | o :: os, as, fr, fr', s, s', hc, he, hpc => by
    unfold cOps at hc
    cases hgd : guardOf ops o.guard with
    | none => simp [hgd, cons?] at hc
    | some g =>
      cases hos : cOps P ops os with
      | none => simp [hgd, hos, cons?] at hc
      | some as' =>
        simp [hgd, hos, cons?] at hc
        subst hc
        rw [evOps_eq] at he
        simp only at he
        split at he
        · cases he
        · rename_i s1 hg1
          split at he
          case h_2 => cases he
          rename_i v s2 hop
          split at he
          case h_2 => cases he
          rename_i fr1 hput
          obtain ⟨i1, i2⟩ := evOps_app hcall hos he hpc
          have hcop : ∃ q, cOp P o = some q ∧ evOp callF (rdX C.G fr) s1 q = some (v, s2) := by
            cases hq : cOp P o with
            | none => rw [hq] at hop; simp [evOp, evM] at hop
            | some q => rw [hq] at hop; exact ⟨q, rfl, hop⟩
          obtain ⟨q, hq, hop⟩ := hcop
          obtain ⟨j1, j2⟩ := evOp_sound hcall hq hop i1
          obtain ⟨g1, g2, g3⟩ := evGuard_sound hgd hg1 j1
          refine ⟨g1, fun ι w a hfr hh hg Q hQ => ?_⟩
          rw [List.cons_append]
          unfold wpList
          rw [if_pos (g3 ι a hfr hg)]
          refine .inl (j2 ι w a (hfr.rd hg) (by rw [g2]; exact hh) hg _ _ ?_)
          intro c w' ι' r1 r2 r3
          have hm : ∀ id l, ι id = some l → ι' id = some l := r3.mono (by rw [g2]; exact hh)
          refine i2 ι' w' _ ((hfr.mono hm).put r1 hput) r2 (hg.mono hm) Q ?_
          intro a' w'' ι'' q1 q2 q3
          rw [g2] at r3
          exact hQ a' w'' ι'' q1 q2 (r3.trans q3)
        · rename_i s1 hg1
          split at he
          case h_2 => cases he
          rename_i fr1 hput
          obtain ⟨i1, i2⟩ := evOps_app hcall hos he hpc
          obtain ⟨g1, g2, g3⟩ := evGuard_sound hgd hg1 i1
          refine ⟨g1, fun ι w a hfr hh hg Q hQ => ?_⟩
          rw [List.cons_append]
          unfold wpList
          rw [if_neg (by rw [g3 ι a hfr hg]; simp)]
          refine i2 ι w _ (hfr.put VRel.undef hput) (by rw [g2]; exact hh) hg Q ?_
          intro a' w'' ι'' q1 q2 q3
          rw [g2] at q3
          exact hQ a' w'' ι'' q1 q2 q3
theorem cOps_app {ops : Array Oper} : ∀ {as1 as2 : List AOper} {os : List Oper}, cOps P ops os = some (as1 ++ as2) → ∃ os1 os2, os = os1 ++ os2 ∧ cOps P ops os1 = some as1 ∧ cOps P ops os2 = some as2
  | [], as2, os, h => ⟨[], os, rfl, rfl, h⟩
  | x :: as1, as2, [], h => by simp [cOps] at h
  | x :: as1, as2, o :: os, h => by
    unfold cOps at h
    cases hos : cOps P ops os with
    | none =>
      simp only [hos] at h
      split at h <;> simp [cons?] at h
    | some l =>
      simp only [hos] at h
      cases hg : guardOf ops o.guard with
      | none => simp [hg, cons?] at h
      | some g =>
        simp only [hg, cons?, Option.some.injEq, List.cons_append, List.cons.injEq] at h
        obtain ⟨h1, h2⟩ := h
        obtain ⟨os1, os2, e1, e2, e3⟩ := cOps_app (hos.trans (congrArg some h2))
        refine ⟨o :: os1, os2, by rw [e1]; rfl, ?_, e3⟩
        unfold cOps
        simp only [hg, e2, cons?, h1]
theorem cCode_block {c : Code} {id : Nat} {x : ACode} (h : cCode P c = some (.block id x)) : ∃ a, c = .block id a ∧ cCode P a = some x := by
  cases c
  case block i a =>
    simp only [cCode] at h
    split at h
    · rename_i y hy
      cases h
      exact ⟨a, rfl, hy⟩
    · cases h
  case region i ops m => cases m <;> simp only [cCode] at h <;> split at h <;> cases h
  all_goals first
    | (simp [cCode] at h; done)
    | (simp only [cCode] at h; split at h <;> cases h; done)
theorem cCode_loop {c : Code} {x : ACode} (h : cCode P c = some (.loop x)) : ∃ a, c = .loop a ∧ cCode P a = some x := by
  cases c
  case loop a =>
    simp only [cCode] at h
    split at h
    · rename_i y hy
      cases h
      exact ⟨a, rfl, hy⟩
    · cases h
  case region i ops m => cases m <;> simp only [cCode] at h <;> split at h <;> cases h
  all_goals first
    | (simp [cCode] at h; done)
    | (simp only [cCode] at h; split at h <;> cases h; done)
theorem cCode_cond {c : Code} {k : X} {x y : ACode} (h : cCode P c = some (.cond k x y)) : ∃ q a b, c = .cond q a b ∧ cX q = some k ∧ cCode P a = some x ∧ cCode P b = some y := by
  cases c
  case cond q a b =>
    simp only [cCode] at h
    split at h
    · rename_i k' x' y' h1 h2 h3
      cases h
      exact ⟨q, a, b, rfl, h1, h2, h3⟩
    · cases h
  case region i ops m => cases m <;> simp only [cCode] at h <;> split at h <;> cases h
  all_goals first
    | (simp [cCode] at h; done)
    | (simp only [cCode] at h; split at h <;> cases h; done)
theorem cCode_reg {c : Code} {l : List AOper} (h : cCode P c = some (.reg l)) : ∃ i ops, c = .region i ops false ∧ cOps P ops ops.toList = some l := by
  cases c
  case region i ops m =>
    cases m <;> simp only [cCode] at h
    · split at h
      · rename_i y hy
        cases h
        exact ⟨i, ops, rfl, hy⟩
      · cases h
    · split at h <;> cases h
  all_goals first
    | (simp [cCode] at h; done)
    | (simp only [cCode] at h; split at h <;> cases h; done)


theorem evOp_pc {callF : Nat → List SV → St → Option (SV × St)} (hcall : CallOK P V B C callF) {rd : X → Option SV} {s s' : St} {q : AOp} {v : SV} (he : evOp callF rd s q = some (v, s')) (hpc : s'.pc.holds V) : s.pc.holds V := by
  by_cases k1 : ∃ p, q = .p p
  · obtain ⟨p, rfl⟩ := k1
    simp only [evOp] at he
    split at he
    case h_2 => cases he
    rename_i s1 hf
    split at he
    case h_2 => cases he
    simp only [Option.some.injEq, Prod.mk.injEq] at he
    obtain ⟨rfl, rfl⟩ := he
    exact (forkP_sound (V := V) hf).2 hpc
  by_cases k2 : ∃ c a b, q = .pick c a b
  · obtain ⟨c, x, y, rfl⟩ := k2
    simp only [evOp] at he
    split at he
    case h_2 => cases he
    rename_i e h1
    split at he
    case h_2 => cases he
    rename_i t s1 h2
    split at he
    case h_2 => cases he
    simp only [Option.some.injEq, Prod.mk.injEq] at he
    obtain ⟨rfl, rfl⟩ := he
    exact ((dec_sound (V := V) h2).2 hpc).1
  by_cases k4 : ∃ f as, q = .call f as
  · obtain ⟨f, as, rfl⟩ := k4
    simp only [evOp] at he
    split at he
    case h_2 => cases he
    exact (hcall _ _ _ _ _ he hpc).1
  · obtain ⟨h', hm, rfl⟩ := evOp_M (fun p e => k1 ⟨p, e⟩) (fun c a b e => k2 ⟨c, a, b, e⟩) (fun f as e => k4 ⟨f, as, e⟩) he
    exact hpc
theorem evGuard_pc {fr : Fr} {s s' : St} {g : Option (Nat × Bool)} {b : Bool} (he : evGuard C fr s g = some (b, s')) (hpc : s'.pc.holds V) : s.pc.holds V := by
  cases g with
  | none =>
    simp only [evGuard, Option.some.injEq, Prod.mk.injEq] at he
    obtain ⟨rfl, rfl⟩ := he
    exact hpc
  | some g =>
    obtain ⟨t, want⟩ := g
    simp only [evGuard] at he
    split at he
    · split at he
      case h_2 => cases he
      rename_i c s1 hd
      simp only [Option.some.injEq, Prod.mk.injEq] at he
      obtain ⟨rfl, rfl⟩ := he
      exact ((dec_sound (V := V) hd).2 hpc).1
    · simp only [Option.some.injEq, Prod.mk.injEq] at he
      obtain ⟨rfl, rfl⟩ := he
      exact hpc
    · cases he
theorem evOps_pc {callF : Nat → List SV → St → Option (SV × St)} (hcall : CallOK P V B C callF) : ∀ {as : List AOper} {fr fr' : Fr} {s s' : St}, evOps C callF as fr s = some (fr', s') → s'.pc.holds V → s.pc.holds V
  | [], fr, fr', s, s', he, hpc => by
    simp only [evOps, Option.some.injEq, Prod.mk.injEq] at he
    obtain ⟨rfl, rfl⟩ := he
    exact hpc
  | o :: os, fr, fr', s, s', he, hpc => by
    rw [evOps_eq] at he
    split at he
    · cases he
    · rename_i s1 hg1
      split at he
      case h_2 => cases he
      rename_i v s2 hop
      split at he
      case h_2 => cases he
      exact evGuard_pc hg1 (evOp_pc hcall hop (evOps_pc hcall he hpc))
    · rename_i s1 hg1
      split at he
      case h_2 => cases he
      exact evGuard_pc hg1 (evOps_pc hcall he hpc)

theorem outHas_run {a : DC} {b : Bool} {x y : Out} {o o' : List Bool} (h : runO (outHas a b x) o = some (y, o')) : x = y ∧ ∀ m frs p, x = .at m frs p → a.has m = b := by
  cases x with
  | fin x fr p =>
    obtain ⟨h1, _⟩ := ret_run (show runO (TT.ret (Out.fin x fr p)) o = _ from h)
    exact ⟨h1.symm, fun m frs p e => by cases e⟩
  | «at» m frs p =>
    simp only [outHas] at h
    cases hb : (a.has m == b) <;> simp only [hb, cond_true, cond_false] at h
    · simp [runO] at h
    · obtain ⟨h1, _⟩ := ret_run h
      exact ⟨h1.symm, fun m' frs' p' e => by cases e; simpa using hb⟩
theorem headAt_run {k : Nat} {a : DC} {fr : Fr} {p : SP} {y : Out} {o o' : List Bool} (h : runO (headAt k a fr p) o = some (y, o')) : y = .at k [fr] p ∧ a.has k = false := by
  unfold headAt at h
  cases hb : a.has k <;> simp only [hb, cond_true, cond_false] at h
  · obtain ⟨h1, _⟩ := ret_run h
    exact ⟨h1, rfl⟩
  · simp [runO] at h

theorem outBlock_run {id : Nat} {m : TT Out} {o o' : List Bool} {out : Out} (h : runO (outBlock id m) o = some (out, o')) : ∃ x o1, runO m o = some (x, o1) ∧ (out.pc.holds V → x.pc.holds V) ∧ ∀ (P : Program) (V : Val) (B : Nat) (d : DC) (Q : Exit → Act → World → Prop) (ι : Nat → Option Loc) (σ : Hp) (w : World), OutOK P V B (.block id d) Q ι σ w out → OutOK P V B d (Exit.inBlock id Q) ι σ w x := by
  unfold outBlock at h
  obtain ⟨x, o1, r1, r2⟩ := runO_bind h
  refine ⟨x, o1, r1, ?_⟩
  cases x with
  | «at» m frs p =>
    obtain ⟨h1, _⟩ := ret_run (show runO (TT.ret (Out.at m frs p)) o1 = _ from r2)
    subst h1
    refine ⟨fun h => h, fun P V B d Q ι σ w hQ as' w' ι' q1 q2 q3 => ?_⟩
    have := hQ as' w' ι' q1 q2 q3
    unfold Rsm at this
    exact this
  | fin x fr p =>
    cases x with
    | normal =>
      obtain ⟨h1, _⟩ := ret_run (show runO (TT.ret (Out.fin .normal fr p)) o1 = _ from r2)
      subst h1
      exact ⟨fun h => h, fun P V B d Q ι σ w hQ => hQ⟩
    | ret =>
      obtain ⟨h1, _⟩ := ret_run (show runO (TT.ret (Out.fin .ret fr p)) o1 = _ from r2)
      subst h1
      exact ⟨fun h => h, fun P V B d Q ι σ w hQ => hQ⟩
    | exit k =>
      have r2 : runO (bif Nat.beq k id then TT.ret (Out.fin .normal fr p) else TT.ret (Out.fin (.exit k) fr p)) o1 = some (out, o') := r2
      cases hb : Nat.beq k id <;> simp only [hb, cond_true, cond_false] at r2
      · obtain ⟨h1, _⟩ := ret_run r2
        subst h1
        refine ⟨fun h => h, fun P V B d Q ι σ w hQ a' w' ι' q1 q2 q3 => ?_⟩
        have hne : k ≠ id := fun e => by rw [e] at hb; simp at hb
        simpa [Exit.inBlock, Ex.ex, hne] using hQ a' w' ι' q1 q2 q3
      · obtain ⟨h1, _⟩ := ret_run r2
        subst h1
        refine ⟨fun h => h, fun P V B d Q ι σ w hQ a' w' ι' q1 q2 q3 => ?_⟩
        have he := Nat.eq_of_beq_eq_true hb
        simpa [Exit.inBlock, Ex.ex, he] using hQ a' w' ι' q1 q2 q3
theorem goesIn_spec {fr fr' : Fr} {o : AOper} {f nt : Nat} (h : goesIn C fr o f nt = some fr') : ∃ g as first caps vs t, o.guard = none ∧ o.op = .call g as ∧ rdX C.G fr g = some (.func (.func f) first caps) ∧ readAll (rdX C.G fr) as = some vs ∧ (first ++ vs ++ caps).length ≤ nt ∧ enterT (first ++ vs ++ caps) 0 .e = some t ∧ fr' = ⟨nt, t⟩ := by
  unfold goesIn at h
  split at h
  case h_2 => cases h
  rename_i g as h1 h2
  split at h
  case h_2 => cases h
  rename_i g' first caps vs h3 h4
  cases hb : (Nat.beq g' f && Nat.ble (first ++ vs ++ caps).length nt) <;> simp only [hb, cond_true, cond_false] at h
  · cases h
  simp only [Bool.and_eq_true] at hb
  obtain rfl := Nat.eq_of_beq_eq_true hb.1
  split at h
  case h_2 => cases h
  rename_i t ht
  cases h
  exact ⟨g, as, first, caps, vs, t, h1, h2, h3, h4, Nat.le_of_ble_eq_true hb.2, ht, rfl⟩
theorem enter_rel {args : List SV} {cargs : List Value} {nt : Nat} {t : Tr SV} {ι : Nat → Option Loc} (hargs : VRels V ι args cargs) (hle : args.length ≤ nt) (ht : enterT args 0 .e = some t) : FrRel V ι ⟨nt, t⟩ { tmps := cargs.toArray ++ Array.replicate (nt - cargs.toArray.size) undef, defers := [] } := by
  have hal := hargs.length
  refine ⟨by simp; omega, rfl, fun i => ?_⟩
  rw [enterT_get ht i]
  simp only [Nat.zero_le, true_and, Nat.zero_add, Nat.sub_zero]
  by_cases hi : i < args.length
  · rw [if_pos hi]
    obtain ⟨c', h1, h2⟩ := hargs.get i _ (List.getElem?_eq_getElem hi)
    have : (cargs.toArray ++ Array.replicate (nt - cargs.toArray.size) undef)[i]? = some c' := by
      rw [Array.getElem?_append_left (by simp; omega)]
      simpa using h1
    rw [List.getElem?_eq_getElem hi]
    simp only [Array.getD_eq_getD_getElem?, this, Option.getD_some]
    exact h2
  · rw [if_neg hi]
    have : ((cargs.toArray ++ Array.replicate (nt - cargs.toArray.size) undef)[i]?).getD undef = undef := by
      rw [Array.getElem?_append_right (by simp; omega)]
      simp only [Array.getElem?_replicate]
      split <;> rfl
    simp only [Tr.get_e, Option.getD_none, Array.getD_eq_getD_getElem?, this]
    exact VRel.undef
theorem func_of (hF : ∀ f af, C.F f = some af → cFunc P f = some af) {f nt : Nat} {res : List ARes} {b : ACode} (hf : C.F f = some ⟨nt, res, b⟩) : ∃ fn c, P.funcs[f]? = some fn ∧ fn.body = some c ∧ cCode P c = some b ∧ cRes P fn.results.toList = some res ∧ fn.ntmps = nt ∧ ∀ (w : World) (as : Array Value), (callFunc f as).run P w = .ok (.enter f as) w := by
  have hcf := hF f _ hf
  unfold cFunc at hcf
  split at hcf
  case h_2 => cases hcf
  rename_i fn hfn
  split at hcf
  case h_2 => cases hcf
  rename_i c hbody
  split at hcf
  case h_2 => cases hcf
  rename_i bc rc hbc hrc
  cases hnm : (fn.name == "runtime.NumGoroutine") <;> simp only [hnm, cond_true, cond_false] at hcf
  case true => cases hcf
  cases hcf
  refine ⟨fn, c, hfn, hbody, hbc, hrc, rfl, fun w as => ?_⟩
  have hnm' : ¬ (fn.name = "runtime.NumGoroutine") := by simpa using hnm
  have : program.run P w = .ok P w := rfl
  simp [callFunc, this, hfn, hnm', hbody]
section
variable (hmix : P.follows .mixedOrders = true) (hF : ∀ f af, C.F f = some af → cFunc P f = some af) (hS : SOK P V B C) (hL : LOK P V B C)
include hmix hF hS hL
omit hmix hS hL in
theorem runs_of : ∀ {d : DC}, d.valid C.F → ∀ {c : Code}, cCode P c = some d.erase → d.runs P := by
  intro d
  induction d with
  | run ac => exact fun hv c hc => ⟨c, hc⟩
  | seq a b iha ihb =>
    intro hv c hc
    obtain ⟨c1, c2, rfl, h1, h2⟩ := cCode_seq hc
    exact ⟨iha hv.1 h1, ihb hv.2 h2⟩
  | cond k a b iha ihb =>
    intro hv c hc
    obtain ⟨q, c1, c2, rfl, _, h1, h2⟩ := cCode_cond hc
    exact ⟨iha hv.1 h1, ihb hv.2 h2⟩
  | block id a ih =>
    intro hv c hc
    obtain ⟨c1, rfl, h1⟩ := cCode_block hc
    exact ih hv h1
  | loop k r a ih =>
    intro hv c hc
    obtain ⟨c1, rfl, h1⟩ := cCode_loop hc
    exact ih hv h1
  | mark k a ih => exact fun hv c hc => ih hv (show cCode P c = some a.erase from hc)
  | fork l a ih => exact fun hv c hc => ih hv (show cCode P c = some a.erase from hc)
  | call pre o post f nt res a ih =>
    intro hv c hc
    obtain ⟨fn, c', _, _, h3, _⟩ := func_of hF hv.1
    exact ih hv.2 h3
theorem outCall_ok {d : DC} {pre post : List AOper} {o : AOper} {f nt : Nat} {res : List ARes} (hf : C.F f = some ⟨nt, res, d.erase⟩) {fr : Fr} {m : TT Out} {oo oo' : List Bool} {out : Out}
    (h : runO (outCall C n o.dst post res fr m) oo = some (out, oo')) (hpc : out.pc.holds V) : ∃ x o1, runO m oo = some (x, o1) ∧ x.pc.holds V ∧ ∀ ι0 σ0 w0 ι w a0, HRel V ι0 B σ0 w0 → FrRel V ι fr a0 → GRel C.G ι0 → ∀ σ, Ext ι0 σ0 w0 ι σ w → HRel V ι B σ w → ∀ Q, OutOK P V B (.call pre o post f nt res d) Q ι0 σ0 w0 out → OutOK P V B d (retA P f o.dst post Q a0) ι σ w x := by
  unfold outCall at h
  obtain ⟨x, o1, r1, r2⟩ := runO_bind h
  refine ⟨x, o1, r1, ?_⟩
  obtain ⟨fn, c, k1, k2, k3, k4, k5, k6⟩ := func_of hF hf
  cases x with
  | «at» m frs p =>
    obtain ⟨h1, _⟩ := ret_run (show runO (TT.ret (Out.at m (fr :: frs) p)) o1 = _ from r2)
    subst h1
    refine ⟨hpc, fun ι0 σ0 w0 ι w a0 hh0 hfr hg0 σ hx hh Q hQ as' w' ι' q1 q2 q3 => ?_⟩
    have := hQ (a0 :: as') w' ι' ⟨hfr.mono (q3.mono hh), q1⟩ q2 (hx.trans q3)
    unfold Rsm at this
    obtain ⟨a1, as1, e1, e2⟩ := this
    cases e1
    exact e2
  | fin x frc p =>
    have key : x = .normal ∨ x = .ret → ∀ {r}, runO (match finCall C fr o.dst res frc p with
      | some fr' => (evOpsD C (evCallD C (evCodeD C n)) post fr' p).bind fun z => .ret (Out.fin .normal z.1 z.2)
      | none => .fail) o1 = some r → r = (out, oo') → p.pc.holds V ∧ ∀ ι0 σ0 w0 ι w a0, HRel V ι0 B σ0 w0 → FrRel V ι fr a0 → GRel C.G ι0 → ∀ σ, Ext ι0 σ0 w0 ι σ w → HRel V ι B σ w → ∀ Q, OutOK P V B (.call pre o post f nt res d) Q ι0 σ0 w0 out → OutOK P V B d (retA P f o.dst post Q a0) ι σ w (.fin x frc p) := by
      intro hx r hr he
      subst he
      split at hr
      case h_2 => simp [runO] at hr
      rename_i fr' hfc
      obtain ⟨⟨fr2, p2⟩, o2, s1, s2⟩ := runO_bind hr
      obtain ⟨h1, _⟩ := ret_run (show runO (TT.ret (Out.fin .normal fr2 p2)) o2 = _ from s2)
      subst h1
      unfold finCall at hfc
      split at hfc
      case h_2 => cases hfc
      rename_i vs hvs
      have ev := evOpsD_sim (evCallD_sim (evCodeD_sim (C := C) n)) s1
      have hcall := evCall_ok (P := P) (V := V) (B := B) hF hS (evCode_ok hmix hF hS hL n)
      refine ⟨?_, fun ι0 σ0 w0 ι w a0 hh0 hfr hg0 σ hx' hh Q hQ a' w' ι' q1 q2 q3 => ?_⟩
      · exact evOps_pc hcall ev hpc
      · have hg' := (hg0.mono (hx'.mono hh0)).mono (q3.mono hh)
        obtain ⟨us, u1, u2⟩ := evRes_sound (P := P) q1 hg' q2 k4 hvs
        have hres : (results fn a'.tmps).run P w' = .ok (if h : us.toArray.size = 1 then us.toArray[0] else .tuple us.toArray) w' := by
          rw [results_eq, Array.mapM_eq_mapM_toList]
          simp only [map_eq_pure_bind, Sem.run_bind, Sem.run_pure, u1, Result.andThen_ok]
        have hrest : restA P o.dst post Q a0 (.returned (if h : us.toArray.size = 1 then us.toArray[0] else .tuple us.toArray)) w' := by
          refine ⟨_, rfl, fun ops os hc => ?_⟩
          have hput := ((hfr.mono (q3.mono hh)).put (packRes_rel u2) hfc)
          refine (evOps_sound hcall hc ev hpc).2 ι' w' _ hput q2 hg' Q fun a'' w'' ι'' t1 t2 t3 => ?_
          exact hQ a'' w'' ι'' t1 t2 ((hx'.trans q3).trans t3)
        intro fn' hfn'
        rw [k1] at hfn'
        cases hfn'
        rcases hx with rfl | rfl <;> exact ⟨q1.defers, _, hres, hrest⟩
    cases x with
    | exit id => simp [runO] at r2
    | normal => exact key (.inl rfl) r2 rfl
    | ret => exact key (.inr rfl) r2 rfl

theorem evDC_ok : ∀ {d : DC}, d.valid C.F → d.runs P → ∀ {fr : Fr} {p : SP} {o o' : List Bool} {out : Out}, runO (evDC C n d fr p) o = some (out, o') → out.pc.holds V → p.pc.holds V ∧ ∀ ι w a, FrRel V ι fr a → HRel V ι B p.h w → GRel C.G ι → ∀ Q, OutOK P V B d Q ι p.h w out → wpA P d Q a w := by
  intro d
  induction d with
  | run ac =>
    intro hv hu fr p o o' out h hpc
    unfold evDC at h
    obtain ⟨⟨x, fr1, p1⟩, o1, r1, r2⟩ := runO_bind h
    obtain ⟨h1, _⟩ := ret_run (show runO (TT.ret (Out.fin x fr1 p1)) o1 = _ from r2)
    subst h1
    have ev := evCodeD_sim (C := C) n _ _ _ _ _ _ _ _ r1
    refine ⟨?_, fun ι w a hfr hh hg Q hQ c hc => ?_⟩
    · obtain ⟨c, hc⟩ := hu
      exact (evCode_ok hmix hF hS hL n _ _ _ _ _ _ _ hc ev hpc).1
    · exact (evCode_ok hmix hF hS hL n _ _ _ _ _ _ _ hc ev hpc).2 ι w a hfr hh hg Q hQ
  | seq d1 d2 ih1 ih2 =>
    intro hv hu fr p o o' out h hpc
    unfold evDC outSeq at h
    obtain ⟨x, o1, r1, r2⟩ := runO_bind h
    cases x with
    | fin x fr1 p1 =>
      cases x with
      | normal =>
        obtain ⟨y, o2, s1, s2⟩ := runO_bind (show runO ((evDC C n d2 fr1 p1).bind (outHas d1 false)) o1 = _ from r2)
        obtain ⟨e1, e2⟩ := outHas_run s2
        subst e1
        obtain ⟨b1, b2⟩ := ih2 hv.2 hu.2 s1 hpc
        obtain ⟨a1, a2⟩ := ih1 hv.1 hu.1 r1 b1
        refine ⟨a1, fun ι w a hfr hh hg Q hQ c hc => ?_⟩
        obtain ⟨c1, c2, rfl, hc1, hc2⟩ := cCode_seq hc
        refine wp_seq (wp_mono (a2 ι w a hfr hh hg (Exit.then (wpA P d2 Q) Q) ?_ c1 hc1) ?_)
        · intro a' w' ι' q1 q2 q3
          refine b2 ι' w' a' q1 q2 (hg.mono (q3.mono hh)) Q ?_
          cases y with
          | fin x2 fr2 p2 => exact fun a'' w'' ι'' t1 t2 t3 => hQ a'' w'' ι'' t1 t2 (q3.trans t3)
          | «at» m frs p2 =>
            intro as'' w'' ι'' t1 t2 t3
            have := hQ as'' w'' ι'' t1 t2 (q3.trans t3)
            unfold Rsm at this
            rwa [if_neg (by rw [e2 m frs p2 rfl]; simp)] at this
        · intro e a w he
          cases e with
          | normal => exact he c2 hc2
          | _ => exact he
      | exit id =>
        obtain ⟨e1, _⟩ := outHas_run (show runO (outHas d1 true (Out.fin (.exit id) fr1 p1)) o1 = _ from r2)
        subst e1
        obtain ⟨a1, a2⟩ := ih1 hv.1 hu.1 r1 hpc
        refine ⟨a1, fun ι w a hfr hh hg Q hQ c hc => ?_⟩
        obtain ⟨c1, c2, rfl, hc1, hc2⟩ := cCode_seq hc
        refine wp_seq (wp_mono (a2 ι w a hfr hh hg (Exit.then (wpA P d2 Q) Q) (fun a' w' ι' q1 q2 q3 => hQ a' w' ι' q1 q2 q3) c1 hc1) ?_)
        intro e a w he
        cases e with
        | normal => exact he c2 hc2
        | _ => exact he
      | ret =>
        obtain ⟨e1, _⟩ := outHas_run (show runO (outHas d1 true (Out.fin .ret fr1 p1)) o1 = _ from r2)
        subst e1
        obtain ⟨a1, a2⟩ := ih1 hv.1 hu.1 r1 hpc
        refine ⟨a1, fun ι w a hfr hh hg Q hQ c hc => ?_⟩
        obtain ⟨c1, c2, rfl, hc1, hc2⟩ := cCode_seq hc
        refine wp_seq (wp_mono (a2 ι w a hfr hh hg (Exit.then (wpA P d2 Q) Q) (fun a' w' ι' q1 q2 q3 => hQ a' w' ι' q1 q2 q3) c1 hc1) ?_)
        intro e a w he
        cases e with
        | normal => exact he c2 hc2
        | _ => exact he
    | «at» m frs p1 =>
      obtain ⟨e1, e2⟩ := outHas_run (show runO (outHas d1 true (Out.at m frs p1)) o1 = _ from r2)
      subst e1
      obtain ⟨a1, a2⟩ := ih1 hv.1 hu.1 r1 hpc
      refine ⟨a1, fun ι w a hfr hh hg Q hQ c hc => ?_⟩
      obtain ⟨c1, c2, rfl, hc1, hc2⟩ := cCode_seq hc
      refine wp_seq (wp_mono (a2 ι w a hfr hh hg (Exit.then (wpA P d2 Q) Q) (fun as' w' ι' q1 q2 q3 => ?_) c1 hc1) ?_)
      · have := hQ as' w' ι' q1 q2 q3
        unfold Rsm at this
        rwa [if_pos (e2 m frs p1 rfl)] at this
      · intro e a w he
        cases e with
        | normal => exact he c2 hc2
        | _ => exact he
  | cond k d1 d2 ih1 ih2 =>
    intro hv hu fr p o o' out h hpc
    unfold evDC condIn at h
    split at h
    case h_2 => simp [runO] at h
    rename_i e hr
    obtain ⟨⟨t, pc1⟩, o1, r1, r2⟩ := runO_bind h
    have hd := decD_sim (h := p.h) r1
    cases t
    · obtain ⟨y, o2, s1, s2⟩ := runO_bind (show runO ((evDC C n d2 fr ⟨p.h, pc1⟩).bind (outHas d1 false)) o1 = _ from r2)
      obtain ⟨e1, e2⟩ := outHas_run s2
      subst e1
      obtain ⟨b1, b2⟩ := ih2 hv.2 hu.2 s1 hpc
      obtain ⟨g1, g2⟩ := dec_sound (V := V) hd
      obtain ⟨g3, g4⟩ := g2 b1
      refine ⟨g3, fun ι w a hfr hh hg Q hQ c hc => ?_⟩
      obtain ⟨q, x, z, rfl, hk, hx, hz⟩ := cCode_cond hc
      have hval := (hfr.rd hg) q _ _ hk hr
      simp only [VRel, g4] at hval
      refine wp_cond_false hval (b2 ι w a hfr hh hg Q ?_ z hz)
      cases y with
      | fin x2 fr2 p2 => exact hQ
      | «at» m frs p2 =>
        intro as'' w'' ι'' t1 t2 t3
        have := hQ as'' w'' ι'' t1 t2 t3
        unfold Rsm at this
        rwa [if_neg (by rw [e2 m frs p2 rfl]; simp)] at this
    · obtain ⟨y, o2, s1, s2⟩ := runO_bind (show runO ((evDC C n d1 fr ⟨p.h, pc1⟩).bind (outHas d1 true)) o1 = _ from r2)
      obtain ⟨e1, e2⟩ := outHas_run s2
      subst e1
      obtain ⟨b1, b2⟩ := ih1 hv.1 hu.1 s1 hpc
      obtain ⟨g1, g2⟩ := dec_sound (V := V) hd
      obtain ⟨g3, g4⟩ := g2 b1
      refine ⟨g3, fun ι w a hfr hh hg Q hQ c hc => ?_⟩
      obtain ⟨q, x, z, rfl, hk, hx, hz⟩ := cCode_cond hc
      have hval := (hfr.rd hg) q _ _ hk hr
      simp only [VRel, g4] at hval
      refine wp_cond_true hval (b2 ι w a hfr hh hg Q ?_ x hx)
      cases y with
      | fin x2 fr2 p2 => exact hQ
      | «at» m frs p2 =>
        intro as'' w'' ι'' t1 t2 t3
        have := hQ as'' w'' ι'' t1 t2 t3
        unfold Rsm at this
        rwa [if_pos (e2 m frs p2 rfl)] at this
  | block id d ih =>
    intro hv hu fr p o o' out h hpc
    unfold evDC at h
    obtain ⟨x, o1, r1, r2, r3⟩ := outBlock_run h
    obtain ⟨a1, a2⟩ := ih hv hu r1 (r2 hpc)
    refine ⟨a1, fun ι w a hfr hh hg Q hQ c hc => ?_⟩
    obtain ⟨c1, rfl, hc1⟩ := cCode_block hc
    exact wp_block (a2 ι w a hfr hh hg _ (r3 P V B d Q ι p.h w hQ) c1 hc1)
  | loop k r d ih =>
    intro hv hu fr p o o' out h hpc
    unfold evDC at h
    obtain ⟨e1, e2⟩ := headAt_run h
    subst e1
    refine ⟨hpc, fun ι w a hfr hh hg Q hQ c hc => ?_⟩
    have := hQ [a] w ι ⟨hfr, trivial⟩ hh (Ext.refl _ _ _)
    unfold Rsm at this
    rw [if_neg (by rw [e2]; simp)] at this
    obtain ⟨_, a0, h1, h2⟩ := this
    cases h1
    obtain ⟨c1, rfl, hc1⟩ := cCode_loop hc
    exact loopWp_wp (h2 c1 hc1)
  | mark k d ih =>
    intro hv hu fr p o o' out h hpc
    unfold evDC at h
    obtain ⟨e1, e2⟩ := headAt_run h
    subst e1
    refine ⟨hpc, fun ι w a hfr hh hg Q hQ c hc => ?_⟩
    have := hQ [a] w ι ⟨hfr, trivial⟩ hh (Ext.refl _ _ _)
    unfold Rsm at this
    rw [if_neg (by rw [e2]; simp)] at this
    obtain ⟨_, a0, h1, h2⟩ := this
    cases h1
    exact h2 c hc
  | fork l d ih =>
    intro hv hu fr p o o' out h hpc
    unfold evDC forkB at h
    obtain ⟨⟨x, fr1, p1⟩, o1, r1, r2⟩ := runO_bind h
    obtain ⟨e1, e2, e3, e4⟩ := forkS_ok (V := V) r1
    obtain ⟨a1, a2⟩ := ih hv hu (show runO (evDC C n d fr1 p1) o1 = _ from r2) hpc
    subst e2
    refine ⟨e4 a1, fun ι w a hfr hh hg Q hQ c hc => a2 ι w a hfr (by rw [e3]; exact hh) hg Q ?_ c hc⟩
    rw [e3]
    cases out with
    | fin x fr2 p2 => exact hQ
    | «at» m frs p2 => exact hQ
  | call pre oa post f nt res d ih =>
    intro hv hu fr p o o' out h hpc
    unfold evDC callIn at h
    obtain ⟨⟨fr1, p1⟩, o1, r1, r2⟩ := runO_bind h
    simp only at r2
    split at r2
    case h_2 => simp [runO] at r2
    rename_i frc hgo
    have hcall := evCall_ok (P := P) (V := V) (B := B) hF hS (evCode_ok hmix hF hS hL n)
    obtain ⟨x, o2, s1, s2, s3⟩ := outCall_ok hmix hF hS hL (pre := pre) hv.1 r2 hpc
    obtain ⟨b1, b2⟩ := ih hv.2 hu s1 s2
    have ev := evOpsD_sim (evCallD_sim (evCodeD_sim (C := C) n)) r1
    refine ⟨evOps_pc hcall ev b1, fun ι w a hfr hh hg Q hQ c hc => ?_⟩
    obtain ⟨i, ops, rfl, hops⟩ := cCode_reg hc
    obtain ⟨os1, os2, hos, hc1, hc2⟩ := cOps_app hops
    refine wp_region_list ?_
    rw [hos]
    refine (evOps_app hcall hc1 ev b1).2 ι w a hfr hh hg Q fun a1 w1 ι1 q1 q2 q3 => ?_
    -- the call
    obtain ⟨g, as, first, caps, vs, t, k1, k2, k3, k4, k5, k6, k7⟩ := goesIn_spec hgo
    subst k7
    cases os2 with
    | nil => simp [cOps] at hc2
    | cons oc os3 =>
      unfold cOps at hc2
      cases hgd : guardOf ops oc.guard with
      | none => simp [hgd, cons?] at hc2
      | some gg =>
        cases hos3 : cOps P ops os3 with
        | none => simp [hgd, hos3, cons?] at hc2
        | some post' =>
          simp only [hgd, hos3, cons?, Option.some.injEq, List.cons.injEq] at hc2
          obtain ⟨e1, e2⟩ := hc2
          subst e1
          subst e2
          simp only at k1 k2
          subst k1
          have hwant : Region.wanted oc (yielded ops a1.tmps) = true := by
            have := (evGuard_sound (V := V) (C := C) hgd (fr := fr1) (s := p1.st []) (s' := p1.st []) (b := true) rfl (show p1.pc.holds V from b1)).2.2 ι1 a1 q1 (hg.mono (q3.mono hh))
            exact this
          unfold wpList
          rw [if_pos hwant]
          have hg1 := hg.mono (q3.mono hh)
          have hrd := q1.rd hg1
          have hcop : cOp P oc = some (.call g as) := by
            cases hq : cOp P oc with
            | none => rw [hq] at k2; cases k2
            | some q => rw [hq] at k2; rw [show q = .call g as from k2]
          obtain ⟨fn, c', m1, m2, m3, m4, m5, m6⟩ := func_of hF hv.1
          refine .inl ?_
          obtain ⟨dst, op, type, pos, after, guard⟩ := oc
          cases op <;> simp only [cOp] at hcop
          case call cc =>
            obtain ⟨callee, args, tys⟩ := cc
            cases callee <;> simp only [] at hcop
            case value f' =>
              split at hcop <;> simp at hcop
              obtain ⟨rfl, rfl⟩ := hcop
              rename_i hf' hargs
              obtain ⟨ff, gg', hfv, hff, hgg⟩ := hrd f' _ _ hf' k3
              have hav := readAll_rel hrd hargs k4
              have hall := (hff.append hav).append hgg
              have harr : (ff ++ args.map a1.eval ++ gg') = (ff.toList ++ args.toList.map a1.eval ++ gg'.toList).toArray := by
                apply Array.ext'; simp
              unfold Oper.wp
              have hrun : (execOp a1.eval ⟨dst, .call ⟨.value f', args, tys⟩, type, pos, after, guard⟩).run P w1 = .ok (.enter f (ff.toList ++ args.toList.map a1.eval ++ gg'.toList).toArray) w1 := by
                simp only [execOp, resolve, Sem.run_bind, hfv, Deferred.ofValue, Sem.run_pure, Result.andThen_ok, invoke, harr, m6]
              rw [hrun, Oper.upon_enter]
              have hfrc := enter_rel (nt := nt) hall k5 k6
              subst m5
              have hb := b2 ι1 w1 _ hfrc q2 hg1 _ (s3 ι p.h w ι1 w1 a1 hh q1 hg p1.h q3 q2 Q hQ) c' m3
              refine (calls_of_wp m1 m2 (wp_mono hb fun e a w he => he fn m1)).mono fun e w' he' => ?_
              obtain ⟨v, rfl, hrest⟩ := he'
              exact hrest ops os3 hos3
            case invoke => cases hcop
            case builtin b => exfalso; unfold cBuiltin at hcop; simp only [Bool.cond_eq_ite] at hcop; (repeat' split at hcop) <;> simp at hcop
          case makeFunc fn _ _ => cases fn <;> simp only [] at hcop <;> (repeat' split at hcop) <;> simp at hcop
          case slice mx => cases mx <;> simp only [] at hcop <;> (repeat' split at hcop) <;> simp at hcop
          case lookup => exfalso; obtain ⟨_, _, _, _, _, _, _, _, _, _, _, h⟩ := cLook_spec hcop; cases h
          case mapUpdate => exfalso; obtain ⟨_, _, _, _, _, _, _, _, _, _, _, h⟩ := cPut_spec hcop; cases h
          case makeMap t r => exfalso; cases r <;> simp at hcop
          all_goals (exfalso; (try simp only [Bool.cond_eq_ite] at hcop); (repeat' split at hcop) <;> simp at hcop)

omit hmix hF hS hL in
theorem outSeq_run {d1 : DC} {m : TT Out} {k : Fr → SP → TT Out} {o o' : List Bool} {out : Out} (h : runO (outSeq d1 m k) o = some (out, o')) : ∃ x o1, runO m o = some (x, o1) ∧
    ((∃ fr p o2, x = .fin .normal fr p ∧ runO (k fr p) o1 = some (out, o2) ∧ ∀ m frs p, out = .at m frs p → d1.has m = false) ∨ (x = out ∧ (∀ fr p, x ≠ .fin .normal fr p) ∧ ∀ m frs p, out = .at m frs p → d1.has m = true)) := by
  unfold outSeq at h
  obtain ⟨x, o1, r1, r2⟩ := runO_bind h
  refine ⟨x, o1, r1, ?_⟩
  cases x with
  | fin x fr p =>
    cases x with
    | normal =>
      obtain ⟨y, o2, s1, s2⟩ := runO_bind (show runO ((k fr p).bind (outHas d1 false)) o1 = _ from r2)
      obtain ⟨e1, e2⟩ := outHas_run s2
      subst e1
      exact .inl ⟨fr, p, o2, rfl, s1, e2⟩
    | exit id =>
      obtain ⟨e1, e2⟩ := outHas_run (show runO (outHas d1 true (Out.fin (.exit id) fr p)) o1 = _ from r2)
      subst e1
      exact .inr ⟨rfl, fun _ _ e => (by cases e), fun _ _ _ e => (by cases e)⟩
    | ret =>
      obtain ⟨e1, e2⟩ := outHas_run (show runO (outHas d1 true (Out.fin .ret fr p)) o1 = _ from r2)
      subst e1
      exact .inr ⟨rfl, fun _ _ e => (by cases e), fun _ _ _ e => (by cases e)⟩
  | «at» m frs p =>
    obtain ⟨e1, e2⟩ := outHas_run (show runO (outHas d1 true (Out.at m frs p)) o1 = _ from r2)
    subst e1
    exact .inr ⟨rfl, fun _ _ e => (by cases e), fun m' frs' p' e => e2 m' frs' p' e⟩
omit hmix hF hS hL in
theorem outLoop_run {k : Nat} {d1 : DC} {m : TT Out} {nx : Fr → SP → TT Out} {o o' : List Bool} {out : Out} (h : runO (outLoop k d1 nx m) o = some (out, o')) : ∃ x o1, runO m o = some (x, o1) ∧
    ((∃ fr p, x = .fin .normal fr p ∧ runO (nx fr p) o1 = some (out, o')) ∨ (x = out ∧ (∀ fr p, x ≠ .fin .normal fr p) ∧ ∀ m frs p, out = .at m frs p → d1.has m = true)) := by
  unfold outLoop at h
  obtain ⟨x, o1, r1, r2⟩ := runO_bind h
  refine ⟨x, o1, r1, ?_⟩
  cases x with
  | fin x fr p =>
    cases x with
    | normal => exact .inl ⟨fr, p, rfl, r2⟩
    | exit id =>
      obtain ⟨e1, e2⟩ := outHas_run (show runO (outHas d1 true (Out.fin (.exit id) fr p)) o1 = _ from r2)
      subst e1
      exact .inr ⟨rfl, fun _ _ e => (by cases e), fun _ _ _ e => (by cases e)⟩
    | ret =>
      obtain ⟨e1, e2⟩ := outHas_run (show runO (outHas d1 true (Out.fin .ret fr p)) o1 = _ from r2)
      subst e1
      exact .inr ⟨rfl, fun _ _ e => (by cases e), fun _ _ _ e => (by cases e)⟩
  | «at» m frs p =>
    obtain ⟨e1, e2⟩ := outHas_run (show runO (outHas d1 true (Out.at m frs p)) o1 = _ from r2)
    subst e1
    exact .inr ⟨rfl, fun _ _ e => (by cases e), fun m' frs' p' e => e2 m' frs' p' e⟩
omit hmix hF hS hL in
theorem rsm_head {k r : Nat} {d : DC} {Q : Exit → Act → World → Prop} {a : Act} {w : World} (h : Rsm P k (.loop k r d) Q [a] w) (hk : d.has k = false) : loopA P d Q a w := by
  unfold Rsm at h
  rw [if_neg (by rw [hk]; simp)] at h
  obtain ⟨_, a0, h1, h2⟩ := h
  cases h1
  exact h2
omit hmix hF hS hL in
theorem loop_out {k r : Nat} {d : DC} {Q : Exit → Act → World → Prop} {ι : Nat → Option Loc} {σ : Hp} {w : World} {x out : Out} (hx : x = out) (hn : ∀ fr p, x ≠ .fin .normal fr p) (hm : ∀ m frs p, out = .at m frs p → d.has m = true)
    (hQ : OutOK P V B (.loop k r d) Q ι σ w out) : OutOK P V B d (Exit.then (loopA P d Q) Q) ι σ w x := by
  subst hx
  cases x with
  | fin x fr p =>
    cases x with
    | normal => exact absurd rfl (hn fr p)
    | exit id => exact hQ
    | ret => exact hQ
  | «at» m frs p =>
    intro as' w' ι' q1 q2 q3
    have := hQ as' w' ι' q1 q2 q3
    unfold Rsm at this
    rwa [if_pos (hm m frs p rfl)] at this
theorem rounds_ok {d : DC} (hv : d.valid C.F) (hu : d.runs P) {k r0 : Nat} : ∀ {r : Nat} {fr : Fr} {p : SP} {o o' : List Bool} {out : Out}, runO (rounds k d (evDC C n d) r fr p) o = some (out, o') → out.pc.holds V → p.pc.holds V ∧ ∀ ι w a, FrRel V ι fr a → HRel V ι B p.h w → GRel C.G ι → ∀ Q, OutOK P V B (.loop k r0 d) Q ι p.h w out → loopA P d Q a w := by
  intro r
  induction r with
  | zero =>
    intro fr p o o' out h hpc
    obtain ⟨e1, e2⟩ := headAt_run (show runO (headAt k d fr p) o = _ from h)
    subst e1
    exact ⟨hpc, fun ι w a hfr hh hg Q hQ => rsm_head (hQ [a] w ι ⟨hfr, trivial⟩ hh (Ext.refl _ _ _)) e2⟩
  | succ r ih =>
    intro fr p o o' out h hpc
    obtain ⟨x, o1, r1, r2⟩ := outLoop_run (show runO (outLoop k d (rounds k d (evDC C n d) r) (evDC C n d fr p)) o = _ from h)
    rcases r2 with ⟨fr1, p1, rfl, r2⟩ | ⟨h1, h2, h3⟩
    · obtain ⟨b1, b2⟩ := ih r2 hpc
      obtain ⟨a1, a2⟩ := evDC_ok hmix hF hS hL hv hu r1 b1
      refine ⟨a1, fun ι w a hfr hh hg Q hQ c hc => loopWp_round (wp_mono (a2 ι w a hfr hh hg (Exit.then (loopA P d Q) Q) ?_ c hc) ?_)⟩
      · intro a' w' ι' q1 q2 q3
        refine b2 ι' w' a' q1 q2 (hg.mono (q3.mono hh)) Q ?_
        cases out with
        | fin x2 fr2 p2 => exact fun a'' w'' ι'' t1 t2 t3 => hQ a'' w'' ι'' t1 t2 (q3.trans t3)
        | «at» m frs p2 => exact fun as'' w'' ι'' t1 t2 t3 => hQ as'' w'' ι'' t1 t2 (q3.trans t3)
      · intro e a w he
        cases e with
        | normal => exact he c hc
        | _ => exact he
    · subst h1
      obtain ⟨a1, a2⟩ := evDC_ok hmix hF hS hL hv hu r1 hpc
      refine ⟨a1, fun ι w a hfr hh hg Q hQ c hc => loopWp_round (wp_mono (a2 ι w a hfr hh hg (Exit.then (loopA P d Q) Q) (loop_out rfl h2 h3 hQ) c hc) ?_)⟩
      intro e a w he
      cases e with
      | normal => exact he c hc
      | _ => exact he
omit hmix hF hS hL in
theorem one1_run {frs : List Fr} {p : SP} {k : Fr → SP → TT Out} {o o' : List Bool} {out : Out} (h : runO (one1 frs p k) o = some (out, o')) : ∃ fr, frs = [fr] ∧ runO (k fr p) o = some (out, o') := by
  unfold one1 at h
  split at h
  · exact ⟨_, rfl, h⟩
  · simp [runO] at h
omit hmix hF hS hL in
theorem frs_one {ι : Nat → Option Loc} {fr : Fr} {as : List Act} (h : FrsRel V ι [fr] as) : ∃ a, as = [a] ∧ FrRel V ι fr a := by
  cases as with
  | nil => exact h.elim
  | cons a as =>
    cases as with
    | nil => exact ⟨a, rfl, h.1⟩
    | cons b bs => exact h.2.elim
theorem evFrom_ok {m : Nat} : ∀ {d : DC}, d.valid C.F → d.runs P → ∀ {frs : List Fr} {p : SP} {o o' : List Bool} {out : Out}, runO (evFrom C n m d frs p) o = some (out, o') → out.pc.holds V → p.pc.holds V ∧ ∀ ι w as, FrsRel V ι frs as → HRel V ι B p.h w → GRel C.G ι → ∀ Q, OutOK P V B d Q ι p.h w out → Rsm P m d Q as w := by
  intro d
  induction d with
  | run ac =>
    intro hv hu frs p o o' out h hpc
    simp [evFrom, runO] at h
  | seq d1 d2 ih1 ih2 =>
    intro hv hu frs p o o' out h hpc
    unfold evFrom at h
    cases hm : d1.has m <;> simp only [hm, cond_true, cond_false] at h
    · obtain ⟨y, o1, r1, r2⟩ := runO_bind h
      obtain ⟨e1, e2⟩ := outHas_run r2
      subst e1
      obtain ⟨b1, b2⟩ := ih2 hv.2 hu.2 r1 hpc
      refine ⟨b1, fun ι w as hfr hh hg Q hQ => ?_⟩
      unfold Rsm
      rw [if_neg (by rw [hm]; simp)]
      refine b2 ι w as hfr hh hg Q ?_
      cases y with
      | fin x2 fr2 p2 => exact hQ
      | «at» m2 frs2 p2 =>
        intro as'' w'' ι'' t1 t2 t3
        have := hQ as'' w'' ι'' t1 t2 t3
        unfold Rsm at this
        rwa [if_neg (by rw [e2 m2 frs2 p2 rfl]; simp)] at this
    · obtain ⟨x, o1, r1, r2⟩ := outSeq_run h
      rcases r2 with ⟨fr1, p1, o2, rfl, s1, e2⟩ | ⟨h1, h2, h3⟩
      · obtain ⟨b1, b2⟩ := evDC_ok hmix hF hS hL hv.2 hu.2 s1 hpc
        obtain ⟨a1, a2⟩ := ih1 hv.1 hu.1 r1 b1
        refine ⟨a1, fun ι w as hfr hh hg Q hQ => ?_⟩
        unfold Rsm
        rw [if_pos hm]
        refine a2 ι w as hfr hh hg _ ?_
        intro a' w' ι' q1 q2 q3
        refine b2 ι' w' a' q1 q2 (hg.mono (q3.mono hh)) Q ?_
        cases out with
        | fin x2 fr2 p2 => exact fun a'' w'' ι'' t1 t2 t3 => hQ a'' w'' ι'' t1 t2 (q3.trans t3)
        | «at» m2 frs2 p2 =>
          intro as'' w'' ι'' t1 t2 t3
          have := hQ as'' w'' ι'' t1 t2 (q3.trans t3)
          unfold Rsm at this
          rwa [if_neg (by rw [e2 m2 frs2 p2 rfl]; simp)] at this
      · subst h1
        obtain ⟨a1, a2⟩ := ih1 hv.1 hu.1 r1 hpc
        refine ⟨a1, fun ι w as hfr hh hg Q hQ => ?_⟩
        unfold Rsm
        rw [if_pos hm]
        refine a2 ι w as hfr hh hg _ ?_
        cases x with
        | fin x2 fr2 p2 =>
          cases x2 with
          | normal => exact absurd rfl (h2 fr2 p2)
          | exit id => exact hQ
          | ret => exact hQ
        | «at» m2 frs2 p2 =>
          intro as'' w'' ι'' t1 t2 t3
          have := hQ as'' w'' ι'' t1 t2 t3
          unfold Rsm at this
          rwa [if_pos (h3 m2 frs2 p2 rfl)] at this
  | cond k d1 d2 ih1 ih2 =>
    intro hv hu frs p o o' out h hpc
    unfold evFrom at h
    cases hm : d1.has m <;> simp only [hm, cond_true, cond_false] at h
    · obtain ⟨y, o1, r1, r2⟩ := runO_bind h
      obtain ⟨e1, e2⟩ := outHas_run r2
      subst e1
      obtain ⟨b1, b2⟩ := ih2 hv.2 hu.2 r1 hpc
      refine ⟨b1, fun ι w as hfr hh hg Q hQ => ?_⟩
      unfold Rsm
      rw [if_neg (by rw [hm]; simp)]
      refine b2 ι w as hfr hh hg Q ?_
      cases y with
      | fin x2 fr2 p2 => exact hQ
      | «at» m2 frs2 p2 =>
        intro as'' w'' ι'' t1 t2 t3
        have := hQ as'' w'' ι'' t1 t2 t3
        unfold Rsm at this
        rwa [if_neg (by rw [e2 m2 frs2 p2 rfl]; simp)] at this
    · obtain ⟨y, o1, r1, r2⟩ := runO_bind h
      obtain ⟨e1, e2⟩ := outHas_run r2
      subst e1
      obtain ⟨b1, b2⟩ := ih1 hv.1 hu.1 r1 hpc
      refine ⟨b1, fun ι w as hfr hh hg Q hQ => ?_⟩
      unfold Rsm
      rw [if_pos hm]
      refine b2 ι w as hfr hh hg Q ?_
      cases y with
      | fin x2 fr2 p2 => exact hQ
      | «at» m2 frs2 p2 =>
        intro as'' w'' ι'' t1 t2 t3
        have := hQ as'' w'' ι'' t1 t2 t3
        unfold Rsm at this
        rwa [if_pos (e2 m2 frs2 p2 rfl)] at this
  | block id d ih =>
    intro hv hu frs p o o' out h hpc
    unfold evFrom at h
    obtain ⟨x, o1, r1, r2, r3⟩ := outBlock_run h
    obtain ⟨a1, a2⟩ := ih hv hu r1 (r2 hpc)
    refine ⟨a1, fun ι w as hfr hh hg Q hQ => ?_⟩
    unfold Rsm
    exact a2 ι w as hfr hh hg _ (r3 P V B d Q ι p.h w hQ)
  | loop k r d ih =>
    intro hv hu frs p o o' out h hpc
    unfold evFrom at h
    cases hm : d.has m <;> simp only [hm, cond_true, cond_false] at h
    · cases hk : Nat.beq k m <;> simp only [hk, cond_true, cond_false] at h
      · simp [runO] at h
      obtain rfl := Nat.eq_of_beq_eq_true hk
      obtain ⟨fr, rfl, r1⟩ := one1_run h
      obtain ⟨a1, a2⟩ := rounds_ok (d := d) hmix hF hS hL (r0 := r) hv hu r1 hpc
      refine ⟨a1, fun ι w as hfr hh hg Q hQ => ?_⟩
      obtain ⟨a, rfl, hfa⟩ := frs_one hfr
      unfold Rsm
      rw [if_neg (by rw [hm]; simp)]
      exact ⟨rfl, a, rfl, a2 ι w a hfa hh hg Q hQ⟩
    · obtain ⟨x, o1, r1, r2⟩ := outLoop_run h
      rcases r2 with ⟨fr1, p1, rfl, s1⟩ | ⟨h1, h2, h3⟩
      · obtain ⟨e1, e2⟩ := headAt_run s1
        subst e1
        obtain ⟨a1, a2⟩ := ih hv hu r1 hpc
        refine ⟨a1, fun ι w as hfr hh hg Q hQ => ?_⟩
        unfold Rsm
        rw [if_pos hm]
        refine a2 ι w as hfr hh hg _ ?_
        intro a' w' ι' q1 q2 q3
        exact rsm_head (hQ [a'] w' ι' ⟨q1, trivial⟩ q2 q3) e2
      · subst h1
        obtain ⟨a1, a2⟩ := ih hv hu r1 hpc
        refine ⟨a1, fun ι w as hfr hh hg Q hQ => ?_⟩
        unfold Rsm
        rw [if_pos hm]
        exact a2 ι w as hfr hh hg _ (loop_out rfl h2 h3 hQ)
  | mark k d ih =>
    intro hv hu frs p o o' out h hpc
    unfold evFrom at h
    cases hm : d.has m <;> simp only [hm, cond_true, cond_false] at h
    · cases hk : Nat.beq k m <;> simp only [hk, cond_true, cond_false] at h
      · simp [runO] at h
      obtain rfl := Nat.eq_of_beq_eq_true hk
      obtain ⟨fr, rfl, r1⟩ := one1_run h
      obtain ⟨y, o1, s1, s2⟩ := runO_bind r1
      obtain ⟨e1, e2⟩ := outHas_run s2
      subst e1
      obtain ⟨a1, a2⟩ := evDC_ok (d := d) hmix hF hS hL hv hu s1 hpc
      refine ⟨a1, fun ι w as hfr hh hg Q hQ => ?_⟩
      obtain ⟨a, rfl, hfa⟩ := frs_one hfr
      unfold Rsm
      rw [if_neg (by rw [hm]; simp)]
      refine ⟨rfl, a, rfl, a2 ι w a hfa hh hg Q ?_⟩
      cases y with
      | fin x2 fr2 p2 => exact hQ
      | «at» m2 frs2 p2 =>
        intro as'' w'' ι'' t1 t2 t3
        have := hQ as'' w'' ι'' t1 t2 t3
        unfold Rsm at this
        rwa [if_pos (e2 m2 frs2 p2 rfl)] at this
    · obtain ⟨y, o1, r1, r2⟩ := runO_bind h
      obtain ⟨e1, e2⟩ := outHas_run r2
      subst e1
      obtain ⟨b1, b2⟩ := ih hv hu r1 hpc
      refine ⟨b1, fun ι w as hfr hh hg Q hQ => ?_⟩
      unfold Rsm
      rw [if_pos hm]
      refine b2 ι w as hfr hh hg Q ?_
      cases y with
      | fin x2 fr2 p2 => exact hQ
      | «at» m2 frs2 p2 =>
        intro as'' w'' ι'' t1 t2 t3
        have := hQ as'' w'' ι'' t1 t2 t3
        unfold Rsm at this
        rwa [if_pos (e2 m2 frs2 p2 rfl)] at this
  | fork l d ih =>
    intro hv hu frs p o o' out h hpc
    unfold evFrom at h
    obtain ⟨a1, a2⟩ := ih hv hu h hpc
    refine ⟨a1, fun ι w as hfr hh hg Q hQ => ?_⟩
    unfold Rsm
    refine a2 ι w as hfr hh hg Q ?_
    cases out with
    | fin x2 fr2 p2 => exact hQ
    | «at» m2 frs2 p2 => exact hQ
  | call pre oa post f nt res d ih =>
    intro hv hu frs p o o' out h hpc
    unfold evFrom at h
    cases frs with
    | nil => simp [runO] at h
    | cons fr inner =>
      obtain ⟨x, o1, s1, s2, s3⟩ := outCall_ok hmix hF hS hL (pre := pre) hv.1 h hpc
      obtain ⟨b1, b2⟩ := ih hv.2 hu s1 s2
      refine ⟨b1, fun ι w as hfr hh hg Q hQ => ?_⟩
      cases as with
      | nil => exact hfr.elim
      | cons a0 as' =>
        unfold Rsm
        exact ⟨a0, as', rfl, b2 ι w as' hfr.2 hh hg _ (s3 ι p.h w ι w a0 hh hfr.1 hg p.h (Ext.refl _ _ _) hh Q hQ)⟩
end
end
/- Templates of several frames. -/
structure NT where
  m : Nat
  sizes : List Nat
  T : Tp
def frOf (l : List SV) : Fr := ⟨l.length, match enterT l 0 .e with | some t => t | none => .e⟩
def okL (l : List SV) : Bool := match enterT l 0 .e with | some _ => true | none => false
def splitS : List Nat → List SV → List (List SV)
  | [], _ => []
  | k :: ks, l => l.take k :: splitS ks (l.drop k)
def NT.ls (N : NT) : List (List SV) := splitS N.sizes N.T.slots
def NT.frs (N : NT) : List Fr := N.ls.map frOf
def okLs : List (List SV) → Bool
  | [] => true
  | l :: ls => okL l && okLs ls
def lenIs : List Nat → List SV → Bool
  | [], l => (match l with | [] => true | _ => false)
  | k :: ks, l => Nat.ble k l.length && lenIs ks (l.drop k)
def NT.ok (N : NT) : Bool := okLs N.ls && lenIs N.sizes N.T.slots
def frSlots (fr : Fr) : Nat → Nat → List SV
  | _, 0 => []
  | i, k + 1 => ((fr.t.get i).getD sundef) :: frSlots fr (i + 1) k
def catS : List Fr → List SV
  | [] => []
  | fr :: frs => frSlots fr 0 fr.n ++ catS frs
def sizesOK : List Fr → List Nat → Bool
  | [], [] => true
  | fr :: frs, k :: ks => Nat.beq fr.n k && sizesOK frs ks
  | _, _ => false
def catAct (as : List Act) : Act := ⟨(as.map fun a => a.tmps.toList).flatten.toArray, []⟩
section
variable {V : Val} {ι : Nat → Option Loc}
theorem okL_get {l : List SV} (h : okL l = true) (i : Nat) : (frOf l).t.get i = l[i]? := by
  unfold okL at h
  unfold frOf
  split at h
  · rename_i t ht
    simp only [ht]
    rw [enterT_get ht i]
    simp only [Nat.zero_le, true_and, Nat.zero_add, Nat.sub_zero]
    split
    · rfl
    · rename_i hi
      rw [Tr.get_e, List.getElem?_eq_none_iff.2 (by omega)]
  · cases h
theorem frSlots_len {fr : Fr} : ∀ {k i : Nat}, (frSlots fr i k).length = k
  | 0, i => rfl
  | k + 1, i => by simp [frSlots, frSlots_len (k := k)]
theorem frSlots_get {fr : Fr} : ∀ {k i j : Nat}, j < k → (frSlots fr i k)[j]? = some ((fr.t.get (i + j)).getD sundef)
  | 0, i, j, h => by omega
  | k + 1, i, 0, h => by simp [frSlots]
  | k + 1, i, j + 1, h => by
    simp only [frSlots, List.getElem?_cons_succ]
    rw [frSlots_get (k := k) (by omega), show i + 1 + j = i + (j + 1) by omega]
theorem FrRel.vrels {fr : Fr} {a : Act} (h : FrRel V ι fr a) : VRels V ι (frSlots fr 0 fr.n) a.tmps.toList := by
  refine VRels.of_get (by rw [frSlots_len]; simpa using h.size) fun j v hj => ?_
  have hlt : j < fr.n := by
    have := (List.getElem?_eq_some_iff.1 hj).1
    rwa [frSlots_len] at this
  rw [frSlots_get hlt, Nat.zero_add] at hj
  cases hj
  have := h.val j
  have hs : j < a.tmps.size := by rw [h.size]; exact hlt
  refine ⟨a.tmps[j], by simp [hs], ?_⟩
  simpa [Array.getD_eq_getD_getElem?, hs] using this
theorem frOf_rel {l : List SV} {a : Act} (hl : okL l = true) (h : VRels V ι l a.tmps.toList) (hd : a.defers = []) : FrRel V ι (frOf l) a := by
  have hlen := h.length
  refine ⟨by simpa [frOf] using hlen, hd, fun i => ?_⟩
  rw [okL_get hl]
  by_cases hi : i < l.length
  · obtain ⟨c, h1, h2⟩ := h.get i _ (List.getElem?_eq_getElem hi)
    rw [List.getElem?_eq_getElem hi]
    have h1' : a.tmps[i]? = some c := by simpa using h1
    simp only [Array.getD_eq_getD_getElem?, h1', Option.getD_some]
    exact h2
  · rw [List.getElem?_eq_none_iff.2 (by omega)]
    have : a.tmps[i]? = none := by
      rw [Array.getElem?_eq_none_iff]
      have : a.tmps.size = l.length := by simpa using hlen
      omega
    simp only [Array.getD_eq_getD_getElem?, this, Option.getD_none]
    exact VRel.undef
theorem FrsRel.vrels : ∀ {frs : List Fr} {as : List Act}, FrsRel V ι frs as → VRels V ι (catS frs) (as.map fun a => a.tmps.toList).flatten
  | [], [], h => .nil
  | [], _ :: _, h => h.elim
  | _ :: _, [], h => h.elim
  | f :: fs, a :: as, h => by
    simp only [catS, List.map_cons, List.flatten_cons]
    exact h.1.vrels.append (FrsRel.vrels h.2)
theorem frs_of : ∀ {ks : List Nat} {l : List SV} {frs : List Fr} {as : List Act} {ι0 : Nat → Option Loc} {V0 : Val}, FrsRel V0 ι0 frs as → sizesOK frs ks = true → lenIs ks l = true → okLs (splitS ks l) = true → VRels V ι l (as.map fun a => a.tmps.toList).flatten → FrsRel V ι ((splitS ks l).map frOf) as
  | [], l, [], [], ι0, V0, h, hs, hl, ho, hv => trivial
  | [], l, [], _ :: _, ι0, V0, h, hs, hl, ho, hv => h.elim
  | [], l, _ :: _, as, ι0, V0, h, hs, hl, ho, hv => by simp [sizesOK] at hs
  | k :: ks, l, [], as, ι0, V0, h, hs, hl, ho, hv => by simp [sizesOK] at hs
  | k :: ks, l, f :: fs, [], ι0, V0, h, hs, hl, ho, hv => h.elim
  | k :: ks, l, f :: fs, a :: as, ι0, V0, h, hs, hl, ho, hv => by
    simp only [sizesOK, Bool.and_eq_true] at hs
    simp only [lenIs, Bool.and_eq_true] at hl
    simp only [splitS, okLs, Bool.and_eq_true] at ho
    have hk := Nat.eq_of_beq_eq_true hs.1
    have hsz : a.tmps.toList.length = k := by rw [← hk]; simpa using h.1.size
    simp only [List.map_cons, List.flatten_cons] at hv
    have h1 := hv.take k
    have h2 := hv.drop k
    rw [← hsz, List.take_left] at h1
    rw [← hsz, List.drop_left] at h2
    rw [hsz] at h1 h2
    exact ⟨frOf_rel ho.1 h1 h.1.defers, frs_of h.2 hs.2 hl.2 ho.2 h2⟩
end
def nodeT (d nv : Nat) (N : NT) (m : Nat) (frs : List Fr) (p : SP) : Bool := Nat.beq N.m m && sizesOK frs N.sizes && okL (catS frs) && matchT d nv N.T (frOf (catS frs)) p
def anyNode (d nv : Nat) (m : Nat) (frs : List Fr) (p : SP) : List NT → Bool
  | [] => false
  | N :: l => nodeT d nv N m frs p || anyNode d nv m frs p l
def accO (G : Nat → Option Nat) (d nv : Nat) (res : List ARes) (Ns : List NT) (x : Out) : Bool := match x with
  | .at m frs p => anyNode d nv m frs p Ns
  | .fin (.exit _) _ _ => false
  | .fin _ fr p => retOK G res fr p
def SatN (G : Nat → Option Nat) (W : World) (N : NT) (as : List Act) (w : World) : Prop :=
  ∃ V ι, N.T.pc.holds V ∧ FrsRel V ι N.frs as ∧ HRel V ι W.heap.size N.T.hp w ∧ GRel G ι ∧ Kept W w
theorem anyNode_mem {d nv m : Nat} {frs : List Fr} {p : SP} : ∀ {l : List NT}, anyNode d nv m frs p l = true → ∃ N ∈ l, nodeT d nv N m frs p = true
  | [], h => by cases h
  | N :: l, h => by
    simp only [anyNode, Bool.or_eq_true] at h
    rcases h with h | h
    · exact ⟨N, List.mem_cons_self .., h⟩
    · obtain ⟨x, h1, h2⟩ := anyNode_mem h
      exact ⟨x, List.mem_cons_of_mem _ h1, h2⟩
theorem node_sat {G : Nat → Option Nat} {W : World} {d nv m : Nat} (hG : ∀ g id, G g = some id → id < d) {N : NT} (hN : N.ok = true) {frs : List Fr} {p : SP} (hm : nodeT d nv N m frs p = true) {V : Val} (hpc : p.pc.holds V)
    {ι : Nat → Option Loc} {as : List Act} {w : World} (hfr : FrsRel V ι frs as) (hh : HRel V ι W.heap.size p.h w) (hg : GRel G ι) (hk : Kept W w) : N.m = m ∧ SatN G W N as w := by
  unfold nodeT at hm
  simp only [Bool.and_eq_true] at hm
  obtain ⟨⟨⟨h1, h2⟩, h3⟩, h4⟩ := hm
  refine ⟨Nat.eq_of_beq_eq_true h1, ?_⟩
  have hcat : FrRel V ι (frOf (catS frs)) (catAct as) := frOf_rel h3 (by simpa [catAct] using hfr.vrels) rfl
  obtain ⟨V', ι', q1, q2, q3, q4, q5⟩ := match_sat hG h4 hpc hcat hh hg hk
  unfold NT.ok at hN
  simp only [Bool.and_eq_true] at hN
  refine ⟨V', ι', q1, ?_, q3, q4, q5⟩
  have hT : N.T.okT = true := by
    unfold matchT matchF matchOK at h4
    simp only [Bool.and_eq_true] at h4
    exact h4.1.1.1.1.1.1.1.1
  have hv : VRels V' ι' N.T.slots (as.map fun a => a.tmps.toList).flatten := by
    have e := q2.vrels
    have hs : frSlots N.T.fr 0 N.T.fr.n = N.T.slots := by
      apply List.ext_getElem?
      intro j
      by_cases hj : j < N.T.slots.length
      · rw [frSlots_get (by exact hj), Nat.zero_add, Tp.fr_get hT, List.getElem?_eq_getElem hj]
        rfl
      · rw [List.getElem?_eq_none_iff.2 (by rw [frSlots_len]; exact (Nat.le_of_not_lt hj)), List.getElem?_eq_none_iff.2 (Nat.le_of_not_lt hj)]
    rw [hs] at e
    simpa [catAct] using e
  exact frs_of hfr h2 hN.2 hN.1 hv
section
variable {P : Program} {C : Cfg} {fn : Func} {res : List ARes} {W : World}
theorem node_ok (hmix : P.follows .mixedOrders = true) (hF : ∀ f af, C.F f = some af → cFunc P f = some af) (hS : ∀ V B, SOK P V B C) (hL : ∀ V B, LOK P V B C) (hrc : cRes P fn.results.toList = some res) {d nv : Nat} (hG : ∀ g id, C.G g = some id → id < d) {n : Nat} {D : DC} (hv : D.valid C.F) (hu : D.runs P) {N : NT} {Ns : List NT} (hNs : ∀ N' ∈ Ns, N'.ok = true)
    (hok : chkL Out.pc (accO C.G d nv res Ns) (evFrom C n N.m D N.frs N.T.sp) N.T.pc = true) (hT : ∀ N' ∈ Ns, ∀ as w, SatN C.G W N' as w → Rsm P N'.m D (bodyPost P fn (Done W)) as w) : ∀ as w, SatN C.G W N as w → Rsm P N.m D (bodyPost P fn (Done W)) as w := by
  rintro as w ⟨V, ι, hpc, hfr, hh, hg, hk⟩
  obtain ⟨o, x, h1, h2, h3⟩ := chkL_sound hok hpc
  obtain ⟨_, k2⟩ := evFrom_ok hmix hF (hS V _) (hL V _) hv hu h1 h3
  refine k2 ι w as hfr hh hg _ ?_
  cases x with
  | «at» m frs p =>
    intro as' w' ι' q1 q2 q3
    obtain ⟨N', n1, n2⟩ := anyNode_mem (show anyNode d nv m frs p Ns = true from h2)
    obtain ⟨e1, e2⟩ := node_sat hG (hNs N' n1) n2 h3 q1 q2 (hg.mono (q3.mono hh)) (hk.step hh q3)
    rw [← e1]
    exact hT N' n1 as' w' e2
  | fin x fr p =>
    intro a' w' ι' q1 q2 q3
    have hg' := hg.mono (q3.mono hh)
    have hk' := hk.step hh q3
    cases x with
    | normal => exact ret_done (C := C) hrc h2 h3 q1 q2 hg' hk' (.inl rfl)
    | ret => exact ret_done (C := C) hrc h2 h3 q1 q2 hg' hk' (.inr rfl)
    | exit id => cases h2
theorem start_ok (hmix : P.follows .mixedOrders = true) (hF : ∀ f af, C.F f = some af → cFunc P f = some af) (hS : ∀ V B, SOK P V B C) (hL : ∀ V B, LOK P V B C) (hrc : cRes P fn.results.toList = some res) {d nv : Nat} (hG : ∀ g id, C.G g = some id → id < d) {n : Nat} {D : DC} (hv : D.valid C.F) (hu : D.runs P) {T : Tp} {Ns : List NT} (hNs : ∀ N' ∈ Ns, N'.ok = true)
    (hok : chkL Out.pc (accO C.G d nv res Ns) (evDC C n D T.fr T.sp) T.pc = true) (hT : ∀ N' ∈ Ns, ∀ as w, SatN C.G W N' as w → Rsm P N'.m D (bodyPost P fn (Done W)) as w) {c : Code} (hc : cCode P c = some D.erase) : ∀ a w, Sat C.G W T a w → c.wp P (bodyPost P fn (Done W)) a w := by
  rintro a w ⟨V, ι, hpc, hfr, hh, hg, hk⟩
  obtain ⟨o, x, h1, h2, h3⟩ := chkL_sound hok hpc
  obtain ⟨_, k2⟩ := evDC_ok hmix hF (hS V _) (hL V _) hv hu h1 h3
  refine k2 ι w a hfr hh hg _ ?_ c hc
  cases x with
  | «at» m frs p =>
    intro as' w' ι' q1 q2 q3
    obtain ⟨N', n1, n2⟩ := anyNode_mem (show anyNode d nv m frs p Ns = true from h2)
    obtain ⟨e1, e2⟩ := node_sat hG (hNs N' n1) n2 h3 q1 q2 (hg.mono (q3.mono hh)) (hk.step hh q3)
    rw [← e1]
    exact hT N' n1 as' w' e2
  | fin x fr p =>
    intro a' w' ι' q1 q2 q3
    have hg' := hg.mono (q3.mono hh)
    have hk' := hk.step hh q3
    cases x with
    | normal => exact ret_done (C := C) hrc h2 h3 q1 q2 hg' hk' (.inl rfl)
    | ret => exact ret_done (C := C) hrc h2 h3 q1 q2 hg' hk' (.inr rfl)
    | exit id => cases h2
end
/- Nodes that come to themselves again: a number that rises to a bound, and a rank between its rises. -/
structure ML where
  N : NT
  lo : SE
  hi : SE
  rk : Nat
def ML.lt (L : ML) : LT := ⟨L.N.T, L.lo, L.hi⟩
def atN (d nv : Nat) (N : NT) (m : Nat) (frs : List Fr) (p : SP) (f : Fnd) : Bool := Nat.beq N.m m && sizesOK frs N.sizes && okL (catS frs) && matchOK d N.T (frOf (catS frs)) p (listT f nv []) (listR f N.T.objs.length [])
def entF (d nv : Nat) (L : ML) (m : Nat) (frs : List Fr) (p : SP) (f : Fnd) : Bool := atN d nv L.N m frs p f && isF (sbK p.pc (mkCmp .lss (L.lo.sub (listT f nv [])) (.lit 0))) && isF (sbK p.pc (mkCmp .lss (L.hi.sub (listT f nv [])) (L.lo.sub (listT f nv []))))
def entT (d nv : Nat) (L : ML) (m : Nat) (frs : List Fr) (p : SP) : Bool := entF d nv L m frs p (find3 nv d L.N.T (frOf (catS frs)) p)
def nxtF (d nv : Nat) (L L' : ML) (m : Nat) (frs : List Fr) (p : SP) (f : Fnd) : Bool := atN d nv L'.N m frs p f && (L'.hi.sub (listT f nv [])).same L.hi &&
  (((L'.lo.sub (listT f nv [])).same (mkBin .add .i64 L.lo (.lit 1)) && ltOK L.lt p.pc) || ((L'.lo.sub (listT f nv [])).same L.lo && Nat.blt L'.rk L.rk))
def nxtT (d nv : Nat) (L L' : ML) (m : Nat) (frs : List Fr) (p : SP) : Bool := nxtF d nv L L' m frs p (find3 nv d L'.N.T (frOf (catS frs)) p)
def anyNx (d nv : Nat) (L : ML) (m : Nat) (frs : List Fr) (p : SP) : List ML → Bool
  | [] => false
  | L' :: l => nxtT d nv L L' m frs p || anyNx d nv L m frs p l
def anyEn (d nv : Nat) (m : Nat) (frs : List Fr) (p : SP) : List ML → Bool
  | [] => false
  | L :: l => entT d nv L m frs p || anyEn d nv m frs p l
def accR (G : Nat → Option Nat) (d nv : Nat) (res : List ARes) (Ls : List ML) (Ns : List NT) (L : ML) (x : Out) : Bool := match x with
  | .at m frs p => anyNx d nv L m frs p Ls || anyNode d nv m frs p Ns
  | .fin (.exit _) _ _ => false
  | .fin _ fr p => retOK G res fr p
def accE (G : Nat → Option Nat) (d nv : Nat) (res : List ARes) (Ls : List ML) (Ns : List NT) (x : Out) : Bool := match x with
  | .at m frs p => anyEn d nv m frs p Ls || anyNode d nv m frs p Ns
  | .fin (.exit _) _ _ => false
  | .fin _ fr p => retOK G res fr p
theorem anyNx_mem {d nv m : Nat} {L : ML} {frs : List Fr} {p : SP} : ∀ {l : List ML}, anyNx d nv L m frs p l = true → ∃ L' ∈ l, nxtT d nv L L' m frs p = true
  | [], h => by cases h
  | L' :: l, h => by
    simp only [anyNx, Bool.or_eq_true] at h
    rcases h with h | h
    · exact ⟨L', List.mem_cons_self .., h⟩
    · obtain ⟨x, h1, h2⟩ := anyNx_mem h
      exact ⟨x, List.mem_cons_of_mem _ h1, h2⟩
theorem anyEn_mem {d nv m : Nat} {frs : List Fr} {p : SP} : ∀ {l : List ML}, anyEn d nv m frs p l = true → ∃ L ∈ l, entT d nv L m frs p = true
  | [], h => by cases h
  | L' :: l, h => by
    simp only [anyEn, Bool.or_eq_true] at h
    rcases h with h | h
    · exact ⟨L', List.mem_cons_self .., h⟩
    · obtain ⟨x, h1, h2⟩ := anyEn_mem h
      exact ⟨x, List.mem_cons_of_mem _ h1, h2⟩
def SatR (G : Nat → Option Nat) (W : World) (L : ML) (k : Nat) (as : List Act) (w : World) : Prop :=
  ∃ V ι, L.lt.pc.holds V ∧ FrsRel V ι L.N.frs as ∧ HRel V ι W.heap.size L.N.T.hp w ∧ GRel G ι ∧ Kept W w ∧ (L.hi.den V - L.lo.den V).toNat = k
theorem at_sat {G : Nat → Option Nat} {W : World} {d nv m : Nat} (hG : ∀ g id, G g = some id → id < d) {N : NT} (hN : N.ok = true) {frs : List Fr} {p : SP} {f : Fnd} (hm : atN d nv N m frs p f = true) {V : Val} (hpc : p.pc.holds V)
    {ι : Nat → Option Loc} {as : List Act} {w : World} (hfr : FrsRel V ι frs as) (hh : HRel V ι W.heap.size p.h w) (hg : GRel G ι) (hk : Kept W w) :
    N.m = m ∧ ∃ V' ι', N.T.pc.holds V' ∧ FrsRel V' ι' N.frs as ∧ HRel V' ι' W.heap.size N.T.hp w ∧ GRel G ι' ∧ Kept W w ∧ V' = comp V (listT f nv []) := by
  unfold atN at hm
  simp only [Bool.and_eq_true] at hm
  obtain ⟨⟨⟨h1, h2⟩, h3⟩, h4⟩ := hm
  refine ⟨Nat.eq_of_beq_eq_true h1, ?_⟩
  have hcat : FrRel V ι (frOf (catS frs)) (catAct as) := frOf_rel h3 (by simpa [catAct] using hfr.vrels) rfl
  obtain ⟨V', ι', q1, q2, q3, q4, q5, q6⟩ := match_sat' hG h4 hpc hcat hh hg hk
  unfold NT.ok at hN
  simp only [Bool.and_eq_true] at hN
  refine ⟨V', ι', q1, ?_, q3, q4, q5, q6⟩
  have hT : N.T.okT = true := by
    unfold matchOK at h4
    simp only [Bool.and_eq_true] at h4
    exact h4.1.1.1.1.1.1.1.1
  have hv : VRels V' ι' N.T.slots (as.map fun a => a.tmps.toList).flatten := by
    have e := q2.vrels
    have hs : frSlots N.T.fr 0 N.T.fr.n = N.T.slots := by
      apply List.ext_getElem?
      intro j
      by_cases hj : j < N.T.slots.length
      · rw [frSlots_get (by exact hj), Nat.zero_add, Tp.fr_get hT, List.getElem?_eq_getElem hj]
        rfl
      · rw [List.getElem?_eq_none_iff.2 (by rw [frSlots_len]; exact (Nat.le_of_not_lt hj)), List.getElem?_eq_none_iff.2 (Nat.le_of_not_lt hj)]
    rw [hs] at e
    simpa [catAct] using e
  exact frs_of hfr h2 hN.2 hN.1 hv
theorem ent_sat {G : Nat → Option Nat} {W : World} {d nv m : Nat} (hG : ∀ g id, G g = some id → id < d) {L : ML} (hN : L.N.ok = true) {frs : List Fr} {p : SP} (hm : entT d nv L m frs p = true) {V : Val} (hpc : p.pc.holds V)
    {ι : Nat → Option Loc} {as : List Act} {w : World} (hfr : FrsRel V ι frs as) (hh : HRel V ι W.heap.size p.h w) (hg : GRel G ι) (hk : Kept W w) : L.N.m = m ∧ ∃ k, SatR G W L k as w := by
  unfold entT entF at hm
  simp only [Bool.and_eq_true] at hm
  obtain ⟨⟨e1, e2⟩, e3⟩ := hm
  obtain ⟨h1, V', ι', s1, s2, s3, s4, s5, hV⟩ := at_sat hG hN e1 hpc hfr hh hg hk
  have d2 := isF_den hpc e2
  have d3 := isF_den hpc e3
  simp only [SE.sub_den, SE.den, ← hV] at d2 d3
  exact ⟨h1, _, V', ι', LT.pc_mk (L := L.lt) s1 d2 d3, s2, s3, s4, s5, rfl⟩
section
variable {P : Program} {C : Cfg} {fn : Func} {res : List ARes} {W : World}
theorem ring_ok (hmix : P.follows .mixedOrders = true) (hF : ∀ f af, C.F f = some af → cFunc P f = some af) (hS : ∀ V B, SOK P V B C) (hL : ∀ V B, LOK P V B C) (hrc : cRes P fn.results.toList = some res) {d nv : Nat} (hG : ∀ g id, C.G g = some id → id < d) {n : Nat} {D : DC} (hv : D.valid C.F) (hu : D.runs P)
    {nn : Nat} {fam : Nat → ML} {tg : Nat → List Nat} {Ns : Nat → List NT} (hb : ∀ i, i < nn → ∀ j ∈ tg i, j < nn) (hN : ∀ i, i < nn → (fam i).N.ok = true) (hNs : ∀ i, i < nn → ∀ N' ∈ Ns i, N'.ok = true)
    (hok : ∀ i, i < nn → chkL Out.pc (accR C.G d nv res ((tg i).map fam) (Ns i) (fam i)) (evFrom C n (fam i).N.m D (fam i).N.frs (fam i).lt.sp) (fam i).lt.pc = true)
    (hT : ∀ i, i < nn → ∀ N' ∈ Ns i, ∀ as w, SatN C.G W N' as w → Rsm P N'.m D (bodyPost P fn (Done W)) as w) :
    ∀ (k : Nat) (r : Nat) (i : Nat), i < nn → (fam i).rk = r → ∀ as w, SatR C.G W (fam i) k as w → Rsm P (fam i).N.m D (bodyPost P fn (Done W)) as w := by
  intro k
  induction k using Nat.strongRecOn with
  | _ k ihk =>
  intro r
  induction r using Nat.strongRecOn with
  | _ r ihr =>
  intro i hi hr as w hs
  have hs0 := hs
  obtain ⟨V, ι, hpc, hfr, hh, hg, hk, hm⟩ := hs
  obtain ⟨o, x, h1, h2, h3⟩ := chkL_sound (hok i hi) hpc
  obtain ⟨_, k2⟩ := evFrom_ok hmix hF (hS V _) (hL V _) hv hu h1 h3
  refine k2 ι w as hfr hh hg _ ?_
  cases x with
  | «at» m frs p =>
    intro as' w' ι' q1 q2 q3
    have hg' := hg.mono (q3.mono hh)
    have hk' := hk.step hh q3
    have h2 : (anyNx d nv (fam i) m frs p ((tg i).map fam) || anyNode d nv m frs p (Ns i)) = true := h2
    rw [Bool.or_eq_true] at h2
    rcases h2 with h2 | h2
    · obtain ⟨L', l1, l2⟩ := anyNx_mem h2
      obtain ⟨j, hj, rfl⟩ := List.mem_map.1 l1
      have hjn := hb i hi j hj
      unfold nxtT nxtF at l2
      simp only [Bool.and_eq_true, Bool.or_eq_true] at l2
      obtain ⟨⟨e1, e2⟩, e3⟩ := l2
      obtain ⟨em, V', ι'', s1, s2, s3, s4, s5, hV⟩ := at_sat hG (hN j hjn) e1 h3 q1 q2 hg' hk'
      have d1 : (fam j).hi.den V' = (fam i).hi.den V := by rw [hV, ← SE.sub_den, SE.same_eq e2]
      have hlo0 : 0 ≤ (fam i).lo.den V := by
        have := hpc (.cmp .lss (fam i).lo (.lit 0), false) (List.mem_cons_self ..)
        have h3 : ¬ ((fam i).lo.den V < 0) := of_decide_eq_false this
        omega
      have hle : (fam i).lo.den V ≤ (fam i).hi.den V := by
        have := hpc (.cmp .lss (fam i).hi (fam i).lo, false) (List.mem_cons_of_mem _ (List.mem_cons_self ..))
        have h3 : ¬ ((fam i).hi.den V < (fam i).lo.den V) := of_decide_eq_false this
        omega
      rw [← em]
      rcases e3 with ⟨e3, e4⟩ | ⟨e3, e4⟩
      · unfold ltOK at e4
        simp only [Bool.and_eq_true] at e4
        obtain ⟨⟨c1, c2⟩, c3⟩ := e4
        have hlt : (fam i).lo.den V < (fam i).hi.den V := by
          split at c3
          · rename_i b hb
            have := sbK_den h3 hb
            rw [mkCmp_den] at this
            subst c3
            have this : decide ((fam i).lt.lo.den V < (fam i).lt.hi.den V) = true := by simpa [cmpI] using this
            exact of_decide_eq_true this
          · cases c3
        have hhi : (fam i).hi.den V ≤ 4000000000000000000 := leO_den c2 (PC.hi_den h3) (isLo_some (Int.le_refl _))
        have hlo := rngIn_den V c1
        have m1 : IntKind.i64.min = -9223372036854775808 := by decide
        have m2 : IntKind.i64.max = 9223372036854775807 := by decide
        have d2 : (fam j).lo.den V' = (fam i).lo.den V + 1 := by
          rw [hV, ← SE.sub_den, SE.same_eq e3, mkBin_den]
          simp only [binI, SE.den]
          exact wrap_of_in (by rw [m1]; omega) (by rw [m2]; omega)
        exact ihk _ (by rw [← hm]; omega) _ j hjn rfl as' w' ⟨V', ι'', LT.pc_mk (L := (fam j).lt) s1 (show 0 ≤ (fam j).lo.den V' by omega) (show (fam j).lo.den V' ≤ (fam j).hi.den V' by omega), s2, s3, s4, s5, rfl⟩
      · have d2 : (fam j).lo.den V' = (fam i).lo.den V := by rw [hV, ← SE.sub_den, SE.same_eq e3]
        exact ihr _ (by rw [← hr]; exact lt_of_blt e4) j hjn rfl as' w' ⟨V', ι'', LT.pc_mk (L := (fam j).lt) s1 (show 0 ≤ (fam j).lo.den V' by omega) (show (fam j).lo.den V' ≤ (fam j).hi.den V' by omega), s2, s3, s4, s5, by rw [d1, d2]; exact hm⟩
    · obtain ⟨N', n1, n2⟩ := anyNode_mem h2
      obtain ⟨e1, e2⟩ := node_sat hG (hNs i hi N' n1) n2 h3 q1 q2 hg' hk'
      rw [← e1]
      exact hT i hi N' n1 as' w' e2
  | fin x fr p =>
    intro a' w' ι' q1 q2 q3
    have hg' := hg.mono (q3.mono hh)
    have hk' := hk.step hh q3
    cases x with
    | normal => exact ret_done (C := C) hrc h2 h3 q1 q2 hg' hk' (.inl rfl)
    | ret => exact ret_done (C := C) hrc h2 h3 q1 q2 hg' hk' (.inr rfl)
    | exit id => cases h2
theorem nodeE_ok (hmix : P.follows .mixedOrders = true) (hF : ∀ f af, C.F f = some af → cFunc P f = some af) (hS : ∀ V B, SOK P V B C) (hL : ∀ V B, LOK P V B C) (hrc : cRes P fn.results.toList = some res) {d nv : Nat} (hG : ∀ g id, C.G g = some id → id < d) {n : Nat} {D : DC} (hv : D.valid C.F) (hu : D.runs P) {N : NT} {Ls : List ML} {Ns : List NT} (hLs : ∀ L ∈ Ls, L.N.ok = true) (hNs : ∀ N' ∈ Ns, N'.ok = true)
    (hok : chkL Out.pc (accE C.G d nv res Ls Ns) (evFrom C n N.m D N.frs N.T.sp) N.T.pc = true) (hR : ∀ L ∈ Ls, ∀ k as w, SatR C.G W L k as w → Rsm P L.N.m D (bodyPost P fn (Done W)) as w)
    (hT : ∀ N' ∈ Ns, ∀ as w, SatN C.G W N' as w → Rsm P N'.m D (bodyPost P fn (Done W)) as w) : ∀ as w, SatN C.G W N as w → Rsm P N.m D (bodyPost P fn (Done W)) as w := by
  rintro as w ⟨V, ι, hpc, hfr, hh, hg, hk⟩
  obtain ⟨o, x, h1, h2, h3⟩ := chkL_sound hok hpc
  obtain ⟨_, k2⟩ := evFrom_ok hmix hF (hS V _) (hL V _) hv hu h1 h3
  refine k2 ι w as hfr hh hg _ ?_
  cases x with
  | «at» m frs p =>
    intro as' w' ι' q1 q2 q3
    have hg' := hg.mono (q3.mono hh)
    have hk' := hk.step hh q3
    have h2 : (anyEn d nv m frs p Ls || anyNode d nv m frs p Ns) = true := h2
    rw [Bool.or_eq_true] at h2
    rcases h2 with h2 | h2
    · obtain ⟨L', l1, l2⟩ := anyEn_mem h2
      obtain ⟨e1, k, e2⟩ := ent_sat hG (hLs L' l1) l2 h3 q1 q2 hg' hk'
      rw [← e1]
      exact hR L' l1 k as' w' e2
    · obtain ⟨N', n1, n2⟩ := anyNode_mem h2
      obtain ⟨e1, e2⟩ := node_sat hG (hNs N' n1) n2 h3 q1 q2 hg' hk'
      rw [← e1]
      exact hT N' n1 as' w' e2
  | fin x fr p =>
    intro a' w' ι' q1 q2 q3
    have hg' := hg.mono (q3.mono hh)
    have hk' := hk.step hh q3
    cases x with
    | normal => exact ret_done (C := C) hrc h2 h3 q1 q2 hg' hk' (.inl rfl)
    | ret => exact ret_done (C := C) hrc h2 h3 q1 q2 hg' hk' (.inr rfl)
    | exit id => cases h2
theorem startE_ok (hmix : P.follows .mixedOrders = true) (hF : ∀ f af, C.F f = some af → cFunc P f = some af) (hS : ∀ V B, SOK P V B C) (hL : ∀ V B, LOK P V B C) (hrc : cRes P fn.results.toList = some res) {d nv : Nat} (hG : ∀ g id, C.G g = some id → id < d) {n : Nat} {D : DC} (hv : D.valid C.F) (hu : D.runs P) {T : Tp} {Ls : List ML} {Ns : List NT} (hLs : ∀ L ∈ Ls, L.N.ok = true) (hNs : ∀ N' ∈ Ns, N'.ok = true)
    (hok : chkL Out.pc (accE C.G d nv res Ls Ns) (evDC C n D T.fr T.sp) T.pc = true) (hR : ∀ L ∈ Ls, ∀ k as w, SatR C.G W L k as w → Rsm P L.N.m D (bodyPost P fn (Done W)) as w)
    (hT : ∀ N' ∈ Ns, ∀ as w, SatN C.G W N' as w → Rsm P N'.m D (bodyPost P fn (Done W)) as w) {c : Code} (hc : cCode P c = some D.erase) : ∀ a w, Sat C.G W T a w → c.wp P (bodyPost P fn (Done W)) a w := by
  rintro a w ⟨V, ι, hpc, hfr, hh, hg, hk⟩
  obtain ⟨o, x, h1, h2, h3⟩ := chkL_sound hok hpc
  obtain ⟨_, k2⟩ := evDC_ok hmix hF (hS V _) (hL V _) hv hu h1 h3
  refine k2 ι w a hfr hh hg _ ?_ c hc
  cases x with
  | «at» m frs p =>
    intro as' w' ι' q1 q2 q3
    have hg' := hg.mono (q3.mono hh)
    have hk' := hk.step hh q3
    have h2 : (anyEn d nv m frs p Ls || anyNode d nv m frs p Ns) = true := h2
    rw [Bool.or_eq_true] at h2
    rcases h2 with h2 | h2
    · obtain ⟨L', l1, l2⟩ := anyEn_mem h2
      obtain ⟨e1, k, e2⟩ := ent_sat hG (hLs L' l1) l2 h3 q1 q2 hg' hk'
      rw [← e1]
      exact hR L' l1 k as' w' e2
    · obtain ⟨N', n1, n2⟩ := anyNode_mem h2
      obtain ⟨e1, e2⟩ := node_sat hG (hNs N' n1) n2 h3 q1 q2 hg' hk'
      rw [← e1]
      exact hT N' n1 as' w' e2
  | fin x fr p =>
    intro a' w' ι' q1 q2 q3
    have hg' := hg.mono (q3.mono hh)
    have hk' := hk.step hh q3
    cases x with
    | normal => exact ret_done (C := C) hrc h2 h3 q1 q2 hg' hk' (.inl rfl)
    | ret => exact ret_done (C := C) hrc h2 h3 q1 q2 hg' hk' (.inr rfl)
    | exit id => cases h2
end
end Go.Sx
