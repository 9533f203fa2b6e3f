/- The symbolic machine is sound: the program's calls do as it says. No condition: lemmas of the machine. -/
import Derived.Test.YtlgfmmccnilkmaaGreatDoorSyRun
namespace Go.Sx
set_option linter.unusedVariables false
set_option linter.unusedSimpArgs false

section
variable {P : Program} {V : Val} {ι : Nat → Option Loc} {B : Nat} {σ σ' : Hp} {w : World} {C : Cfg}

theorem gives_K {o : Oper} {a : Act} {v : SV} {K : Act → World → Prop} {Q : Exit → Act → World → Prop} (h : Does P V B ι σ w a.eval o v σ') (hK : ∀ c w' ι', VRel V ι' v c → HRel V ι' B σ' w' → Ext ι σ w ι' σ' w' → K (a.put o.dst c) w') : o.wp P a w K Q := by
  obtain ⟨c, w', ι', h1, h2, h3, h4⟩ := h
  unfold Oper.wp
  rcases h1 with h1 | ⟨h1, rfl⟩
  · rw [h1]; exact hK c w' ι' h2 h3 h4
  · rw [h1]; exact hK undef w' ι' h2 h3 h4

theorem evOp_M {callF : Nat → List SV → St → Option (SV × St)} {rd : X → Option SV} {s s' : St} {q : AOp} {v : SV} (hq : ∀ p, q ≠ .p p) (hq1 : ∀ c a b, q ≠ .pick c a b) (hq3 : ∀ f as, q ≠ .call f as)
    (he : evOp callF rd s q = some (v, s')) : ∃ h', evM rd s.h q = some (v, h') ∧ s' = ⟨h', s.orc, s.pc⟩ := by
  unfold evOp at he
  split at he
  · exact absurd rfl (hq _)
  · exact absurd rfl (hq1 _ _ _)
  · exact absurd rfl (hq3 _ _)
  · split at he
    case h_2 => cases he
    rename_i v' h' hm
    simp only [Option.some.injEq, Prod.mk.injEq] at he
    obtain ⟨rfl, rfl⟩ := he
    exact ⟨h', hm, rfl⟩

theorem evOp_sound {callF : Nat → List SV → St → Option (SV × St)} (hcall : CallOK P V B C callF) {o : Oper} {q : AOp} (hq : cOp P o = some q) {rd : X → Option SV} {s s' : St} {v : SV} (he : evOp callF rd s q = some (v, s')) (hpc : s'.pc.holds V) :
    s.pc.holds V ∧ ∀ ι w a, RdRel V ι rd a.eval → HRel V ι B s.h w → GRel C.G ι → ∀ (K : Act → World → Prop) (Q : Exit → Act → World → Prop),
      (∀ c w' ι', VRel V ι' v c → HRel V ι' B s'.h w' → Ext ι s.h w ι' s'.h w' → K (a.put o.dst c) w') → o.wp P a w K Q := by
  by_cases k1 : ∃ p, q = .p p
  · obtain ⟨p, rfl⟩ := k1
    simp only [evOp] at he
    split at he
    case h_2 => cases he
    rename_i s1 hf
    split at he
    case h_2 => cases he
    rename_i v' hv
    simp only [Option.some.injEq, Prod.mk.injEq] at he
    obtain ⟨rfl, rfl⟩ := he
    obtain ⟨f1, f2⟩ := forkP_sound (V := V) hf
    refine ⟨f2 hpc, fun ι w a hrd hh hg K Q hK => ?_⟩
    rw [f1] at hK
    exact gives_K ((gives_p hq hrd hpc hv).does hh) hK
  by_cases k2 : ∃ c a b, q = .pick c a b
  · obtain ⟨c, x, y, rfl⟩ := k2
    simp only [evOp] at he
    split at he
    case h_2 => cases he
    rename_i e h1
    split at he
    case h_2 => cases he
    rename_i t s1 h2
    split at he
    case h_2 => cases he
    rename_i v' h3
    simp only [Option.some.injEq, Prod.mk.injEq] at he
    obtain ⟨rfl, rfl⟩ := he
    obtain ⟨d1, d2⟩ := dec_sound (V := V) h2
    obtain ⟨d3, d4⟩ := d2 hpc
    refine ⟨d3, fun ι w a hrd hh hg K Q hK => ?_⟩
    obtain ⟨dst, op, type, pos, after, guard⟩ := o
    cases op <;> simp only [cOp] at hq
    case pick c' x' y' =>
      split at hq <;> simp at hq
      obtain ⟨rfl, rfl, rfl⟩ := hq
      rename_i hc hx hy
      have hcv := hrd c' _ _ hc h1
      simp only [VRel, d4] at hcv
      refine gives_K (σ' := s1.h) (v := v') ⟨if t then a.eval x' else a.eval y', w, ι, .inl ?_, ?_, by rw [d1]; exact hh, by rw [d1]; exact Ext.refl _ _ _⟩ hK
      · simp [execOp, hcv, asBool]
      · cases t
        · exact hrd y' _ _ hy h3
        · exact hrd x' _ _ hx h3
    case makeFunc fn _ _ => cases fn <;> simp only [] at hq <;> (repeat' split at hq) <;> simp at hq
    case slice mx => cases mx <;> simp only [] at hq <;> (repeat' split at hq) <;> simp at hq
    case call cc =>
      obtain ⟨callee, args, tys⟩ := cc
      cases callee <;> simp only [] at hq
      case value f => (repeat' split at hq) <;> simp at hq
      case invoke => cases hq
      case builtin b => unfold cBuiltin at hq; simp only [Bool.cond_eq_ite] at hq; (repeat' split at hq) <;> simp at hq
    case lookup => exfalso; obtain ⟨_, _, _, _, _, _, _, _, _, _, _, h⟩ := cLook_spec hq; cases h
    case mapUpdate => exfalso; obtain ⟨_, _, _, _, _, _, _, _, _, _, _, h⟩ := cPut_spec hq; cases h
    case makeMap t r => exfalso; cases r <;> simp at hq
    all_goals (exfalso; (try simp only [Bool.cond_eq_ite] at hq); (repeat' split at hq) <;> simp at hq)
  by_cases k4 : ∃ f as, q = .call f as
  · obtain ⟨f, as, rfl⟩ := k4
    simp only [evOp] at he
    split at he
    case h_2 => cases he
    rename_i g first caps vs h1 h2
    obtain ⟨d1, d2⟩ := hcall _ _ _ _ _ he hpc
    refine ⟨d1, fun ι w a hrd hh hg K Q hK => ?_⟩
    obtain ⟨dst, op, type, pos, after, guard⟩ := o
    cases op <;> simp only [cOp] at hq
    case call cc =>
      obtain ⟨callee, args, tys⟩ := cc
      cases callee <;> simp only [] at hq
      case value f' =>
        split at hq <;> simp at hq
        obtain ⟨rfl, rfl⟩ := hq
        rename_i hf hargs
        obtain ⟨ff, gg, hfv, hff, hgg⟩ := hrd f' _ _ hf h1
        have hav := readAll_rel hrd hargs h2
        obtain ⟨e1, e2⟩ := d2 ι w (ff.toList ++ args.toList.map a.eval ++ gg.toList) ((hff.append hav).append hgg) hh hg
        have harr : (ff ++ args.map a.eval ++ gg) = (ff.toList ++ args.toList.map a.eval ++ gg.toList).toArray := by
          apply Array.ext'; simp
        unfold Oper.wp
        have hrun : (execOp a.eval ⟨dst, .call ⟨.value f', args, tys⟩, type, pos, after, guard⟩).run P w = .ok (.enter g (ff.toList ++ args.toList.map a.eval ++ gg.toList).toArray) w := by
          simp only [execOp, resolve, Sem.run_bind, hfv, Deferred.ofValue, Sem.run_pure, Result.andThen_ok, invoke, harr, e1]
        rw [hrun, Oper.upon_enter]
        refine e2.mono fun e w' he' => ?_
        obtain ⟨c, ι', rfl, q1, q2, q3⟩ := he'
        exact hK c w' ι' q1 q2 q3
      case invoke => cases hq
      case builtin b => exfalso; unfold cBuiltin at hq; simp only [Bool.cond_eq_ite] at hq; (repeat' split at hq) <;> simp at hq
    case makeFunc fn _ _ => cases fn <;> simp only [] at hq <;> (repeat' split at hq) <;> simp at hq
    case slice mx => cases mx <;> simp only [] at hq <;> (repeat' split at hq) <;> simp at hq
    case lookup => exfalso; obtain ⟨_, _, _, _, _, _, _, _, _, _, _, h⟩ := cLook_spec hq; cases h
    case mapUpdate => exfalso; obtain ⟨_, _, _, _, _, _, _, _, _, _, _, h⟩ := cPut_spec hq; cases h
    case makeMap t r => exfalso; cases r <;> simp at hq
    all_goals (exfalso; (try simp only [Bool.cond_eq_ite] at hq); (repeat' split at hq) <;> simp at hq)
  · obtain ⟨h', hm, rfl⟩ := evOp_M (fun p e => k1 ⟨p, e⟩) (fun c a b e => k2 ⟨c, a, b, e⟩) (fun f as e => k4 ⟨f, as, e⟩) he
    exact ⟨hpc, fun ι w a hrd hh hg K Q hK => gives_K (does_M hq hrd hh hm) hK⟩

theorem guardOf_spec {ops : Array Oper} {g : Option (Nat × Bool)} {g' : Option (Nat × Bool)} (h : guardOf ops g = some g') : (g = none ∧ g' = none) ∨ ∃ j want t, g = some (j, want) ∧ g' = some (t, want) ∧ (ops[j]?).bind (·.dst) = some t := by
  unfold guardOf at h
  split at h
  · simp at h; exact .inl ⟨rfl, h.symm⟩
  · rename_i j want
    split at h <;> simp at h
    rename_i t ht
    exact .inr ⟨j, want, t, rfl, h.symm, ht⟩

theorem evGuard_sound {ops : Array Oper} {o : Oper} {g : Option (Nat × Bool)} (hg : guardOf ops o.guard = some g) {fr : Fr} {s s' : St} {b : Bool} (he : evGuard C fr s g = some (b, s')) (hpc : s'.pc.holds V) :
    s.pc.holds V ∧ s'.h = s.h ∧ ∀ ι a, FrRel V ι fr a → GRel C.G ι → Region.wanted o (yielded ops a.tmps) = b := by
  rcases guardOf_spec hg with ⟨h1, rfl⟩ | ⟨j, want, t, h1, rfl, h2⟩
  · simp only [evGuard, Option.some.injEq, Prod.mk.injEq] at he
    obtain ⟨rfl, rfl⟩ := he
    exact ⟨hpc, rfl, fun ι a _ _ => by simp [Region.wanted, h1]⟩
  · simp only [evGuard] at he
    have hw : ∀ a : Act, Region.wanted o (yielded ops a.tmps) = ((match a.tmps[t]? with | some (.bool b) => some b | _ => none) == some want) := by
      intro a
      simp only [Region.wanted, h1, yielded, h2, Option.bind_some]
      rfl
    split at he
    · rename_i e hr
      split at he
      case h_2 => cases he
      rename_i c s1 hd
      simp only [Option.some.injEq, Prod.mk.injEq] at he
      obtain ⟨rfl, rfl⟩ := he
      obtain ⟨d1, d2⟩ := dec_sound (V := V) hd
      obtain ⟨d3, d4⟩ := d2 hpc
      refine ⟨d3, d1, fun ι a hfr hg => ?_⟩
      have := (hfr.rd hg) (.tmp t) _ _ rfl hr
      simp only [VRel, d4, Act.eval] at this
      have ht : a.tmps[t]? = some (.bool c) := by
        cases h3 : a.tmps[t]? with
        | none => simp [h3, undef] at this
        | some v => simpa [h3] using this
      rw [hw, ht]
      cases c <;> cases want <;> rfl
    · rename_i v' hne hr
      simp only [Option.some.injEq, Prod.mk.injEq] at he
      obtain ⟨rfl, rfl⟩ := he
      refine ⟨hpc, rfl, fun ι a hfr hg => ?_⟩
      rw [hw]
      have hv := hfr.val t
      simp only [rdX] at hr
      have hnb : ∀ b, a.tmps[t]? ≠ some (.bool b) := by
        intro b hb
        simp [hb] at hv
        cases hgt : fr.t.get t with
        | none =>
          simp [hgt, sundef] at hv
          obtain ⟨l, hl, _⟩ := hv
          cases hl
        | some v =>
          simp only [hgt] at hr
          cases hl : v.isLost <;> simp only [hl, cond_true, cond_false] at hr
          case true => cases hr
          cases hr
          simp [hgt] at hv
          cases v' <;> simp only [VRel] at hv <;> first
            | (cases hv; done)
            | (obtain ⟨_, _, hv⟩ := hv; cases hv; done)
            | (obtain ⟨_, hv, _⟩ := hv; cases hv; done)
            | (obtain ⟨_, _, _, _, hv, _⟩ := hv; cases hv; done)
            | (obtain ⟨_, _, hv, _⟩ := hv; cases hv; done)
            | (obtain ⟨_, _, _, _, _, hv | ⟨_, hv⟩⟩ := hv <;> cases hv; done)
            | (obtain ⟨_, _, _, _, hv⟩ := hv; cases hv; done)
            | (cases hl; done)
            | exact hne _ rfl
      cases h3 : a.tmps[t]? with
      | none => rfl
      | some v => cases v <;> first | rfl | exact absurd h3 (hnb _)
    · cases he

theorem evOps_eq (callF : Nat → List SV → St → Option (SV × St)) (o : AOper) (os : List AOper) (fr : Fr) (s : St) : evOps C callF (o :: os) fr s =
    match evGuard C fr s o.guard with
    | none => none
    | some (true, s) => match evOp callF (rdX C.G fr) s o.op with
      | some (v, s') => match fr.put o.dst v with
        | some fr' => evOps C callF os fr' s'
        | none => none
      | none => none
    | some (false, s) => match fr.put o.dst sundef with
      | some fr' => evOps C callF os fr' s
      | none => none := rfl

theorem evOps_sound {callF : Nat → List SV → St → Option (SV × St)} (hcall : CallOK P V B C callF) {ops : Array Oper} : ∀ {os : List Oper} {as : List AOper} {fr fr' : Fr} {s s' : St}, cOps P ops os = some as → evOps C callF as fr s = some (fr', s') → s'.pc.holds V →
    s.pc.holds V ∧ ∀ ι w a, FrRel V ι fr a → HRel V ι B s.h w → GRel C.G ι → ∀ (Q : Exit → Act → World → Prop),
      (∀ a' w' ι', FrRel V ι' fr' a' → HRel V ι' B s'.h w' → Ext ι s.h w ι' s'.h w' → Q .normal a' w') → wpList P ops Q os a w
  | [], as, fr, fr', s, s', hc, he, hpc => by
    simp [cOps] at hc; subst hc
    simp only [evOps, Option.some.injEq, Prod.mk.injEq] at he
    obtain ⟨rfl, rfl⟩ := he
    exact ⟨hpc, fun ι w a h1 h2 h3 Q hQ => hQ a w ι h1 h2 (Ext.refl _ _ _)⟩
  | o :: os, as, fr, fr', s, s', hc, he, hpc => by
    unfold cOps at hc
    cases hgd : guardOf ops o.guard with
    | none => simp [hgd, cons?] at hc
    | some g =>
      cases hos : cOps P ops os with
      | none => simp [hgd, hos, cons?] at hc
      | some as' =>
        simp [hgd, hos, cons?] at hc
        subst hc
        rw [evOps_eq] at he
        simp only at he
        split at he
        · cases he
        · rename_i s1 hg1
          split at he
          case h_2 => cases he
          rename_i v s2 hop
          split at he
          case h_2 => cases he
          rename_i fr1 hput
          obtain ⟨i1, i2⟩ := evOps_sound hcall hos he hpc
          have hcop : ∃ q, cOp P o = some q ∧ evOp callF (rdX C.G fr) s1 q = some (v, s2) := by
            cases hq : cOp P o with
            | none => rw [hq] at hop; simp [evOp, evM] at hop
            | some q => rw [hq] at hop; exact ⟨q, rfl, hop⟩
          obtain ⟨q, hq, hop⟩ := hcop
          obtain ⟨j1, j2⟩ := evOp_sound hcall hq hop i1
          obtain ⟨g1, g2, g3⟩ := evGuard_sound hgd hg1 j1
          refine ⟨g1, fun ι w a hfr hh hg Q hQ => ?_⟩
          unfold wpList
          rw [if_pos (g3 ι a hfr hg)]
          refine .inl (j2 ι w a (hfr.rd hg) (by rw [g2]; exact hh) hg _ _ ?_)
          intro c w' ι' r1 r2 r3
          have hm : ∀ id l, ι id = some l → ι' id = some l := r3.mono (by rw [g2]; exact hh)
          refine i2 ι' w' _ ((hfr.mono hm).put r1 hput) r2 (hg.mono hm) Q ?_
          intro a' w'' ι'' q1 q2 q3
          rw [g2] at r3
          exact hQ a' w'' ι'' q1 q2 (r3.trans q3)
        · rename_i s1 hg1
          split at he
          case h_2 => cases he
          rename_i fr1 hput
          obtain ⟨i1, i2⟩ := evOps_sound hcall hos he hpc
          obtain ⟨g1, g2, g3⟩ := evGuard_sound hgd hg1 i1
          refine ⟨g1, fun ι w a hfr hh hg Q hQ => ?_⟩
          unfold wpList
          rw [if_neg (by rw [g3 ι a hfr hg]; simp)]
          refine i2 ι w _ (hfr.put VRel.undef hput) (by rw [g2]; exact hh) hg Q ?_
          intro a' w'' ι'' q1 q2 q3
          rw [g2] at q3
          exact hQ a' w'' ι'' q1 q2 q3

end
end Go.Sx
