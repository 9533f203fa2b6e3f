/- The symbolic machine is sound: code and calls. No condition: lemmas of the machine. -/
import Derived.Test.YtlgfmmccnilkmaaGreatDoorSyDraw
namespace Go.Sx
set_option linter.unusedVariables false
set_option linter.unusedSimpArgs false

section
variable {P : Program} {V : Val} {ι : Nat → Option Loc} {B : Nat} {σ σ' : Hp} {w : World} {C : Cfg}

def Ex.ex : Ex → Exit
  | .normal => .normal
  | .exit id => .exit id
  | .ret => .ret
def CodeOK (P : Program) (V : Val) (B : Nat) (C : Cfg) (n : Nat) : Prop :=
  ∀ c ac fr s x fr' s', cCode P c = some ac → evCode C n ac fr s = some (x, fr', s') → s'.pc.holds V → s.pc.holds V ∧
    ∀ ι w a, FrRel V ι fr a → HRel V ι B s.h w → GRel C.G ι → ∀ (Q : Exit → Act → World → Prop),
      (∀ a' w' ι', FrRel V ι' fr' a' → HRel V ι' B s'.h w' → Ext ι s.h w ι' s'.h w' → Q x.ex a' w') → c.wp P Q a w

def loopWp (P : Program) (c : Code) (Q : Exit → Act → World → Prop) (a : Act) (w : World) : Prop := ∀ b k cs, ∃ e a' w', Q e a' w' ∧ Arrives P (lone (b.at a (.code c :: .inLoop c :: k)) cs w) b k cs e a' w'
theorem loopWp_wp {P : Program} {c : Code} {Q : Exit → Act → World → Prop} {a : Act} {w : World} (h : loopWp P c Q a w) : (Code.loop c).wp P Q a w := by
  intro b k cs
  obtain ⟨e, a', w', hq, harr⟩ := h b k cs
  exact ⟨e, a', w', hq, .of_steps (.one step_loop) harr⟩
theorem loopWp_round {P : Program} {c : Code} {Q : Exit → Act → World → Prop} {a : Act} {w : World} (h : c.wp P (Exit.then (loopWp P c Q) Q) a w) : loopWp P c Q a w := by
  intro b k cs
  obtain ⟨e, a₁, w₁, hq, harr⟩ := h b (.inLoop c :: k) cs
  cases e with
  | normal =>
    obtain ⟨e₂, a₂, w₂, hq₂, harr₂⟩ := (show loopWp P c Q a₁ w₁ from hq) b k cs
    exact ⟨e₂, a₂, w₂, hq₂, .of_steps (Steps.trans harr (.one step_inLoop)) harr₂⟩
  | exit id => exact ⟨_, a₁, w₁, hq, .pass (x := .inLoop c) rfl (fun _ _ => .inl (by simp)) harr⟩
  | goto l => exact ⟨_, a₁, w₁, hq, .pass (x := .inLoop c) rfl (fun _ _ => .inl (by simp)) harr⟩
  | ret => exact ⟨_, a₁, w₁, hq, .pass (x := .inLoop c) rfl (fun _ _ => .inl (by simp)) harr⟩
  | panic ch => exact ⟨_, a₁, w₁, hq, .pass (x := .inLoop c) rfl (fun _ _ => .inl (by simp)) harr⟩
  | outgrown => exact ⟨_, a₁, w₁, hq, .pass (x := .inLoop c) rfl (fun _ _ => .inl (by simp)) harr⟩
def SOK (P : Program) (V : Val) (B : Nat) (C : Cfg) : Prop :=
  ∀ f args p m, C.S f args p = some m → ∀ o v p' o', runO m o = some ((v, p'), o') → p'.pc.holds V → p.pc.holds V ∧
    ∀ ι w cargs, VRels V ι args cargs → HRel V ι B p.h w → GRel C.G ι →
      (∀ w, (callFunc f cargs.toArray).run P w = .ok (.enter f cargs.toArray) w) ∧
      Calls P f cargs.toArray w fun e w' => ∃ c ι', e = .returned c ∧ VRel V ι' v c ∧ HRel V ι' B p'.h w' ∧ Ext ι p.h w ι' p'.h w'
def LOK (P : Program) (V : Val) (B : Nat) (C : Cfg) : Prop :=
  ∀ c ac fr p m, cCode P c = some ac → C.L ac fr p = some m → ∀ o x fr' p' o', runO m o = some ((x, fr', p'), o') → p'.pc.holds V → p.pc.holds V ∧
    ∀ ι w a, FrRel V ι fr a → HRel V ι B p.h w → GRel C.G ι → ∀ (Q : Exit → Act → World → Prop),
      (∀ a' w' ι', FrRel V ι' fr' a' → HRel V ι' B p'.h w' → Ext ι p.h w ι' p'.h w' → Q x.ex a' w') → loopWp P c Q a w
theorem SOK_none {C : Cfg} (h : ∀ f args p, C.S f args p = none) : SOK P V B C := fun f args p m hm => by rw [h] at hm; cases hm
theorem LOK_none {C : Cfg} (h : ∀ c fr p, C.L c fr p = none) : LOK P V B C := fun c ac fr p m _ hm => by rw [h] at hm; cases hm

theorem enterT_get : ∀ {vs : List SV} {i : Nat} {t t' : Tr SV}, enterT vs i t = some t' → ∀ j, t'.get j = if i ≤ j ∧ j < i + vs.length then vs[j - i]? else t.get j
  | [], i, t, t', h, j => by
    simp [enterT] at h; subst h
    rw [if_neg (by simp)]
  | v :: vs, i, t, t', h, j => by
    simp only [enterT] at h
    split at h
    case h_2 => cases h
    rename_i t1 h1
    have ih := enterT_get h j
    rw [ih, Tr.get_set 48 _ _ _ _ h1 j]
    by_cases hj : j = i
    · subst hj
      rw [if_neg (by omega), if_pos rfl, if_pos (by simp)]
      simp
    · rw [if_neg hj]
      by_cases hlt : i + 1 ≤ j ∧ j < i + 1 + vs.length
      · rw [if_pos hlt, if_pos (by simp; omega)]
        have : j - i = (j - (i + 1)) + 1 := by omega
        rw [this, List.getElem?_cons_succ]
      · rw [if_neg hlt, if_neg (by simp; omega)]
def resOne (tmps : Array Value) : ResultVar → Sem Value
  | .tmp t => pure (tmps.getD t undef)
  | .cell p t => do loadVar t (← asAddr (tmps.getD p undef))
theorem results_eq (fn : Func) (tmps : Array Value) : results fn tmps = (fn.results.mapM (resOne tmps) >>= fun vs => pure (if h : vs.size = 1 then vs[0] else .tuple vs)) := by
  unfold results
  congr 1
theorem evRes_sound {fr : Fr} {a : Act} (hfr : FrRel V ι fr a) (hg : GRel C.G ι) (hh : HRel V ι B σ w) : ∀ {rs : List ResultVar} {as : List ARes} {vs : List SV}, cRes P rs = some as → evRess C.G fr σ as = some vs →
    ∃ us, (rs.mapM (resOne a.tmps)).run P w = .ok us w ∧ VRels V ι vs us
  | [], as, vs, hc, he => by
    simp [cRes] at hc; subst hc
    simp [evRess] at he; subst he
    exact ⟨[], by simp, .nil⟩
  | .tmp t :: rs, as, vs, hc, he => by
    unfold cRes at hc
    cases h1 : cRes P rs with
    | none => simp [h1, cons?] at hc
    | some as' =>
      simp [h1, cons?] at hc; subst hc
      unfold evRess at he
      cases h2 : evRes C.G fr σ (.t t) with
      | none => simp [h2, cons?] at he
      | some v =>
        cases h3 : evRess C.G fr σ as' with
        | none => simp [h2, h3, cons?] at he
        | some vs' =>
          simp [h2, h3, cons?] at he; subst he
          obtain ⟨us, u1, u2⟩ := evRes_sound hfr hg hh h1 h3
          have hv := (hfr.rd hg) (.tmp t) _ _ rfl h2
          refine ⟨_ :: us, ?_, .cons hv u2⟩
          have hhd : (resOne a.tmps (.tmp t)).run P w = .ok (a.tmps.getD t undef) w := rfl
          simp only [List.mapM_cons, Sem.run_bind, hhd, Sem.run_pure, Result.andThen_ok, u1, Act.eval]
  | .cell p t :: rs, as, vs, hc, he => by
    unfold cRes at hc
    split at hc
    case h_2 => cases h1 : cRes P rs <;> simp [cons?, h1] at hc
    rename_i ag n hag hn
    cases hb : (ag || Nat.beq n 1) <;> simp only [hb, cond_true, cond_false] at hc
    · simp [cons?] at hc
    cases h1 : cRes P rs with
    | none => simp [h1, cons?] at hc
    | some as' =>
      simp [h1, cons?] at hc; subst hc
      unfold evRess at he
      cases h2 : evRes C.G fr σ (.cell p ag n) with
      | none => simp [h2, cons?] at he
      | some v =>
        cases h3 : evRess C.G fr σ as' with
        | none => simp [h2, h3, cons?] at he
        | some vs' =>
          simp [h2, h3, cons?] at he; subst he
          obtain ⟨us, u1, u2⟩ := evRes_sound hfr hg hh h1 h3
          simp only [evRes] at h2
          split at h2
          case h_2 => cases h2
          rename_i id o hr
          split at h2
          case h_2 => cases h2
          rename_i ws hws
          obtain ⟨l, q2, q3⟩ := (hfr.rd hg) (.tmp p) _ _ rfl hr
          simp only [Act.eval] at q3
          obtain ⟨xs, x1, x2, x3, x4, x5⟩ := ldc_sound hh hws q2
          cases ag <;> simp only [cond_true, cond_false] at h2
          · split at h2
            case h_2 => cases h2
            cases h2
            obtain ⟨c, cs, rfl, h4, h5⟩ := x1
            have hcell := x3 0 c rfl
            rw [addr_add, Nat.add_zero] at hcell
            refine ⟨c :: us, ?_, .cons h4 u2⟩
            have hhd : (resOne a.tmps (.cell p t)).run P w = .ok c w := by
              simp only [resOne, Sem.run_bind, q3, asAddr, Sem.run_pure, Result.andThen_ok, loadVar, aggOf_run hag, run_load, hcell, Bool.false_eq_true, if_false]
            simp only [List.mapM_cons, Sem.run_bind, hhd, Sem.run_pure, Result.andThen_ok, u1]
          · cases h2
            refine ⟨.agg xs.toArray :: us, ?_, .cons ⟨_, rfl, x1⟩ u2⟩
            have hhd : (resOne a.tmps (.cell p t)).run P w = .ok (.agg xs.toArray) w := by
              simp only [resOne, Sem.run_bind, q3, asAddr, Sem.run_pure, Result.andThen_ok, loadVar, aggOf_run hag, run_sizeOf hn, run_load_cells x2 x3, if_true]
            simp only [List.mapM_cons, Sem.run_bind, hhd, Sem.run_pure, Result.andThen_ok, u1]
theorem packRes_rel {vs : List SV} {us : List Value} (h : VRels V ι vs us) : VRel V ι (packRes vs) (if h : us.toArray.size = 1 then us.toArray[0] else .tuple us.toArray) := by
  cases vs with
  | nil => simp [VRels] at h; subst h; exact ⟨#[], rfl, by simp [VRels]⟩
  | cons v vs =>
    obtain ⟨c, cs, rfl, h1, h2⟩ := h
    cases vs with
    | nil => simp [VRels] at h2; subst h2; simpa [packRes] using h1
    | cons v' vs' =>
      have hl := h2.length
      have : ¬ ((c :: cs).toArray.size = 1) := by simp at hl ⊢; intro e; simp [e] at hl
      rw [dif_neg this]
      exact ⟨_, rfl, .cons h1 h2⟩

theorem evCall_ok (hF : ∀ f af, C.F f = some af → cFunc P f = some af) (hS : SOK P V B C) {n : Nat} (hn : CodeOK P V B C n) : CallOK P V B C (evCall C (evCode C n)) := by
  intro f args s v s' he hpc
  unfold evCall at he
  cases hs : C.S f args s.sp with
  | some m =>
    simp only [hs, outC] at he
    split at he
    case h_2 => cases he
    rename_i v' p' o' hr
    simp only [Option.some.injEq, Prod.mk.injEq] at he
    obtain ⟨rfl, rfl⟩ := he
    exact hS f args s.sp m hs _ _ _ _ hr hpc
  | none =>
  simp only [hs] at he
  cases hf : C.F f with
  | none => simp [hf] at he
  | some af =>
    simp only [hf] at he
    cases hb : Nat.ble args.length af.ntmps <;> simp only [hb, cond_true, cond_false] at he
    · cases he
    have hb := Nat.le_of_ble_eq_true hb
    split at he
    case h_1 => cases he
    rename_i t ht
    split at he
    case h_1 => cases he
    case h_3 => cases he
    rename_i x fr s1 hx hev
    split at he
    case h_2 => cases he
    rename_i vs hvs
    simp only [Option.some.injEq, Prod.mk.injEq] at he
    obtain ⟨rfl, rfl⟩ := he
    have hcf := hF f af hf
    unfold cFunc at hcf
    split at hcf
    case h_2 => cases hcf
    rename_i fn hfn
    split at hcf
    case h_2 => cases hcf
    rename_i c hbody
    split at hcf
    case h_2 => cases hcf
    rename_i bc rc hbc hrc
    cases hnm : (fn.name == "runtime.NumGoroutine") <;> simp only [hnm, cond_true, cond_false] at hcf
    case true => cases hcf
    cases hcf
    obtain ⟨d1, d2⟩ := hn c bc _ _ _ _ _ hbc hev hpc
    refine ⟨d1, fun ι w cargs hargs hh hg => ⟨fun w => ?_, ?_⟩⟩
    · have hnm' : ¬ (fn.name = "runtime.NumGoroutine") := by simpa using hnm
      have : program.run P w = .ok P w := rfl
      simp [callFunc, this, hfn, hnm', hbody]
    · refine calls_of_wp hfn hbody (d2 ι w _ ?_ hh hg _ ?_)
      · have hal := hargs.length
        simp only at hb
        refine ⟨by simp; omega, rfl, fun i => ?_⟩
        rw [enterT_get ht i]
        simp only [Nat.zero_le, true_and, Nat.zero_add, Nat.sub_zero]
        by_cases hi : i < args.length
        · rw [if_pos hi]
          obtain ⟨c', h1, h2⟩ := hargs.get i _ (List.getElem?_eq_getElem hi)
          have : (cargs.toArray ++ Array.replicate (fn.ntmps - cargs.toArray.size) undef)[i]? = some c' := by
            rw [Array.getElem?_append_left (by simp; omega)]
            simpa using h1
          rw [List.getElem?_eq_getElem hi]
          simp only [Array.getD_eq_getD_getElem?, this, Option.getD_some]
          exact h2
        · rw [if_neg hi]
          have : ((cargs.toArray ++ Array.replicate (fn.ntmps - cargs.toArray.size) undef)[i]?).getD undef = undef := by
            rw [Array.getElem?_append_right (by simp; omega)]
            simp only [Array.getElem?_replicate]
            split <;> rfl
          simp only [Tr.get_e, Option.getD_none, Array.getD_eq_getD_getElem?, this]
          exact VRel.undef
      · intro a' w' ι' q1 q2 q3
        have hg' := hg.mono (q3.mono hh)
        obtain ⟨us, u1, u2⟩ := evRes_sound (P := P) q1 hg' q2 hrc hvs
        have hres : (results fn a'.tmps).run P w' = .ok (if h : us.toArray.size = 1 then us.toArray[0] else .tuple us.toArray) w' := by
          rw [results_eq, Array.mapM_eq_mapM_toList]
          simp only [map_eq_pure_bind, Sem.run_bind, Sem.run_pure, u1, Result.andThen_ok]
        have : bodyPost P fn (fun e w' => ∃ c ι', e = .returned c ∧ VRel V ι' (packRes vs) c ∧ HRel V ι' B s1.h w' ∧ Ext ι s.h w ι' s1.h w') .ret a' w' :=
          ⟨q1.defers, _, hres, _, ι', rfl, packRes_rel u2, q2, q3⟩
        cases x with
        | normal => exact this
        | ret => exact this
        | exit id => exact absurd rfl (hx id)

theorem evCode_ok (hmix : P.follows .mixedOrders = true) (hF : ∀ f af, C.F f = some af → cFunc P f = some af) (hS : SOK P V B C) (hL : LOK P V B C) : ∀ n, CodeOK P V B C n := by
  intro n
  induction n using Nat.strongRecOn with
  | _ n ih =>
  cases n with
  | zero => intro c ac fr s x fr' s' hc he; simp [evCode] at he
  | succ n =>
  intro c ac fr s x fr' s' hc he hpc
  have ihn := ih n (by omega)
  cases c
  case skip =>
    simp only [cCode] at hc
    cases hc
    simp only [evCode, Option.some.injEq, Prod.mk.injEq] at he
    obtain ⟨rfl, rfl, rfl⟩ := he
    exact ⟨hpc, fun ι w a h1 h2 h3 Q hQ => wp_skip (hQ a w ι h1 h2 (Ext.refl _ _ _))⟩
  case region id ops draw =>
    cases draw <;> simp only [cCode] at hc
    case true =>
      split at hc
      case h_2 => cases hc
      rename_i l hl
      cases hc
      simp only [evCode] at he
      split at he
      case h_2 => cases he
      rename_i fr1 s1 h1
      simp only [Option.some.injEq, Prod.mk.injEq] at he
      obtain ⟨rfl, rfl, rfl⟩ := he
      exact evDraw_sound hmix (evCall_ok hF hS ihn) hl h1 hpc
    split at hc
    case h_2 => cases hc
    rename_i l hl
    cases hc
    simp only [evCode] at he
    split at he
    case h_2 => cases he
    rename_i fr1 s1 h1
    simp only [Option.some.injEq, Prod.mk.injEq] at he
    obtain ⟨rfl, rfl, rfl⟩ := he
    obtain ⟨d1, d2⟩ := evOps_sound (evCall_ok hF hS ihn) hl h1 hpc
    exact ⟨d1, fun ι w a h1 h2 h3 Q hQ => wp_region_list (d2 ι w a h1 h2 h3 Q hQ)⟩
  case seq p q =>
    simp only [cCode] at hc
    split at hc
    case h_2 => cases hc
    rename_i x1 y1 hx1 hy1
    cases hc
    simp only [evCode] at he
    split at he
    · rename_i fr1 s1 h1
      obtain ⟨d1, d2⟩ := ihn _ _ _ _ _ _ _ hy1 he hpc
      obtain ⟨e1, e2⟩ := ihn _ _ _ _ _ _ _ hx1 h1 d1
      refine ⟨e1, fun ι w a hfr hh hg Q hQ => wp_seq (e2 ι w a hfr hh hg _ ?_)⟩
      intro a' w' ι' q1 q2 q3
      refine d2 ι' w' a' q1 q2 (hg.mono (q3.mono hh)) Q ?_
      intro a'' w'' ι'' r1 r2 r3
      exact hQ a'' w'' ι'' r1 r2 (q3.trans r3)
    · rename_i hnn
      obtain ⟨e1, e2⟩ := ihn _ _ _ _ _ _ _ hx1 he hpc
      refine ⟨e1, fun ι w a hfr hh hg Q hQ => wp_seq (e2 ι w a hfr hh hg _ ?_)⟩
      intro a' w' ι' q1 q2 q3
      have := hQ a' w' ι' q1 q2 q3
      cases x with
      | normal => exact absurd he (hnn _ _)
      | exit id => exact this
      | ret => exact this
  case cond c p q =>
    simp only [cCode] at hc
    split at hc
    case h_2 => cases hc
    rename_i k x1 y1 hk hx1 hy1
    cases hc
    simp only [evCode] at he
    split at he
    case h_2 => cases he
    rename_i e hr
    split at he
    case h_2 => cases he
    rename_i t s1 hd
    cases t
    · obtain ⟨d1, d2⟩ := ihn _ _ _ _ _ _ _ hy1 he hpc
      obtain ⟨g1, g2⟩ := dec_sound (V := V) hd
      obtain ⟨g3, g4⟩ := g2 d1
      refine ⟨g3, fun ι w a hfr hh hg Q hQ => ?_⟩
      have hv := (hfr.rd hg) c _ _ hk hr
      simp only [VRel, g4] at hv
      exact wp_cond_false hv (d2 ι w a hfr (by rw [g1]; exact hh) hg Q (by rw [g1]; exact hQ))
    · obtain ⟨d1, d2⟩ := ihn _ _ _ _ _ _ _ hx1 he hpc
      obtain ⟨g1, g2⟩ := dec_sound (V := V) hd
      obtain ⟨g3, g4⟩ := g2 d1
      refine ⟨g3, fun ι w a hfr hh hg Q hQ => ?_⟩
      have hv := (hfr.rd hg) c _ _ hk hr
      simp only [VRel, g4] at hv
      exact wp_cond_true hv (d2 ι w a hfr (by rw [g1]; exact hh) hg Q (by rw [g1]; exact hQ))
  case block id c =>
    simp only [cCode] at hc
    split at hc
    case h_2 => cases hc
    rename_i x1 hx1
    cases hc
    simp only [evCode] at he
    split at he
    · rename_i k fr1 s1 h1
      cases hb : Nat.beq k id <;> simp only [hb, cond_true, cond_false, Option.some.injEq, Prod.mk.injEq] at he
      · obtain ⟨rfl, rfl, rfl⟩ := he
        obtain ⟨e1, e2⟩ := ihn _ _ _ _ _ _ _ hx1 h1 hpc
        refine ⟨e1, fun ι w a hfr hh hg Q hQ => wp_block (e2 ι w a hfr hh hg _ ?_)⟩
        intro a' w' ι' q1 q2 q3
        have hne : k ≠ id := fun e => by rw [e] at hb; simp at hb
        simpa [Exit.inBlock, Ex.ex, hne] using hQ a' w' ι' q1 q2 q3
      · obtain ⟨rfl, rfl, rfl⟩ := he
        obtain ⟨e1, e2⟩ := ihn _ _ _ _ _ _ _ hx1 h1 hpc
        refine ⟨e1, fun ι w a hfr hh hg Q hQ => wp_block (e2 ι w a hfr hh hg _ ?_)⟩
        intro a' w' ι' q1 q2 q3
        have he := Nat.eq_of_beq_eq_true hb
        simpa [Exit.inBlock, Ex.ex, he] using hQ a' w' ι' q1 q2 q3
    · rename_i hnn
      obtain ⟨e1, e2⟩ := ihn _ _ _ _ _ _ _ hx1 he hpc
      refine ⟨e1, fun ι w a hfr hh hg Q hQ => wp_block (e2 ι w a hfr hh hg _ ?_)⟩
      intro a' w' ι' q1 q2 q3
      have := hQ a' w' ι' q1 q2 q3
      cases x with
      | normal => exact this
      | exit k => exact absurd he (hnn _ _ _)
      | ret => exact this
  case loop c =>
    simp only [cCode] at hc
    split at hc
    case h_2 => cases hc
    rename_i x1 hx1
    cases hc
    have hstep : ∀ k fr s, evCode C (k + 1) (.loop x1) fr s = match C.L x1 fr s.sp with
      | some m => outL m s.orc
      | none => match evCode C k x1 fr s with
        | some (.normal, fr', s') => evCode C k (.loop x1) fr' s'
        | r => r := fun k fr s => rfl
    have hout : ∀ (m : TT (Ex × Fr × SP)) (s : St), outL m s.orc = some (x, fr', s') → ∃ p' o', runO m s.orc = some ((x, fr', p'), o') ∧ s' = p'.st o' := by
      intro m s h
      unfold outL at h
      split at h
      case h_2 => cases h
      rename_i x1 fr1 p1 o1 hr
      simp only [Option.some.injEq, Prod.mk.injEq] at h
      obtain ⟨rfl, rfl, rfl⟩ := h
      exact ⟨p1, o1, hr, rfl⟩
    have key : ∀ k, k ≤ n + 1 → ∀ fr s, evCode C k (.loop x1) fr s = some (x, fr', s') → s.pc.holds V ∧ ∀ ι w a, FrRel V ι fr a → HRel V ι B s.h w → GRel C.G ι → ∀ (Q : Exit → Act → World → Prop),
        (∀ a' w' ι', FrRel V ι' fr' a' → HRel V ι' B s'.h w' → Ext ι s.h w ι' s'.h w' → Q x.ex a' w') → loopWp P c Q a w := by
      intro k
      induction k with
      | zero => intro _ fr s h; simp [evCode] at h
      | succ k ihk =>
        intro hk fr s h
        rw [hstep] at h
        split at h
        · rename_i m hm
          obtain ⟨p', o', r1, rfl⟩ := hout m s h
          exact hL _ _ _ _ _ hx1 hm _ _ _ _ _ r1 hpc
        split at h
        · rename_i fr1 s1 h1
          obtain ⟨d1, d2⟩ := ihk (by omega) _ _ h
          obtain ⟨e1, e2⟩ := ih k (by omega) _ _ _ _ _ _ _ hx1 h1 d1
          refine ⟨e1, fun ι w a hfr hh hg Q hQ => loopWp_round (e2 ι w a hfr hh hg _ ?_)⟩
          intro a' w' ι' q1 q2 q3
          refine d2 ι' w' a' q1 q2 (hg.mono (q3.mono hh)) Q ?_
          intro a'' w'' ι'' r1 r2 r3
          exact hQ a'' w'' ι'' r1 r2 (q3.trans r3)
        · rename_i hnn
          obtain ⟨e1, e2⟩ := ih k (by omega) _ _ _ _ _ _ _ hx1 h hpc
          refine ⟨e1, fun ι w a hfr hh hg Q hQ => loopWp_round (e2 ι w a hfr hh hg _ ?_)⟩
          intro a' w' ι' q1 q2 q3
          have := hQ a' w' ι' q1 q2 q3
          cases x with
          | normal => exact absurd h (hnn _ _)
          | exit id => exact this
          | ret => exact this
    obtain ⟨k1, k2⟩ := key _ (Nat.le_refl _) _ _ he
    exact ⟨k1, fun ι w a hfr hh hg Q hQ => loopWp_wp (k2 ι w a hfr hh hg Q hQ)⟩
  case exit id =>
    simp only [cCode] at hc
    cases hc
    simp only [evCode, Option.some.injEq, Prod.mk.injEq] at he
    obtain ⟨rfl, rfl, rfl⟩ := he
    exact ⟨hpc, fun ι w a h1 h2 h3 Q hQ => wp_exit (hQ a w ι h1 h2 (Ext.refl _ _ _))⟩
  case ret =>
    simp only [cCode] at hc
    cases hc
    simp only [evCode, Option.some.injEq, Prod.mk.injEq] at he
    obtain ⟨rfl, rfl, rfl⟩ := he
    exact ⟨hpc, fun ι w a h1 h2 h3 Q hQ => wp_ret (hQ a w ι h1 h2 (Ext.refl _ _ _))⟩
  all_goals (simp [cCode] at hc)

theorem evFn_ok (hmix : P.follows .mixedOrders = true) (hF : ∀ f af, C.F f = some af → cFunc P f = some af) (hS : SOK P V B C) (hL : LOK P V B C) (n : Nat) : CallOK P V B C (evFn C n) := evCall_ok hF hS (evCode_ok hmix hF hS hL n)
end
end Go.Sx
