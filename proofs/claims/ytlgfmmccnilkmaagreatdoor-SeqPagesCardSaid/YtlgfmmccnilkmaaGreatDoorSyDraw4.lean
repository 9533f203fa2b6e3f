/- The symbolic machine: statements whose order is open: the walk in any order. No condition: lemmas of the machine. -/
import Derived.Test.YtlgfmmccnilkmaaGreatDoorSyDraw3
namespace Go.Sx
set_option linter.unusedVariables false
set_option linter.unusedSimpArgs false

def cntL (p : Nat → Bool) : Nat → Nat
  | 0 => 0
  | n + 1 => cntL p n + (if p n then 1 else 0)
theorem cntL_le (p : Nat → Bool) : ∀ n, cntL p n ≤ n
  | 0 => Nat.le_refl _
  | n + 1 => by have := cntL_le p n; unfold cntL; split <;> omega
theorem cntL_all {p : Nat → Bool} : ∀ {n}, cntL p n = n → ∀ i, i < n → p i = true
  | 0, _, i, hi => by omega
  | n + 1, h, i, hi => by
    unfold cntL at h
    have h1 := cntL_le p n
    by_cases hp : p n = true
    · rw [if_pos hp] at h
      by_cases e : i = n
      · subst e; exact hp
      · exact cntL_all (p := p) (n := n) (by omega) i (by omega)
    · rw [if_neg hp] at h; omega
theorem cntL_add {p q : Nat → Bool} {k : Nat} (hk : p k = false) (hq : ∀ j, q j = (p j || decide (j = k))) : ∀ n, cntL q n = cntL p n + (if k < n then 1 else 0)
  | 0 => by simp [cntL]
  | n + 1 => by
    unfold cntL
    rw [cntL_add hk hq n, hq n]
    by_cases e : n = k
    · subst e; simp [hk]
    · simp only [e, decide_false, Bool.or_false]
      by_cases h1 : k < n
      · rw [if_pos h1, if_pos (show k < n + 1 by omega)]; omega
      · rw [if_neg h1, if_neg (show ¬ k < n + 1 by omega)]; omega

section
variable {P : Program} {V : Val} {B : Nat} {C : Cfg} {ops : Array Oper} {D : DT} {ι : Nat → Option Loc} {σ : Hp} {w : World}
variable {ι0 : Nat → Option Loc} {w0 : World} {m : Nat} {a : Act}

theorem RdRel.lim {fr : Fr} {q : AOp} {n : Nat} (h : RdRel V ι (rdl C.G fr q) a.eval) (hb : ∀ x ∈ q.xs, ∀ u, rdX C.G fr x = some u → u.bnd n = true) : RdRel V (lim ι n) (rdl C.G fr q) a.eval := by
  intro x y v hx hv
  refine VRel.lim v _ ?_ (h x y v hx hv)
  unfold rdl at hv
  split at hv
  · exact hb y ‹_› v hv
  · cases hv
theorem lim_mono {n : Nat} : ∀ id l, lim ι n id = some l → ι id = some l := fun id l h => (lim_some h).2

theorem reads_M {o : Oper} {q : AOp} {rd : X → Option SV} {a : Operand → Value} {σ' : Hp} (hc : cOp P o = some q) (hcl : q.cls = 1) (hrd : RdRel V ι rd a) (hr : HRel V ι B σ w) {v : SV} (he : evM rd σ q = some (v, σ')) : ∃ c, (execOp a o).run P w = .ok (.value c) w ∧ VRel V ι v c := by
  obtain ⟨dst, op, type, pos, after, guard⟩ := o
  cases op <;> simp only [cOp] at hc
  case load t x =>
    split at hc
    case h_2 => cases hc
    rename_i ag n y hag hn hy
    cases hb : (ag || Nat.beq n 1) <;> simp only [hb, cond_true, cond_false] at hc
    · cases hc
    cases hc
    simp only [evM] at he
    split at he
    case h_3 => cases he
    case h_1 =>
      rename_i id e' k' m o h1
      obtain ⟨l, h2, b1, b2, h3⟩ := hrd x y _ hy h1
      obtain ⟨rfl, vs, us, u1, u2, u3, u4⟩ := ldx_sound hr he h2 b1 b2
      cases ag <;> simp only [Bool.false_eq_true, if_true, if_false] at u4
      · subst u4
        obtain ⟨c, cs, rfl, h4, h5⟩ := u1
        have hcell := u3 0 c rfl
        rw [addr_add, Nat.add_zero] at hcell
        refine ⟨c, ?_, h4⟩
        simp [execOp, Instr.loadAt, h3, Instr.sureAddr, loadVar, aggOf_run hag, hcell]
      · subst u4
        refine ⟨.agg us.toArray, ?_, ⟨_, rfl, u1⟩⟩
        simp [execOp, Instr.loadAt, h3, Instr.sureAddr, loadVar, aggOf_run hag, run_sizeOf hn, run_load_cells u2 u3]
    rename_i id o h1
    split at he
    case h_2 => cases he
    rename_i vs hvs
    obtain ⟨l, h2, h3⟩ := hrd x y _ hy h1
    obtain ⟨us, u1, u2, u3, u4, u5⟩ := ldc_sound hr hvs h2
    cases ag <;> simp only [cond_true, cond_false] at he
    · split at he
      case h_2 => cases he
      rename_i v'
      simp only [Option.some.injEq, Prod.mk.injEq] at he
      obtain ⟨rfl, rfl⟩ := he
      obtain ⟨c, cs, rfl, h4, h5⟩ := u1
      have hcell := u3 0 c rfl
      rw [addr_add, Nat.add_zero] at hcell
      refine ⟨c, ?_, h4⟩
      simp [execOp, Instr.loadAt, h3, Instr.sureAddr, loadVar, aggOf_run hag, hcell]
    · simp only [Option.some.injEq, Prod.mk.injEq] at he
      obtain ⟨rfl, rfl⟩ := he
      refine ⟨.agg us.toArray, ?_, ⟨_, rfl, u1⟩⟩
      simp [execOp, Instr.loadAt, h3, Instr.sureAddr, loadVar, aggOf_run hag, run_sizeOf hn, run_load_cells u2 u3]
  case slice t x lo hi mx =>
    cases mx <;> simp only [] at hc <;> (try (cases hc; done))
    split at hc
    · split at hc <;> simp at hc
      subst hc; simp [evM] at he
    · rename_i n e y l h hu hy hl hh
      split at hc <;> simp at hc
      subst hc
      rename_i sz hsz
      simp only [evM] at he
      split at he
      case h_2 => cases he
      rename_i id o lov hiv h1 h2 h3
      split at he
      case h_2 => cases he
      rename_i ln hn vs hln hhn hvs
      cases hb : (Nat.ble hn n && Nat.ble ln hn) <;> simp only [hb, cond_true, cond_false] at he
      · cases he
      simp only [Bool.and_eq_true] at hb
      have hb2 := Nat.le_of_ble_eq_true hb.1
      have hb3 := Nat.le_of_ble_eq_true hb.2
      simp only [Option.some.injEq, Prod.mk.injEq] at he
      obtain ⟨rfl, rfl⟩ := he
      obtain ⟨lc, hι, hax⟩ := hrd x y _ hy h1
      have hext := ldc_ext hr hvs hι
      have hlo := optNat_rel hrd hl h2 hln
      have hhi := optNat_rel hrd hh h3 hhn
      have hbd : (Instr.sliceBounds false n n (lo.map a) (hi.map a) none).run P w = .ok (ln, hn, n) w :=
        run_bounds w false n n ln hn _ _ hlo hhi hb3 hb2
      have hmul : ln * sz ≤ n * sz := Nat.mul_le_mul_right _ (by omega)
      refine ⟨.slice (some (if n = ln then ⟨lc.blk, lc.off + o, none⟩ else (⟨lc.blk, lc.off + o, none⟩ : Addr).add (ln * sz))) (hn - ln) (n - ln), ?_, ?_⟩
      · simp only [execOp, Instr.sliceAt, Sem.run_bind, run_underlying hu, Result.andThen_ok, hax, Instr.sureAddr, Sem.run_pure, Option.map_none, hbd, run_sizeOf hsz]
      · by_cases hcl : n = ln
        · refine ⟨lc, lc.off + o, n - ln, hι, by simp [hcl], .inr (by omega), by omega, by omega, ?_⟩
          have : n - ln = 0 := by omega
          rw [this, hcl] at *
          omega
        · refine ⟨lc, lc.off + o + ln * sz, n - ln, hι, by simp [hcl, addr_add], .inl (by omega), by omega, by omega, ?_⟩
          rw [Nat.sub_mul]; omega
    · cases hc
  case binOp op t x' y' yt =>
      simp only [Bool.cond_eq_ite] at hc
      split at hc
      case h_2 => cases hc
      rename_i hx hy
      split at hc
      · simp at hc; subst hc; simp [evM] at he
      split at hc
      · split at hc <;> simp at hc
        subst hc; simp [evM] at he
      split at hc
      case isFalse =>
        split at hc
        case isFalse => cases hc
        rename_i hif
        split at hc <;> simp at hc
        subst hc
        rename_i n hop
        simp only [evM] at he
        split at he
        case h_2 => cases he
        rename_i xv yv h1 h2
        split at he
        case h_2 => cases he
        rename_i b h3
        simp only [Option.some.injEq, Prod.mk.injEq] at he
        obtain ⟨rfl, rfl⟩ := he
        obtain ⟨q1, q2, q3, q4⟩ := sameIf_sound (P := P) (op := op) hr hif h3 (hrd x' _ _ hx h1) (hrd y' _ _ hy h2)
        refine ⟨.bool (n != b), ?_, by simp [VRel, SB.den]⟩
        cases op <;> simp [eqlOf] at hop <;> subst hop <;> simp only [execOp, Sem.run_bind, q1, Result.andThen_ok, q3, q4] <;> simp [q2]
      rename_i hpt
      split at hc <;> simp at hc
      subst hc
      rename_i n hop
      simp only [evM] at he
      split at he
      case h_2 => cases he
      rename_i xv yv h1 h2
      split at he
      case h_2 => cases he
      rename_i b h3
      simp only [Option.some.injEq, Prod.mk.injEq] at he
      obtain ⟨rfl, rfl⟩ := he
      obtain ⟨p, r, hp, hrr, hs⟩ := samePtr_sound (P := P) hr h3 (hrd x' _ _ hx h1) (hrd y' _ _ hy h2)
      unfold isPtrTy at hpt
      split at hpt
      case h_2 => cases hpt
      rename_i e hu
      split at hpt
      case h_2 => cases hpt
      rename_i sz hsz
      have hsz0 := lt_of_blt hpt
      have heq : (Op.equal t (.pointer (some p)) (.pointer (some r))).run P w = .ok b w := by
        unfold Op.equal Op.maxDepth Op.equalIn
        have : sz ≠ 0 := by omega
        simp [run_underlying hu, run_sizeOf hsz, this, hs]
      have hgd : (eqGuard op t x' y' (.pointer (some p)) (.pointer (some r))).run P w = .ok () w := run_eqGuard_scalar w op t x' y' _ _ (fun _ _ => .inl (by simp)) (.inl (by simp))
      refine ⟨.bool (n != b), ?_, by simp [VRel, SB.den]⟩
      cases op <;> simp [eqlOf] at hop <;> subst hop <;> simp only [execOp, hp, hrr, Sem.run_bind, hgd, Result.andThen_ok] <;> simp [binOp, heq]
  case makeFunc fn first caps =>
    exfalso
    cases fn <;> simp only [] at hc <;> (try (cases hc; done))
    split at hc <;> simp at hc
    subst hc; simp [AOp.cls] at hcl
  case call cc =>
    obtain ⟨callee, args, tys⟩ := cc
    cases callee <;> simp only [] at hc
    case value f => (repeat' split at hc) <;> simp at hc <;> subst hc <;> simp [AOp.cls] at hcl
    case invoke => cases hc
    case builtin b => unfold cBuiltin at hc; simp only [Bool.cond_eq_ite] at hc; (repeat' split at hc) <;> simp at hc <;> subst hc <;> simp [AOp.cls] at hcl
  case lookup t x i ok =>
    obtain ⟨_, c, h1, h2⟩ := look_sound (dst := dst) (type := type) (pos := pos) (after := after) (guard := guard) hc hrd hr he
    exact ⟨c, h1, h2⟩
  case mapUpdate =>
    exfalso
    obtain ⟨_, _, _, _, _, _, _, _, _, _, _, rfl⟩ := cPut_spec hc
    simp [AOp.cls] at hcl
  case makeMap t r =>
    exfalso
    cases r with
    | some r => simp at hc
    | none =>
      simp only [Option.some.injEq] at hc
      subst hc
      simp [AOp.cls] at hcl
  all_goals (exfalso; (try simp only [Bool.cond_eq_ite] at hc); (repeat' split at hc) <;> (first | (cases hc; done) | (simp at hc; subst hc; simp [AOp.cls] at hcl; done)))
theorem reads_value {o : Oper} {q : AOp} {rd : X → Option SV} {κ : Nat → Option Loc} {av : Operand → Value} (hc : cOp P o = some q) (h1 : q.cls = 1) {n : Nat} (hrd : RdRel V (lim κ n) rd av) (hr : HRel V (lim κ n) B σ w) {v : SV} {σ' : Hp} (he : evM rd σ q = some (v, σ')) :
    ∃ c, ((execOp av o).run P w = .ok (.value c) w) ∧ VRel V κ v c :=
  let ⟨c, h2, h3⟩ := reads_M hc h1 hrd hr he
  ⟨c, h2, VRel.mono lim_mono _ _ h3⟩

theorem mem_ready {listed : Array Bool} {i : Nat} : i ∈ Region.ready .any ops listed ↔ i < ops.size ∧ listed.getD i true = false ∧ ∀ o, ops[i]? = some o → ∀ e ∈ o.after.toList, Region.binds .any e = true → listed.getD e.on false = true := by
  unfold Region.ready
  simp only [List.mem_filter, List.mem_range, Bool.and_eq_true, Bool.not_eq_true']
  constructor
  · rintro ⟨h1, h2, h3⟩
    refine ⟨h1, h2, fun o ho e he hb => ?_⟩
    rw [ho] at h3
    simp only [Option.map_some, Option.getD_some] at h3
    have := (Array.all_eq_true'.1 h3) e (by simpa using he)
    rw [hb] at this
    simpa using this
  · rintro ⟨h1, h2, h3⟩
    refine ⟨h1, h2, ?_⟩
    rw [Array.getElem?_eq_getElem h1]
    simp only [Option.map_some, Option.getD_some]
    rw [Array.all_eq_true']
    intro e he
    cases hb : Region.binds .any e
    · rfl
    · simpa using h3 _ (Array.getElem?_eq_getElem h1) e (by simpa using he) hb

theorem closed_of (F : DF P V B C ops D) {L : Nat → Prop} (h : ∀ j, j < D.n → L j → ∀ e ∈ (D.O j).after.toList, Region.binds .any e = true → L e.on) : Closed D L := by
  intro j
  induction j using Nat.strongRecOn with
  | _ j ih =>
    intro hj hl x hx
    obtain ⟨e, h1, h2, h3, h4⟩ := F.pred j hj x hx
    have hle := h j hj hl e h1 h2
    rcases h4 with rfl | h4
    · exact hle
    · exact ih e.on h3 (by omega) hle x h4

theorem draw_any (F : DF P V B C ops D) (hG : GRel C.G ι0) (h0 : HRel V ι0 B (D.h 0) w0) {Q : Exit → Act → World → Prop}
    (hQ : ∀ a' w' ι', FrRel V ι' (D.fr D.n) a' → HRel V ι' B (D.h D.n) w' → Ext ι0 (D.h 0) w0 ι' (D.h D.n) w' → Q .normal a' w') :
    ∀ (fuel : Nat) (listed : Array Bool) (a : Act) (w : World) (ι : Nat → Option Loc) (m : Nat), listed.size = D.n → cntL (fun i => listed.getD i true) D.n + fuel = D.n →
      DInv V B D ι0 w0 (fun i => listed.getD i true = true) ι m a w → wpAny P .any ops Q fuel listed a w := by
  have hfin : ∀ (listed : Array Bool) (a : Act) (w : World) (ι : Nat → Option Loc) (m : Nat), (∀ i, i < D.n → listed.getD i true = true) → DInv V B D ι0 w0 (fun i => listed.getD i true = true) ι m a w → Q .normal a w := by
    intro listed a w ι m hall h
    have h' := h.shift F h.m_le (Nat.le_refl _) fun e h1 h2 h3 => by
      have := (h.es e h2 h3).1 (hall e h2); omega
    have hlim : lim ι (D.h D.n).sz = ι := by
      funext id
      by_cases e : id < (D.h D.n).sz
      · exact lim_of e
      · rw [lim_ge (by omega)]
        cases hx : ι id with
        | none => rfl
        | some l =>
          obtain ⟨i, hi, _⟩ := h'.young id l (by omega) hx
          have := hi.ge; have := hi.lt; omega
    have hr := h'.hr
    have ex := h'.ex
    rw [hlim] at hr ex
    refine hQ a w ι ⟨?_, h.defers, fun t => ?_⟩ hr ex
    · rw [h.size, (F.frame 0 D.n (Nat.le_refl _)).1]
    · rcases (F.frame t D.n (Nat.le_refl _)).2 with ⟨j, j1, j2, j3, j4⟩ | ⟨j1, j2⟩
      · have := (h.tm t).1 j j1 (hall j j1) j2 fun k hk _ hd => j3 k hk hd
        rw [← j4] at this; exact this
      · have := (h.tm t).2 fun k hk _ => j1 k hk
        rw [← j2] at this; exact this
  have hnil : ∀ (listed : Array Bool), listed.size = D.n → Region.ready .any ops listed = [] → ∀ i, i < D.n → listed.getD i true = true := by
    intro listed hs hr i
    induction i using Nat.strongRecOn with
    | _ i ih =>
      intro hi
      cases hl : listed.getD i true
      · exfalso
        have : i ∈ Region.ready .any ops listed := by
          refine mem_ready.2 ⟨by rw [F.size]; exact hi, hl, fun o ho e he hb => ?_⟩
          rw [F.opAt i hi] at ho; cases ho
          have hlt := F.back i hi e he hb
          have := ih e.on hlt (by omega)
          have hsz : e.on < listed.size := by omega
          simpa [Array.getD_eq_getD_getElem?, Array.getElem?_eq_getElem hsz] using this
        rw [hr] at this; cases this
      · rfl
  intro fuel
  induction fuel with
  | zero =>
    intro listed a w ι m hs hc h
    have hall := cntL_all (p := fun i => listed.getD i true) (n := D.n) (by omega)
    refine ⟨?_, hfin listed a w ι m hall h⟩
    rw [List.eq_nil_iff_forall_not_mem]
    intro i hi
    have h1 := mem_ready.1 hi
    have := hall i (by rw [← F.size]; exact h1.1)
    rw [h1.2.1] at this; cases this
  | succ fuel ih =>
    intro listed a w ι m hs hc h
    refine ⟨fun hr => hfin listed a w ι m (hnil listed hs hr) h, fun i hi => ?_⟩
    obtain ⟨r1, r2, r3⟩ := mem_ready.1 hi
    have hin : i < D.n := by rw [← F.size]; exact r1
    have hnl : ¬ (listed.getD i true = true) := by rw [r2]; simp
    have hget : ∀ j, (listed.setIfInBounds i true).getD j true = (listed.getD j true || decide (j = i)) := by
      intro j
      by_cases e : j = i
      · subst e
        have : j < listed.size := by omega
        simp [this]
      · have hne : ¬ (i = j) := fun e' => e e'.symm
        simp [Array.getElem?_setIfInBounds, hne, e]
    have hL : ∀ j, ((listed.setIfInBounds i true).getD j true = true) ↔ (listed.getD j true = true) ∨ j = i := by
      intro j
      rw [hget]; simp
    have hpre : ∀ x ∈ D.pre i, listed.getD x true = true := by
      intro x hx
      obtain ⟨e, e1, e2, e3, e4⟩ := F.pred i hin x hx
      have hle : listed.getD e.on true = true := by
        have := r3 _ (F.opAt i hin) e e1 e2
        have hsz : e.on < listed.size := by omega
        simpa [Array.getD_eq_getD_getElem?, Array.getElem?_eq_getElem hsz] using this
      rcases e4 with rfl | e4
      · exact hle
      · exact h.cl e.on (by omega) hle x e4
    have hnext : ∀ (a' : Act) (w' : World) (ι' : Nat → Option Loc) (m' : Nat), DInv V B D ι0 w0 (fun j => (listed.setIfInBounds i true).getD j true = true) ι' m' a' w' → wpAny P .any ops Q fuel (listed.setIfInBounds i true) a' w' := by
      intro a' w' ι' m' h'
      refine ih _ a' w' ι' m' (by simp [hs]) ?_ h'
      have := cntL_add (p := fun j => listed.getD j true) (q := fun j => (listed.setIfInBounds i true).getD j true) (k := i) r2 hget D.n
      rw [if_pos hin] at this
      omega
    have hgm : ∀ m', DInv V B D ι0 w0 (fun i => listed.getD i true = true) ι m' a w → GRel C.G (lim ι (D.h m').sz) := fun m' h' => hG.mono (h'.ex.mono h0)
    have hG' : GRel C.G ι := (hgm m h).mono lim_mono
    have hrd := F.rd_ok h.tm h.cl hG' hin hnl hpre
    have hwant := F.want i hin ι a fun t ww hgd => F.reads_ok h.tm h.cl hin hnl hpre (t := t) (by simp [AOper.reads, hgd])
    unfold wpOp
    simp only [F.opAt i hin, hwant]
    have hatE : (D.A i).op.cls = 3 → DInv V B D ι0 w0 (fun i => listed.getD i true = true) ι i a w := by
      intro h3
      have hmi : m ≤ i := by
        rcases Nat.lt_or_ge i m with q | q
        · exact absurd ((h.es i hin h3).2 q) hnl
        · exact q
      refine h.shift F hmi (by omega) fun e k1 k2 k3 => ?_
      rcases F.pairs e i k2 hin with q | ⟨_, q⟩
      · have := (h.es e (by omega) k3).1 (hpre e q); omega
      · exact q ⟨k3, h3⟩
    cases hg : D.g i
    · simp only [Bool.false_eq_true, if_false]
      obtain ⟨u1, u2⟩ := F.unw i hin hg
      by_cases h3 : (D.A i).op.cls = 3
      · refine hnext _ _ _ _ (DInv.step_E F (hatE h3) hin hnl hpre hL h3 (κ := lim ι (D.h i).sz) (w' := w) (by rw [u1]; exact VRel.undef) (by rw [u2]; exact (hatE h3).hr) (by rw [u2]; exact Ext.refl _ _ _))
      · exact hnext _ _ _ _ (h.step_same F hin hnl hpre hL h3 (fun _ => hg) (by rw [u1]; exact VRel.undef))
    · simp only [if_true]
      left
      rcases cls_le (D.A i).op with h1 | h1 | h1 | h1
      · obtain ⟨c, c1, c2⟩ := (F.c0 i hin hg h1).2 ι a hrd
        unfold Oper.wp
        rw [c1 w]
        exact hnext _ _ _ _ (h.step_same F hin hnl hpre hL (by rw [h1]; simp) (fun e => by rw [h1] at e; cases e) c2)
      · obtain ⟨m', h', hev, hy⟩ := h.reads F hin hnl hpre hg h1
        have hcop := (F.c1 i hin hg h1).2.1
        obtain ⟨c, c1, c2⟩ := reads_value (P := P) hcop h1 (hrd.lim hy) h'.hr hev
        unfold Oper.wp
        rw [c1]
        exact hnext _ _ _ _ (h.step_same F hin hnl hpre hL (by rw [h1]; simp) (fun e => by rw [h1] at e; cases e) c2)
      · obtain ⟨hcop, hap, hnw, hv, hb⟩ := F.c2 i hin hg h1
        obtain ⟨e, arr, us, rest, cv, q1, q2, q3, q4⟩ := does_A hcop hrd hap
        unfold Oper.wp
        rw [q1 w]
        exact hnext _ _ _ _ (h.step_A F hin hnl hpre hL h1 hg q2 q3 fun ι' hι' => by rw [hv]; exact q4 ι' _ _ hι')
      · obtain ⟨hy, hwp⟩ := F.c3 i hin hg h1
        have h' := hatE h1
        refine hwp (lim ι (D.h i).sz) w a (hrd.lim hy) h'.hr (hgm i h') _ _ ?_
        intro c w' ι' q1 q2 q3
        exact hnext _ _ _ _ (DInv.step_E F h' hin hnl hpre hL h1 q1 q2 q3)
end
end Go.Sx
