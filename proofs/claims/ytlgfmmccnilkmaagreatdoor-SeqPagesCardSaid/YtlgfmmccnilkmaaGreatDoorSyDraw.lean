/- The symbolic machine: statements whose order is open: the machine's run in the text's order serves every order. No condition: lemmas of the machine. -/
import Derived.Test.YtlgfmmccnilkmaaGreatDoorSyDraw4
namespace Go.Sx
set_option linter.unusedVariables false
set_option linter.unusedSimpArgs false

def frAt (rs : List Rec) (fin : Fr) (i : Nat) : Fr := match rs[i]? with | some r => r.fr | none => fin
def stAt (rs : List Rec) (fin : St) (i : Nat) : St := match rs[i]? with | some r => r.s | none => fin

section
variable {P : Program} {V : Val} {B : Nat} {C : Cfg} {callF : Nat → List SV → St → Option (SV × St)}

theorem evTr_spec : ∀ {as : List AOper} {fr fr2 : Fr} {s s2 : St} {rs : List Rec}, evTr C callF as fr s = some (rs, fr2, s2) →
    rs.length = as.length ∧ frAt rs fr2 0 = fr ∧ stAt rs s2 0 = s ∧ ∀ (i : Nat) (o : AOper), as[i]? = some o → ∃ r s1, rs[i]? = some r ∧ evGuard C r.fr r.s o.guard = some (r.g, s1) ∧
      (r.g = true → youngOK (rdX C.G r.fr) r.s.h.sz o.op = true ∧ evOp callF (rdX C.G r.fr) s1 o.op = some (r.v, stAt rs s2 (i + 1)) ∧ r.s.h.sz ≤ (stAt rs s2 (i + 1)).h.sz) ∧
      (r.g = false → r.v = sundef ∧ stAt rs s2 (i + 1) = s1) ∧ r.fr.put o.dst r.v = some (frAt rs fr2 (i + 1))
  | [], fr, fr2, s, s2, rs, h => by
    simp only [evTr, Option.some.injEq, Prod.mk.injEq] at h
    obtain ⟨rfl, rfl, rfl⟩ := h
    exact ⟨rfl, rfl, rfl, fun i o hi => by simp at hi⟩
  | o :: os, fr, fr2, s, s2, rs, h => by
    simp only [evTr] at h
    split at h
    · cases h
    · rename_i s1 hg
      cases hy : youngOK (rdX C.G fr) s.h.sz o.op <;> simp only [hy, cond_true, cond_false] at h
      · cases h
      split at h
      case h_2 => cases h
      rename_i v st hop
      cases hb : Nat.ble s.h.sz st.h.sz <;> simp only [hb, cond_true, cond_false] at h
      · cases h
      split at h
      case h_2 => cases h
      rename_i fr' hput
      split at h
      case h_2 => cases h
      rename_i rs' fr3 s3 htr
      simp only [Option.some.injEq, Prod.mk.injEq] at h
      obtain ⟨rfl, rfl, rfl⟩ := h
      obtain ⟨i1, i2, i3, i4⟩ := evTr_spec htr
      refine ⟨by simp [i1], rfl, rfl, fun i o' hi => ?_⟩
      cases i with
      | zero =>
        simp at hi; subst hi
        refine ⟨_, s1, rfl, hg, fun _ => ⟨hy, ?_, ?_⟩, (fun h => by cases h), ?_⟩
        · show evOp callF (rdX C.G fr) s1 o.op = some (v, stAt rs' s3 0)
          rw [i3]; exact hop
        · show s.h.sz ≤ (stAt rs' s3 0).h.sz
          rw [i3]; exact Nat.le_of_ble_eq_true hb
        · show fr.put o.dst v = some (frAt rs' fr3 0)
          rw [i2]; exact hput
      | succ i => exact i4 i o' (by simpa using hi)
    · rename_i s1 hg
      split at h
      case h_2 => cases h
      rename_i fr' hput
      split at h
      case h_2 => cases h
      rename_i rs' fr3 s3 htr
      simp only [Option.some.injEq, Prod.mk.injEq] at h
      obtain ⟨rfl, rfl, rfl⟩ := h
      obtain ⟨i1, i2, i3, i4⟩ := evTr_spec htr
      refine ⟨by simp [i1], rfl, rfl, fun i o' hi => ?_⟩
      cases i with
      | zero =>
        simp at hi; subst hi
        refine ⟨_, s1, rfl, hg, (fun h => by cases h), fun _ => ⟨rfl, ?_⟩, ?_⟩
        · show stAt rs' s3 0 = s1
          exact i3
        · show fr.put o.dst sundef = some (frAt rs' fr3 0)
          rw [i2]; exact hput
      | succ i => exact i4 i o' (by simpa using hi)
theorem chks_spec {all : List Rec} {fin : Hp} : ∀ {l : List (AOper × List Nat)} {rs : List Rec}, chks C all fin l rs = true → ∀ (i : Nat) (o : AOper) (ks : List Nat) (r : Rec), l[i]? = some (o, ks) → rs[i]? = some r → r.g = true →
    ∀ e ∈ ks, chk1 C o.op r (heapAt all fin e) = true ∧ chk1 C o.op r (heapAt all fin (e + 1)) = true
  | [], rs, h, i, o, ks, r, hi, hr, hg => by simp at hi
  | (o', ks') :: l, [], h, i, o, ks, r, hi, hr, hg => by simp at hr
  | (o', ks') :: l, r' :: rs, h, i, o, ks, r, hi, hr, hg => by
    simp only [chks, Bool.and_eq_true] at h
    cases i with
    | zero =>
      simp at hi hr
      obtain ⟨rfl, rfl⟩ := hi
      subst hr
      have h1 := h.1
      simp only [hg, Bool.not_true, Bool.false_or, List.all_eq_true, Bool.and_eq_true] at h1
      exact h1
    | succ i => exact chks_spec h.2 i o ks r (by simpa using hi) (by simpa using hr) hg
theorem fsts_get : ∀ {l : List (AOper × List Nat)} (i : Nat), (fsts l)[i]? = (l[i]?).map (·.1)
  | [], i => by simp [fsts]
  | (o, ks) :: l, 0 => by simp [fsts]
  | (o, ks) :: l, i + 1 => by simpa [fsts] using fsts_get (l := l) i
theorem fsts_len : ∀ {l : List (AOper × List Nat)}, (fsts l).length = l.length
  | [] => rfl
  | (o, ks) :: l => by simp [fsts, fsts_len (l := l)]
theorem looses_get (as : List AOper) (pre : List (List Nat)) : ∀ {l : List AOper} (k i : Nat), (looses as pre k l)[i]? = (l[i]?).map fun o => (o, bif Nat.beq o.op.cls 1 then (List.range as.length).filter (loose as pre (k + i)) else [])
  | [], k, i => by simp [looses]
  | o :: l, k, 0 => by simp [looses]
  | o :: l, k, i + 1 => by
    have := looses_get as pre (l := l) (k + 1) i
    simp only [looses, List.getElem?_cons_succ, this]
    have e : k + 1 + i = k + (i + 1) := by omega
    rw [e]
theorem looses_len (as : List AOper) (pre : List (List Nat)) : ∀ {l : List AOper} (k : Nat), (looses as pre k l).length = l.length
  | [], k => rfl
  | o :: l, k => by simp [looses, looses_len as pre (l := l) (k + 1)]
theorem cOps_spec {ops : Array Oper} : ∀ {os : List Oper} {as : List AOper}, cOps P ops os = some as → as.length = os.length ∧ ∀ (i : Nat) (o : Oper), os[i]? = some o → ∃ q, as[i]? = some q ∧ q.dst = o.dst ∧ guardOf ops o.guard = some q.guard ∧ (cOp P o = some q.op ∨ q.op = .bad)
  | [], as, h => by simp [cOps] at h; subst h; exact ⟨rfl, fun i o hi => by simp at hi⟩
  | o :: os, as, h => by
    unfold cOps at h
    cases hgd : guardOf ops o.guard with
    | none => simp [hgd, cons?] at h
    | some g =>
      cases hos : cOps P ops os with
      | none => simp [hgd, hos, cons?] at h
      | some as' =>
        simp [hgd, hos, cons?] at h
        subst h
        obtain ⟨i1, i2⟩ := cOps_spec hos
        refine ⟨by simp [i1], fun i o' hi => ?_⟩
        cases i with
        | zero =>
          simp at hi; subst hi
          refine ⟨_, rfl, rfl, hgd, ?_⟩
          cases hq : cOp P o with
          | none => exact .inr rfl
          | some q => exact .inl rfl
        | succ i => exact i2 i o' (by simpa using hi)
theorem evGuard_want {ops : Array Oper} {o : Oper} {g : Option (Nat × Bool)} (hg : guardOf ops o.guard = some g) {fr : Fr} {s s' : St} {b : Bool} (he : evGuard C fr s g = some (b, s')) (hpc : s'.pc.holds V) :
    ∀ ι (a : Act), (∀ t w, g = some (t, w) → VRel V ι (frv fr t) (a.tmps.getD t undef)) → Region.wanted o (yielded ops a.tmps) = b := by
  intro ι a hval
  rcases guardOf_spec hg with ⟨h1, rfl⟩ | ⟨j, want, t, h1, rfl, h2⟩
  · simp only [evGuard, Option.some.injEq, Prod.mk.injEq] at he
    obtain ⟨rfl, rfl⟩ := he
    simp [Region.wanted, h1]
  · simp only [evGuard] at he
    have hw : Region.wanted o (yielded ops a.tmps) = ((match a.tmps[t]? with | some (.bool b) => some b | _ => none) == some want) := by
      simp only [Region.wanted, h1, yielded, h2, Option.bind_some]
      rfl
    have hv := hval t want rfl
    split at he
    · rename_i e hr
      split at he
      case h_2 => cases he
      rename_i c s1 hd
      simp only [Option.some.injEq, Prod.mk.injEq] at he
      obtain ⟨rfl, rfl⟩ := he
      obtain ⟨d1, d2⟩ := dec_sound (V := V) hd
      obtain ⟨d3, d4⟩ := d2 hpc
      have hfv : frv fr t = .bool e := by
        simp only [rdX] at hr
        unfold frv
        split at hr
        · rename_i v' hgt
          cases hl : v'.isLost <;> simp only [hl, cond_true, cond_false] at hr
          · cases hr
            rw [hgt]; rfl
          · cases hr
        · rename_i hgt
          cases hr
      rw [hfv] at hv
      simp only [VRel, d4] at hv
      have ht : a.tmps[t]? = some (.bool c) := by
        cases h3 : a.tmps[t]? with
        | none => simp [h3, undef] at hv
        | some v => simpa [h3] using hv
      rw [hw, ht]
      cases c <;> cases want <;> rfl
    · rename_i v' hne hr
      simp only [Option.some.injEq, Prod.mk.injEq] at he
      obtain ⟨rfl, rfl⟩ := he
      rw [hw]
      simp only [rdX] at hr
      unfold frv at hv
      have hnb : ∀ b, a.tmps[t]? ≠ some (.bool b) := by
        intro b hb
        simp [hb] at hv
        cases hgt : fr.t.get t with
        | none =>
          simp [hgt, sundef] at hv
          obtain ⟨l, hl, _⟩ := hv
          cases hl
        | some v =>
          simp only [hgt] at hr
          cases hl : v.isLost <;> simp only [hl, cond_true, cond_false] at hr
          case true => cases hr
          cases hr
          simp [hgt] at hv
          cases v' <;> simp only [VRel] at hv <;> first
            | (cases hv; done)
            | (obtain ⟨_, _, hv⟩ := hv; cases hv; done)
            | (obtain ⟨_, hv, _⟩ := hv; cases hv; done)
            | (obtain ⟨_, _, _, _, hv, _⟩ := hv; cases hv; done)
            | (obtain ⟨_, _, hv, _⟩ := hv; cases hv; done)
            | (obtain ⟨_, _, _, _, _, hv | ⟨_, hv⟩⟩ := hv <;> cases hv; done)
            | (obtain ⟨_, _, _, _, hv⟩ := hv; cases hv; done)
            | (cases hl; done)
            | exact hne _ rfl
      cases h3 : a.tmps[t]? with
      | none => rfl
      | some v => cases v <;> first | rfl | exact absurd h3 (hnb _)
    · cases he
theorem gives_pick {o : Oper} {c x y : X} (hq : cOp P o = some (.pick c x y)) {ι : Nat → Option Loc} {rd : X → Option SV} {a : Operand → Value} (hrd : RdRel V ι rd a) {e : SB} (h1 : rd c = some (.bool e)) {t : Bool} (ht : e.den V = t) {v : SV} (h3 : rd (bif t then x else y) = some v) : Gives P V ι a o v := by
  obtain ⟨dst, op, type, pos, after, guard⟩ := o
  cases op <;> simp only [cOp] at hq
  case pick c' x' y' =>
    split at hq <;> simp at hq
    obtain ⟨rfl, rfl, rfl⟩ := hq
    rename_i hc hx hy
    have hcv := hrd c' _ _ hc h1
    simp only [VRel, ht] at hcv
    refine ⟨if t then a x' else a y', fun w => by simp [execOp, hcv, asBool], ?_⟩
    cases t
    · exact hrd y' _ _ hy h3
    · exact hrd x' _ _ hx h3
  case makeFunc fn _ _ => cases fn <;> simp only [] at hq <;> (repeat' split at hq) <;> simp at hq
  case slice mx => cases mx <;> simp only [] at hq <;> (repeat' split at hq) <;> simp at hq
  case call cc =>
    obtain ⟨callee, args, tys⟩ := cc
    cases callee <;> simp only [] at hq
    case value f => (repeat' split at hq) <;> simp at hq
    case invoke => cases hq
    case builtin b => unfold cBuiltin at hq; simp only [Bool.cond_eq_ite] at hq; (repeat' split at hq) <;> simp at hq
  case lookup => exfalso; obtain ⟨_, _, _, _, _, _, _, _, _, _, _, h⟩ := cLook_spec hq; cases h
  case mapUpdate => exfalso; obtain ⟨_, _, _, _, _, _, _, _, _, _, _, h⟩ := cPut_spec hq; cases h
  case makeMap t r => exfalso; cases r <;> simp at hq
  all_goals (exfalso; (try simp only [Bool.cond_eq_ite] at hq); (repeat' split at hq) <;> simp at hq)
theorem rdl_eq {G : Nat → Option Nat} {fr : Fr} {q : AOp} : ∀ x ∈ q.xs, rdl G fr q x = rdX G fr x := fun x hx => if_pos hx
theorem allYoung_spec {rd : X → Option SV} {n : Nat} {q : AOp} (h : allYoung rd n q = true) : ∀ x ∈ q.xs, ∀ u, rd x = some u → u.bnd n = true := by
  intro x hx u hu
  have := List.all_eq_true.1 h x hx
  rw [hu] at this; exact this

theorem cDraw_spec {ops : Array Oper} {l : List (AOper × List Nat)} (h : cDraw P ops = some l) : ∃ as pre, cOps P ops ops.toList = some as ∧ predsAux ops.toList [] = some pre ∧ allPairs as pre = true ∧ l = looses as pre 0 as := by
  unfold cDraw at h
  split at h
  case h_2 => cases h
  rename_i as pre h1 h2
  cases hb : allPairs as pre <;> simp only [hb, cond_true, cond_false] at h
  · cases h
  · exact ⟨as, pre, h1, h2, hb, (Option.some.inj h).symm⟩

noncomputable def mkDT (C : Cfg) (ops : Array Oper) (as : List AOper) (pre : List (List Nat)) (rs : List Rec) (fr : Fr) (s : St) : DT where
  n := ops.size
  O i := ops.getD i default
  A i := as.getD i ⟨none, .bad, none⟩
  g i := match rs[i]? with | some r => r.g | none => false
  v i := match rs[i]? with | some r => r.v | none => sundef
  fr i := frAt rs fr i
  h i := (stAt rs s i).h
  pre i := pre.getD i []
  cs i := match aParts (rdX C.G (frAt rs fr i)) (as.getD i ⟨none, .bad, none⟩).op with | some (cs, _) => cs | none => []
  yv i := match aParts (rdX C.G (frAt rs fr i)) (as.getD i ⟨none, .bad, none⟩).op with | some (_, f) => f | none => fun _ => sundef

theorem isA_cls {q : AOp} (h : q.cls = 2) : isA q = true := by cases q <;> simp [AOp.cls] at h <;> rfl

theorem evDraw_facts (hcall : CallOK P V B C callF) {ops : Array Oper} {l : List (AOper × List Nat)} (hc : cDraw P ops = some l) {fr fr' : Fr} {s s' : St} (he : evDraw C callF l fr s = some (fr', s')) (hpc : s'.pc.holds V) :
    s.pc.holds V ∧ ∃ D : DT, DF P V B C ops D ∧ D.fr 0 = fr ∧ D.fr D.n = fr' ∧ D.h 0 = s.h ∧ D.h D.n = s'.h := by
  obtain ⟨as, pre, h1, h2, h3, rfl⟩ := cDraw_spec hc
  obtain ⟨ca1, ca2⟩ := cOps_spec h1
  obtain ⟨_, pr1, pr2⟩ := predsAux_spec h2
  simp only [List.length_nil, Nat.zero_add, Array.length_toList] at pr1 pr2 ca1
  unfold evDraw at he
  split at he
  case h_2 => cases he
  rename_i rs fr1 s1 htr
  cases hck : chks C rs s1.h (looses as pre 0 as) rs <;> simp only [hck, cond_true, cond_false] at he
  · cases he
  simp only [Option.some.injEq, Prod.mk.injEq] at he
  obtain ⟨rfl, rfl⟩ := he
  have hfs : fsts (looses as pre 0 as) = as := by
    apply List.ext_getElem?
    intro i
    rw [fsts_get, looses_get]
    cases as[i]? <;> simp
  rw [hfs] at htr
  obtain ⟨t1, t2, t3, t4⟩ := evTr_spec htr
  have hn : rs.length = ops.size := by rw [t1, ca1]
  -- each operation
  have hop : ∀ i, i < ops.size → ∃ o q, ops[i]? = some o ∧ as[i]? = some q ∧ q.dst = o.dst ∧ guardOf ops o.guard = some q.guard ∧ (cOp P o = some q.op ∨ q.op = .bad) := by
    intro i hi
    obtain ⟨q, q1, q2, q3, q4⟩ := ca2 i ops[i] (by simp [hi])
    exact ⟨ops[i], q, by simp [hi], q1, q2, q3, q4⟩
  have hlast : stAt rs s1 ops.size = s1 := by
    unfold stAt
    rw [List.getElem?_eq_none (by omega)]
  have hlastf : frAt rs fr1 ops.size = fr1 := by
    unfold frAt
    rw [List.getElem?_eq_none (by omega)]
  -- the decisions hold all the way
  have hpcs : ∀ k, k ≤ ops.size → (stAt rs s1 (ops.size - k)).pc.holds V := by
    intro k
    induction k with
    | zero => intro _; rw [Nat.sub_zero, hlast]; exact hpc
    | succ k ih =>
      intro hk
      have ih := ih (by omega)
      have e1 : ops.size - k = (ops.size - (k + 1)) + 1 := by omega
      rw [e1] at ih
      generalize hi : ops.size - (k + 1) = i at ih
      have hlt : i < ops.size := by omega
      obtain ⟨o, q, o1, o2, o3, o4, o5⟩ := hop i hlt
      obtain ⟨r, s2, r1, r2, r3, r4, r5⟩ := t4 i q o2
      have hst : stAt rs s1 i = r.s := by unfold stAt; rw [r1]
      rw [hst]
      have hs2 : s2.pc.holds V := by
        cases hg : r.g
        · rw [(r4 hg).2] at ih; exact ih
        · obtain ⟨_, g2, _⟩ := r3 hg
          rcases o5 with o5 | o5
          · exact (evOp_sound hcall o5 g2 ih).1
          · rw [o5] at g2; simp [evOp, evM] at g2
      exact (evGuard_sound o4 r2 hs2).1
  have hpcAt : ∀ i, i ≤ ops.size → (stAt rs s1 i).pc.holds V := fun i hi => by
    have := hpcs (ops.size - i) (by omega)
    have e1 : ops.size - (ops.size - i) = i := by omega
    rwa [e1] at this
  refine ⟨by have := hpcAt 0 (by omega); rwa [t3] at this, mkDT C ops as pre rs fr1 s1, ?_, t2, hlastf, by show (stAt rs s1 0).h = s.h; rw [t3], by show (stAt rs s1 ops.size).h = s1.h; rw [hlast]⟩
  -- all that is known at an operation
  have hat : ∀ i, i < ops.size → ∃ o q r s2, ops[i]? = some o ∧ as[i]? = some q ∧ rs[i]? = some r ∧ (mkDT C ops as pre rs fr1 s1).O i = o ∧ (mkDT C ops as pre rs fr1 s1).A i = q ∧ (mkDT C ops as pre rs fr1 s1).g i = r.g ∧
      (mkDT C ops as pre rs fr1 s1).v i = r.v ∧ (mkDT C ops as pre rs fr1 s1).fr i = r.fr ∧ (mkDT C ops as pre rs fr1 s1).h i = r.s.h ∧ q.dst = o.dst ∧ guardOf ops o.guard = some q.guard ∧ (r.g = true → cOp P o = some q.op) ∧
      evGuard C r.fr r.s q.guard = some (r.g, s2) ∧ s2.h = r.s.h ∧ s2.pc.holds V ∧ (stAt rs s1 (i + 1)).pc.holds V ∧
      (r.g = true → youngOK (rdX C.G r.fr) r.s.h.sz q.op = true ∧ evOp callF (rdX C.G r.fr) s2 q.op = some (r.v, stAt rs s1 (i + 1)) ∧ r.s.h.sz ≤ (stAt rs s1 (i + 1)).h.sz) ∧
      (r.g = false → r.v = sundef ∧ stAt rs s1 (i + 1) = s2) ∧ r.fr.put q.dst r.v = some (frAt rs fr1 (i + 1)) := by
    intro i hi
    obtain ⟨o, q, o1, o2, o3, o4, o5⟩ := hop i hi
    obtain ⟨r, s2, r1, r2, r3, r4, r5⟩ := t4 i q o2
    have hnext := hpcAt (i + 1) (by omega)
    have hcop : r.g = true → cOp P o = some q.op := by
      intro hg
      rcases o5 with o5 | o5
      · exact o5
      · have := (r3 hg).2.1
        rw [o5] at this; simp [evOp, evM] at this
    have hs2 : s2.pc.holds V := by
      cases hg : r.g
      · rw [(r4 hg).2] at hnext; exact hnext
      · exact (evOp_sound hcall (hcop hg) (r3 hg).2.1 hnext).1
    have hO : ops.getD i default = o := by simp [o1]
    have hA : as.getD i ⟨none, .bad, none⟩ = q := by simp [o2]
    refine ⟨o, q, r, s2, o1, o2, r1, hO, hA, ?_, ?_, ?_, ?_, o3, o4, hcop, r2, (evGuard_sound o4 r2 hs2).2.1, hs2, hnext, r3, r4, r5⟩
    · show (match rs[i]? with | some r => r.g | none => false) = r.g; rw [r1]
    · show (match rs[i]? with | some r => r.v | none => sundef) = r.v; rw [r1]
    · show frAt rs fr1 i = r.fr; unfold frAt; rw [r1]
    · show (stAt rs s1 i).h = r.s.h; unfold stAt; rw [r1]
  have hH : ∀ i, (mkDT C ops as pre rs fr1 s1).h i = (stAt rs s1 i).h := fun i => rfl
  have hheap : ∀ e, heapAt rs s1.h e = (mkDT C ops as pre rs fr1 s1).h e := by
    intro e
    show heapAt rs s1.h e = (stAt rs s1 e).h
    unfold heapAt stAt
    cases rs[e]? <;> rfl
  refine ⟨rfl, ?_, ?_, ?_, ?_, ?_, ?_, ?_, ?_, ?_, ?_, ?_, ?_, ?_, ?_⟩
  · intro i hi
    obtain ⟨o, q, r, s2, o1, o2, r1, e1, e2, e3, e4, e5, e6, k1, k2, k3, k4, k5, k6, k7, k8, k9, k10⟩ := hat i hi
    rw [e1]; exact o1
  · intro i hi
    obtain ⟨o, q, r, s2, o1, o2, r1, e1, e2, e3, e4, e5, e6, k1, k2, k3, k4, k5, k6, k7, k8, k9, k10⟩ := hat i hi
    rw [e1, e2]; exact k1
  · intro i hi ι a hv
    obtain ⟨o, q, r, s2, o1, o2, r1, e1, e2, e3, e4, e5, e6, k1, k2, k3, k4, k5, k6, k7, k8, k9, k10⟩ := hat i hi
    rw [e1, e3]
    rw [e2, e5] at hv
    exact evGuard_want k2 k4 k6 ι a hv
  · intro i hi hg
    obtain ⟨o, q, r, s2, o1, o2, r1, e1, e2, e3, e4, e5, e6, k1, k2, k3, k4, k5, k6, k7, k8, k9, k10⟩ := hat i hi
    rw [e3] at hg
    obtain ⟨j1, j2⟩ := k9 hg
    rw [e4, e6, hH, j2, k5]
    exact ⟨j1, rfl⟩
  · intro i hi hg hcl
    obtain ⟨o, q, r, s2, o1, o2, r1, e1, e2, e3, e4, e5, e6, k1, k2, k3, k4, k5, k6, k7, k8, k9, k10⟩ := hat i hi
    rw [e3] at hg
    rw [e2] at hcl
    obtain ⟨_, j2, _⟩ := k8 hg
    rw [e1, e2, e4, e5, e6, hH]
    have hcop := k3 hg
    cases hqo : q.op with
    | p pq =>
      rw [hqo] at j2 hcop
      simp only [evOp] at j2
      split at j2
      case h_2 => cases j2
      rename_i st hf
      split at j2
      case h_2 => cases j2
      rename_i v' hv
      simp only [Option.some.injEq, Prod.mk.injEq] at j2
      obtain ⟨rfl, j2⟩ := j2
      obtain ⟨f1, f2⟩ := forkP_sound (V := V) hf
      refine ⟨by rw [← j2, f1, k5], fun ι a hrd => gives_p hcop hrd (pc := st.pc) (by rw [j2]; exact k7) ?_⟩
      rw [← hv]
      exact evP_congr fun x hx => rdl_eq (q := .p pq) x hx
    | pick c x y =>
      rw [hqo] at j2 hcop
      simp only [evOp] at j2
      split at j2
      case h_2 => cases j2
      rename_i ee hr
      split at j2
      case h_2 => cases j2
      rename_i t st hd
      split at j2
      case h_2 => cases j2
      rename_i v' hv
      simp only [Option.some.injEq, Prod.mk.injEq] at j2
      obtain ⟨rfl, j2⟩ := j2
      obtain ⟨d1, d2⟩ := dec_sound (V := V) hd
      have hden := (d2 (by rw [j2]; exact k7)).2
      refine ⟨by rw [← j2, d1, k5], fun ι a hrd => gives_pick hcop hrd (e := ee) (by rw [rdl_eq c (by simp [AOp.xs])]; exact hr) hden ?_⟩
      rw [rdl_eq]
      · exact hv
      · cases t <;> simp [AOp.xs]
    | _ => rw [hqo] at hcl; simp [AOp.cls] at hcl
  · intro i hi hg hcl
    obtain ⟨o, q, r, s2, o1, o2, r1, e1, e2, e3, e4, e5, e6, k1, k2, k3, k4, k5, k6, k7, k8, k9, k10⟩ := hat i hi
    rw [e3] at hg
    rw [e2] at hcl
    obtain ⟨j1, j2, _⟩ := k8 hg
    rw [e1, e2, e4, e5, e6, hH]
    have hcop := k3 hg
    have hm : evOp callF (rdX C.G r.fr) s2 q.op = some (r.v, stAt rs s1 (i + 1)) := j2
    obtain ⟨h', m1, m2⟩ := evOp_M (fun p e => by rw [e] at hcl; simp [AOp.cls] at hcl) (fun c a b e => by rw [e] at hcl; simp [AOp.cls] at hcl) (fun f as e => by rw [e] at hcl; simp [AOp.cls] at hcl) hm
    have hh' := evM_read hcl m1
    refine ⟨by rw [m2]; simp only [hh', k5], hcop, ?_, ?_⟩
    · rw [evM_congr fun x hx => rdl_eq x hx, ← k5, m1, hh']
    · unfold youngOK at j1
      rw [hcl] at j1
      simp only [Nat.beq_eq_true_eq, Bool.or_true, cond_true, show Nat.beq 1 3 = false from rfl, show Nat.beq 1 1 = true from rfl] at j1
      exact allYoung_spec j1
  · intro i hi hg hcl
    obtain ⟨o, q, r, s2, o1, o2, r1, e1, e2, e3, e4, e5, e6, k1, k2, k3, k4, k5, k6, k7, k8, k9, k10⟩ := hat i hi
    rw [e3] at hg
    rw [e2] at hcl
    obtain ⟨j1, j2, _⟩ := k8 hg
    have hcop := k3 hg
    obtain ⟨h', m1, m2⟩ := evOp_M (fun p e => by rw [e] at hcl; simp [AOp.cls] at hcl) (fun c a b e => by rw [e] at hcl; simp [AOp.cls] at hcl) (fun f as e => by rw [e] at hcl; simp [AOp.cls] at hcl) j2
    rw [evM_A (isA_cls hcl)] at m1
    have hfr : frAt rs fr1 i = r.fr := by unfold frAt; rw [r1]
    have hAA : as.getD i ⟨none, .bad, none⟩ = q := by simp [o2]
    cases hap : aParts (rdX C.G r.fr) q.op with
    | none => simp [hap] at m1
    | some cm =>
      obtain ⟨cs, mk⟩ := cm
      simp only [hap] at m1
      cases hnw : nwo s2.h cs with
      | none => simp [hnw] at m1
      | some h2' =>
        simp only [hnw, Option.some.injEq, Prod.mk.injEq] at m1
        obtain ⟨m1, rfl⟩ := m1
        have hcs : (mkDT C ops as pre rs fr1 s1).cs i = cs := by
          show (match aParts (rdX C.G (frAt rs fr1 i)) (as.getD i ⟨none, .bad, none⟩).op with | some (cs, _) => cs | none => []) = cs
          rw [hfr, hAA, hap]
        have hyv : (mkDT C ops as pre rs fr1 s1).yv i = mk := by
          show (match aParts (rdX C.G (frAt rs fr1 i)) (as.getD i ⟨none, .bad, none⟩).op with | some (_, f) => f | none => fun _ => sundef) = mk
          rw [hfr, hAA, hap]
        rw [e1, e2, e4, e5, e6, hH, hcs, hyv]
        refine ⟨hcop, by rw [aParts_congr fun x hx => rdl_eq x hx]; exact hap, by rw [← k5, m2]; exact hnw, by rw [← k5]; exact m1.symm, ?_⟩
        unfold youngOK at j1
        rw [hcl, hap] at j1
        exact j1
  · intro i hi hg hcl
    obtain ⟨o, q, r, s2, o1, o2, r1, e1, e2, e3, e4, e5, e6, k1, k2, k3, k4, k5, k6, k7, k8, k9, k10⟩ := hat i hi
    rw [e3] at hg
    rw [e2] at hcl
    obtain ⟨j1, j2, _⟩ := k8 hg
    have hcop := k3 hg
    rw [e1, e2, e4, e5, e6, hH]
    refine ⟨?_, ?_⟩
    · unfold youngOK at j1
      rw [hcl] at j1
      exact allYoung_spec j1
    · intro ι w a hrd hh hg K Q hK
      have hcong : evOp callF (rdl C.G r.fr q.op) s2 q.op = some (r.v, stAt rs s1 (i + 1)) := by
        rw [evOp_congr fun x hx => rdl_eq x hx]; exact j2
      have := (evOp_sound hcall hcop hcong k7).2 ι w a hrd (by rw [k5]; exact hh) hg K Q
      rw [k5] at this
      exact this hK
  · intro i hi
    obtain ⟨o, q, r, s2, o1, o2, r1, e1, e2, e3, e4, e5, e6, k1, k2, k3, k4, k5, k6, k7, k8, k9, k10⟩ := hat i hi
    rw [e6, hH]
    cases hg : r.g
    · rw [(k9 hg).2, k5]; exact Nat.le_refl _
    · exact (k8 hg).2.2
  · intro i hi
    obtain ⟨o, q, r, s2, o1, o2, r1, e1, e2, e3, e4, e5, e6, k1, k2, k3, k4, k5, k6, k7, k8, k9, k10⟩ := hat i hi
    rw [e2, e4, e5]
    exact k10
  · intro i j hij hj
    have hj' : j < ops.size := hj
    obtain ⟨o, q, r, s2, o1, o2, r1, e1, e2, _⟩ := hat i (by omega)
    obtain ⟨o', q', r', s2', o1', o2', r1', e1', e2', _⟩ := hat j hj'
    rw [e2, e2']
    unfold allPairs at h3
    have := List.all_eq_true.1 h3 j (by simp; omega)
    have := List.all_eq_true.1 this i (by simp; exact hij)
    unfold pairOK at this
    rw [o2, o2'] at this
    split at this
    case h_2 => cases this
    rename_i x y p hx hy hp
    cases hx; cases hy
    have hpre : (mkDT C ops as pre rs fr1 s1).pre j = p := by
      show pre.getD j [] = p
      simp [hp]
    rw [hpre]
    simp only [Bool.or_eq_true, Bool.and_eq_true, Bool.not_eq_true'] at this
    rcases this with h | ⟨h, h'⟩
    · exact .inl (memN_iff.1 h)
    · refine .inr ⟨h, fun ⟨c1, c2⟩ => ?_⟩
      rw [c1, c2] at h'
      simp at h'
  · intro j hj x hx
    have hj' : j < ops.size := hj
    obtain ⟨p, p1, p2, p3⟩ := pr2 j ops[j] (by simp [hj'])
    have hO : (mkDT C ops as pre rs fr1 s1).O j = ops[j] := by show ops.getD j default = ops[j]; simp [hj']
    have hpre : (mkDT C ops as pre rs fr1 s1).pre j = p := by show pre.getD j [] = p; simp [p1]
    rw [hpre] at hx
    obtain ⟨e, e1, e2, e3, e4⟩ := p2 x hx
    refine ⟨e, by rw [hO]; exact e1, e2, e3, ?_⟩
    rcases e4 with e4 | ⟨qq, e4, e5⟩
    · exact .inl e4
    · right
      show x ∈ pre.getD e.on []
      simp [e4, e5]
  · intro j hj e he hb
    have hj' : j < ops.size := hj
    obtain ⟨p, p1, p2, p3⟩ := pr2 j ops[j] (by simp [hj'])
    have hO : (mkDT C ops as pre rs fr1 s1).O j = ops[j] := by show ops.getD j default = ops[j]; simp [hj']
    rw [hO] at he
    exact p3 e he hb
  · intro i hi hg hcl e hel hce hor
    have hi' : i < ops.size := hi
    have he' : e < ops.size := hel
    obtain ⟨o, q, r, s2, o1, o2, r1, e1, e2, e3, e4, e5, e6, k1, k2, k3, k4, k5, k6, k7, k8, k9, k10⟩ := hat i hi'
    obtain ⟨o', q', r', s2', o1', o2', r1', e1', e2', _⟩ := hat e he'
    obtain ⟨pi, pi1, _⟩ := pr2 i ops[i] (by simp [hi'])
    obtain ⟨pe, pe1, _⟩ := pr2 e ops[e] (by simp [he'])
    have hpi : (mkDT C ops as pre rs fr1 s1).pre i = pi := by show pre.getD i [] = pi; simp [pi1]
    have hpe : (mkDT C ops as pre rs fr1 s1).pre e = pe := by show pre.getD e [] = pe; simp [pe1]
    rw [e3] at hg
    rw [e2] at hcl
    rw [e2'] at hce
    rw [hpi, hpe] at hor
    have hl := looses_get as pre (l := as) 0 i
    rw [o2] at hl
    have hmem : e ∈ (List.range as.length).filter (loose as pre (0 + i)) := by
      rw [List.mem_filter]
      refine ⟨by simp; omega, ?_⟩
      unfold loose
      rw [Nat.zero_add, o2', pi1, pe1]
      simp only [hce]
      rcases hor with ⟨x1, x2⟩ | ⟨x1, x2⟩
      · rw [blt_true x1]
        cases hm : memN e pi
        · rfl
        · exact absurd (memN_iff.1 hm) x2
      · rw [blt_false (Nat.le_of_lt x1)]
        cases hm : memN i pe
        · rfl
        · exact absurd (memN_iff.1 hm) x2
    simp only [Option.map_some, hcl, show Nat.beq 1 1 = true from rfl, cond_true] at hl
    obtain ⟨c1, c2⟩ := chks_spec hck i q _ r hl r1 hg e hmem
    rw [hheap] at c1 c2
    have hrl : ∀ h, chk1 C q.op r h = true → (∀ x ∈ q.op.xs, ∀ u, rdX C.G r.fr x = some u → u.bnd h.sz = true) ∧ ∃ h', evM (rdl C.G r.fr q.op) h q.op = some (r.v, h') := by
      intro h hk
      unfold chk1 at hk
      simp only [Bool.and_eq_true] at hk
      refine ⟨allYoung_spec hk.1, ?_⟩
      rw [evM_congr fun x hx => rdl_eq x hx]
      have := hk.2
      split at this
      · rename_i v' h' hv
        rw [SV.same_eq this] at hv
        exact ⟨h', hv⟩
      · cases this
    rw [e2, e4, e5]
    obtain ⟨y1, y2⟩ := hrl _ c1
    exact ⟨y1, y2, (hrl _ c2).2⟩

theorem evDraw_sound (hmix : P.follows .mixedOrders = true) (hcall : CallOK P V B C callF) {id : Nat} {ops : Array Oper} {l : List (AOper × List Nat)} (hc : cDraw P ops = some l) {fr fr' : Fr} {s s' : St} (he : evDraw C callF l fr s = some (fr', s')) (hpc : s'.pc.holds V) :
    s.pc.holds V ∧ ∀ ι w a, FrRel V ι fr a → HRel V ι B s.h w → GRel C.G ι → ∀ (Q : Exit → Act → World → Prop),
      (∀ a' w' ι', FrRel V ι' fr' a' → HRel V ι' B s'.h w' → Ext ι s.h w ι' s'.h w' → Q .normal a' w') → (Code.region id ops true).wp P Q a w := by
  obtain ⟨h0, D, F, f1, f2, f3, f4⟩ := evDraw_facts hcall hc he hpc
  refine ⟨h0, fun ι w a hfr hh hg Q hQ => wp_region_any hmix ?_⟩
  have hdrew : ({ w with drawn := w.drawn + 1 } : World) = w.drew := rfl
  rw [hdrew]
  have hlim : lim ι (D.h 0).sz = ι := by
    funext id
    by_cases e : id < (D.h 0).sz
    · exact lim_of e
    · rw [lim_ge (by omega)]
      exact (hh.dom id (by rw [← f3]; omega)).symm
  have hget : ∀ i, i < D.n → (Array.replicate ops.size false).getD i true = false := by
    intro i hi
    have : i < ops.size := by rw [F.size]; exact hi
    simp [this]
  have hcnt : ∀ n, n ≤ D.n → cntL (fun i => (Array.replicate ops.size false).getD i true) n = 0 := by
    intro n
    induction n with
    | zero => intro _; rfl
    | succ n ih =>
      intro hn
      unfold cntL
      rw [ih (by omega), hget n (by omega)]
      rfl
  refine draw_any F hg (w0 := w) (ι0 := ι) (by rw [f3]; exact hh) (by rw [f2, f3, f4]; exact hQ) ops.size (Array.replicate ops.size false) a w.drew ι 0 (by simp [F.size]) (by rw [hcnt _ (Nat.le_refl _), F.size, Nat.zero_add]) ?_
  have hno : ∀ i, i < D.n → ¬ ((Array.replicate ops.size false).getD i true = true) := fun i hi => by rw [hget i hi]; simp
  refine ⟨fun j hj hl => absurd hl (hno j hj), by rw [f1]; exact hfr.size, hfr.defers, ?_, Nat.zero_le _, ?_, ?_, ?_, ?_, ?_, ?_, ?_⟩
  · intro t
    refine ⟨fun i hi hl => absurd hl (hno i hi), fun _ => ?_⟩
    rw [f1]; exact hfr.val t
  · intro e he hce
    constructor
    · intro hl; exact absurd hl (hno e he)
    · intro hlt; omega
  · rw [hlim, f3]; exact hh.drew
  · rw [hlim, f3]; exact Ext.drew w
  · intro i hi; exact absurd hi.l (hno i hi.lt)
  · intro i j hi; exact absurd hi.l (hno i hi.lt)
  · intro i hi; omega
  · intro id l hid hl
    rw [hh.dom id (by rw [← f3]; exact hid)] at hl; cases hl
end
end Go.Sx
