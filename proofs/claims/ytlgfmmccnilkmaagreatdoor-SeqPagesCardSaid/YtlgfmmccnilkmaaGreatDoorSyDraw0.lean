/- The symbolic machine: statements whose order is open; the invariant of a walk through them in any order. No condition: lemmas of the machine. -/
import Derived.Test.YtlgfmmccnilkmaaGreatDoorSyNew
namespace Go.Sx
set_option linter.unusedVariables false
set_option linter.unusedSimpArgs false

theorem memN_iff {x : Nat} : ∀ {l : List Nat}, memN x l = true ↔ x ∈ l
  | [] => by simp [memN]
  | y :: l => by
    simp only [memN, Bool.or_eq_true, List.mem_cons, memN_iff (l := l)]
    constructor
    · rintro (h | h)
      · exact .inl (Nat.eq_of_beq_eq_true h)
      · exact .inr h
    · rintro (rfl | h)
      · exact .inl (by simp)
      · exact .inr h
theorem unionL_mem {x : Nat} : ∀ {p r : List Nat}, x ∈ unionL p r → x ∈ p ∨ x ∈ r
  | [], r, h => .inr h
  | y :: p, r, h => by
    unfold unionL at h
    cases hb : memN y r <;> simp only [hb, cond_true, cond_false] at h
    · rcases List.mem_cons.1 h with rfl | h
      · exact .inl (List.mem_cons_self ..)
      · rcases unionL_mem h with h | h
        · exact .inl (List.mem_cons_of_mem _ h)
        · exact .inr h
    · rcases unionL_mem h with h | h
      · exact .inl (List.mem_cons_of_mem _ h)
      · exact .inr h
theorem predOf_spec {acc : List (List Nat)} : ∀ {es : List Edge} {p : List Nat}, predOf acc es = some p →
    (∀ x ∈ p, ∃ e ∈ es, Region.binds .any e = true ∧ (x = e.on ∨ ∃ q, acc[e.on]? = some q ∧ x ∈ q)) ∧ ∀ e ∈ es, Region.binds .any e = true → e.on < acc.length
  | [], p, h => by simp [predOf] at h; subst h; simp
  | e :: es, p, h => by
    simp only [predOf] at h
    split at h
    · cases h
    · rename_i r hr
      obtain ⟨i1, i2⟩ := predOf_spec hr
      cases hb : Region.binds .any e <;> simp only [hb, cond_true, cond_false] at h
      · cases h
        refine ⟨fun x hx => ?_, fun e' he' hb' => ?_⟩
        · obtain ⟨e', h1, h2⟩ := i1 x hx
          exact ⟨e', List.mem_cons_of_mem _ h1, h2⟩
        · rcases List.mem_cons.1 he' with rfl | he'
          · rw [hb] at hb'; cases hb'
          · exact i2 e' he' hb'
      · split at h
        case h_2 => cases h
        rename_i q hq
        cases h
        refine ⟨fun x hx => ?_, fun e' he' hb' => ?_⟩
        · rcases unionL_mem hx with hx | hx
          · rcases List.mem_cons.1 hx with rfl | hx
            · exact ⟨e, List.mem_cons_self .., hb, .inl rfl⟩
            · exact ⟨e, List.mem_cons_self .., hb, .inr ⟨q, hq, hx⟩⟩
          · obtain ⟨e', h1, h2⟩ := i1 x hx
            exact ⟨e', List.mem_cons_of_mem _ h1, h2⟩
        · rcases List.mem_cons.1 he' with rfl | he'
          · exact (List.getElem?_eq_some_iff.1 hq).1
          · exact i2 e' he' hb'
theorem predsAux_spec : ∀ {os : List Oper} {acc pre : List (List Nat)}, predsAux os acc = some pre →
    (∀ i, i < acc.length → pre[i]? = acc[i]?) ∧ pre.length = acc.length + os.length ∧
    ∀ (j : Nat) (o : Oper), os[j]? = some o → ∃ p, pre[acc.length + j]? = some p ∧ (∀ x ∈ p, ∃ e ∈ o.after.toList, Region.binds .any e = true ∧ e.on < acc.length + j ∧ (x = e.on ∨ ∃ q, pre[e.on]? = some q ∧ x ∈ q)) ∧
      ∀ e ∈ o.after.toList, Region.binds .any e = true → e.on < acc.length + j
  | [], acc, pre, h => by simp [predsAux] at h; subst h; simp
  | o :: os, acc, pre, h => by
    simp only [predsAux] at h
    split at h
    case h_2 => cases h
    rename_i p hp
    obtain ⟨i1, i2, i3⟩ := predsAux_spec h
    obtain ⟨k1, k2⟩ := predOf_spec hp
    simp only [List.length_append, List.length_singleton] at i1 i2 i3
    have hacc : ∀ i, i < acc.length → pre[i]? = acc[i]? := fun i hi => by
      rw [i1 i (by omega), List.getElem?_append_left hi]
    refine ⟨hacc, by simp only [List.length_cons]; omega, ?_⟩
    intro j o' hj
    cases j with
    | zero =>
      simp at hj; subst hj
      refine ⟨p, by rw [Nat.add_zero, i1 _ (by omega)]; simp, fun x hx => ?_, fun e he hb => k2 e he hb⟩
      obtain ⟨e, h1, h2, h3⟩ := k1 x hx
      refine ⟨e, h1, h2, k2 e h1 h2, ?_⟩
      rcases h3 with h3 | ⟨q, h3, h4⟩
      · exact .inl h3
      · exact .inr ⟨q, by rw [hacc _ (k2 e h1 h2)]; exact h3, h4⟩
    | succ j =>
      obtain ⟨p', q1, q2, q3⟩ := i3 j o' (by simpa using hj)
      have e1 : acc.length + 1 + j = acc.length + (j + 1) := by omega
      rw [e1] at q1
      simp only [e1] at q2 q3
      exact ⟨p', q1, q2, q3⟩

theorem eqFn_eq {f g : Fn} (h : eqFn f g = true) : f = g := by
  cases f <;> cases g <;> simp [eqFn] at h
  subst h; rfl
mutual
theorem SV.same_eq : ∀ {a b : SV}, a.same b = true → a = b
  | .int k a, b, h => by
    cases b <;> simp [SV.same] at h
    obtain ⟨rfl, h⟩ := h; rw [SE.same_eq h]
  | .bool a, b, h => by
    cases b <;> simp [SV.same] at h
    rw [SB.same_eq h]
  | .str a, b, h => by
    cases b <;> simp [SV.same] at h
    rename_i s
    have : a = s := by cases a; cases s; simp at h; subst h; rfl
    rw [this]
  | .strv a, b, h => by
    cases b <;> simp [SV.same] at h
    rw [SE.same_eq h]
  | .nilPtr, b, h => by cases b <;> simp [SV.same] at h; rfl
  | .ptr i o, b, h => by cases b <;> simp [SV.same] at h; obtain ⟨rfl, rfl⟩ := h; rfl
  | .nilSlice, b, h => by cases b <;> simp [SV.same] at h; rfl
  | .slice i o l c z, b, h => by cases b <;> simp [SV.same] at h; obtain ⟨⟨⟨⟨rfl, rfl⟩, rfl⟩, rfl⟩, rfl⟩ := h; rfl
  | .func f a c, b, h => by
    cases b <;> simp [SV.same] at h
    obtain ⟨⟨h1, h2⟩, h3⟩ := h
    rw [eqFn_eq h1, SVs.same_eq h2, SVs.same_eq h3]
  | .nilFunc, b, h => by cases b <;> simp [SV.same] at h; rfl
  | .iface t v, b, h => by
    cases b <;> simp [SV.same] at h
    obtain ⟨rfl, h⟩ := h; rw [SV.same_eq h]
  | .nilIface, b, h => by cases b <;> simp [SV.same] at h; rfl
  | .agg a, b, h => by cases b <;> simp [SV.same] at h; rw [SVs.same_eq h]
  | .tuple a, b, h => by cases b <;> simp [SV.same] at h; rw [SVs.same_eq h]
  | .lost, b, h => by cases b <;> simp [SV.same] at h
  | .xsl i e, b, h => by
    cases b <;> simp [SV.same] at h
    obtain ⟨rfl, h⟩ := h; rw [SE.same_eq h]
  | .xptr i e n m o, b, h => by
    cases b <;> simp [SV.same] at h
    obtain ⟨⟨⟨⟨rfl, h1⟩, h2⟩, rfl⟩, rfl⟩ := h; rw [SE.same_eq h1, SE.same_eq h2]
  | .nilMap, b, h => by cases b <;> simp [SV.same] at h; rfl
  | .mapv i, b, h => by
    cases b <;> simp [SV.same] at h
    subst h; rfl
  | .vsl i e n m o, b, h => by
    cases b <;> simp [SV.same] at h
    obtain ⟨⟨⟨⟨rfl, h1⟩, h2⟩, rfl⟩, rfl⟩ := h; rw [SE.same_eq h1, SE.same_eq h2]
theorem SVs.same_eq : ∀ {a b : List SV}, SVs.same a b = true → a = b
  | [], b, h => by cases b <;> simp [SVs.same] at h; rfl
  | x :: xs, b, h => by
    cases b <;> simp [SVs.same] at h
    rw [SV.same_eq h.1, SVs.same_eq h.2]
end

def lim (ι : Nat → Option Loc) (n : Nat) : Nat → Option Loc := fun i => if i < n then ι i else none
theorem lim_some {ι : Nat → Option Loc} {n id : Nat} {l : Loc} (h : lim ι n id = some l) : id < n ∧ ι id = some l := by
  unfold lim at h; split at h
  · exact ⟨‹_›, h⟩
  · cases h
theorem lim_of {ι : Nat → Option Loc} {n id : Nat} (h : id < n) : lim ι n id = ι id := if_pos h
theorem lim_ge {ι : Nat → Option Loc} {n id : Nat} (h : n ≤ id) : lim ι n id = none := if_neg (by omega)
mutual
theorem VRel.lim {V : Val} {ι : Nat → Option Loc} {n : Nat} : ∀ (v : SV) (c : Value), v.bnd n = true → VRel V ι v c → VRel V (lim ι n) v c
  | .int k e, c, hb, hv => by simpa [VRel] using hv
  | .bool b, c, hb, hv => by simpa [VRel] using hv
  | .str s, c, hb, hv => by simpa [VRel] using hv
  | .strv e, c, hb, hv => by simpa [VRel] using hv
  | .nilPtr, c, hb, hv => by simpa [VRel] using hv
  | .ptr id o, c, hb, hv => by
    obtain ⟨l, h1, h2⟩ := hv
    exact ⟨l, by rw [lim_of (lt_of_blt (by simpa [SV.bnd] using hb))]; exact h1, h2⟩
  | .nilSlice, c, hb, hv => by simpa [VRel] using hv
  | .slice id o len cap sz, c, hb, hv => by
    obtain ⟨l, a, ccap, h1, h2⟩ := hv
    exact ⟨l, a, ccap, by rw [lim_of (lt_of_blt (by simpa [SV.bnd] using hb))]; exact h1, h2⟩
  | .func fn fs gs, c, hb, hv => by
    obtain ⟨f, g, h1, h2, h3⟩ := hv
    simp only [SV.bnd, Bool.and_eq_true] at hb
    exact ⟨f, g, h1, VRels.lim fs _ hb.1 h2, VRels.lim gs _ hb.2 h3⟩
  | .nilFunc, c, hb, hv => by simpa [VRel] using hv
  | .iface t v, c, hb, hv => by
    obtain ⟨u, h1, h2⟩ := hv
    exact ⟨u, h1, VRel.lim v _ (by simpa [SV.bnd] using hb) h2⟩
  | .nilIface, c, hb, hv => by simpa [VRel] using hv
  | .agg cs, c, hb, hv => by
    obtain ⟨l, h1, h2⟩ := hv
    exact ⟨l, h1, VRels.lim cs _ (by simpa [SV.bnd] using hb) h2⟩
  | .tuple cs, c, hb, hv => by
    obtain ⟨l, h1, h2⟩ := hv
    exact ⟨l, h1, VRels.lim cs _ (by simpa [SV.bnd] using hb) h2⟩
  | .lost, c, hb, hv => trivial
  | .xsl id e, c, hb, hv => by
    obtain ⟨l, n, ccap, h1, h2⟩ := hv
    exact ⟨l, n, ccap, by rw [lim_of (lt_of_blt (by simpa [SV.bnd] using hb))]; exact h1, h2⟩
  | .xptr id e n m o, c, hb, hv => by
    obtain ⟨l, h1, h2⟩ := hv
    exact ⟨l, by rw [lim_of (lt_of_blt (by simpa [SV.bnd] using hb))]; exact h1, h2⟩
  | .nilMap, c, hb, hv => hv
  | .mapv id, c, hb, hv => by
    obtain ⟨l, h1, h2⟩ := hv
    exact ⟨l, by rw [lim_of (lt_of_blt (by simpa [SV.bnd] using hb))]; exact h1, h2⟩
  | .vsl id e n m o, c, hb, hv => by
    obtain ⟨l, cc, h1, h2⟩ := hv
    exact ⟨l, cc, by rw [lim_of (lt_of_blt (by simpa [SV.bnd] using hb))]; exact h1, h2⟩
theorem VRels.lim {V : Val} {ι : Nat → Option Loc} {n : Nat} : ∀ (vs : List SV) (l : List Value), SVs.bnd n vs = true → VRels V ι vs l → VRels V (lim ι n) vs l
  | [], l, hb, hv => by simpa [VRels] using hv
  | v :: vs, l, hb, hv => by
    obtain ⟨c, cs, h1, h2, h3⟩ := hv
    simp only [SVs.bnd, Bool.and_eq_true] at hb
    exact ⟨c, cs, h1, VRel.lim v _ hb.1 h2, VRels.lim vs _ hb.2 h3⟩
end
theorem SVs.bnd_mem {n : Nat} : ∀ {vs : List SV} {v : SV}, SVs.bnd n vs = true → v ∈ vs → v.bnd n = true
  | [], v, h, hv => by cases hv
  | x :: xs, v, h, hv => by
    simp only [SVs.bnd, Bool.and_eq_true] at h
    rcases List.mem_cons.1 hv with rfl | hv
    · exact h.1
    · exact SVs.bnd_mem h.2 hv
mutual
theorem SV.bnd_le {n k : Nat} (h : n ≤ k) : ∀ (v : SV), v.bnd n = true → v.bnd k = true
  | .int _ _, _ => rfl
  | .bool _, _ => rfl
  | .str _, _ => rfl
  | .strv _, _ => rfl
  | .nilPtr, _ => rfl
  | .ptr i o, hv => by
    have := lt_of_blt (show Nat.blt i n = true from hv)
    exact blt_true (by omega)
  | .nilSlice, _ => rfl
  | .slice i _ _ _ _, hv => by
    have := lt_of_blt (show Nat.blt i n = true from hv)
    exact blt_true (by omega)
  | .func _ a b, hv => by
    simp only [SV.bnd, Bool.and_eq_true] at hv ⊢
    exact ⟨SVs.bnd_le h a hv.1, SVs.bnd_le h b hv.2⟩
  | .nilFunc, _ => rfl
  | .iface _ v, hv => by simp only [SV.bnd] at hv ⊢; exact SV.bnd_le h v hv
  | .nilIface, _ => rfl
  | .agg a, hv => by simp only [SV.bnd] at hv ⊢; exact SVs.bnd_le h a hv
  | .tuple a, hv => by simp only [SV.bnd] at hv ⊢; exact SVs.bnd_le h a hv
  | .lost, _ => rfl
  | .xsl i _, hv => by
    have := lt_of_blt (show Nat.blt i n = true from hv)
    exact blt_true (by omega)
  | .xptr i _ _ _ _, hv => by
    have := lt_of_blt (show Nat.blt i n = true from hv)
    exact blt_true (by omega)
  | .nilMap, _ => rfl
  | .mapv i, hv => by
    have := lt_of_blt (show Nat.blt i n = true from hv)
    exact blt_true (by omega)
  | .vsl i _ _ _ _, hv => by
    have := lt_of_blt (show Nat.blt i n = true from hv)
    exact blt_true (by omega)
theorem SVs.bnd_le {n k : Nat} (h : n ≤ k) : ∀ (v : List SV), SVs.bnd n v = true → SVs.bnd k v = true
  | [], _ => rfl
  | a :: as, hv => by
    simp only [SVs.bnd, Bool.and_eq_true] at hv ⊢
    exact ⟨SV.bnd_le h a hv.1, SVs.bnd_le h as hv.2⟩
end
theorem hasT_mem {t : Nat} : ∀ {l : List X}, X.t t ∈ l → hasT t l = true
  | [], h => by cases h
  | x :: l, h => by
    rcases List.mem_cons.1 h with rfl | h
    · simp [hasT]
    · have ih := hasT_mem (l := l) h
      cases x <;> simp [hasT, ih]

theorem samePtr_more {h h2 : Hp} (hx : ∀ id x, h.get id = some x → h2.get id = some x) {xv yv : SV} {b : Bool} (h3 : samePtr h xv yv = some b) : samePtr h2 xv yv = some b := by
  unfold samePtr at h3 ⊢
  split at h3
  case h_2 => cases h3
  rename_i i o j p
  cases hb : Nat.beq i j <;> simp only [hb, cond_true, cond_false] at h3 ⊢
  · split at h3
    case h_2 => cases h3
    rename_i cs r ds q hi hj
    rw [hx _ _ (objC_eq hi), hx _ _ (objC_eq hj)]
    exact h3
  · exact h3
theorem sameIf_more {h h2 : Hp} (hx : ∀ id x, h.get id = some x → h2.get id = some x) {lit : Bool} {ts : List Nat} {xv yv : SV} {b : Bool} (h3 : sameIf h lit ts xv yv = some b) : sameIf h2 lit ts xv yv = some b := by
  unfold sameIf at h3 ⊢
  split at h3
  · exact h3
  · exact h3
  · exact h3
  · rename_i t v u v'
    cases hb : Nat.beq t u <;> simp only [hb, cond_true, cond_false] at h3 ⊢
    · exact h3
    · cases hm : memT t ts <;> simp only [hm, cond_true, cond_false] at h3 ⊢
      · cases h3
      · exact samePtr_more hx h3
  · cases h3
theorem ldx_more {h h2 : Hp} (hx : ∀ id x, h.get id = some x → h2.get id = some x) {ag : Bool} {cnt id m o : Nat} {e n : SE} {v : SV} {h' : Hp} (he : ldx h ag cnt id e n m o = some (v, h')) : ldx h2 ag cnt id e n m o = some (v, h2) := by
  unfold ldx at he ⊢
  split at he
  case h_3 => cases he
  case h_2 =>
    rename_i t mm z hg
    rw [hx _ _ hg]
    simp only
    cases hb : (!ag && Nat.beq cnt 1 && Nat.beq m 1) <;> simp only [hb, cond_true, cond_false] at he ⊢
    · cases he
    split at he
    case h_2 => cases he
    rename_i lo hi hr
    cases hb : (Nat.ble (o + hi + 1) mm && clearB t (o + lo) (hi + 1 - lo)) <;> simp only [hb, cond_true, cond_false] at he ⊢
    · cases he
    · cases he; rfl
  rename_i s ks n' hg
  rw [hx _ _ hg]
  simp only
  cases hb : (Nat.beq m ks.length && Nat.ble (o + cnt) m && n.same n') <;> simp only [hb, cond_true, cond_false] at he ⊢
  · cases he
  cases ag <;> simp only [cond_true, cond_false] at he ⊢
  · split at he
    · cases he; rfl
    · cases he
  · cases he; rfl
theorem evM_more {rd : X → Option SV} {h h2 : Hp} {q : AOp} (hq : q.cls = 1) (hx : ∀ id x, h.get id = some x → h2.get id = some x) {v : SV} {h' : Hp} (he : evM rd h q = some (v, h')) : evM rd h2 q = some (v, h2) := by
  have hl : ∀ id o n vs, ldc h id o n = some vs → ldc h2 id o n = some vs := by
    intro id o n vs h1
    unfold ldc at h1 ⊢
    split at h1
    · rename_i cs ro hg
      rw [hx _ _ hg]; exact h1
    · rename_i t m z hg
      rw [hx _ _ hg]; exact h1
    · cases h1
  cases q <;> simp [AOp.cls] at hq <;> simp only [evM] at he ⊢
  case load ag n x =>
    split at he
    case h_3 => cases he
    case h_1 => exact ldx_more hx he
    rename_i id o h1
    split at he
    case h_2 => cases he
    rename_i vs hvs
    rw [hl _ _ _ _ hvs]
    cases ag <;> simp only [cond_true, cond_false] at he ⊢
    · split at he
      · simp only [Option.some.injEq, Prod.mk.injEq] at he
        simp [he.1]
      · cases he
    · simp only [Option.some.injEq, Prod.mk.injEq] at he
      simp [he.1]
  case slarr n sz x lo hi =>
    split at he
    case h_2 => cases he
    rename_i id o lov hiv k1 k2 k3
    split at he
    case h_2 => cases he
    rename_i ln hn vs k4 k5 k6
    cases hb : (Nat.ble hn n && Nat.ble ln hn) <;> simp only [hb, cond_true, cond_false] at he
    · cases he
    · simp only [Option.some.injEq, Prod.mk.injEq] at he
      simp only [k4, k5, hl _ _ _ _ k6, hb, cond_true, he.1]
  case ptrEq n x y =>
    split at he
    case h_2 => cases he
    rename_i xv yv k1 k2
    split at he
    case h_2 => cases he
    rename_i b h3
    have : samePtr h2 xv yv = some b := samePtr_more hx h3
    rw [this]
    simp only [Option.some.injEq, Prod.mk.injEq] at he
    simp [he.1]
  case mget kk ok z m i =>
    unfold m_mget at he ⊢
    split at he
    · rename_i k a0 k1 k2
      cases hb : decide (k = kk) <;> simp only [hb, cond_true, cond_false] at he
      · cases he
      simp only [Option.some.injEq, Prod.mk.injEq] at he
      obtain ⟨rfl, rfl⟩ := he
      rfl
    · rename_i id k a0 k1 k2
      split at he
      case h_2 => cases he
      rename_i es hg
      rw [hx _ _ hg]
      simp only
      cases hb : decide (k = kk) <;> simp only [hb, cond_true, cond_false] at he ⊢
      · cases he
      split at he
      · simp only [Option.some.injEq, Prod.mk.injEq] at he
        obtain ⟨rfl, rfl⟩ := he
        rfl
      · simp only [Option.some.injEq, Prod.mk.injEq] at he
        obtain ⟨rfl, rfl⟩ := he
        rfl
      · cases he
    · cases he
  case ifEq n l ts x y =>
    split at he
    case h_2 => cases he
    rename_i xv yv k1 k2
    split at he
    case h_2 => cases he
    rename_i b h3
    rw [sameIf_more hx h3]
    simp only [Option.some.injEq, Prod.mk.injEq] at he
    simp [he.1]
theorem evM_read {rd : X → Option SV} {h h' : Hp} {q : AOp} (hq : q.cls = 1) {v : SV} (he : evM rd h q = some (v, h')) : h' = h := by
  have := evM_more hq (h2 := h) (fun _ _ h => h) he
  rw [he] at this
  simpa using this
end Go.Sx
