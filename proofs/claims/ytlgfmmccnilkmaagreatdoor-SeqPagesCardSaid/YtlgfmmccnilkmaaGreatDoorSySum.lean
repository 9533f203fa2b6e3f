/- The symbolic machine: what is laid down of functions that have to do with plain values alone is sound. No condition: lemmas of the machine. -/
import Derived.Test.YtlgfmmccnilkmaaGreatDoorSySum0
namespace Go.Sx
set_option linter.unusedVariables false
set_option linter.unusedSimpArgs false

def comp (V : Val) (θ : List SV) : Val := ⟨fun i => match θ[i]? with | some (.int _ e) => e.den V | some (.strv e) => e.den V | _ => 0, fun i => match θ[i]? with | some (.bool e) => e.den V | _ => false, V.x⟩
theorem SE.sub_den (V : Val) (θ : List SV) : ∀ e : SE, (e.sub θ).den V = e.den (comp V θ)
  | .lit n => rfl
  | .var i => by
    simp only [SE.sub, SE.den, comp]
    split <;> simp_all [SE.den]
  | .bin op k a b => by simp only [SE.sub, mkBin_den, SE.den, SE.sub_den V θ a, SE.sub_den V θ b]
  | .cv k a => by simp only [SE.sub, mkCv_den, SE.den, SE.sub_den V θ a]
  | .sel s a => by simp only [SE.sub, SE.den, SE.sub_den V θ a]; rfl
theorem SB.sub_den (V : Val) (θ : List SV) : ∀ e : SB, (e.sub θ).den V = e.den (comp V θ)
  | .lit n => rfl
  | .var i => by
    simp only [SB.sub, SB.den, comp]
    split <;> simp_all [SB.den]
  | .cmp op a b => by simp only [SB.sub, mkCmp_den, SB.den, SE.sub_den]
  | .eq a b => by simp only [SB.sub, mkEq_den, SB.den, SB.sub_den V θ a, SB.sub_den V θ b]
  | .not a => by simp only [SB.sub, mkNot_den, SB.den, SB.sub_den V θ a]
  | .and a b => by simp only [SB.sub, mkAnd_den, SB.den, SB.sub_den V θ a, SB.sub_den V θ b]
section
variable {V : Val} {θ : List SV} {ι ι' : Nat → Option Loc} {n : Nat}
mutual
theorem VRel_sub (hι : ∀ id, id < n → ι' id = ι id) : ∀ (v : SV) (c : Value), v.bnd n = true → VRel (comp V θ) ι' v c → VRel V ι (v.sub θ) c
  | .int k e, c, hb, h => by simpa [VRel, SV.sub, SE.sub_den] using h
  | .bool b, c, hb, h => by simpa [VRel, SV.sub, SB.sub_den] using h
  | .str s, c, hb, h => by simpa [VRel, SV.sub] using h
  | .strv e, c, hb, h => by simpa [VRel, SV.sub, SE.sub_den] using h
  | .nilPtr, c, hb, h => by simpa [VRel, SV.sub] using h
  | .ptr id o, c, hb, h => by
    obtain ⟨l, h1, h2⟩ := h
    exact ⟨l, by rw [← hι id (lt_of_blt hb)]; exact h1, h2⟩
  | .nilSlice, c, hb, h => by simpa [VRel, SV.sub] using h
  | .slice id o len cap sz, c, hb, h => by
    obtain ⟨l, a, cc, h1, h2⟩ := h
    exact ⟨l, a, cc, by rw [← hι id (lt_of_blt hb)]; exact h1, h2⟩
  | .func fn fs gs, c, hb, h => by
    obtain ⟨f, g, h1, h2, h3⟩ := h
    simp only [SV.bnd, Bool.and_eq_true] at hb
    exact ⟨f, g, h1, VRels_sub hι fs _ hb.1 h2, VRels_sub hι gs _ hb.2 h3⟩
  | .nilFunc, c, hb, h => by simpa [VRel, SV.sub] using h
  | .iface t v, c, hb, h => by
    obtain ⟨u, h1, h2⟩ := h
    exact ⟨u, h1, VRel_sub hι v _ hb h2⟩
  | .nilIface, c, hb, h => by simpa [VRel, SV.sub] using h
  | .agg cs, c, hb, h => by
    obtain ⟨l, h1, h2⟩ := h
    exact ⟨l, h1, VRels_sub hι cs _ hb h2⟩
  | .tuple cs, c, hb, h => by
    obtain ⟨l, h1, h2⟩ := h
    exact ⟨l, h1, VRels_sub hι cs _ hb h2⟩
  | .lost, c, hb, h => trivial
  | .xsl id e, c, hb, h => by
    obtain ⟨l, n, cc, h1, h2⟩ := h
    exact ⟨l, n, cc, by rw [← hι id (lt_of_blt hb)]; exact h1, by rw [SE.sub_den]; exact h2⟩
  | .xptr id e n m o, c, hb, h => by
    obtain ⟨l, h1, h2⟩ := h
    exact ⟨l, by rw [← hι id (lt_of_blt hb)]; exact h1, by rw [SE.sub_den, SE.sub_den]; exact h2⟩
  | .nilMap, c, hb, h => h
  | .mapv id, c, hb, h => by
    obtain ⟨l, h1, h2⟩ := h
    exact ⟨l, by rw [← hι id (lt_of_blt hb)]; exact h1, h2⟩
  | .vsl id e n m o, c, hb, h => by
    obtain ⟨l, cc, h1, h2⟩ := h
    exact ⟨l, cc, by rw [← hι id (lt_of_blt hb)]; exact h1, by rw [SE.sub_den, SE.sub_den]; exact h2⟩
theorem VRels_sub (hι : ∀ id, id < n → ι' id = ι id) : ∀ (vs : List SV) (l : List Value), SVs.bnd n vs = true → VRels (comp V θ) ι' vs l → VRels V ι (SVs.sub θ vs) l
  | [], l, hb, h => by simpa [VRels, SVs.sub] using h
  | v :: vs, l, hb, h => by
    obtain ⟨c, cs, h1, h2, h3⟩ := h
    simp only [SVs.bnd, Bool.and_eq_true] at hb
    exact ⟨c, cs, h1, VRel_sub hι v _ hb.1 h2, VRels_sub hι vs _ hb.2 h3⟩
end
theorem closed_rel {V V' : Val} {ι ι' : Nat → Option Loc} {v : SV} {c : Value} (hc : v.closed = true) (h : VRel V ι v c) : VRel V' ι' v c := by
  cases v <;> simp only [SV.closed] at hc <;> (try (cases hc; done))
  case int k e => cases e <;> simp only [] at hc <;> (try (cases hc; done)); simpa [VRel, SE.den] using h
  case bool b => cases b <;> simp only [] at hc <;> (try (cases hc; done)); simpa [VRel, SB.den] using h
  all_goals simpa [VRel] using h
end
/- Arguments against their pattern. -/
def Al (θ : List SV) (i : Nat) (l : List SV) : Prop := ∀ j v, l[j]? = some v → θ[i + j]? = some v
theorem Al.left {θ a b : List SV} {i : Nat} (h : Al θ i (a ++ b)) : Al θ i a := fun j v hj => h j v (by rw [List.getElem?_append_left (List.getElem?_eq_some_iff.1 hj).1]; exact hj)
theorem Al.right {θ a b : List SV} {i : Nat} (h : Al θ i (a ++ b)) : Al θ (i + a.length) b := fun j v hj => by
  have := h (a.length + j) v (by rw [List.getElem?_append_right (by omega)]; simpa using hj)
  rwa [← Nat.add_assoc] at this
def InB (V : Val) (l : List SV) : Prop := ∀ v ∈ l, match v with
  | .int k e => k.min ≤ e.den V ∧ e.den V ≤ k.max
  | _ => True
theorem InB.left {V : Val} {a b : List SV} (h : InB V (a ++ b)) : InB V a := fun v hv => h v (List.mem_append_left _ hv)
theorem InB.right {V : Val} {a b : List SV} (h : InB V (a ++ b)) : InB V b := fun v hv => h v (List.mem_append_right _ hv)
theorem InB.of {V : Val} {pc : PC} (hpc : pc.holds V) {l : List SV} (h : (l.all fun v => bdOK pc v) = true) : InB V l := by
  intro v hv
  have hb := List.all_eq_true.1 h v hv
  cases v <;> simp only [] <;> try trivial
  rename_i k e
  simp only [bdOK, Bool.and_eq_true] at hb
  exact ⟨leO_den hb.1 (isHi_some (Int.le_refl _)) (PC.lo_den hpc), leO_den hb.2 (PC.hi_den hpc) (isLo_some (Int.le_refl _))⟩
theorem app?_some {x y : Option (List SV)} {l : List SV} (h : app? x y = some l) : ∃ a b, x = some a ∧ y = some b ∧ l = a ++ b := by
  cases x <;> cases y <;> simp [app?] at h
  exact ⟨_, _, rfl, rfl, h.symm⟩
theorem SE.plug_den {V V' : Val} {x y : SE} (h : x.den V = y.den V') : ∀ e : SE, (e.plug x).den V = (e.plug y).den V'
  | .lit n => rfl
  | .var _ => h
  | .bin op k a b => by simp only [SE.plug, SE.den, SE.plug_den h a, SE.plug_den h b]
  | .cv k a => by simp only [SE.plug, SE.den, SE.plug_den h a]
  | .sel _ _ => rfl
section
variable {V : Val} {ι ι' : Nat → Option Loc} {θ : List SV}
theorem matC_rel {c : C1} {v : SV} {l : List SV} (h : matC c v = some l) : l.length = c.n ∧ ∀ {i : Nat} {x : Value}, InB V l → Al θ i l → VRel V ι v x → VRel (comp V θ) ι' (patC i c) x := by
  cases c with
  | int k =>
    cases v <;> simp only [matC] at h <;> (try (cases h; done))
    rename_i k' e
    cases hk : decide (k = k') <;> simp only [hk, cond_true, cond_false] at h
    · cases h
    cases h
    obtain rfl := of_decide_eq_true hk
    refine ⟨rfl, fun {i x} hb ha hv => ?_⟩
    have := ha 0 _ rfl
    simp only [Nat.add_zero] at this
    simp only [VRel] at hv
    subst hv
    have hin := hb _ (List.mem_cons_self ..)
    have e1 : k.wrap (e.den V) = e.den V := wrap_of_in hin.1 hin.2
    simp [patC, VRel, SE.den, comp, this, e1]
  | pat k kx e =>
    cases v <;> simp only [matC] at h <;> (try (cases h; done))
    rename_i k' a
    cases hk : decide (k = k') <;> simp only [hk, cond_true, cond_false] at h
    · cases h
    obtain rfl := of_decide_eq_true hk
    cases hf : e.find a with
    | none => simp only [hf] at h; cases h
    | some y =>
      simp only [hf] at h
      cases hs : (e.plug y).same a <;> simp only [hs, cond_true, cond_false] at h
      · cases h
      cases h
      refine ⟨rfl, fun {i x} hb ha hv => ?_⟩
      have := ha 0 _ rfl
      simp only [Nat.add_zero] at this
      simp only [VRel] at hv
      subst hv
      have hin := hb _ (List.mem_cons_self ..)
      have e1 : kx.wrap (y.den V) = y.den V := wrap_of_in hin.1 hin.2
      have e2 : y.den V = (SE.cv kx (.var i)).den (comp V θ) := by simp [SE.den, comp, this, e1]
      have e3 := SE.plug_den e2 e
      rw [SE.same_eq hs] at e3
      simp [patC, VRel, e3]
  | bool =>
    cases v <;> simp only [matC] at h <;> (try (cases h; done))
    rename_i b
    cases h
    refine ⟨rfl, fun {i x} _ ha hv => ?_⟩
    have := ha 0 _ rfl
    simp only [Nat.add_zero] at this
    simp only [VRel] at hv
    subst hv
    simp [patC, VRel, SB.den, comp, this]
  | str =>
    cases v <;> simp only [matC] at h <;> (try (cases h; done))
    rename_i e
    cases h
    refine ⟨rfl, fun {i x} _ ha hv => ?_⟩
    have := ha 0 _ rfl
    simp only [Nat.add_zero] at this
    simpa [patC, VRel, SE.den, comp, this] using hv
  | lit u =>
    simp only [matC] at h
    cases hb : (u.closed && u.same v) <;> simp only [hb, cond_true, cond_false] at h
    · cases h
    cases h
    simp only [Bool.and_eq_true] at hb
    obtain rfl := SV.same_eq hb.2
    exact ⟨rfl, fun {i x} _ ha hv => closed_rel hb.1 hv⟩
theorem matCs_rel : ∀ {cs : List C1} {vs l : List SV}, matCs cs vs = some l → l.length = C1s.n cs ∧ ∀ {i : Nat} {xs : List Value}, InB V l → Al θ i l → VRels V ι vs xs → VRels (comp V θ) ι' (patCs i cs) xs
  | [], [], l, h => by
    simp [matCs] at h; subst h
    exact ⟨rfl, fun {i xs} _ ha hv => by simpa [VRels, patCs] using hv⟩
  | [], _ :: _, l, h => by simp [matCs] at h
  | _ :: _, [], l, h => by simp [matCs] at h
  | c :: cs, v :: vs, l, h => by
    obtain ⟨a, b, h1, h2, rfl⟩ := app?_some h
    obtain ⟨i1, i2⟩ := matC_rel (V := V) (ι := ι) (ι' := ι') (θ := θ) h1
    obtain ⟨j1, j2⟩ := matCs_rel h2
    refine ⟨by simp [i1, j1, C1s.n], fun {i xs} hb ha hv => ?_⟩
    obtain ⟨x, xs', rfl, h3, h4⟩ := hv
    have har := ha.right
    rw [i1] at har
    exact ⟨x, xs', rfl, i2 hb.left ha.left h3, j2 hb.right har h4⟩
theorem matA_rel {a : Bool × List C1} {v : SV} {l : List SV} (h : matA a v = some l) : l.length = C1s.n a.2 ∧ ∀ {i : Nat} {x : Value}, InB V l → Al θ i l → VRel V ι v x → VRel (comp V θ) ι' (patA i a) x := by
  obtain ⟨ag, cs⟩ := a
  cases ag with
  | true =>
    cases v <;> simp only [matA] at h <;> (try (cases h; done))
    obtain ⟨j1, j2⟩ := matCs_rel (V := V) (ι := ι) (ι' := ι') (θ := θ) h
    refine ⟨j1, fun {i x} hb ha hv => ?_⟩
    obtain ⟨xs, rfl, h3⟩ := hv
    exact ⟨xs, rfl, j2 hb ha h3⟩
  | false =>
    match cs with
    | [] => simp [matA] at h
    | [c] =>
      obtain ⟨i1, i2⟩ := matC_rel (V := V) (ι := ι) (ι' := ι') (θ := θ) (show matC c v = some l from h)
      exact ⟨by simp [i1, C1s.n], fun {i x} hb ha hv => i2 hb ha hv⟩
    | _ :: _ :: _ => simp [matA] at h
theorem matAs_rel : ∀ {as : List (Bool × List C1)} {vs l : List SV}, matAs as vs = some l → ∀ {i : Nat} {xs : List Value}, InB V l → Al θ i l → VRels V ι vs xs → VRels (comp V θ) ι' (patAs i as) xs
  | [], [], l, h => fun _ ha hv => by simpa [VRels, patAs] using hv
  | [], _ :: _, l, h => by simp [matAs] at h
  | _ :: _, [], l, h => by simp [matAs] at h
  | a :: as, v :: vs, l, h => by
    obtain ⟨p, q, h1, h2, rfl⟩ := app?_some h
    obtain ⟨i1, i2⟩ := matA_rel (V := V) (ι := ι) (ι' := ι') (θ := θ) h1
    intro hb ha hv
    obtain ⟨x, xs', rfl, h3, h4⟩ := hv
    have har := ha.right
    rw [i1] at har
    exact ⟨x, xs', rfl, i2 hb.left ha.left h3, matAs_rel h2 hb.right har h4⟩
end
def RT.at_ (V : Val) : RT → Option SV
  | .dead => none
  | .leaf v => some v
  | .node e a b => bif e.den V then a.at_ V else b.at_ V
theorem samePC'_eq : ∀ {a b : PC}, isLeaf.samePC' a b = true → a = b
  | [], b, h => by cases b <;> simp [isLeaf.samePC'] at h; rfl
  | (a, x) :: l, b, h => by
    cases b with
    | nil => simp [isLeaf.samePC'] at h
    | cons p k =>
      obtain ⟨b, y⟩ := p
      simp only [isLeaf.samePC', Bool.and_eq_true, beq_iff_eq] at h
      rw [SB.same_eq h.1.1, h.1.2, samePC'_eq h.2]
theorem RT.ok_sound {V : Val} {n : Nat} : ∀ {t : RT} {m : TT (SV × SP)} {pc : PC} {u : SV}, t.ok n m pc = true → t.at_ V = some u → pc.holds V → u.bnd n = true ∧ ∃ o p', runO m o = some ((u, p'), []) ∧ p'.pc.holds V
  | .dead, m, pc, u, h, hu, hp => by simp [RT.at_] at hu
  | .leaf v, m, pc, u, h, hu, hp => by
    simp only [RT.at_, Option.some.injEq] at hu
    subst hu
    cases m with
    | fail => simp [RT.ok] at h
    | ask => simp [RT.ok] at h
    | ret x =>
      obtain ⟨v', p'⟩ := x
      simp only [RT.ok, isLeaf, Bool.and_eq_true] at h
      obtain ⟨⟨h1, h2⟩, h3⟩ := h
      obtain rfl := SV.same_eq h1
      exact ⟨h3, [], p', rfl, by rw [samePC'_eq h2]; exact hp⟩
  | .node e a b, m, pc, u, h, hu, hp => by
    cases m with
    | fail => simp [RT.ok] at h
    | ret => simp [RT.ok] at h
    | ask e' t f =>
      simp only [RT.ok, Bool.and_eq_true] at h
      obtain ⟨⟨h1, h2⟩, h3⟩ := h
      obtain rfl := SB.same_eq h1
      simp only [RT.at_] at hu
      cases he : e'.den V <;> simp only [he, cond_true, cond_false] at hu
      · obtain ⟨i1, o, p', i2, i3⟩ := RT.ok_sound h3 hu (fun q hq => by
          rcases List.mem_cons.1 hq with rfl | hq
          · exact he
          · exact hp q hq)
        exact ⟨i1, false :: o, p', i2, i3⟩
      · obtain ⟨i1, o, p', i2, i3⟩ := RT.ok_sound h2 hu (fun q hq => by
          rcases List.mem_cons.1 hq with rfl | hq
          · exact he
          · exact hp q hq)
        exact ⟨i1, true :: o, p', i2, i3⟩
theorem decD_sound {V : Val} {e : SB} {pc pc' : PC} {b : Bool} {o o' : List Bool} (hr : runO (decD e pc) o = some ((b, pc'), o')) (h : pc'.holds V) : pc.holds V ∧ e.den V = b :=
  (dec_sound (V := V) (decD_sim (h := ⟨0, .e⟩) hr)).2 h
theorem RT.app_sound {V : Val} {θ : List SV} : ∀ {t : RT} {pc pc' : PC} {v : SV} {o o' : List Bool}, runO (t.app θ pc) o = some ((v, pc'), o') → pc'.holds V → pc.holds V ∧ ∃ u, t.at_ (comp V θ) = some u ∧ v = u.sub θ
  | .dead, pc, pc', v, o, o', h, hp => by simp [RT.app, runO] at h
  | .leaf u, pc, pc', v, o, o', h, hp => by
    obtain ⟨h1, rfl⟩ := ret_run (show runO (TT.ret (u.sub θ, pc)) o = _ from h)
    simp only [Prod.mk.injEq] at h1
    obtain ⟨rfl, rfl⟩ := h1
    exact ⟨hp, u, rfl, rfl⟩
  | .node e a b, pc, pc', v, o, o', h, hp => by
    unfold RT.app at h
    obtain ⟨⟨x, pc1⟩, o1, h1, h2⟩ := runO_bind h
    cases x <;> simp only [cond_true, cond_false] at h2
    · obtain ⟨i1, u, i2, i3⟩ := RT.app_sound h2 hp
      obtain ⟨j1, j2⟩ := decD_sound h1 i1
      refine ⟨j1, u, ?_, i3⟩
      rw [SB.sub_den] at j2
      simp only [RT.at_, j2, cond_false]
      exact i2
    · obtain ⟨i1, u, i2, i3⟩ := RT.app_sound h2 hp
      obtain ⟨j1, j2⟩ := decD_sound h1 i1
      refine ⟨j1, u, ?_, i3⟩
      rw [SB.sub_den] at j2
      simp only [RT.at_, j2, cond_true]
      exact i2

def hpE : Hp := ⟨0, .e⟩
theorem get_hpE (i : Nat) : hpE.get i = none := Hp.get_ge (Nat.zero_le _)
def SmValid (P : Program) (G : Nat → Option Nat) (D : Hp) (f : Nat) (sm : Sm) : Prop :=
  ∀ (V : Val) (B : Nat) (u : SV), sm.t.at_ V = some u → u.bnd D.sz = true ∧ ∀ ι w cargs, VRels V ι (patAs 0 sm.sh) cargs → HRel V ι B D w → GRel G ι →
    (∀ w, (callFunc f cargs.toArray).run P w = .ok (.enter f cargs.toArray) w) ∧
    Calls P f cargs.toArray w fun e w' => ∃ c ι' σ', e = .returned c ∧ VRel V ι' u c ∧ Ext ι D w ι' σ' w'
theorem smValid_of {P : Program} {C : Cfg} {D : Hp} {f fuel : Nat} {sm : Sm} (hmix : P.follows .mixedOrders = true) (hF : ∀ f af, C.F f = some af → cFunc P f = some af) (hS : ∀ V B, SOK P V B C) (hL : ∀ V B, LOK P V B C)
    (hok : sm.t.ok D.sz (evFnD C fuel f (patAs 0 sm.sh) ⟨D, []⟩) [] = true) : SmValid P C.G D f sm := by
  intro V B u hu
  obtain ⟨h1, o, p', h2, h3⟩ := RT.ok_sound hok hu (fun q hq => by cases hq)
  refine ⟨h1, fun ι w cargs ha hh hg => ?_⟩
  have hr := evFnD_sim (C := C) fuel _ _ _ _ _ _ _ h2
  obtain ⟨k1, k2⟩ := (evFn_ok (V := V) (B := B) hmix hF (hS V B) (hL V B) fuel f _ _ _ _ hr h3).2 ι w cargs ha hh hg
  refine ⟨k1, k2.mono fun e w' he => ?_⟩
  obtain ⟨c, ι', q1, q2, q3, q4⟩ := he
  exact ⟨c, ι', _, q1, q2, q4⟩

def doorOK (D : Hp) : Bool := (List.range D.sz).all fun i => match D.get i with
  | some (.cells cs true) => SVs.bnd D.sz cs && cs.all fun v => match v with
    | .iface _ (.ptr _ _) => true
    | v => v.closed
  | _ => false
theorem HRel.of_frame {V : Val} {ι : Nat → Option Loc} {B : Nat} {σ : Hp} {w w' : World} (h : HRel V ι B σ w) (hs : w.heap.size ≤ w'.heap.size) (hf : ∀ b, b < w.heap.size → w'.heap[b]? = w.heap[b]?) : HRel V ι B σ w' := by
  refine ⟨Nat.le_trans h.base hs, fun id o l ho hl => ?_, h.inj, h.dom⟩
  have := h.obj id o l ho hl
  cases o with
  | dead => trivial
  | cells cs ro =>
    obtain ⟨c, e, fr, hb, rest⟩ := this
    exact ⟨c, e, fr, by rw [hf _ (Array.getElem?_eq_some_iff.1 hb).1]; exact hb, rest⟩
  | big t n z =>
    obtain ⟨c, e, hb, rest⟩ := this
    exact ⟨c, e, by rw [hf _ (Array.getElem?_eq_some_iff.1 hb).1]; exact hb, rest⟩
  | map es =>
    obtain ⟨ms, hb, rest⟩ := this
    exact ⟨ms, by rw [hf _ (Array.getElem?_eq_some_iff.1 hb).1]; exact hb, rest⟩
  | arr s k' n' =>
    obtain ⟨N, h1, h2⟩ := this
    exact ⟨N, h1, h2.imp (fun x => x) fun ⟨c, e, fr, hb, hlt, rest⟩ => ⟨c, e, fr, by rw [hf _ (Array.getElem?_eq_some_iff.1 hb).1]; exact hb, hlt, rest⟩⟩
theorem door_sub {V V' : Val} {ι : Nat → Option Loc} {B : Nat} {D σ : Hp} {w : World} (hD : doorOK D = true) (ha : agree D σ = true) (h : HRel V ι B σ w) : HRel V' (fun id => if id < D.sz then ι id else none) B D w := by
  unfold agree at ha
  simp only [Bool.and_eq_true] at ha
  have hag := List.all_eq_true.1 ha.2
  have hsame : ∀ id o, D.get id = some o → id < D.sz ∧ ∃ cs, o = .cells cs true ∧ σ.get id = some (.cells cs true) := by
    intro id o ho
    have hlt := Hp.get_lt ho
    have := hag id (List.mem_range.2 hlt)
    split at this
    · rename_i a b h1 h2
      rw [ho] at h1
      cases h1
      exact ⟨hlt, a, rfl, by rw [h2, SVs.same_eq this]⟩
    · cases this
  refine ⟨h.base, ?_, ?_, ?_⟩
  · intro id o l ho hl
    obtain ⟨hlt, cs, rfl, h2⟩ := hsame id o ho
    simp only [hlt, if_true] at hl
    obtain ⟨c, e, fr, q1, q2, q3, q4⟩ := h.obj id _ l h2 hl
    refine ⟨c, e, fr, q1, q2, q3, fun j v hj => ?_⟩
    obtain ⟨r1, x, r2, r3⟩ := q4 j v hj
    refine ⟨r1, x, r2, ?_⟩
    have hd := List.all_eq_true.1 hD id (List.mem_range.2 hlt)
    rw [ho] at hd
    simp only [Bool.and_eq_true] at hd
    have hv := List.all_eq_true.1 hd.2 v (List.mem_of_getElem? hj)
    split at hv
    · rename_i t i o
      have hbn : i < D.sz := by
        have : ∀ {l : List SV}, SVs.bnd D.sz l = true → ∀ (j : Nat) (v : SV), l[j]? = some v → v.bnd D.sz = true := by
          intro l
          induction l with
          | nil => intro _ j v hj; simp at hj
          | cons x xs ih =>
            intro hb j v hj
            simp only [SVs.bnd, Bool.and_eq_true] at hb
            cases j with
            | zero => simp at hj; subst hj; exact hb.1
            | succ j => exact ih hb.2 j v (by simpa using hj)
        exact lt_of_blt (this hd.1 j _ hj)
      obtain ⟨u, s1, l2, s2, s3⟩ := r3
      exact ⟨u, s1, l2, by simp [hbn, s2], s3⟩
    · exact closed_rel hv r3
  · intro id id' o o' l l' ho ho' n1 n2 hne hl hl'
    obtain ⟨hlt, c1, e1, h2⟩ := hsame id _ ho
    obtain ⟨hlt', c1', e1', h2'⟩ := hsame id' _ ho'
    subst e1; subst e1'
    simp only [hlt, hlt', if_true] at hl hl'
    exact h.inj id id' _ _ l l' h2 h2' n1 n2 hne hl hl'
  · intro id hid
    show (if id < D.sz then ι id else none) = none
    rw [if_neg (by omega)]
def GofSm (G : Nat → Option Nat) (sm : Sm) : Nat → Option Nat := fun g => bif sm.door then G g else none
def DofSm (D : Hp) (sm : Sm) : Hp := bif sm.door then D else hpE
theorem sm_sound {P : Program} {V : Val} {B : Nat} {G : Nat → Option Nat} {D : Hp} {f : Nat} {sm : Sm} (hD : doorOK D = true) (hG : ∀ g id, G g = some id → id < D.sz) (hv : SmValid P (GofSm G sm) (DofSm D sm) f sm)
    {args : List SV} {p : SP} {m : TT (SV × SP)} (hm : sm.app D args p = some m) {o o' : List Bool} {v : SV} {p' : SP} (hr : runO m o = some ((v, p'), o')) (hp : p'.pc.holds V) : p.pc.holds V ∧
    ∀ ι w cargs, VRels V ι args cargs → HRel V ι B p.h w → GRel G ι →
      (∀ w, (callFunc f cargs.toArray).run P w = .ok (.enter f cargs.toArray) w) ∧
      Calls P f cargs.toArray w fun e w' => ∃ c ι', e = .returned c ∧ VRel V ι' v c ∧ HRel V ι' B p'.h w' ∧ Ext ι p.h w ι' p'.h w' := by
  unfold Sm.app at hm
  split at hm
  case h_2 => cases hm
  rename_i θ hθ
  cases hb : ((θ.all fun v => bdOK p.pc v) && (!sm.door || agree D p.h)) <;> simp only [hb, cond_true, cond_false] at hm
  · cases hm
  cases hm
  simp only [Bool.and_eq_true] at hb
  obtain ⟨⟨v1, pc1⟩, o1, h1, h2⟩ := runO_bind hr
  obtain ⟨h3, rfl⟩ := ret_run h2
  simp only [Prod.mk.injEq] at h3
  obtain ⟨rfl, rfl⟩ := h3
  obtain ⟨k1, u, k2, rfl⟩ := RT.app_sound h1 hp
  refine ⟨k1, fun ι w cargs ha hh hg => ?_⟩
  have hin := InB.of k1 hb.1
  obtain ⟨b1, b2⟩ := hv (comp V θ) B u k2
  let n := (DofSm D sm).sz
  let ι0 : Nat → Option Loc := fun id => if id < n then ι id else none
  have hh0 : HRel (comp V θ) ι0 B (DofSm D sm) w := by
    cases hdr : sm.door
    · have e : DofSm D sm = hpE := by simp [DofSm, hdr]
      have en : n = 0 := by show (DofSm D sm).sz = 0; rw [e]; rfl
      have : ι0 = fun _ => none := by funext id; simp only [ι0, en]; simp
      rw [this, e]
      exact ⟨hh.base, (fun id o l h => by rw [get_hpE] at h; cases h), (fun id id' o o' l l' h => by rw [get_hpE] at h; cases h), fun _ _ => rfl⟩
    · have e : DofSm D sm = D := by simp [DofSm, hdr]
      have ag : agree D p.h = true := by simpa [hdr] using hb.2
      have := door_sub (V' := comp V θ) hD ag hh
      have en : n = D.sz := by show (DofSm D sm).sz = D.sz; rw [e]
      rw [e]
      simpa only [ι0, en] using this
  have hg0 : GRel (GofSm G sm) ι0 := by
    intro g id hgi
    unfold GofSm at hgi
    cases hdr : sm.door <;> simp only [hdr, cond_true, cond_false] at hgi
    · cases hgi
    obtain ⟨l, l1, l2⟩ := hg g id hgi
    have hlt := hG g id hgi
    have en : n = D.sz := by show (DofSm D sm).sz = D.sz; simp [DofSm, hdr]
    exact ⟨l, by simp only [ι0, en, hlt, if_true]; exact l1, l2⟩
  have ha0 : VRels (comp V θ) ι0 (patAs 0 sm.sh) cargs := matAs_rel (θ := θ) hθ hin (fun j v hj => by simpa using hj) ha
  obtain ⟨c1, c2⟩ := b2 ι0 w cargs ha0 hh0 hg0
  refine ⟨c1, c2.mono fun e w' he => ?_⟩
  obtain ⟨c, ι', σ', rfl, r1, r2⟩ := he
  have hno : ∀ b, ¬ Owned ι0 (DofSm D sm) b := by
    rintro b ⟨id, o, l, q1, q0, q2, q3⟩
    cases hdr : sm.door
    · have e : DofSm D sm = hpE := by simp [DofSm, hdr]
      rw [e, get_hpE] at q1; cases q1
    · have e : DofSm D sm = D := by simp [DofSm, hdr]
      rw [e] at q1
      have hd := List.all_eq_true.1 hD id (List.mem_range.2 (Hp.get_lt q1))
      rw [q1] at hd
      cases o with
      | cells cs ro => cases ro <;> first | cases hd | cases q0
      | _ => cases hd
  have hfr : ∀ b, b < w.heap.size → w'.heap[b]? = w.heap[b]? := fun b hb => r2.frame b hb (hno b)
  refine ⟨c, ι, rfl, VRel_sub (n := n) ?_ u c b1 r1, hh.of_frame r2.size hfr, ?_⟩
  · intro id hid
    have := r2.keep id hid
    rw [this]
    simp only [ι0, hid, if_true]
  · exact ⟨fun _ _ => rfl, Nat.le_refl _, r2.size, r2.os, r2.tape, r2.output, fun b hb _ => hfr b hb, fun b hb h => h, fun _ _ _ => rfl, r2.frz⟩
theorem tryS_mem {D : Hp} {args : List SV} {p : SP} {m : TT (SV × SP)} : ∀ {l : List Sm}, tryS D args p l = some m → ∃ sm ∈ l, sm.app D args p = some m
  | [], h => by simp [tryS] at h
  | sm :: l, h => by
    unfold tryS at h
    split at h
    · rename_i m' hm
      cases h
      exact ⟨sm, List.mem_cons_self .., hm⟩
    · obtain ⟨x, h1, h2⟩ := tryS_mem h
      exact ⟨x, List.mem_cons_of_mem _ h1, h2⟩
theorem SOK_of {P : Program} {V : Val} {B : Nat} {C : Cfg} {D : Hp} {tb : Tr (List Sm)} (hD : doorOK D = true) (hG : ∀ g id, C.G g = some id → id < D.sz) (hS : C.S = SofT D tb)
    (htb : ∀ f l, tb.get f = some l → ∀ sm ∈ l, SmValid P (GofSm C.G sm) (DofSm D sm) f sm) : SOK P V B C := by
  intro f args p m hm o v p' o' hr hp
  rw [hS] at hm
  unfold SofT at hm
  split at hm
  case h_2 => cases hm
  rename_i l hl
  obtain ⟨sm, h1, h2⟩ := tryS_mem hm
  exact sm_sound hD hG (htb f l hl sm h1) h2 hr hp
end Go.Sx
