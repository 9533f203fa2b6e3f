/- The symbolic machine in use: a law's tree of paths against its tree of decisions, in parts; tables of summaries; a law's call. No condition: lemmas of the machine. -/
import Derived.Test.YtlgfmmccnilkmaaGreatDoorSySum
import Derived.Test.YtlgfmmccnilkmaaGreatDoorSyOpen
namespace Go.Sx
set_option linter.unusedVariables false
set_option linter.unusedSimpArgs false
open Go.RowKit

theorem TT.go_fail {α : Type} : ∀ l : List Bool, (TT.fail : TT α).go l = .fail
  | [] => rfl
  | _ :: _ => rfl
theorem TT.go_append {α : Type} : ∀ (l l' : List Bool) (m : TT α), m.go (l ++ l') = (m.go l).go l'
  | [], l', m => rfl
  | b :: l, l', m => by
    cases m with
    | fail => simp only [List.cons_append, TT.go, TT.go_fail]
    | ret a => simp only [List.cons_append, TT.go, TT.go_fail]
    | ask e t f => simp only [List.cons_append, TT.go]; exact TT.go_append l l' _
def isAsk {α : Type} (e : SB) (m : TT α) : Bool := TT.casesOn m false (fun _ => false) fun e' _ _ => e'.same e
def isTrueV : SV → Bool
  | .bool (.lit true) => true
  | _ => false
def isResV (e : SB) : SV → Bool
  | .bool e' => e'.same e
  | _ => false
def Pt.okD : Pt → TT (SV × SP) → PC → Bool
  | .fin, m, pc => TT.casesOn m false (fun x => isTrueV x.1 && samePC x.2.pc pc) fun _ _ _ => false
  | .dead, _, _ => true
  | .res e, m, pc => TT.casesOn m false (fun x => isResV e x.1 && samePC x.2.pc pc) fun _ _ _ => false
  | .node e a b, m, pc => TT.casesOn m false (fun _ => false) fun e' t f => e'.same e && a.okD t ((e, true) :: pc) && b.okD f ((e, false) :: pc)
theorem Pt.okD_node {M : TT (SV × SP)} {e : SB} {a b : Pt} {p : List Bool} {pc : PC} (h : isAsk e (M.go p) = true) (ha : a.okD (M.go (p ++ [true])) ((e, true) :: pc) = true) (hb : b.okD (M.go (p ++ [false])) ((e, false) :: pc) = true) : (Pt.node e a b).okD (M.go p) pc = true := by
  rw [TT.go_append] at ha hb
  generalize M.go p = m at h ha hb
  cases m with
  | fail => simp [isAsk] at h
  | ret => simp [isAsk] at h
  | ask e' t f =>
    simp only [isAsk] at h
    simp only [TT.go, cond_true, cond_false] at ha hb
    simp only [Pt.okD, h, ha, hb, Bool.and_self]
theorem RT.ok_node {n : Nat} {M : TT (SV × SP)} {e : SB} {a b : RT} {p : List Bool} {pc : PC} (h : isAsk e (M.go p) = true) (ha : a.ok n (M.go (p ++ [true])) ((e, true) :: pc) = true) (hb : b.ok n (M.go (p ++ [false])) ((e, false) :: pc) = true) : (RT.node e a b).ok n (M.go p) pc = true := by
  rw [TT.go_append] at ha hb
  generalize M.go p = m at h ha hb
  cases m with
  | fail => simp [isAsk] at h
  | ret => simp [isAsk] at h
  | ask e' t f =>
    simp only [isAsk] at h
    simp only [TT.go, cond_true, cond_false] at ha hb
    simp only [RT.ok, h, ha, hb, Bool.and_self]
theorem Pt.okD_sound {V : Val} : ∀ {t : Pt} {m : TT (SV × SP)} {pc : PC}, t.okD m pc = true → t.due V → pc.holds V → ∃ o b p', runO m o = some ((.bool b, p'), []) ∧ b.den V = true ∧ p'.pc.holds V
  | .fin, m, pc, h, hd, hp => by
    cases m with
    | fail => simp [Pt.okD] at h
    | ask => simp [Pt.okD] at h
    | ret x =>
      obtain ⟨v, p'⟩ := x
      simp only [Pt.okD, Bool.and_eq_true] at h
      have hv : v = .bool (.lit true) := by
        have := h.1
        unfold isTrueV at this
        split at this
        · rfl
        · cases this
      subst hv
      exact ⟨[], _, p', rfl, rfl, by rw [samePC_eq h.2]; exact hp⟩
  | .dead, m, pc, h, hd, hp => hd.elim
  | .res e, m, pc, h, hd, hp => by
    cases m with
    | fail => simp [Pt.okD] at h
    | ask => simp [Pt.okD] at h
    | ret x =>
      obtain ⟨v, p'⟩ := x
      simp only [Pt.okD, Bool.and_eq_true] at h
      have hv : v = .bool e := by
        have := h.1
        unfold isResV at this
        split at this
        · rw [SB.same_eq this]
        · cases this
      subst hv
      exact ⟨[], _, p', rfl, hd, by rw [samePC_eq h.2]; exact hp⟩
  | .node e a b, m, pc, h, hd, hp => by
    cases m with
    | fail => simp [Pt.okD] at h
    | ret => simp [Pt.okD] at h
    | ask e' t f =>
      simp only [Pt.okD, Bool.and_eq_true] at h
      obtain ⟨⟨h1, h2⟩, h3⟩ := h
      obtain rfl := SB.same_eq h1
      cases he : e'.den V
      · obtain ⟨o, bb, p', i1, i2, i3⟩ := Pt.okD_sound h3 (hd.2 he) (fun q hq => by
          rcases List.mem_cons.1 hq with rfl | hq
          · exact he
          · exact hp q hq)
        exact ⟨false :: o, bb, p', i1, i2, i3⟩
      · obtain ⟨o, bb, p', i1, i2, i3⟩ := Pt.okD_sound h2 (hd.1 he) (fun q hq => by
          rcases List.mem_cons.1 hq with rfl | hq
          · exact he
          · exact hp q hq)
        exact ⟨true :: o, bb, p', i1, i2, i3⟩
/- Paths that are never come to, by what the other decisions on them say. -/
def clashAux : PC → PC → Bool
  | _, [] => false
  | pre, (e, b) :: post => (match atomK (pre ++ post) e with
    | some b' => b' != b
    | none => false) || clashAux ((e, b) :: pre) post
def ruledOut (pc : PC) (e : SE) : Nat → Int → Bool
  | 0, _ => true
  | n + 1, x => (match PC.known [] (.cmp .eql e (.lit x)) with
    | some false => true
    | _ => match PC.find pc (.cmp .eql e (.lit x)) with
      | some false => true
      | _ => false) && ruledOut pc e n (x + 1)
def exhausted (pc : PC) : PC → Bool
  | (.cmp .eql e (.lit _), false) :: _ => (match pc.lo e with
    | some lo => (match pc.hi e with
      | some hi => (match hi - lo with
        | .ofNat n => bif Nat.ble n 1100 then ruledOut pc e (n + 1) lo else false
        | .negSucc _ => true)
      | none => false)
    | none => false)
  | _ => false
def clash (pc : PC) : Bool := exhausted pc pc || clashAux [] pc
theorem clashAux_sound {V : Val} : ∀ {post pre : PC}, clashAux pre post = true → (PC.holds V pre) → (PC.holds V post) → False
  | [], pre, h, h1, h2 => by simp [clashAux] at h
  | (e, b) :: post, pre, h, h1, h2 => by
    simp only [clashAux, Bool.or_eq_true] at h
    have h3 : PC.holds V post := fun q hq => h2 q (List.mem_cons_of_mem _ hq)
    have h4 := h2 (e, b) (List.mem_cons_self ..)
    rcases h with h | h
    · split at h
      · rename_i b' hb
        have : (pre ++ post : PC).holds V := fun q hq => by
          rcases List.mem_append.1 hq with hq | hq
          · exact h1 q hq
          · exact h3 q hq
        have := atomK_den this hb
        simp only at h4
        rw [this] at h4
        subst h4
        simp at h
      · cases h
    · exact clashAux_sound h (fun q hq => by
        rcases List.mem_cons.1 hq with rfl | hq
        · exact h4
        · exact h1 q hq) h3
theorem ruledOut_sound {V : Val} {pc : PC} {e : SE} (h : pc.holds V) : ∀ {n : Nat} {x : Int}, ruledOut pc e n x = true → ¬ (x ≤ e.den V ∧ e.den V < x + n)
  | 0, x, hr, hx => by omega
  | n + 1, x, hr, hx => by
    simp only [ruledOut, Bool.and_eq_true] at hr
    have h1 : e.den V ≠ x := by
      have hr1 := hr.1
      split at hr1
      · rename_i hk
        have := PC.known_den (V := V) (pc := []) (fun q hq => by cases hq) hk
        simpa [SB.den, cmpI, SE.den] using this
      · split at hr1
        · rename_i hf
          have := PC.find_den h hf
          simpa [SB.den, cmpI, SE.den] using this
        · cases hr1
    exact ruledOut_sound h hr.2 ⟨by omega, by omega⟩
theorem clash_sound {V : Val} {pc : PC} (hc : clash pc = true) (h : pc.holds V) : False := by
  simp only [clash, Bool.or_eq_true] at hc
  rcases hc with hc | hc
  · unfold exhausted at hc
    split at hc
    case h_2 => cases hc
    rename_i e _ _
    split at hc
    case h_2 => cases hc
    rename_i lo hlo
    split at hc
    case h_2 => cases hc
    rename_i hi hhi
    have q1 := PC.lo_den h _ hlo
    have q2 := PC.hi_den h _ hhi
    split at hc
    · rename_i n hn
      cases hb : Nat.ble n 1100 <;> simp only [hb, cond_true, cond_false] at hc
      · cases hc
      exact ruledOut_sound h hc ⟨q1, by simp only [Int.ofNat_eq_natCast] at hn; omega⟩
    · rename_i n hn
      have := Int.negSucc_lt_zero n
      omega
  · exact clashAux_sound hc (fun q hq => by cases hq) h
def Pt.dueC : Pt → PC → Bool
  | .fin, _ => true
  | .dead, pc => clash pc
  | .res e, pc => (match PC.known pc e with
    | some b => b
    | none => false) || clash pc
  | .node e a b, pc => a.dueC ((e, true) :: pc) && b.dueC ((e, false) :: pc)
theorem Pt.dueC_sound {V : Val} : ∀ {t : Pt} {pc : PC}, t.dueC pc = true → pc.holds V → t.due V
  | .fin, pc, h, hp => trivial
  | .dead, pc, h, hp => clash_sound h hp
  | .res e, pc, h, hp => by
    simp only [Pt.dueC, Bool.or_eq_true] at h
    rcases h with h | h
    · split at h
      · rename_i b hb
        subst h
        exact PC.known_den hp hb
      · cases h
    · exact (clash_sound h hp).elim
  | .node e a b, pc, h, hp => by
    simp only [Pt.dueC, Bool.and_eq_true] at h
    exact ⟨fun he => Pt.dueC_sound h.1 fun q hq => by
      rcases List.mem_cons.1 hq with rfl | hq
      · exact he
      · exact hp q hq, fun he => Pt.dueC_sound h.2 fun q hq => by
      rcases List.mem_cons.1 hq with rfl | hq
      · exact he
      · exact hp q hq⟩
/- The same, where some sets of decisions are known not to be met together. -/
def refutes (pc R : PC) : Bool := R.all fun p => match PC.find pc p.1 with
  | some b => b == p.2
  | none => false
def Pt.dueR (Rs : List PC) : Pt → PC → Bool
  | .fin, _ => true
  | .dead, pc => Rs.any (refutes pc) || clash pc
  | .res e, pc => (match PC.known pc e with
    | some b => b
    | none => false) || Rs.any (refutes ((e, false) :: pc)) || clash pc
  | .node e a b, pc => a.dueR Rs ((e, true) :: pc) && b.dueR Rs ((e, false) :: pc)
theorem refutes_holds {V : Val} {pc R : PC} (h : refutes pc R = true) (hp : pc.holds V) : R.holds V := by
  intro p hpR
  have := List.all_eq_true.1 h p hpR
  split at this
  · rename_i b hb
    have h1 := PC.find_den hp hb
    simp only [beq_iff_eq] at this
    rw [h1, this]
  · cases this
theorem Pt.dueR_sound {V : Val} {Rs : List PC} (hR : ∀ R ∈ Rs, ¬ PC.holds V R) : ∀ {t : Pt} {pc : PC}, t.dueR Rs pc = true → pc.holds V → t.due V
  | .fin, pc, h, hp => trivial
  | .dead, pc, h, hp => by
    simp only [Pt.dueR, Bool.or_eq_true, List.any_eq_true] at h
    rcases h with ⟨R, h1, h2⟩ | h
    · exact hR R h1 (refutes_holds h2 hp)
    · exact clash_sound h hp
  | .res e, pc, h, hp => by
    simp only [Pt.dueR, Bool.or_eq_true, List.any_eq_true] at h
    rcases h with (h | ⟨R, h1, h2⟩) | h
    · split at h
      · rename_i b hb
        subst h
        exact PC.known_den hp hb
      · cases h
    · cases he : e.den V
      · exact (hR R h1 (refutes_holds h2 fun q hq => by
          rcases List.mem_cons.1 hq with rfl | hq
          · exact he
          · exact hp q hq)).elim
      · exact he
    · exact (clash_sound h hp).elim
  | .node e a b, pc, h, hp => by
    simp only [Pt.dueR, Bool.and_eq_true] at h
    exact ⟨fun he => Pt.dueR_sound hR h.1 fun q hq => by
      rcases List.mem_cons.1 hq with rfl | hq
      · exact he
      · exact hp q hq, fun he => Pt.dueR_sound hR h.2 fun q hq => by
      rcases List.mem_cons.1 hq with rfl | hq
      · exact he
      · exact hp q hq⟩
/- Trees in parts: a part has a dead end where the next one begins. -/
def Pt.plug : Pt → List Bool → Pt → Pt
  | _, [], x => x
  | .node e a b, true :: p, x => .node e (a.plug p x) b
  | .node e a b, false :: p, x => .node e a (b.plug p x)
  | t, _ :: _, _ => t
def Pt.pcAt : Pt → List Bool → PC → PC
  | .node e a _, true :: p, pc => a.pcAt p ((e, true) :: pc)
  | .node e _ b, false :: p, pc => b.pcAt p ((e, false) :: pc)
  | _, _, pc => pc
theorem Pt.okD_plug : ∀ {t : Pt} {p : List Bool} {m : TT (SV × SP)} {pc : PC} {x : Pt}, t.okD m pc = true → x.okD (m.go p) (t.pcAt p pc) = true → (t.plug p x).okD m pc = true
  | t, [], m, pc, x, h, hx => by
    have e : t.pcAt [] pc = pc := by cases t <;> rfl
    rw [e] at hx
    have e2 : t.plug [] x = x := by cases t <;> rfl
    rw [e2]
    exact hx
  | .fin, b :: p, m, pc, x, h, hx => by cases b <;> exact h
  | .dead, b :: p, m, pc, x, h, hx => by cases b <;> exact h
  | .res e, b :: p, m, pc, x, h, hx => by cases b <;> exact h
  | .node e a b, true :: p, m, pc, x, h, hx => by
    cases m with
    | fail => simp [Pt.okD] at h
    | ret => simp [Pt.okD] at h
    | ask e' t f =>
      simp only [Pt.okD, Bool.and_eq_true] at h
      have := Pt.okD_plug h.1.2 (show x.okD (t.go p) (a.pcAt p ((e, true) :: pc)) = true from hx)
      simp only [Pt.plug, Pt.okD, h.1.1, this, h.2, Bool.and_self]
  | .node e a b, false :: p, m, pc, x, h, hx => by
    cases m with
    | fail => simp [Pt.okD] at h
    | ret => simp [Pt.okD] at h
    | ask e' t f =>
      simp only [Pt.okD, Bool.and_eq_true] at h
      have := Pt.okD_plug h.2 (show x.okD (f.go p) (b.pcAt p ((e, false) :: pc)) = true from hx)
      simp only [Pt.plug, Pt.okD, h.1.1, this, h.1.2, Bool.and_self]
def RT.plug : RT → List Bool → RT → RT
  | _, [], x => x
  | .node e a b, true :: p, x => .node e (a.plug p x) b
  | .node e a b, false :: p, x => .node e a (b.plug p x)
  | t, _ :: _, _ => t
def RT.pcAt : RT → List Bool → PC → PC
  | .node e a _, true :: p, pc => a.pcAt p ((e, true) :: pc)
  | .node e _ b, false :: p, pc => b.pcAt p ((e, false) :: pc)
  | _, _, pc => pc
theorem RT.ok_plug {n : Nat} : ∀ {t : RT} {p : List Bool} {m : TT (SV × SP)} {pc : PC} {x : RT}, t.ok n m pc = true → x.ok n (m.go p) (t.pcAt p pc) = true → (t.plug p x).ok n m pc = true
  | t, [], m, pc, x, h, hx => by
    have e : t.pcAt [] pc = pc := by cases t <;> rfl
    rw [e] at hx
    have e2 : t.plug [] x = x := by cases t <;> rfl
    rw [e2]
    exact hx
  | .leaf v, b :: p, m, pc, x, h, hx => by cases b <;> exact h
  | .dead, b :: p, m, pc, x, h, hx => by cases b <;> exact h
  | .node e a b, true :: p, m, pc, x, h, hx => by
    cases m with
    | fail => simp [RT.ok] at h
    | ret => simp [RT.ok] at h
    | ask e' t f =>
      simp only [RT.ok, Bool.and_eq_true] at h
      have := RT.ok_plug h.1.2 (show x.ok n (t.go p) (a.pcAt p ((e, true) :: pc)) = true from hx)
      simp only [RT.plug, RT.ok, h.1.1, this, h.2, Bool.and_self]
  | .node e a b, false :: p, m, pc, x, h, hx => by
    cases m with
    | fail => simp [RT.ok] at h
    | ret => simp [RT.ok] at h
    | ask e' t f =>
      simp only [RT.ok, Bool.and_eq_true] at h
      have := RT.ok_plug h.2 (show x.ok n (f.go p) (b.pcAt p ((e, false) :: pc)) = true from hx)
      simp only [RT.plug, RT.ok, h.1.1, this, h.1.2, Bool.and_self]
def mkTb : List (Nat × List Sm) → Tr (List Sm)
  | [] => .e
  | (f, l) :: r => match Tr.set 40 (mkTb r) f l with
    | some t => t
    | none => .e
theorem mkTb_get : ∀ {T : List (Nat × List Sm)} {f : Nat} {l : List Sm}, (mkTb T).get f = some l → (f, l) ∈ T
  | [], f, l, h => by simp [mkTb, Tr.get_e] at h
  | (g, k) :: r, f, l, h => by
    unfold mkTb at h
    split at h
    · rename_i t ht
      rw [Tr.get_set 40 _ _ _ _ ht] at h
      split at h
      · rename_i e
        cases h; subst e
        exact List.mem_cons_self ..
      · exact List.mem_cons_of_mem _ (mkTb_get h)
    · rw [Tr.get_e] at h; cases h
def AllV (P : Program) (G : Nat → Option Nat) (D : Hp) : List (Nat × List Sm) → Prop
  | [] => True
  | (f, l) :: r => (∀ sm ∈ l, SmValid P (GofSm G sm) (DofSm D sm) f sm) ∧ AllV P G D r
theorem AllV.get {P : Program} {G : Nat → Option Nat} {D : Hp} : ∀ {T : List (Nat × List Sm)}, AllV P G D T → ∀ f l, (f, l) ∈ T → ∀ sm ∈ l, SmValid P (GofSm G sm) (DofSm D sm) f sm
  | [], h, f, l, hm => by cases hm
  | (g, k) :: r, h, f, l, hm => by
    rcases List.mem_cons.1 hm with e | hm
    · cases e; exact h.1
    · exact AllV.get h.2 f l hm
noncomputable def cfgT (F : Nat → Option AFunc) (G : Nat → Option Nat) (D : Hp) (T : List (Nat × List Sm)) : Cfg := ⟨F, G, SofT D (mkTb T), fun _ _ _ => none⟩
theorem cfgT_S {P : Program} {F : Nat → Option AFunc} {G : Nat → Option Nat} {D : Hp} {T : List (Nat × List Sm)} (hD : doorOK D = true) (hG : ∀ g id, G g = some id → id < D.sz) (h : AllV P G D T) (V : Val) (B : Nat) : SOK P V B (cfgT F G D T) :=
  SOK_of (C := cfgT F G D T) hD hG rfl fun f l hl sm hsm => h.get f l (mkTb_get hl) sm hsm
theorem cfgT_L {P : Program} {F : Nat → Option AFunc} {G : Nat → Option Nat} {D : Hp} {T : List (Nat × List Sm)} (V : Val) (B : Nat) : LOK P V B (cfgT F G D T) := LOK_none fun _ _ _ => rfl
theorem smValid0 {P : Program} {F : Nat → Option AFunc} {T : List (Nat × List Sm)} {f fuel : Nat} {sm : Sm} {G : Nat → Option Nat} {D : Hp} (hmix : P.follows .mixedOrders = true) (hF : ∀ f af, F f = some af → cFunc P f = some af) (hT : AllV P (fun _ => none) hpE T)
    (hd : sm.door = false) (hok : sm.t.ok 0 (evFnD (cfgT F (fun _ => none) hpE T) fuel f (patAs 0 sm.sh) ⟨hpE, []⟩) [] = true) : SmValid P (GofSm G sm) (DofSm D sm) f sm := by
  have h1 : GofSm G sm = fun _ => none := by funext g; simp [GofSm, hd]
  have h2 : DofSm D sm = hpE := by simp [DofSm, hd]
  rw [h1, h2]
  exact smValid_of (C := cfgT F (fun _ => none) hpE T) hmix hF (cfgT_S (by rfl) (fun g id h => by cases h) hT) (fun V B => cfgT_L V B) hok
theorem smValid1 {P : Program} {F : Nat → Option AFunc} {T : List (Nat × List Sm)} {f fuel : Nat} {sm : Sm} {G : Nat → Option Nat} {D : Hp} (hmix : P.follows .mixedOrders = true) (hF : ∀ f af, F f = some af → cFunc P f = some af) (hD : doorOK D = true) (hG : ∀ g id, G g = some id → id < D.sz) (hT : AllV P G D T)
    (hd : sm.door = true) (hok : sm.t.ok D.sz (evFnD (cfgT F G D T) fuel f (patAs 0 sm.sh) ⟨D, []⟩) [] = true) : SmValid P (GofSm G sm) (DofSm D sm) f sm := by
  have h1 : GofSm G sm = G := by funext g; simp [GofSm, hd]
  have h2 : DofSm D sm = D := by simp [DofSm, hd]
  rw [h1, h2]
  exact smValid_of (C := cfgT F G D T) hmix hF (cfgT_S hD hG hT) (fun V B => cfgT_L V B) hok
theorem AllV.nodoor {P : Program} {G : Nat → Option Nat} {D : Hp} : ∀ {T : List (Nat × List Sm)}, (T.all fun x => x.2.all fun sm => !sm.door) = true → AllV P (fun _ => none) hpE T → AllV P G D T
  | [], h, hv => trivial
  | (f, l) :: r, h, hv => by
    simp only [List.all_cons, Bool.and_eq_true] at h
    refine ⟨fun sm hsm => ?_, AllV.nodoor h.2 hv.2⟩
    have hd := List.all_eq_true.1 h.1 sm hsm
    simp only [Bool.not_eq_true'] at hd
    have := hv.1 sm hsm
    have e1 : GofSm G sm = GofSm (fun _ => none) sm := by funext g; simp [GofSm, hd]
    have e2 : DofSm D sm = DofSm hpE sm := by simp [DofSm, hd]
    rw [e1, e2]; exact this

theorem TT.go_nil {α : Type} (m : TT α) : m.go [] = m := rfl
theorem law_callsT {P : Program} {C : Cfg} (hmix : P.follows .mixedOrders = true) (hF : ∀ f af, C.F f = some af → cFunc P f = some af) (hS : ∀ V B, SOK P V B C) (hL : ∀ V B, LOK P V B C) {n f : Nat} {args : List SV} {t : Pt} {σ : Hp} {pc : PC}
    (hok : t.okD (evFnD C n f args ⟨σ, pc⟩) pc = true) (V : Val) (hd : t.due V) (hpc : pc.holds V) {ι : Nat → Option Loc} {cargs : List Value} (ha : VRels V ι args cargs) (W : World)
    (h0 : HRel V ι W.heap.size σ W) (hG : GRel C.G ι) (hro : ∀ id o, σ.get id = some o → o.knd ≠ 2) :
    Calls P f cargs.toArray W fun e w' => e = .returned (.bool true) ∧ Grown W w' := by
  obtain ⟨o, b, p', hr, hb, hpc'⟩ := Pt.okD_sound hok hd hpc
  have hr' := evFnD_sim (C := C) n _ _ _ _ _ _ _ hr
  have h := (evFn_ok (V := V) (B := W.heap.size) hmix hF (hS V _) (hL V _) n f args _ _ _ hr' hpc').2 ι W cargs ha h0 hG
  refine h.2.mono fun e w' he => ?_
  obtain ⟨c, ι', rfl, h1, h2, h3⟩ := he
  simp only [VRel, hb] at h1
  refine ⟨by rw [h1], ⟨h3.os, h3.output, fun i hi => ?_⟩, h3.frz, h3.size⟩
  have e : w'.heap[i]? = W.heap[i]? := h3.frame i hi fun ⟨id, o, l, h1, h0, _⟩ => hro id o h1 h0
  rw [e]
  split
  · rename_i c t fr c' t' fr' h1 h2
    rw [h1] at h2; cases h2
    exact ⟨rfl, rfl, rfl, fun _ _ => rfl⟩
  · rename_i h1 h2
    rw [h1] at h2; cases h2
    exact .inr ⟨rfl, rfl⟩
  · rfl
theorem law_callsU {P : Program} {F : Nat → Option AFunc} {G : Nat → Option Nat} {D : Hp} {T : List (Nat × List Sm)} (hmix : P.follows .mixedOrders = true) (hF : ∀ f af, F f = some af → cFunc P f = some af)
    (hD : doorOK D = true) (hG : ∀ g id, G g = some id → id < D.sz) (hT : AllV P G D T) {n f : Nat} {args : List SV} {t : Pt} {pc : PC} {R : TT (SV × SP)} (hR : R = evFnD (cfgT F G D T) n f args ⟨D, pc⟩)
    (hok : t.okD R pc = true) (V : Val) (hd : t.due V) (hpc : pc.holds V) {ι : Nat → Option Loc} {cargs : List Value} (ha : VRels V no args cargs) (W : World)
    (h0 : HRel V ι W.heap.size D W) (hg : GRel G ι) (hro : ∀ id o, D.get id = some o → o.knd ≠ 2) :
    Calls P f cargs.toArray W fun e w' => e = .returned (.bool true) ∧ Grown W w' := by
  subst hR
  exact law_callsT (C := cfgT F G D T) hmix hF (cfgT_S hD hG hT) (fun V B => cfgT_L V B) hok V hd hpc (VRels.mono (fun id l h => by cases h) _ _ ha) W h0 hg hro
end Go.Sx
