/- The symbolic machine: plain arguments (whole numbers, truths, arrays and structs of these) as variables; the row's end. No condition: lemmas of the machine. -/
import Derived.Test.YtlgfmmccnilkmaaGreatDoorSyLaw
import Derived.ProofKit
import Derived.OpenShut
import Derived.ChangeSame
namespace Go.Sx
set_option linter.unusedVariables false
set_option linter.unusedSimpArgs false
open Go.RowKit Go.ChangeShapes Go.WideShapes Go.ChangeAt

inductive CK where
  | int (k : IntKind)
  | bool
  | str
def ckOf (P : Program) (t : TypeId) : Option CK :=
  match P.underlying t with
  | some (.int k) => some (.int k)
  | some .bool => some .bool
  | some .string => some .str
  | _ => none
def cksOf (P : Program) : List TypeId → Option (List CK)
  | [] => some []
  | t :: ts => cons? (ckOf P t) (cksOf P ts)
def shOf (P : Program) (t : TypeId) : Option (Bool × List CK) :=
  match P.underlying t with
  | some (.int k) => some (false, [.int k])
  | some .bool => some (false, [.bool])
  | some .string => some (false, [.str])
  | some (.struct _) => match P.cellTypes P.depth t with
    | some ts => bif Nat.beq ts.length (P.cellsOf t) then (match cksOf P ts with | some ks => some (true, ks) | none => none) else none
    | none => none
  | some (.array _ _) => match P.cellTypes P.depth t with
    | some ts => bif Nat.beq ts.length (P.cellsOf t) then (match cksOf P ts with | some ks => some (true, ks) | none => none) else none
    | none => none
  | _ => none
def shsOf (P : Program) : List TypeId → Option (List (Bool × List CK))
  | [] => some []
  | t :: ts => cons? (shOf P t) (shsOf P ts)
def symC (i : Nat) : CK → SV
  | .int k => .int k (.cv k (.var i))
  | .bool => .bool (.var i)
  | .str => .strv (.var i)
def symCs : Nat → List CK → List SV
  | _, [] => []
  | i, k :: ks => symC i k :: symCs (i + 1) ks
def symA (i : Nat) : Bool × List CK → SV
  | (false, k :: _) => symC i k
  | (false, []) => sundef
  | (true, ks) => .agg (symCs i ks)
def symAs : Nat → List (Bool × List CK) → List SV
  | _, [] => []
  | i, s :: ss => symA i s :: symAs (i + s.2.length) ss
def Fits (V : Val) : Nat → List CK → Prop
  | _, [] => True
  | i, .int k :: ks => k.has (V.i i) ∧ Fits V (i + 1) ks
  | i, .bool :: ks => Fits V (i + 1) ks
  | i, .str :: ks => Fits V (i + 1) ks
def allK : List (Bool × List CK) → List CK
  | [] => []
  | s :: ss => s.2 ++ allK ss
def cellI : Value → Int
  | .int _ n => n
  | .string s => strC s
  | _ => 0
def cellB : Value → Bool
  | .bool b => b
  | _ => false
def valOf (cs : List Value) : Val := ⟨fun i => match cs[i]? with | some v => cellI v | none => 0, fun i => match cs[i]? with | some v => cellB v | none => false, fun _ _ => 0⟩
def CellK : CK → Value → Prop
  | .int k, v => ∃ n, v = .int k n ∧ k.has n
  | .bool, v => ∃ b, v = .bool b
  | .str, v => ∃ s, v = .string s
def CellsK : List CK → List Value → Prop
  | [], l => l = []
  | k :: ks, l => ∃ v vs, l = v :: vs ∧ CellK k v ∧ CellsK ks vs
theorem CellsK.length : ∀ {ks : List CK} {l : List Value}, CellsK ks l → l.length = ks.length
  | [], l, h => by simp [CellsK] at h; simp [h]
  | k :: ks, l, h => by obtain ⟨v, vs, rfl, _, h2⟩ := h; simp [h2.length]
theorem CellsK.append : ∀ {ks ks' : List CK} {l l' : List Value}, CellsK ks l → CellsK ks' l' → CellsK (ks ++ ks') (l ++ l')
  | [], ks', l, l', h, h' => by simp [CellsK] at h; subst h; simpa using h'
  | k :: ks, ks', l, l', h, h' => by obtain ⟨v, vs, rfl, h1, h2⟩ := h; exact ⟨v, vs ++ l', rfl, h1, h2.append h'⟩
theorem CellsK.of_get : ∀ {ks : List CK} {l : List Value}, l.length = ks.length → (∀ (j : Nat) (v : Value), l[j]? = some v → ∃ k, ks[j]? = some k ∧ CellK k v) → CellsK ks l
  | [], l, hl, h => by simp [CellsK]; exact List.eq_nil_of_length_eq_zero (by simpa using hl)
  | k :: ks, [], hl, h => by simp at hl
  | k :: ks, v :: vs, hl, h => by
    obtain ⟨k', h1, h2⟩ := h 0 v rfl
    simp at h1; subst h1
    exact ⟨v, vs, rfl, h2, CellsK.of_get (by simpa using hl) fun j u hj => by simpa using h (j + 1) u (by simpa using hj)⟩

def From (all : List Value) (i : Nat) (l : List Value) : Prop := ∀ (j : Nat) (v : Value), l[j]? = some v → all[i + j]? = some v
theorem From.cons {all : List Value} {i : Nat} {v : Value} {vs : List Value} (h : From all i (v :: vs)) : all[i]? = some v ∧ From all (i + 1) vs :=
  ⟨by simpa using h 0 v rfl, fun j u hj => by have := h (j + 1) u (by simpa using hj); rwa [← Nat.add_assoc, Nat.add_right_comm] at this⟩
def seedOf (ks : List CK) (i : Nat) : PC := match ks[i]? with
  | some (.int k) => [(.cmp .lss (.var i) (.lit k.min), false), (.cmp .lss (.lit k.max) (.var i), false)]
  | _ => []
def seeds (ks : List CK) : List Nat → PC
  | [] => []
  | i :: l => seedOf ks i ++ seeds ks l
theorem fits_get {V : Val} : ∀ {ks : List CK} {i j : Nat} {k : IntKind}, Fits V i ks → ks[j]? = some (.int k) → k.has (V.i (i + j))
  | [], i, j, k, h, hj => by simp at hj
  | .int k' :: ks, i, 0, k, h, hj => by simp at hj; subst hj; exact h.1
  | .bool :: ks, i, 0, k, h, hj => by simp at hj
  | .str :: ks, i, 0, k, h, hj => by simp at hj
  | .str :: ks, i, j + 1, k, h, hj => by
    have := fits_get (ks := ks) (i := i + 1) (j := j) h (by simpa using hj)
    rwa [show i + (j + 1) = i + 1 + j by omega]
  | .int k' :: ks, i, j + 1, k, h, hj => by
    have := fits_get (i := i + 1) (j := j) h.2 (by simpa using hj)
    rwa [show i + (j + 1) = i + 1 + j by omega]
  | .bool :: ks, i, j + 1, k, h, hj => by
    have := fits_get (ks := ks) (i := i + 1) (j := j) h (by simpa using hj)
    rwa [show i + (j + 1) = i + 1 + j by omega]
theorem seeds_hold {V : Val} {ks : List CK} (h : Fits V 0 ks) : ∀ l : List Nat, (seeds ks l).holds V
  | [] => fun p hp => by cases hp
  | i :: l => by
    intro p hp
    simp only [seeds, List.mem_append] at hp
    rcases hp with hp | hp
    · unfold seedOf at hp
      split at hp
      · rename_i k hk
        have hh := fits_get h hk
        rw [Nat.zero_add] at hh
        simp only [List.mem_cons, List.not_mem_nil, or_false] at hp
        rcases hp with rfl | rfl
        · exact decide_eq_false (by have := hh.1; simp only [SE.den]; omega)
        · exact decide_eq_false (by have := hh.2; simp only [SE.den]; omega)
      · cases hp
    · exact seeds_hold h l p hp
theorem symC_rel {all : List Value} {i : Nat} {k : CK} {v : Value} (hk : CellK k v) (h : all[i]? = some v) : VRel (valOf all) no (symC i k) v := by
  cases k with
  | int k =>
    obtain ⟨n, rfl, hn⟩ := hk
    have e : k.wrap n = n := wrap_of_in hn.1 hn.2
    simp [symC, VRel, SE.den, valOf, h, cellI, e]
  | bool => obtain ⟨b, rfl⟩ := hk; simp [symC, VRel, SB.den, valOf, h, cellB]
  | str => obtain ⟨s, rfl⟩ := hk; exact ⟨s, rfl, by simp [SE.den, valOf, h, cellI]⟩
theorem symCs_rel {all : List Value} : ∀ {ks : List CK} {i : Nat} {l : List Value}, CellsK ks l → From all i l → VRels (valOf all) no (symCs i ks) l
  | [], i, l, h, hf => by simp [CellsK] at h; subst h; exact .nil
  | k :: ks, i, l, h, hf => by
    obtain ⟨v, vs, rfl, h1, h2⟩ := h
    obtain ⟨f1, f2⟩ := hf.cons
    exact .cons (symC_rel h1 f1) (symCs_rel h2 f2)
theorem fits_of {all : List Value} : ∀ {ks : List CK} {i : Nat} {l : List Value}, CellsK ks l → From all i l → Fits (valOf all) i ks
  | [], i, l, h, hf => trivial
  | .int k :: ks, i, l, h, hf => by
    obtain ⟨v, vs, rfl, ⟨n, rfl, hn⟩, h2⟩ := h
    obtain ⟨f1, f2⟩ := hf.cons
    exact ⟨by simp [valOf, f1, cellI]; exact hn, fits_of h2 f2⟩
  | .bool :: ks, i, l, h, hf => by
    obtain ⟨v, vs, rfl, ⟨b, rfl⟩, h2⟩ := h
    obtain ⟨f1, f2⟩ := hf.cons
    have := fits_of (all := all) (ks := ks) (i := i + 1) h2 f2
    exact this
  | .str :: ks, i, l, h, hf => by
    obtain ⟨v, vs, rfl, ⟨b, rfl⟩, h2⟩ := h
    obtain ⟨f1, f2⟩ := hf.cons
    have := fits_of (all := all) (ks := ks) (i := i + 1) h2 f2
    exact this
theorem cksOf_get {P : Program} : ∀ {ts : List TypeId} {ks : List CK}, cksOf P ts = some ks → ks.length = ts.length ∧ ∀ (j : Nat) (t : TypeId), ts[j]? = some t → ∃ k, ks[j]? = some k ∧ ckOf P t = some k
  | [], ks, h => by simp [cksOf] at h; subst h; simp
  | t :: ts, ks, h => by
    unfold cksOf at h
    cases h1 : ckOf P t <;> cases h2 : cksOf P ts <;> simp [cons?, h1, h2] at h
    subst h
    obtain ⟨i1, i2⟩ := cksOf_get h2
    refine ⟨by simp [i1], fun j u hj => ?_⟩
    cases j with
    | zero => simp at hj; subst hj; exact ⟨_, rfl, h1⟩
    | succ j => simpa using i2 j u (by simpa using hj)
theorem cellK_of {P : Program} {W : World} {r : Reach} {base : Nat} {t : TypeId} {k : CK} (hk : ckOf P t = some k) {v : Value} (h : Cell.okWide P W r base t v) : CellK k v := by
  unfold ckOf at hk
  split at hk
  · rename_i kk hu
    cases hk
    simp only [Cell.okWide, hu, Cell.ok] at h
    cases v <;> simp_all [CellK]
  · rename_i hu
    cases hk
    simp only [Cell.okWide, hu, Cell.ok] at h
    cases v <;> simp_all [CellK]
  · rename_i hu
    cases hk
    simp only [Cell.okWide, hu, Cell.ok] at h
    cases v <;> simp_all [CellK]
  · cases hk
theorem open_arg {P : Program} {W : World} {r : Reach} {base : Nat} {t : TypeId} {v : Value} (hv : Value.okWide P W r base t v) {s : Bool × List CK} (hs : shOf P t = some s) :
    CellsK s.2 v.cells.toList ∧ (s.1 = false → (∃ k, s.2 = [k]) ∧ v.cells = #[v]) ∧ (s.1 = true → v = .agg v.cells) := by
  have agg : ∀ ts ks, P.cellTypes P.depth t = some ts → ts.length = P.cellsOf t → cksOf P ts = some ks → (∃ cs, v = .agg cs ∧ cs.size = P.cellsOf t ∧ Row.okWide P W r base t cs) → s = (true, ks) →
      CellsK s.2 v.cells.toList ∧ (s.1 = false → (∃ k, s.2 = [k]) ∧ v.cells = #[v]) ∧ (s.1 = true → v = .agg v.cells) := by
    intro ts ks hts hlen hks hagg hs'
    obtain ⟨cs, rfl, hsz, ts', h1, h2, h3⟩ := hagg
    rw [hts] at h1; cases h1
    obtain ⟨k1, k2⟩ := cksOf_get hks
    subst hs'
    refine ⟨CellsK.of_get (by simp [Value.cells, k1, hlen, hsz]) fun j u hj => ?_, (fun h => by cases h), fun _ => rfl⟩
    have hj' : cs[j]? = some u := by simpa [Value.cells] using hj
    obtain ⟨tt, q1, q2⟩ := h3 j u hj'
    have hjl : j < ts.length := by
      have := (Array.getElem?_eq_some_iff.1 hj').1; omega
    rw [Nat.mod_eq_of_lt hjl] at q1
    obtain ⟨k, q3, q4⟩ := k2 j tt q1
    exact ⟨k, q3, cellK_of q4 q2⟩
  unfold shOf at hs
  split at hs
  · rename_i k hu
    cases hs
    simp only [Value.okWide, hu] at hv
    have := cellK_of (P := P) (k := .int k) (by simp [ckOf, hu]) hv
    obtain ⟨n, rfl, hn⟩ := this
    exact ⟨⟨_, [], rfl, ⟨n, rfl, hn⟩, rfl⟩, fun _ => ⟨⟨_, rfl⟩, rfl⟩, fun h => by cases h⟩
  · rename_i hu
    cases hs
    simp only [Value.okWide, hu] at hv
    have := cellK_of (P := P) (k := .bool) (by simp [ckOf, hu]) hv
    obtain ⟨b, rfl⟩ := this
    exact ⟨⟨_, [], rfl, ⟨b, rfl⟩, rfl⟩, fun _ => ⟨⟨_, rfl⟩, rfl⟩, fun h => by cases h⟩
  · rename_i hu
    cases hs
    simp only [Value.okWide, hu] at hv
    have := cellK_of (P := P) (k := .str) (by simp [ckOf, hu]) hv
    obtain ⟨b, rfl⟩ := this
    exact ⟨⟨_, [], rfl, ⟨b, rfl⟩, rfl⟩, fun _ => ⟨⟨_, rfl⟩, rfl⟩, fun h => by cases h⟩
  · rename_i fs hu
    split at hs
    case h_2 => cases hs
    rename_i ts hts
    cases hb : Nat.beq ts.length (P.cellsOf t) <;> simp only [hb, cond_true, cond_false] at hs
    · cases hs
    split at hs
    case h_2 => cases hs
    rename_i ks hks
    cases hs
    simp only [Value.okWide, hu] at hv
    exact agg ts ks hts (Nat.eq_of_beq_eq_true hb) hks hv rfl
  · rename_i n e hu
    split at hs
    case h_2 => cases hs
    rename_i ts hts
    cases hb : Nat.beq ts.length (P.cellsOf t) <;> simp only [hb, cond_true, cond_false] at hs
    · cases hs
    split at hs
    case h_2 => cases hs
    rename_i ks hks
    cases hs
    simp only [Value.okWide, hu] at hv
    exact agg ts ks hts (Nat.eq_of_beq_eq_true hb) hks hv rfl
  · cases hs

def cellsAll : List Value → List Value
  | [] => []
  | v :: vs => v.cells.toList ++ cellsAll vs
theorem From.left {all l l' : List Value} {i : Nat} (h : From all i (l ++ l')) : From all i l := fun j v hj => h j v (by
  rw [List.getElem?_append_left (List.getElem?_eq_some_iff.1 hj).1]; exact hj)
theorem From.right {all l l' : List Value} {i : Nat} (h : From all i (l ++ l')) : From all (i + l.length) l' := fun j v hj => by
  have := h (l.length + j) v (by rw [List.getElem?_append_right (by omega)]; simpa using hj)
  rwa [← Nat.add_assoc] at this
theorem open_args {P : Program} {W : World} {r : Reach} {base : Nat} {all : List Value} : ∀ {ts : List TypeId} {vs : List Value} {ss : List (Bool × List CK)} {i : Nat}, shsOf P ts = some ss → vs.length = ts.length →
    (∀ (j : Nat) t v, ts[j]? = some t → vs[j]? = some v → Value.okWide P W r base t v) → From all i (cellsAll vs) → VRels (valOf all) no (symAs i ss) vs ∧ CellsK (allK ss) (cellsAll vs)
  | [], vs, ss, i, hs, hl, hv, hf => by
    simp [shsOf] at hs; subst hs
    obtain rfl := List.eq_nil_of_length_eq_zero (by simpa using hl)
    exact ⟨.nil, rfl⟩
  | t :: ts, [], ss, i, hs, hl, hv, hf => by simp at hl
  | t :: ts, v :: vs, ss, i, hs, hl, hv, hf => by
    unfold shsOf at hs
    cases h1 : shOf P t with
    | none => simp [h1, cons?] at hs
    | some s =>
      cases h2 : shsOf P ts with
      | none => simp [h1, h2, cons?] at hs
      | some ss' =>
        simp [h1, h2, cons?] at hs
        subst hs
        obtain ⟨k1, k2, k3⟩ := open_arg (hv 0 t v rfl rfl) h1
        have hlen := k1.length
        have hf2 := hf.right
        rw [hlen] at hf2
        obtain ⟨i1, i2⟩ := open_args h2 (by simpa using hl) (fun j t' v' h3 h4 => hv (j + 1) t' v' (by simpa using h3) (by simpa using h4)) hf2
        refine ⟨.cons ?_ i1, k1.append i2⟩
        obtain ⟨ag, ks⟩ := s
        have hrel := symCs_rel k1 hf.left
        cases ag
        · obtain ⟨⟨k, hk⟩, hvc⟩ := k2 rfl
          simp only at hk; subst hk
          simp only [hvc] at hrel
          obtain ⟨c, cs, e1, e2, e3⟩ := hrel
          simp at e1
          rw [e1.1]
          exact e2
        · exact ⟨v.cells, k3 rfl, hrel⟩

def plainT (P : Program) : Nat → TypeId → Bool
  | 0, _ => false
  | d + 1, t => match P.underlying t with
    | some .bool => true
    | some (.int _) => true
    | some .string => true
    | some (.array _ e) => plainT P d e
    | some (.struct fs) => fs.toList.all fun f => plainT P d f.type
    | _ => false
theorem mapM_congr_fn {α β : Type} {f g : α → Option β} : ∀ {l : List α}, (∀ x ∈ l, f x = g x) → l.mapM f = l.mapM g
  | [], _ => rfl
  | x :: xs, h => by
    rw [List.mapM_cons, List.mapM_cons, h x (List.mem_cons_self ..), mapM_congr_fn fun y hy => h y (List.mem_cons_of_mem _ hy)]
theorem mapM_all {α β : Type} {f : α → Option β} {p : β → Prop} : ∀ {l : List α} {r : List β}, l.mapM f = some r → (∀ x ∈ l, ∀ y, f x = some y → p y) → ∀ y ∈ r, p y
  | [], r, h, _, y, hy => by simp at h; subst h; cases hy
  | x :: xs, r, h, hp, y, hy => by
    rw [List.mapM_cons] at h
    cases h1 : f x with
    | none => simp [h1] at h
    | some z =>
      cases h2 : xs.mapM f with
      | none => simp [h1, h2] at h
      | some zs =>
        simp [h1, h2] at h
        subst h
        rcases List.mem_cons.1 hy with rfl | hy
        · exact hp x (List.mem_cons_self ..) _ h1
        · exact mapM_all h2 (fun a ha b hb => hp a (List.mem_cons_of_mem _ ha) b hb) y hy
section
variable {H : Type} {enc : TypeId × Value → H} {P : Program}
theorem trod_plain {w w' : World} {b b' : Nat} {sp sp' : Nat → Bool} {hd hd' : Bool} : ∀ (d : Nat) (t : TypeId), plainT P d t = true → ∀ (fuel : Nat) (cs : List Value),
    DataW.trod enc P w b sp hd fuel t cs = DataW.trod enc P w' b' sp' hd' fuel t cs ∧ ∀ x, DataW.trod enc P w b sp hd fuel t cs = some x → x.2 = []
  | 0, t, h, fuel, cs => by simp [plainT] at h
  | d + 1, t, h, fuel, cs => by
    cases fuel with
    | zero => simp [DataW.trod]
    | succ fuel =>
      unfold plainT at h
      split at h
      · rename_i hu
        simp only [DataW.trod, hu]
        constructor
        · (rcases cs with _ | ⟨v, _ | ⟨u, us⟩⟩) <;> (try cases v) <;> rfl
        · intro x hx
          (rcases cs with _ | ⟨v, _ | ⟨u, us⟩⟩) <;> (try cases v) <;> simp at hx
          all_goals (first | (subst hx; rfl) | (obtain ⟨_, rfl⟩ := hx; rfl) | (rw [← hx]))
      · rename_i k hu
        simp only [DataW.trod, hu]
        constructor
        · (rcases cs with _ | ⟨v, _ | ⟨u, us⟩⟩) <;> (try cases v) <;> rfl
        · intro x hx
          (rcases cs with _ | ⟨v, _ | ⟨u, us⟩⟩) <;> (try cases v) <;> simp at hx
          all_goals (first | (subst hx; rfl) | (obtain ⟨_, rfl⟩ := hx; rfl) | (rw [← hx]))
      · rename_i hu
        simp only [DataW.trod, hu]
        constructor
        · (rcases cs with _ | ⟨v, _ | ⟨u, us⟩⟩) <;> (try cases v) <;> rfl
        · intro x hx
          (rcases cs with _ | ⟨v, _ | ⟨u, us⟩⟩) <;> (try cases v) <;> simp at hx
          all_goals (first | (subst hx; rfl) | (obtain ⟨_, rfl⟩ := hx; rfl) | (rw [← hx]))
      · rename_i n e hu
        simp only [DataW.trod, hu]
        have ih := fun cs => trod_plain (w := w) (w' := w') (b := b) (b' := b') (sp := sp) (sp' := sp') (hd := hd) (hd' := hd') d e h fuel cs
        by_cases hl : cs.length = P.cellsOf t
        · rw [if_pos hl, if_pos hl]
          constructor
          · rw [mapM_congr_fn fun i _ => (ih _).1]
          · intro x hx
            cases hm : (List.range n).mapM fun i => DataW.trod enc P w b sp hd fuel e ((cs.drop (i * P.cellsOf e)).take (P.cellsOf e)) with
            | none => rw [hm] at hx; simp at hx
            | some xs =>
              rw [hm] at hx
              simp at hx
              subst hx
              have := mapM_all (p := fun y => y.2 = []) hm (fun i _ y hy => (ih _).2 y hy)
              simp only [List.flatMap_eq_nil_iff]
              exact this
        · rw [if_neg hl, if_neg hl]
          exact ⟨rfl, fun x hx => by cases hx⟩
      · rename_i fs hu
        simp only [DataW.trod, hu]
        have ih := fun (f : Field) (hf : f ∈ fs.toList) cs => trod_plain (w := w) (w' := w') (b := b) (b' := b') (sp := sp) (sp' := sp') (hd := hd) (hd' := hd') d f.type (List.all_eq_true.1 h f hf) fuel cs
        by_cases hl : cs.length = P.cellsOf t
        · rw [if_pos hl, if_pos hl]
          constructor
          · rw [mapM_congr_fn fun f hf => (ih f hf _).1]
          · intro x hx
            cases hm : fs.toList.mapM fun f => DataW.trod enc P w b sp hd fuel f.type ((cs.drop f.offset).take (P.cellsOf f.type)) with
            | none => rw [hm] at hx; simp at hx
            | some xs =>
              rw [hm] at hx
              simp at hx
              subst hx
              have := mapM_all (p := fun y => y.2 = []) hm (fun f hf y hy => (ih f hf _).2 y hy)
              simp only [List.flatMap_eq_nil_iff]
              exact this
        · rw [if_neg hl, if_neg hl]
          exact ⟨rfl, fun x hx => by cases hx⟩
      · cases h
theorem trodAll_plain {w w' : World} {b b' : Nat} {sp sp' : Nat → Bool} {hd hd' : Bool} {dep : Nat} : ∀ {ts : List TypeId} {vs : List Value} {ds : List (DataW H)} {ps : List MemPlace}, (ts.all fun t => plainT P dep t) = true → DataW.TrodAll enc P w b sp hd ts vs ds ps →
    ps = [] ∧ DataW.TrodAll enc P w' b' sp' hd' ts vs ds ps
  | [], vs, ds, ps, _, h => by
    obtain ⟨rfl, rfl, rfl⟩ := trodAll_nil h
    exact ⟨rfl, h⟩
  | t :: ts, vs, ds, ps, hp, h => by
    simp only [List.all_cons, Bool.and_eq_true] at hp
    obtain ⟨v, vs1, d, ds1, a, bb, rfl, rfl, rfl, ⟨fuel, h1⟩, h2⟩ := trodAll_cons h
    obtain ⟨rfl, i2⟩ := trodAll_plain (w' := w') (b' := b') (sp' := sp') (hd' := hd') hp.2 h2
    have k := trod_plain (enc := enc) (w := w) (w' := w') (b := b) (b' := b') (sp := sp) (sp' := sp') (hd := hd) (hd' := hd') dep t hp.1 fuel v.cells.toList
    have ha := k.2 _ h1
    simp only at ha
    subst ha
    exact ⟨rfl, [], [], ⟨fuel, by rw [← k.1]; exact h1⟩, i2, rfl⟩

theorem trodAll_len {w : World} {b : Nat} {sp : Nat → Bool} {hd : Bool} : ∀ {ts : List TypeId} {vs : List Value} {ds : List (DataW H)} {ps : List MemPlace}, DataW.TrodAll enc P w b sp hd ts vs ds ps → vs.length = ts.length
  | [], vs, ds, ps, h => by obtain ⟨rfl, rfl, rfl⟩ := trodAll_nil h; rfl
  | t :: ts, vs, ds, ps, h => by
    obtain ⟨v, vs1, d, ds1, a, bb, rfl, rfl, rfl, h1, h2⟩ := trodAll_cons h
    simp [trodAll_len h2]
theorem post_plain {f : Func} {s : ChangeSpec} {W W' : World} {args : Array Value} {ds gs : List (DataW H)} {before : List MemPlace} {dep : Nat} {rt : TypeId}
    (hW : DataW.Whole enc P f.params.toList s.vars false W args.toList ds gs before) (hvars : s.vars = []) (hpl : (f.params.toList.all fun t => plainT P dep t) = true)
    (hfn : ds.length = f.params.toList.length → s.fn H ds = { results := [.lit (.bool true)], args := ds }) (hr : f.resultTypes = #[rt]) (hrt : P.underlying rt = some .bool) (hg : Grown W W') :
    s.post enc P f false true false false W args (.bool true) W' := by
  have hW' := hW
  obtain ⟨p, q, hA, hV, rfl, hfz, hnd⟩ := hW
  rw [hvars] at hV
  obtain ⟨rfl, rfl⟩ := trodVars_none hV
  have hlen : ∀ {ts : List TypeId} {vs : List Value} {ds : List (DataW H)} {ps : List MemPlace}, DataW.TrodAll enc P W 0 (fun _ => true) true ts vs ds ps → ds.length = ts.length := by
    intro ts
    induction ts with
    | nil => intro vs ds ps h; obtain ⟨rfl, rfl, rfl⟩ := trodAll_nil h; rfl
    | cons t ts ih => intro vs ds ps h; obtain ⟨v, vs1, d, ds1, a, bb, rfl, rfl, rfl, h1, h2⟩ := trodAll_cons h; simp [ih h2]
  have hfn' := hfn (hlen hA)
  obtain ⟨rfl, _⟩ := trodAll_plain (w' := W') (b' := 0) (sp' := fun _ => true) (hd' := true) hpl hA
  simp only [List.append_nil] at hW'
  refine post_of_same (pa := []) (pv := []) hW' ?_ ?_ ?_ rfl (hg.frame _) hg.2.1 (ok_one hr rfl (okWide_bool_mk hrt _))
  · intro b sp hd
    simp only [List.append_nil, hfn', hr]
    exact trodAll_cons_mk (shut_bool hrt _) trodAll_mk0
  · intro sp _
    simp only [List.append_nil, hfn']
    exact (trodAll_plain (w' := W') (b' := 0) (sp' := sp) (hd' := true) hpl hA).2
  · intro sp _
    simp only [List.append_nil, hfn', hvars]
    rfl
end
end Go.Sx
