/- The symbolic machine: arguments among which there are slices of whole numbers and truths, or of rows of such, as rows from outside; that a law's call leaves them readable as they were. No condition: lemmas of the machine. -/
import Derived.Test.YtagaclifeoiepaaSyCut
import Derived.ChangeStays
import Derived.ChangeBears
namespace Go.Sx
set_option linter.unusedVariables false
set_option linter.unusedSimpArgs false
open Go.RowKit Go.ChangeShapes Go.WideShapes Go.ChangeAt

/-- The kinds of a type's cells, by the way in which it is read. -/
def trodKs (f : TypeId → Option (List AK)) (P : Program) : Nat → List Field → Option (List AK)
  | _, [] => some []
  | o, x :: xs => match f x.type with
    | some ks => bif Nat.beq x.offset o && Nat.beq ks.length (P.cellsOf x.type) then (match trodKs f P (o + ks.length) xs with
      | some r => some (ks ++ r)
      | none => none) else none
    | none => none
def repK (ks : List AK) : Nat → List AK
  | 0 => []
  | n + 1 => ks ++ repK ks n
def trodK (P : Program) : Nat → TypeId → Option (List AK)
  | 0, _ => none
  | d + 1, t => match P.underlying t with
    | some .bool => some [.bool]
    | some (.int k) => some [.int k]
    | some (.struct fs) => match trodKs (trodK P d) P 0 fs.toList with
      | some ks => bif Nat.beq ks.length (P.cellsOf t) then some ks else none
      | none => none
    | some (.array n e) => match trodK P d e with
      | some ks => bif Nat.beq ks.length (P.cellsOf e) && Nat.beq (n * ks.length) (P.cellsOf t) then some (repK ks n) else none
      | none => none
    | _ => none
def CellA : AK → Value → Prop
  | .int k, v => ∃ n, v = .int k n ∧ k.has n
  | .bool, v => ∃ b, v = .bool b
def CellsA (ks : List AK) (cs : List Value) : Prop := cs.length = ks.length ∧ ∀ (i : Nat) (k : AK), ks[i]? = some k → ∃ v, cs[i]? = some v ∧ CellA k v
theorem wf_has {k : IntKind} {n : Int} (h : (Lit.int k n).wf = true) : k.has n := by
  simpa [Lit.wf, IntKind.has] using h
theorem CellsA.append {ks ks' : List AK} {cs cs' : List Value} (h : CellsA ks cs) (h' : CellsA ks' cs') : CellsA (ks ++ ks') (cs ++ cs') := by
  refine ⟨by simp [h.1, h'.1], fun i k hk => ?_⟩
  by_cases hi : i < ks.length
  · rw [List.getElem?_append_left hi] at hk
    obtain ⟨v, h1, h2⟩ := h.2 i k hk
    exact ⟨v, by rw [List.getElem?_append_left (by rw [h.1]; exact hi)]; exact h1, h2⟩
  · rw [List.getElem?_append_right (by omega)] at hk
    obtain ⟨v, h1, h2⟩ := h'.2 _ k hk
    exact ⟨v, by rw [List.getElem?_append_right (by rw [h.1]; omega), h.1]; exact h1, h2⟩
theorem repK_len {ks : List AK} : ∀ n, (repK ks n).length = n * ks.length
  | 0 => by simp [repK]
  | n + 1 => by simp [repK, repK_len n, Nat.succ_mul, Nat.add_comm]
theorem take_split (cs : List Value) (o a b : Nat) : (cs.drop o).take (a + b) = (cs.drop o).take a ++ (cs.drop (o + a)).take b := by
  rw [List.take_add, List.drop_drop]
section
variable {H : Type} {enc : TypeId × Value → H} {P : Program} {w : World} {base : Nat} {sp : Nat → Bool} {hd : Bool}
theorem trodKs_cells {f : TypeId → Option (List AK)} (cs : List Value) : ∀ {fs : List Field} {o : Nat} {ks : List AK}, trodKs f P o fs = some ks → (∀ x ∈ fs, ∀ ks', f x.type = some ks' → CellsA ks' ((cs.drop x.offset).take (P.cellsOf x.type))) → CellsA ks ((cs.drop o).take ks.length)
  | [], o, ks, h, hf => by
    simp [trodKs] at h; subst h
    exact ⟨by simp, fun i k hk => by simp at hk⟩
  | x :: xs, o, ks, h, hf => by
    simp only [trodKs] at h
    split at h
    case h_2 => cases h
    rename_i k1 hk1
    cases hb : (Nat.beq x.offset o && Nat.beq k1.length (P.cellsOf x.type)) <;> simp only [hb, cond_true, cond_false] at h
    · cases h
    simp only [Bool.and_eq_true] at hb
    have e1 := Nat.eq_of_beq_eq_true hb.1
    have e2 := Nat.eq_of_beq_eq_true hb.2
    split at h
    case h_2 => cases h
    rename_i r hr
    cases h
    have i1 := hf x (List.mem_cons_self ..) k1 hk1
    have i2 := trodKs_cells cs hr fun y hy => hf y (List.mem_cons_of_mem _ hy)
    rw [e1, ← e2] at i1
    rw [List.length_append, take_split]
    exact i1.append i2
theorem trodA_cells (cs : List Value) (ks : List AK) (m : Nat) (hm : ks.length = m) : ∀ n o, (∀ i, i < n → CellsA ks ((cs.drop (o + i * m)).take m)) → CellsA (repK ks n) ((cs.drop o).take (n * m))
  | 0, o, h => ⟨by simp [repK], fun i k hk => by simp [repK] at hk⟩
  | n + 1, o, h => by
    have h0 := h 0 (by omega)
    rw [Nat.zero_mul, Nat.add_zero] at h0
    have ih := trodA_cells cs ks m hm n (o + m) fun i hi => by
      have := h (i + 1) (by omega)
      rwa [Nat.succ_mul, show o + (i * m + m) = o + m + i * m by omega] at this
    rw [Nat.succ_mul, Nat.add_comm (n * m) m, take_split]
    exact h0.append ih
theorem trodK_cells : ∀ {d : Nat} {t : TypeId} {ks : List AK} {fuel : Nat} {cs : List Value} {x : DataW H × List MemPlace}, trodK P d t = some ks → DataW.trod enc P w base sp hd fuel t cs = some x → CellsA ks cs
  | 0, t, ks, fuel, cs, x, h, hx => by simp [trodK] at h
  | d + 1, t, ks, fuel, cs, x, h, hx => by
    unfold trodK at h
    split at h
    · rename_i hu
      cases h
      obtain ⟨b, rfl, _⟩ := DataW.trod_bool hu hx
      refine ⟨rfl, fun i k hk => ?_⟩
      cases i with
      | zero => simp at hk; subst hk; exact ⟨_, rfl, b, rfl⟩
      | succ i => simp at hk
    · rename_i k hu
      cases h
      obtain ⟨n, rfl, _, hw⟩ := DataW.trod_int hu hx
      refine ⟨rfl, fun i k' hk => ?_⟩
      cases i with
      | zero => simp at hk; subst hk; exact ⟨_, rfl, n, rfl, wf_has hw⟩
      | succ i => simp at hk
    · rename_i fs hu
      split at h
      case h_2 => cases h
      rename_i ks' hks
      cases hb : Nat.beq ks'.length (P.cellsOf t) <;> simp only [hb, cond_true, cond_false] at h
      · cases h
      cases h
      have hb := Nat.eq_of_beq_eq_true hb
      cases fuel with
      | zero => simp [DataW.trod] at hx
      | succ fuel =>
        simp only [DataW.trod, hu] at hx
        by_cases hl : cs.length = P.cellsOf t
        · rw [if_pos hl] at hx
          cases hm : fs.toList.mapM fun f => DataW.trod enc P w base sp hd fuel f.type ((cs.drop f.offset).take (P.cellsOf f.type)) with
          | none => rw [hm] at hx; simp at hx
          | some xs =>
            have := trodKs_cells (P := P) cs hks fun y hy ks' hk' => by
              obtain ⟨j, hj⟩ := List.getElem?_of_mem hy
              have := mapM_some_get hm j y hj
              cases hz : xs[j]? with
              | none =>
                have l1 := mapM_some_length hm
                have l2 := (List.getElem?_eq_some_iff.1 hj).1
                rw [List.getElem?_eq_none_iff] at hz
                omega
              | some z =>
                rw [hz] at this
                exact trodK_cells hk' this
            rwa [List.drop_zero, hb, ← hl, List.take_length] at this
        · rw [if_neg hl] at hx; cases hx
    · rename_i n e hu
      split at h
      case h_2 => cases h
      rename_i ks' hks
      cases hb : (Nat.beq ks'.length (P.cellsOf e) && Nat.beq (n * ks'.length) (P.cellsOf t)) <;> simp only [hb, cond_true, cond_false] at h
      · cases h
      cases h
      simp only [Bool.and_eq_true] at hb
      have e1 := Nat.eq_of_beq_eq_true hb.1
      have e2 := Nat.eq_of_beq_eq_true hb.2
      cases fuel with
      | zero => simp [DataW.trod] at hx
      | succ fuel =>
        simp only [DataW.trod, hu] at hx
        by_cases hl : cs.length = P.cellsOf t
        · rw [if_pos hl] at hx
          cases hm : (List.range n).mapM fun i => DataW.trod enc P w base sp hd fuel e ((cs.drop (i * P.cellsOf e)).take (P.cellsOf e)) with
          | none => rw [hm] at hx; simp at hx
          | some xs =>
            have := trodA_cells cs ks' (P.cellsOf e) e1 n 0 fun i hi => by
              have := mapM_some_get hm i i (by simp [hi])
              cases hz : xs[i]? with
              | none =>
                have l1 := mapM_some_length hm
                rw [List.getElem?_eq_none_iff] at hz
                simp at l1
                omega
              | some z =>
                rw [hz] at this
                rw [Nat.zero_add]
                exact trodK_cells hks this
            rw [e1] at e2
            rwa [List.drop_zero, e2, ← hl, List.take_length] at this
        · rw [if_neg hl] at hx; cases hx
    · cases h
end

inductive ArgSh where
  | pl (ag : Bool) (ks : List CK)
  | sl (ks : List AK)
def arg1Of (P : Program) (t : TypeId) : Option ArgSh := match P.underlying t with
  | some (.slice e) => match trodK P 12 e with
    | some ks => bif Nat.beq ks.length (P.cellsOf e) && Nat.blt 0 ks.length then some (.sl ks) else none
    | none => none
  | _ => match shOf P t with
    | some (ag, ks) => some (.pl ag ks)
    | none => none
def argsOf (P : Program) : List TypeId → Option (List ArgSh)
  | [] => some []
  | t :: ts => cons? (arg1Of P t) (argsOf P ts)
def ArgSh.n : ArgSh → Nat
  | .pl _ ks => ks.length
  | .sl _ => 1
def symB (i id : Nat) : ArgSh → SV
  | .pl ag ks => symA i (ag, ks)
  | .sl _ => .xsl id (.var i)
def ArgSh.o : ArgSh → Nat
  | .pl _ _ => 0
  | .sl _ => 1
def symBs : Nat → Nat → List ArgSh → List SV
  | _, _, [] => []
  | i, id, a :: as => symB i id a :: symBs (i + a.n) (id + a.o) as
def objBs : Nat → Nat → List ArgSh → List SObj
  | _, _, [] => []
  | i, s, .pl _ ks :: as => objBs (i + ks.length) s as
  | i, s, .sl ks :: as => .arr s ks (.var i) :: objBs (i + 1) (s + ks.length) as
def allKB : List ArgSh → List CK
  | [] => []
  | .pl _ ks :: as => ks ++ allKB as
  | .sl _ :: as => .int .i64 :: allKB as
/-- Lengths are none below 0. -/
def lenSeeds : Nat → List ArgSh → PC
  | _, [] => []
  | i, .pl _ ks :: as => lenSeeds (i + ks.length) as
  | i, .sl _ :: as => (.cmp .lss (.var i) (.lit 0), false) :: lenSeeds (i + 1) as
def lenOf : Value → Nat
  | .slice _ n _ => n
  | _ => 0
def locOf : Value → Loc
  | .slice (some a) _ _ => ⟨a.block, a.off, 0⟩
  | _ => ⟨0, 0, 0⟩
def numOf : Option Value → Int
  | some (.int _ n) => n
  | some (.bool b) => if b then 1 else 0
  | _ => 0
def arrOf (W : World) (v : Value) (m c : Nat) (j : Int) : Int := match v with
  | .slice (some a) _ _ => numOf (W.cell? ⟨a.block, a.off + (j.toNat * m + c), none⟩)
  | _ => 0
def cellsB : List ArgSh → List Value → List Value
  | .pl _ _ :: ss, v :: vs => v.cells.toList ++ cellsB ss vs
  | .sl _ :: ss, v :: vs => .int .i64 (lenOf v) :: cellsB ss vs
  | _, _ => []
def locsB : List ArgSh → List Value → List Loc
  | .pl _ _ :: ss, _ :: vs => locsB ss vs
  | .sl _ :: ss, v :: vs => locOf v :: locsB ss vs
  | _, _ => []
def xFrom (W : World) : List ArgSh → List Value → Nat → Nat → Int → Int
  | .pl _ _ :: ss, _ :: vs, s, q, j => xFrom W ss vs s q j
  | .sl ks :: ss, v :: vs, s, q, j => if q < s + ks.length then arrOf W v ks.length (q - s) j else xFrom W ss vs (s + ks.length) q j
  | _, _, _, _, _ => 0
section
variable {H : Type} {enc : TypeId × Value → H} {P : Program} {W : World}
theorem shape_cells {b : Nat} {x : TypeId × Nat} (h : W.shape? b = some x) : ∃ c e fr, W.heap[b]? = some (.cells c e fr) := by
  unfold World.shape? at h
  split at h
  · rename_i c e fr hb; exact ⟨c, e, fr, hb⟩
  · cases h
theorem cells?_get {base : Nat} {a : Addr} {n : Nat} {cs : List Value} (h : W.cells? base a n = some cs) : cs.length = n ∧ ∀ i v, cs[i]? = some v → W.cell? (a.add i) = some v := by
  unfold World.cells? at h
  split at h
  case isFalse => cases h
  refine ⟨by simpa using mapM_some_length h, fun i v hv => ?_⟩
  have hi : i < n := by
    have l1 := mapM_some_length h
    have := (List.getElem?_eq_some_iff.1 hv).1
    simp at l1
    omega
  have := mapM_some_get h i i (by simp [hi])
  rw [hv] at this
  exact this
/-- A slice that is read: its row. -/
theorem open_slice {t e : TypeId} (hu : P.underlying t = some (.slice e)) {ks : List AK} (hk : trodK P 12 e = some ks) (hkl : ks.length = P.cellsOf e) {v : Value} {d : DataW H} {ps : List MemPlace}
    (ht : DataW.Trod enc P W 0 (fun _ => true) true t v d ps) {bs : Nat} (hok : Value.okWide P W .any bs t v) {V : Val} {ι : Nat → Option Loc} {i s id : Nat} (hi : V.i i = lenOf v) (hx : ∀ c, c < ks.length → V.x (s + c) = arrOf W v ks.length c) (hι : ι id = some (locOf v)) :
    VRel V ι (.xsl id (.var i)) v ∧ (∀ ι', ORel V ι' W.heap.size W (locOf v) (.arr s ks (.var i))) ∧ IntKind.i64.has (lenOf v) := by
  obtain ⟨fuel, hf⟩ := ht
  have hm : IntKind.i64.max = 9223372036854775807 := by decide
  have hm0 : IntKind.i64.min = -9223372036854775808 := by decide
  have hml : maxLen = 9223372036854775807 := by decide
  rcases DataW.trod_slice hu hf with ⟨hc, _⟩ | ⟨a, len, cap, elems, rest, n, _, hc, _, _, hlc, hcap, hel, hget, _, _⟩
  · simp only [Value.okWide, hu] at hok
    have hv : v = .slice none 0 0 := by
      cases v <;> simp_all [Cell.okWide, Cell.ok, Value.cells]
    subst hv
    refine ⟨⟨locOf (.slice none 0 0), 0, 0, hι, by simpa [SE.den, lenOf] using hi, .inr ⟨rfl, rfl⟩⟩, fun ι' => ⟨0, by simpa [SE.den, lenOf] using hi, .inl rfl⟩, by simp [lenOf, IntKind.has]; decide⟩
  · simp only [Value.okWide, hu] at hok
    have hv : v = .slice (some a) len cap := by
      cases v <;> simp_all [Cell.okWide, Cell.ok, Value.cells]
    subst hv
    simp only [Cell.okWide, hu, Cell.ok] at hok
    obtain ⟨_, _, _, hsp, row, cells, hsh, _⟩ := hok
    obtain ⟨c, e', fr, hb⟩ := shape_cells hsh
    have ha : a = ⟨a.block, a.off, none⟩ := by cases a; simp only at hsp; subst hsp; rfl
    refine ⟨⟨_, len, cap, hι, by simpa [SE.den, lenOf] using hi, .inl (by simp only [locOf]; rw [← ha])⟩, fun ι' => ⟨len, by simpa [SE.den, lenOf] using hi, .inr ⟨c, e', fr, hb, (Array.getElem?_eq_some_iff.1 hb).1, ?_⟩⟩, ⟨by simp only [lenOf]; omega, by simp only [lenOf]; omega⟩⟩
    intro j hj p k hp
    have hg := hget j hj
    have hpl : p < ks.length := (List.getElem?_eq_some_iff.1 hp).1
    cases hz : elems[j]? with
    | none => rw [List.getElem?_eq_none_iff] at hz; omega
    | some z =>
      rw [hz] at hg
      cases hcs : W.cells? 0 (a.add (j * P.cellsOf e)) (P.cellsOf e) with
      | none => rw [hcs] at hg; cases hg
      | some cs =>
        rw [hcs] at hg
        simp only [Option.bind_some] at hg
        obtain ⟨g1, g2⟩ := trodK_cells hk hg
        obtain ⟨u, g3, g4⟩ := g2 p k hp
        have g5 := (cells?_get hcs).2 p u g3
        rw [ha, addr_add, addr_add, cell_of_row W _ _ c e' fr hb, Nat.add_assoc, ← hkl] at g5
        have hxx : V.x (s + p) (Int.ofNat j) = numOf (some u) := by
          rw [hx p hpl]
          simp only [arrOf]
          rw [cell_of_row W _ _ c e' fr hb]
          have : (Int.ofNat j).toNat = j := rfl
          rw [this, g5]
        have hloc : (locOf (.slice (some a) len cap)).off = a.off := rfl
        rw [hloc, g5]
        cases k with
        | int k =>
          obtain ⟨m, rfl, hm⟩ := g4
          simp only [numOf] at hxx
          exact ⟨by rw [hxx]; exact hm, by rw [hxx]⟩
        | bool =>
          obtain ⟨b, rfl⟩ := g4
          simp only [numOf] at hxx
          simp only [AK.ok, hxx]
          cases b <;> simp
theorem symC_any {V V' : Val} (hi : V.i = V'.i) (hb : V.b = V'.b) {ι ι' : Nat → Option Loc} {i : Nat} {k : CK} {v : Value} (h : VRel V' ι' (symC i k) v) : VRel V ι (symC i k) v := by
  cases k <;> simp only [symC, VRel, SE.den, SB.den] at h ⊢ <;> (try rw [hi]) <;> (try rw [hb]) <;> exact h
theorem fits_any {V V' : Val} (hi : V.i = V'.i) : ∀ {ks : List CK} {i : Nat}, Fits V' i ks → Fits V i ks
  | [], i, h => trivial
  | .int k :: ks, i, h => ⟨by rw [hi]; exact h.1, fits_any hi h.2⟩
  | .bool :: ks, i, h => fits_any (ks := ks) (i := i + 1) hi h
  | .str :: ks, i, h => fits_any (ks := ks) (i := i + 1) hi h
theorem symCs_any {V V' : Val} (hi : V.i = V'.i) (hb : V.b = V'.b) {ι ι' : Nat → Option Loc} : ∀ {ks : List CK} {i : Nat} {l : List Value}, VRels V' ι' (symCs i ks) l → VRels V ι (symCs i ks) l
  | [], i, l, h => h
  | k :: ks, i, l, h => by
    obtain ⟨c, cs, rfl, h1, h2⟩ := h
    exact .cons (symC_any hi hb h1) (symCs_any hi hb h2)
theorem argsOf_cons {t : TypeId} {ts : List TypeId} {ss : List ArgSh} (h : argsOf P (t :: ts) = some ss) : ∃ s ss', arg1Of P t = some s ∧ argsOf P ts = some ss' ∧ ss = s :: ss' := by
  unfold argsOf at h
  cases h1 : arg1Of P t <;> cases h2 : argsOf P ts <;> simp [h1, h2, cons?] at h
  exact ⟨_, _, rfl, rfl, h.symm⟩
/-- What is to be shown of all arguments. -/
def OpenB (W : World) (V : Val) (ι : Nat → Option Loc) (i s id : Nat) (ss : List ArgSh) (vs : List Value) : Prop :=
  VRels V ι (symBs i id ss) vs ∧ CellsK (allKB ss) (cellsB ss vs) ∧ (objBs i s ss).length = (locsB ss vs).length ∧ (lenSeeds i ss).holds V ∧ ∀ (k : Nat) (o : SObj), (objBs i s ss)[k]? = some o → (∀ cs ro, o ≠ .cells cs ro) ∧ ∃ l, (locsB ss vs)[k]? = some l ∧ ∀ ι', ORel V ι' W.heap.size W l o
/-- All arguments. -/
theorem open_argsB {bs : Nat} {all : List Value} {V : Val} (hVi : V.i = (valOf all).i) (hVb : V.b = (valOf all).b) {ι : Nat → Option Loc} : ∀ {ts : List TypeId} {vs : List Value} {ds : List (DataW H)} {ps : List MemPlace} {ss : List ArgSh} {i s id : Nat}, argsOf P ts = some ss →
    DataW.TrodAll enc P W 0 (fun _ => true) true ts vs ds ps → (∀ (j : Nat) t v, ts[j]? = some t → vs[j]? = some v → Value.okWide P W .any bs t v) →
    From all i (cellsB ss vs) → (∀ q, s ≤ q → V.x q = xFrom W ss vs s q) → (∀ k l, (locsB ss vs)[k]? = some l → ι (id + k) = some l) →
    OpenB W V ι i s id ss vs
  | [], vs, ds, ps, ss, i, s, id, hs, ht, hok, hf, hx, hι => by
    simp [argsOf] at hs; subst hs
    obtain ⟨rfl, rfl, rfl⟩ := trodAll_nil ht
    exact ⟨.nil, rfl, rfl, (fun p hp => by cases hp), fun k o hk => by simp [objBs] at hk⟩
  | t :: ts, vs, ds, ps, ss, i, s, id, hs, ht, hok, hf, hx, hι => by
    obtain ⟨a, ss', h1, h2, rfl⟩ := argsOf_cons hs
    obtain ⟨v, vs', d, ds', p, q, rfl, rfl, rfl, ht1, ht2⟩ := trodAll_cons ht
    have hok1 := hok 0 t v rfl rfl
    have hok2 : ∀ (j : Nat) t' v', ts[j]? = some t' → vs'[j]? = some v' → Value.okWide P W .any bs t' v' := fun j t' v' h3 h4 => hok (j + 1) t' v' (by simpa using h3) (by simpa using h4)
    have pl : ∀ ag ks, shOf P t = some (ag, ks) → a = .pl ag ks → OpenB W V ι i s id (a :: ss') (v :: vs') := by
      intro ag ks hsh ha
      subst ha
      obtain ⟨k1, k2, k3⟩ := open_arg hok1 hsh
      have hlen := k1.length
      have hf' : From all i (v.cells.toList ++ cellsB ss' vs') := hf
      have hf2 := hf'.right
      rw [hlen] at hf2
      obtain ⟨i1, i2, i3, i4, i5⟩ := open_argsB hVi hVb (i := i + ks.length) (s := s) (id := id) h2 ht2 hok2 hf2 (fun q hq => by rw [hx q hq]; rfl) hι
      refine ⟨.cons ?_ i1, k1.append i2, i3, i4, i5⟩
      have hrel0 := symCs_rel k1 hf'.left
      have hrel : VRels V ι (symCs i ks) v.cells.toList := symCs_any hVi hVb hrel0
      cases ag
      · obtain ⟨⟨k, hk⟩, hvc⟩ := k2 rfl
        simp only at hk; subst hk
        simp only [hvc] at hrel
        obtain ⟨c, cs, e1, e2, e3⟩ := hrel
        simp at e1
        rw [e1.1]
        exact e2
      · exact ⟨v.cells, k3 rfl, hrel⟩
    unfold arg1Of at h1
    split at h1
    · rename_i e hu
      split at h1
      case h_2 => cases h1
      rename_i ks hk
      cases hb : (Nat.beq ks.length (P.cellsOf e) && Nat.blt 0 ks.length) <;> simp only [hb, cond_true, cond_false] at h1
      · cases h1
      cases h1
      simp only [Bool.and_eq_true] at hb
      have hkl := Nat.eq_of_beq_eq_true hb.1
      have hf' : From all i (.int .i64 (lenOf v) :: cellsB ss' vs') := hf
      obtain ⟨f1, f2⟩ := hf'.cons
      have hvi : V.i i = lenOf v := by rw [hVi]; simp [valOf, f1, cellI]
      obtain ⟨q1, q2, q3⟩ := open_slice (V := V) (ι := ι) (i := i) (s := s) (id := id) hu hk hkl ht1 hok1 hvi (fun c hc => by
        funext j
        rw [hx (s + c) (by omega)]
        simp only [xFrom]
        rw [if_pos (by omega)]
        congr 1; omega) (by have := hι 0 _ rfl; rwa [Nat.add_zero] at this)
      obtain ⟨i1, i2, i3, i4, i5⟩ := open_argsB hVi hVb (i := i + 1) (s := s + ks.length) (id := id + 1) h2 ht2 hok2 f2 (fun q hq => by
        rw [hx q (by omega)]
        funext j
        simp only [xFrom]
        rw [if_neg (by omega)]) (fun k l hl => by
          have := hι (k + 1) l (by simpa [locsB] using hl)
          rwa [show id + (k + 1) = id + 1 + k by omega] at this)
      refine ⟨.cons q1 i1, ⟨_, _, rfl, ⟨_, rfl, q3⟩, i2⟩, by simp [objBs, locsB, i3], ?_, ?_⟩
      · intro x hx'
        simp only [lenSeeds, List.mem_cons] at hx'
        rcases hx' with rfl | hx'
        · simp only [SB.den, cmpI, SE.den, hvi]
          exact decide_eq_false (by omega)
        · exact i4 x hx'
      · intro k o hk'
        cases k with
        | zero =>
          simp [objBs] at hk'; subst hk'
          exact ⟨fun cs ro => by simp, _, rfl, q2⟩
        | succ k => simpa [objBs, locsB] using i5 k o (by simpa [objBs] using hk')
    · split at h1
      case h_2 => cases h1
      rename_i ag ks hsh
      cases h1
      exact pl ag ks hsh rfl
theorem grown_heap {W' : World} (hg : Grown W W') (b : Nat) (hb : b < W.heap.size) : W'.heap[b]? = W.heap[b]? := by
  have h := hg.1.2.2 b hb
  split at h
  · rename_i c t fr c' t' fr' h1 h2
    obtain ⟨rfl, rfl, h3, h4⟩ := h
    rw [h1, h2]
    have : c' = c := by
      apply Array.ext_getElem?
      intro j
      exact h4 j (fun x => x)
    rw [this]
  · rename_i es cl es' cl' h1 h2
    rcases h with h | ⟨rfl, rfl⟩
    · exact h.elim
    · rw [h1, h2]
  · exact h
theorem sameAt_grown {W' : World} (hg : Grown W W') {p : MemPlace} (hp : p.block < W.heap.size) : W.sameAt W' p := by
  cases p with
  | cell b off =>
    have := grown_heap hg b hp
    simp only [World.sameAt, World.cell?, this]
  | map b => exact grown_heap hg b hp
def slicesPos (P : Program) : Bool := (List.range P.types.size).all fun t => match P.underlying t with
  | some (.slice e) => Nat.blt 0 (P.cellsOf e)
  | _ => true
theorem trodAll_grown {W' : World} (hl : laidOutB P = true) (hm : mapsRowed P = true) (hz : slicesPos P = true) (hg : Grown W W') {sp' : Nat → Bool} : ∀ {ts : List TypeId} {vs : List Value} {ds : List (DataW H)} {ps : List MemPlace}, (ts.all fun t => Nat.blt t P.types.size) = true →
    DataW.TrodAll enc P W 0 (fun _ => true) true ts vs ds ps → (∀ p ∈ ps, p.block < W.heap.size) → (∀ p ∈ ps, sp' p.block = true) → DataW.TrodAll enc P W' 0 sp' true ts vs ds ps
  | [], vs, ds, ps, hts, h, _, _ => by
    obtain ⟨rfl, rfl, rfl⟩ := trodAll_nil h
    exact trodAll_mk0
  | t :: ts, vs, ds, ps, hts, h, hlt, hsp => by
    obtain ⟨v, vs1, d, ds1, a, b, rfl, rfl, rfl, ⟨fuel, h1⟩, h2⟩ := trodAll_cons h
    simp only [List.all_cons, Bool.and_eq_true] at hts
    refine ⟨a, b, ⟨fuel, ?_⟩, trodAll_grown hl hm hz hg hts.2 h2 (fun p hp => hlt p (List.mem_append_right _ hp)) (fun p hp => hsp p (List.mem_append_right _ hp)), rfl⟩
    refine DataW.trod_stays (T := (· < P.types.size)) (kids_rows hl hm) ?_ (fun e => by cases e) (by simpa using lt_of_blt hts.1) h1 (fun p hp => sameAt_grown hg (hlt p (List.mem_append_left _ hp))) (fun p hp => hsp p (List.mem_append_left _ hp))
    intro t e ht hu
    have := List.all_eq_true.1 hz t (List.mem_range.2 ht)
    simp only [hu] at this
    exact lt_of_blt this
/-- The row's end: true; the arguments as they were. -/
theorem post_args {f : Func} {s : ChangeSpec} {W' : World} {args : Array Value} {ds gs : List (DataW H)} {before : List MemPlace} {rt : TypeId}
    (hl : laidOutB P = true) (hm : mapsRowed P = true) (hz : slicesPos P = true)
    (hW : DataW.Whole enc P f.params.toList s.vars false W args.toList ds gs before) (hvars : s.vars = []) (hts : (f.params.toList.all fun t => Nat.blt t P.types.size) = true)
    (hfn : ds.length = f.params.toList.length → s.fn H ds = { results := [.lit (.bool true)], args := ds }) (hr : f.resultTypes = #[rt]) (hrt : P.underlying rt = some .bool) (hg : Grown W W') :
    s.post enc P f false true false false W args (.bool true) W' := by
  have hW' := hW
  have hlt := hW.lt
  obtain ⟨p, q, hA, hV, rfl, hfz, hnd⟩ := hW
  rw [hvars] at hV
  obtain ⟨rfl, rfl⟩ := trodVars_none hV
  simp only [List.append_nil] at hW' hlt
  have hlen : ∀ {ts : List TypeId} {vs : List Value} {ds : List (DataW H)} {ps : List MemPlace}, DataW.TrodAll enc P W 0 (fun _ => true) true ts vs ds ps → ds.length = ts.length := by
    intro ts
    induction ts with
    | nil => intro vs ds ps h; obtain ⟨rfl, rfl, rfl⟩ := trodAll_nil h; rfl
    | cons t ts ih => intro vs ds ps h; obtain ⟨v, vs1, d, ds1, a, bb, rfl, rfl, rfl, h1, h2⟩ := trodAll_cons h; simp [ih h2]
  have hfn' := hfn (hlen hA)
  refine post_of_same (pa := p) (pv := []) hW' ?_ ?_ ?_ (by simp) (hg.frame _) hg.2.1 (ok_one hr rfl (okWide_bool_mk hrt _))
  · intro b sp hd
    simp only [List.append_nil, hfn', hr]
    exact trodAll_cons_mk (shut_bool hrt _) trodAll_mk0
  · intro sp hsp
    simp only [List.append_nil, hfn']
    exact trodAll_grown hl hm hz hg hts hA hlt hsp
  · intro sp _
    simp only [List.append_nil, hfn', hvars]
    rfl
/-- The heap that a law's run begins in: the laid objects, then the rows. -/
theorem start_rows {V : Val} {B : Nat} (hB : B = W.heap.size) {ι0 : Nat → Option Loc} {D D' : Hp} {os : List SObj} (hD : pushAll D os = some D') (h0 : HRel V ι0 B D W) {ls : List Loc} (hlen : os.length = ls.length)
    (ho : ∀ (k : Nat) o, os[k]? = some o → (∀ cs ro, o ≠ .cells cs ro) ∧ ∃ l, ls[k]? = some l ∧ ∀ ι, ORel V ι B W l o) :
    ∃ ι, (∀ id l, ι0 id = some l → ι id = some l) ∧ (∀ k l, ls[k]? = some l → ι (D.sz + k) = some l) ∧ HRel V ι B D' W := by
  obtain ⟨p1, p2⟩ := pushAll_get hD
  have hdom : ∀ id l, ι0 id = some l → id < D.sz := fun id l h => by
    by_cases hlt : id < D.sz
    · exact hlt
    · rw [h0.dom id (by omega)] at h; cases h
  have hm : ∀ id l, ι0 id = some l → (if id < D.sz then ι0 id else ls[id - D.sz]?) = some l := fun id l h => by rw [if_pos (hdom id l h)]; exact h
  refine ⟨fun id => if id < D.sz then ι0 id else ls[id - D.sz]?, hm, fun k l h => ?_, ⟨by rw [hB]; exact Nat.le_refl _, ?_, ?_, ?_⟩⟩
  · show (if D.sz + k < D.sz then ι0 (D.sz + k) else ls[D.sz + k - D.sz]?) = some l
    rw [if_neg (by omega), show D.sz + k - D.sz = k by omega]; exact h
  · intro id o l hg hl
    rw [p2] at hg
    by_cases hlt : id < D.sz
    · rw [if_pos hlt] at hg hl
      exact (h0.obj id o l hg hl).mono hm
    · rw [if_neg hlt] at hg hl
      obtain ⟨_, l', q1, q2⟩ := ho _ o hg
      rw [hl] at q1; cases q1
      exact q2 _
  · intro id id' cs cs' ro ro' l l' hg hg' hne hl hl'
    rw [p2] at hg hg'
    by_cases hlt : id < D.sz
    · by_cases hlt' : id' < D.sz
      · rw [if_pos hlt] at hg hl
        rw [if_pos hlt'] at hg' hl'
        exact h0.inj id id' cs cs' ro ro' l l' hg hg' hne hl hl'
      · rw [if_neg hlt'] at hg'
        exact absurd rfl ((ho _ _ hg').1 cs' ro')
    · rw [if_neg hlt] at hg
      exact absurd rfl ((ho _ _ hg).1 cs ro)
  · intro id hid
    rw [p1] at hid
    rw [if_neg (by omega), List.getElem?_eq_none_iff]
    omega
end
end Go.Sx
