/- The symbolic machine: the operations that leave memory alone do as they say. No condition: lemmas of the machine. -/
import Derived.Test.YtlgfmmccnilkmaaGreatDoorSyComp
import Derived.Laws.Slices
namespace Go.Sx
set_option linter.unusedVariables false
set_option linter.unusedSimpArgs false

section
variable {P : Program} {V : Val} {ι : Nat → Option Loc} {rd : X → Option SV} {a : Operand → Value} {pc : PC}

def RdRel (V : Val) (ι : Nat → Option Loc) (rd : X → Option SV) (a : Operand → Value) : Prop := ∀ x y v, cX x = some y → rd y = some v → VRel V ι v (a x)
def Gives (P : Program) (V : Val) (ι : Nat → Option Loc) (a : Operand → Value) (o : Oper) (v : SV) : Prop := ∃ c, (∀ w, (execOp a o).run P w = .ok (.value c) w) ∧ VRel V ι v c

theorem gives_of {o : Oper} {v : SV} {s : Sem Value} (h : execOp a o = (do pure (.value (← s)))) {c : Value} (hr : ∀ w, s.run P w = .ok c w) (hv : VRel V ι v c) : Gives P V ι a o v :=
  ⟨c, fun w => by rw [h]; simp [hr w], hv⟩

theorem readAll_rel (hrd : RdRel V ι rd a) : ∀ {l : List Operand} {ys : List X} {vs : List SV}, cXs l = some ys → readAll rd ys = some vs → VRels V ι vs (l.map a)
  | [], ys, vs, h, h' => by
    simp [cXs] at h; subst h; simp [readAll] at h'; subst h'; exact .nil
  | x :: xs, ys, vs, h, h' => by
    unfold cXs at h
    cases hx : cX x <;> cases hxs : cXs xs <;> simp [cons?, hx, hxs] at h
    subst h
    unfold readAll at h'
    rename_i y ys
    cases hy : rd y <;> cases hys : readAll rd ys <;> simp [cons?, hy, hys] at h'
    subst h'
    exact .cons (hrd x y _ hx hy) (readAll_rel hrd hxs hys)

theorem litNat_rel {v : SV} {n : Nat} (h : litNat v = some n) {c : Value} (hv : VRel V ι v c) : ∃ k, c = .int k (n : Int) := by
  unfold litNat at h
  split at h
  · cases h; simp only [VRel, SE.den] at hv; exact ⟨_, hv⟩
  · cases h

theorem partV_sound {t : TypeId} {ag : Bool} {n off : Nat} (hag : aggOf P t = some ag) (hn : sizeIn P t = some n) {cs : List SV} {l : Array Value} (hl : VRels V ι cs l.toList) {v : SV} (he : partV ag off n cs = some v) :
    ∃ c, (∀ w, (part t l off).run P w = .ok c w) ∧ VRel V ι v c := by
  unfold partV at he
  have hin : ∃ i, P.info? t = some i ∧ i.size = n := by
    unfold sizeIn at hn
    split at hn
    · exact ⟨_, ‹_›, by simpa using hn⟩
    · cases hn
  obtain ⟨i, hi, hin⟩ := hin
  cases ag
  · simp only [cond_false] at he
    obtain ⟨c, h1, h2⟩ := hl.get _ _ he
    refine ⟨c, fun w => ?_, h2⟩
    have hag' : (isAgg t).run P w = .ok false w := by
      unfold aggOf at hag
      unfold isAgg
      cases hu : P.underlying t with
      | none => simp [hu] at hag
      | some d => cases d <;> simp [hu] at hag <;> simp [run_underlying hu]
    have h1' : l[off]? = some c := by simpa using h1
    simp [part, hag', h1']
  · simp only [cond_true] at he
    unfold subL at he
    cases hb : Nat.ble (off + n) cs.length <;> simp [hb] at he
    subst he
    have hag' : ∀ w, (isAgg t).run P w = .ok true w := by
      intro w
      unfold aggOf at hag
      unfold isAgg
      cases hu : P.underlying t with
      | none => simp [hu] at hag
      | some d => cases d <;> simp [hu] at hag <;> simp [run_underlying hu]
    refine ⟨.agg (l.extract off (off + n)), fun w => by simp [part, hag' w, sizeOf, typeInfo, hi, hin], _, rfl, ?_⟩
    rw [Array.toList_extract]
    simpa [List.extract, Nat.add_sub_cancel_left] using (hl.drop off).take n

theorem foldl_set_list : ∀ (vs : List Value) (k off : Nat) (cs : Array Value), off + k + vs.length ≤ cs.size →
    ((vs.zipIdx k).foldl (fun cs (p : Value × Nat) => cs.setIfInBounds (off + p.2) p.1) cs).toList = cs.toList.take (off + k) ++ vs ++ cs.toList.drop (off + k + vs.length)
  | [], k, off, cs, h => by simp
  | v :: vs, k, off, cs, h => by
    have ih := foldl_set_list vs (k + 1) off (cs.setIfInBounds (off + k) v) (by simp at h ⊢; omega)
    rw [List.zipIdx_cons, List.foldl_cons, ih]
    have e2 := list_seg_step cs.toList (off + k) v vs (by simp at h ⊢; omega)
    simpa [Array.toList_setIfInBounds, Nat.add_assoc] using e2
theorem foldl_set (vs : Array Value) (off : Nat) (cs : Array Value) (h : off + vs.size ≤ cs.size) :
    ((vs.zipIdx).foldl (fun cs (p : Value × Nat) => cs.setIfInBounds (off + p.2) p.1) cs).toList = cs.toList.take off ++ vs.toList ++ cs.toList.drop (off + vs.size) := by
  rw [← Array.foldl_toList, Array.toList_zipIdx]
  have := foldl_set_list vs.toList 0 off cs (by simpa using h)
  simpa using this

theorem readFills_cons {rd : X → Option SV} {o n : Nat} {x : X} {xs : List (Nat × Nat × X)} {l : List (Nat × Nat × SV)} (h : readFills rd ((o, n, x) :: xs) = some l) : ∃ v l', rd x = some v ∧ readFills rd xs = some l' ∧ l = (o, n, v) :: l' := by
  unfold readFills at h
  cases hx : rd x <;> cases hxs : readFills rd xs <;> simp [cons?, hx, hxs] at h
  subst h; exact ⟨_, _, rfl, rfl, rfl⟩
theorem fill_sound (hrd : RdRel V ι rd a) {place : Nat → Option (Nat × Nat)} : ∀ {parts : List (Nat × Operand)} {fl : List (Nat × Nat × X)} {fv : List (Nat × Nat × SV)} {cs cs' : List SV} {l : Array Value},
    cFills place parts = some fl → readFills rd fl = some fv → fillV cs fv = some cs' → VRels V ι cs l.toList →
    ∃ l', Instr.fill place l (parts.map fun p => (p.1, a p.2)) = some l' ∧ VRels V ι cs' l'.toList
  | [], fl, fv, cs, cs', l, h1, h2, h3, hl => by
    simp [cFills] at h1; subst h1; simp [readFills] at h2; subst h2; simp [fillV] at h3; subst h3
    exact ⟨l, rfl, hl⟩
  | (i, x) :: ps, fl, fv, cs, cs', l, h1, h2, h3, hl => by
    unfold cFills at h1
    cases hp : place i with
    | none => simp [hp, cons?] at h1
    | some on =>
      obtain ⟨o, n⟩ := on
      cases hx : cX x with
      | none => simp [hp, hx, cons?] at h1
      | some y =>
        cases hps : cFills place ps with
        | none => simp [hp, hx, hps, cons?] at h1
        | some fl' =>
          simp [hp, hx, hps, cons?] at h1
          subst h1
          obtain ⟨v, l', hv, hr, rfl⟩ := readFills_cons h2
          simp only [fillV] at h3
          cases hb : (Nat.beq v.cells.length n && Nat.ble (o + n) cs.length && !v.isLost) <;> simp only [hb, cond_true, cond_false] at h3
          · cases h3
          simp only [Bool.and_eq_true, Bool.not_eq_true'] at hb
          have hb1 := Nat.eq_of_beq_eq_true hb.1.1
          have hb2 := Nat.le_of_ble_eq_true hb.1.2
          have hvx := (hrd x y v hx hv).cells hb.2
          have hlen := hvx.length
          have hll := hl.length
          have hfold := foldl_set (a x).cells o l (by simp only [Array.length_toList] at hlen hll ⊢; omega)
          have hrel : VRels V ι (cs.take o ++ v.cells ++ cs.drop (o + n)) (((a x).cells.zipIdx).foldl (fun cs (p : Value × Nat) => cs.setIfInBounds (o + p.2) p.1) l).toList := by
            rw [hfold]
            have : (a x).cells.size = n := by rw [← Array.length_toList]; omega
            rw [this]
            exact ((hl.take o).append hvx).append (hl.drop _)
          obtain ⟨l'', q1, q2⟩ := fill_sound hrd hps hr h3 hrel
          refine ⟨l'', ?_, q2⟩
          simp only [List.map_cons, Instr.fill, hp]
          have hs1 : (a x).cells.size = n := by simp only [Array.length_toList] at hlen; omega
          have hs2 : ¬ (l.size < o + n) := by simp only [Array.length_toList] at hll; omega
          rw [if_neg (by simp [hs1]; omega)]
          exact q1
theorem cval1_rel {v : Value} {s : SV} (h : cval1 v = some s) : VRel V ι s v := by
  unfold cval1 at h
  split at h <;> (try cases h) <;> simp [VRel, VRels, SB.den, SE.den]
theorem cval1s_rel : ∀ {l : List Value} {s : List SV}, cval1s l = some s → VRels V ι s l
  | [], s, h => by simp [cval1s] at h; subst h; exact .nil
  | v :: vs, s, h => by
    unfold cval1s at h
    cases h1 : cval1 v <;> cases h2 : cval1s vs <;> simp [cons?, h1, h2] at h
    subst h
    exact .cons (cval1_rel h1) (cval1s_rel h2)
theorem cval_rel {v : Value} {s : SV} (h : cval v = some s) : VRel V ι s v := by
  unfold cval at h
  split at h
  · split at h
    · cases h; exact ⟨_, rfl, cval1s_rel ‹_›⟩
    · cases h
  · split at h
    · cases h; exact ⟨_, rfl, cval1s_rel ‹_›⟩
    · cases h
  · exact cval1_rel h
theorem zeroIn_spec {t : TypeId} {cs : List SV} (h : zeroIn P t = some cs) : ∃ i z, P.info? t = some i ∧ i.zero = some z ∧ VRels V ι cs z.cells.toList := by
  unfold zeroIn at h
  split at h
  · split at h
    · exact ⟨_, _, ‹_›, ‹_›, cval1s_rel h⟩
    · cases h
  · cases h
theorem sizeIn_spec {t : TypeId} {n : Nat} (h : sizeIn P t = some n) : ∃ i, P.info? t = some i ∧ i.size = n := by
  unfold sizeIn at h
  split at h
  · exact ⟨_, ‹_›, by simpa using h⟩
  · cases h
theorem run_sizeOf {t : TypeId} {n : Nat} (h : sizeIn P t = some n) (w : World) : (sizeOf t).run P w = .ok n w := by
  obtain ⟨i, h1, h2⟩ := sizeIn_spec h
  simp [sizeOf, typeInfo, h1, h2]
theorem run_zeroValue {t : TypeId} {i : TypeInfo} {z : Value} (h : P.info? t = some i) (h' : i.zero = some z) (w : World) : (zeroValue t).run P w = .ok z w := by
  simp [zeroValue, typeInfo, h, h']
theorem sizesIn_spec (w : World) : ∀ {fs : List Field} {ps : List (Nat × Nat)}, sizesIn P fs = some ps →
    (fs.mapM fun f => (do pure (f.offset, ← sizeOf f.type) : Sem (Nat × Nat))).run P w = .ok ps w
  | [], ps, h => by simp [sizesIn] at h; subst h; simp
  | f :: fs, ps, h => by
    unfold sizesIn at h
    cases h1 : sizeIn P f.type <;> cases h2 : sizesIn P fs <;> simp [cons?, h1, h2] at h
    subst h
    have := sizesIn_spec w h2
    simp only [List.mapM_cons, Sem.run_bind, run_sizeOf h1, Result.andThen_ok, Sem.run_pure, this]
end
end Go.Sx
