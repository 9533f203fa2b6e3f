/- The symbolic machine: operations that make an object, told apart from the heap that they push it on. No condition: lemmas of the machine. -/
import Derived.Test.YtlgfmmccnilkmaaGreatDoorSySound
namespace Go.Sx
set_option linter.unusedVariables false
set_option linter.unusedSimpArgs false

theorem evM_A {rd : X → Option SV} {h : Hp} {q : AOp} (hq : isA q = true) : evM rd h q = match aParts rd q with
    | some (cs, mk) => match nwo h cs with
      | some h' => some (mk h.sz, h')
      | none => none
    | none => none := by
  cases q <;> simp only [isA] at hq <;> (try (cases hq; done)) <;> simp only [evM, aParts]
  case newC cs => rfl
  case box n x =>
    cases rd x with
    | none => rfl
    | some v => simp only []; cases (Nat.beq v.cells.length n && !v.isLost) <;> rfl
  case mkArr sz len zero fills =>
    cases readFills rd fills with
    | none => rfl
    | some l => simp only []; cases fillV (repL zero len) l <;> rfl
  case mkSl sz by' zero l c =>
    cases rd l with
    | none => rfl
    | some lv =>
      cases rd c with
      | none => rfl
      | some cv =>
        simp only []
        cases litNat lv with
        | none => rfl
        | some ln =>
          cases litNat cv with
          | none => rfl
          | some cn => simp only []; cases (Nat.ble ln cn && Nat.ble cn most && Nat.ble (by' * cn) most) <;> rfl

section
variable {P : Program} {V : Val} {ι : Nat → Option Loc} {B : Nat} {σ σ' : Hp} {w : World} {rd : X → Option SV} {a : Operand → Value}

theorem fillV_length : ∀ {f : List (Nat × Nat × SV)} {x y : List SV}, fillV x f = some y → y.length = x.length
  | [], x, y, h => by simp [fillV] at h; subst h; rfl
  | (o, n, u) :: f, x, y, h => by
    simp only [fillV] at h
    cases hbb : (Nat.beq u.cells.length n && Nat.ble (o + n) x.length && !u.isLost) <;> simp only [hbb, cond_true, cond_false] at h
    · cases h
    simp only [Bool.and_eq_true] at hbb
    have e1 := Nat.eq_of_beq_eq_true hbb.1.1
    have e2 := Nat.le_of_ble_eq_true hbb.1.2
    have := fillV_length h
    simp only [List.length_append, List.length_take, List.length_drop] at this
    omega

theorem does_A {o : Oper} {q : AOp} (hc : cOp P o = some q) (hrd : RdRel V ι rd a) {cs : List SV} {mk : Nat → SV} (ha : aParts rd q = some (cs, mk)) :
    ∃ (e : TypeId) (arr : Array Value) (us rest : List Value) (cv : Nat → Value), (∀ w, (execOp a o).run P w = .ok (.value (cv w.heap.size)) (w.alloc (.cells arr e))) ∧ arr.toList = us ++ rest ∧ VRels V ι cs us ∧
      ∀ (ι' : Nat → Option Loc) (id blk : Nat), ι' id = some ⟨blk, 0, arr.size⟩ → VRel V ι' (mk id) (cv blk) := by
  obtain ⟨dst, op, type, pos, after, guard⟩ := o
  cases op <;> simp only [cOp] at hc
  case alloc e =>
    split at hc <;> simp at hc
    subst hc
    rename_i cs hcs
    obtain ⟨i, z, hi, hz, hzr⟩ := zeroIn_spec (V := V) (ι := ι) hcs
    simp only [aParts, Option.some.injEq, Prod.mk.injEq] at ha
    obtain ⟨rfl, rfl⟩ := ha
    refine ⟨e, z.cells, z.cells.toList, [], fun b => .pointer (some ⟨b, 0, none⟩), fun w => ?_, by simp, hzr, fun ι' id blk h => ⟨_, h, by simp⟩⟩
    simp [execOp, Instr.alloc, run_zeroValue hi hz, newVar, newRow]
  case box e x =>
    split at hc <;> simp at hc
    subst hc
    rename_i n y hn hy
    simp only [aParts] at ha
    split at ha
    case h_2 => cases ha
    rename_i u h1
    cases hb : (Nat.beq u.cells.length n && !u.isLost) <;> simp only [hb, cond_true, cond_false] at ha
    · cases ha
    simp only [Bool.and_eq_true, Bool.not_eq_true'] at hb
    simp only [Option.some.injEq, Prod.mk.injEq] at ha
    obtain ⟨rfl, rfl⟩ := ha
    refine ⟨e, (a x).cells, (a x).cells.toList, [], fun b => .pointer (some ⟨b, 0, none⟩), fun w => ?_, by simp, (hrd x y _ hy h1).cells hb.2, fun ι' id blk h => ⟨_, h, by simp⟩⟩
    simp [execOp, Instr.box, newVar, newRow]
  case buildSlice t len parts =>
    split at hc
    case h_2 => cases hc
    rename_i sz by' z hel
    obtain ⟨e, i, zv, E, hzr, hzl⟩ := elemIn_spec (V := V) (ι := ι) hel
    cases hb : Nat.ble (len * sz) 16777216 <;> simp only [hb, cond_true, cond_false] at hc
    · cases hc
    have hb' := Nat.le_of_ble_eq_true hb
    split at hc
    case h_2 => cases hc
    rename_i fl hfl
    cases hc
    simp only [aParts] at ha
    split at ha
    case h_2 => cases ha
    rename_i l hl
    split at ha
    case h_2 => cases ha
    rename_i cs' hcs
    simp only [Option.some.injEq, Prod.mk.injEq] at ha
    obtain ⟨rfl, rfl⟩ := ha
    obtain ⟨E1, E2, E3, E4, E5, E6, E7⟩ := E
    have hmr := made_rel hzr (by omega) len (fun j => zv.cells[j % zv.cells.size]!) (fun _ _ => rfl)
    rw [hzl] at hmr
    obtain ⟨l', q1, q2⟩ := fill_sound hrd hfl hl hcs hmr
    have hcl : cs'.length = len * sz := by rw [fillV_length hcs, repL_length, hzl]
    have hl'sz : l'.size = len * sz := by have := q2.length; simp at this; omega
    refine ⟨e, l', l'.toList, [], fun b => .slice (some ⟨b, 0, none⟩) len len, fun w => ?_, by simp, q2, fun ι' id blk h => ⟨_, 0, len, h, rfl, .inl (by simp), Nat.le_refl _, Nat.le_refl _, by simp [hl'sz]⟩⟩
    have hnot : ¬ (16777216 < len * i.size) := by rw [E4]; omega
    have hmap : (parts.map fun p => (p.1, a p.2)).toList = parts.toList.map fun p => (p.1, a p.2) := by simp
    subst E4
    by_cases h0 : len * i.size = 0
    · have hz0 : ((Array.range (len * i.size)).map fun j => zv.cells[j % zv.cells.size]!) = #[] := by rw [h0]; simp
      rw [hz0] at q1
      have hr0 : Array.range 0 = #[] := by simp
      simp [execOp, Instr.buildSlice, run_underlying E1, sizeOf, typeInfo, E2, hnot, h0, hr0, hmap, q1, newRow]
    · simp only [execOp, Instr.buildSlice, Sem.run_bind, run_underlying E1, sizeOf, typeInfo]
      simp [E2, hnot, h0, zeroValue, typeInfo, E3, hmap, q1, newRow]
  case makeSlice t lx cx =>
    split at hc
    case h_2 => cases hc
    rename_i sz by' z l c hel hl hcx
    cases hc
    obtain ⟨e, i, zv, E, hzr, hzl⟩ := elemIn_spec (V := V) (ι := ι) hel
    simp only [aParts] at ha
    split at ha
    case h_2 => cases ha
    rename_i lv cv h1 h2
    split at ha
    case h_2 => cases ha
    rename_i ln cn h3 h4
    cases hb : (Nat.ble ln cn && Nat.ble cn most && Nat.ble (by' * cn) most) <;> simp only [hb, cond_true, cond_false] at ha
    · cases ha
    simp only [Bool.and_eq_true] at hb
    have b1 := Nat.le_of_ble_eq_true hb.1.1
    have b2 := Nat.le_of_ble_eq_true hb.1.2
    have b3 := Nat.le_of_ble_eq_true hb.2
    simp only [Option.some.injEq, Prod.mk.injEq] at ha
    obtain ⟨rfl, rfl⟩ := ha
    obtain ⟨kl, e1⟩ := litNat_rel h3 (hrd lx l _ hl h1)
    obtain ⟨kc, e2⟩ := litNat_rel h4 (hrd cx c _ hcx h2)
    obtain ⟨E1, E2, E3, E4, E5, E6, E7⟩ := E
    have hb3' : (i.bytes : Int) * (cn : Int) ≤ 281474976710656 := by
      have h : ((i.bytes * cn : Nat) : Int) ≤ 281474976710656 := by rw [E5]; unfold most at b3; omega
      rwa [Int.natCast_mul] at h
    have hrun := fun w => run_make (P := P) w t e i zv E1 E2 E3 kl kc (ln : Int) (cn : Int) (by omega) (by omega) hb3' (by unfold most at b2; omega)
    simp only [Int.toNat_natCast] at hrun
    have hmr := made_rel hzr (by omega) cn (fun j => zv.cells[j % zv.cells.size]!) (fun _ _ => rfl)
    refine ⟨e, madeCells zv.cells (cn * i.size), (madeCells zv.cells (cn * i.size)).toList, [], fun b => .slice (some ⟨b, 0, none⟩) ln cn, fun w => ?_, by simp, by simpa [madeCells, hzl, E4] using hmr,
      fun ι' id blk h => ⟨_, 0, cn, h, rfl, .inl (by simp), b1, Nat.le_refl _, by simp [madeCells, E4]⟩⟩
    simp only [execOp, e1, e2, Sem.run_bind, hrun, Result.andThen_ok, Sem.run_pure]
  case makeFunc fn _ _ => cases fn <;> simp only [] at hc <;> (repeat' split at hc) <;> simp at hc <;> subst hc <;> simp [aParts] at ha
  case slice mx => cases mx <;> simp only [] at hc <;> (repeat' split at hc) <;> simp at hc <;> subst hc <;> simp [aParts] at ha
  case call cc =>
    obtain ⟨callee, args, tys⟩ := cc
    cases callee <;> simp only [] at hc
    case value f => (repeat' split at hc) <;> simp at hc <;> subst hc <;> simp [aParts] at ha
    case invoke => cases hc
    case builtin b => unfold cBuiltin at hc; simp only [Bool.cond_eq_ite] at hc; (repeat' split at hc) <;> simp at hc <;> subst hc <;> simp [aParts] at ha
  case lookup =>
    exfalso
    obtain ⟨_, _, _, _, _, _, _, _, _, _, _, rfl⟩ := cLook_spec hc
    simp [aParts] at ha
  case mapUpdate =>
    exfalso
    obtain ⟨_, _, _, _, _, _, _, _, _, _, _, rfl⟩ := cPut_spec hc
    simp [aParts] at ha
  case makeMap t r =>
    exfalso
    cases r with
    | some r => simp at hc
    | none =>
      simp only [Option.some.injEq] at hc
      subst hc
      simp [aParts] at ha
  all_goals (exfalso; (try simp only [Bool.cond_eq_ite] at hc); (repeat' split at hc) <;> (first | (cases hc; done) | (simp at hc; subst hc; simp [aParts] at ha; done)))

theorem readAll_congr {rd rd' : X → Option SV} : ∀ {l : List X}, (∀ x ∈ l, rd x = rd' x) → readAll rd l = readAll rd' l
  | [], _ => rfl
  | x :: xs, h => by
    unfold readAll
    rw [h x (List.mem_cons_self ..), readAll_congr fun y hy => h y (List.mem_cons_of_mem _ hy)]
theorem readFills_congr {rd rd' : X → Option SV} : ∀ {l : List (Nat × Nat × X)}, (∀ x ∈ l.map (·.2.2), rd x = rd' x) → readFills rd l = readFills rd' l
  | [], _ => rfl
  | (a, b, x) :: xs, h => by
    unfold readFills
    rw [h x (by simp), readFills_congr fun y hy => h y (by simp at hy ⊢; exact .inr hy)]
theorem readOpt_congr {rd rd' : X → Option SV} : ∀ {l : Option X}, (∀ x ∈ oX l, rd x = rd' x) → readOpt rd l = readOpt rd' l
  | none, _ => rfl
  | some x, h => by simp only [readOpt]; rw [h x (by simp [oX])]
theorem evP_congr {rd rd' : X → Option SV} {pc : PC} {q : POp} (h : ∀ x ∈ q.xs, rd x = rd' x) : evP rd pc q = evP rd' pc q := by
  cases q <;> simp only [POp.xs] at h <;> simp only [evP]
  case build z fs => rw [readFills_congr h]
  case mkFunc f a b => rw [readAll_congr fun x hx => h x (List.mem_append_left _ hx), readAll_congr fun x hx => h x (List.mem_append_right _ hx)]
  case slice sz x lo hi =>
    rw [h x (List.mem_cons_self ..), readOpt_congr fun y hy => h y (List.mem_cons_of_mem _ (List.mem_append_left _ hy)), readOpt_congr fun y hy => h y (List.mem_cons_of_mem _ (List.mem_append_right _ hy))]
  all_goals (first
    | (rename_i x y; rw [h x (by simp), h y (by simp)])
    | (rename_i x; rw [h x (by simp)]))
theorem evM_congr {rd rd' : X → Option SV} {hp : Hp} {q : AOp} (h : ∀ x ∈ q.xs, rd x = rd' x) : evM rd hp q = evM rd' hp q := by
  cases q <;> simp only [AOp.xs] at h <;> simp only [evM]
  case slarr n sz x lo hi =>
    rw [h x (List.mem_cons_self ..), readOpt_congr fun y hy => h y (List.mem_cons_of_mem _ (List.mem_append_left _ hy)), readOpt_congr fun y hy => h y (List.mem_cons_of_mem _ (List.mem_append_right _ hy))]
  case mkArr a b c fs => rw [readFills_congr h]
  case mget kk ok z m i => unfold m_mget; rw [h m (by simp), h i (by simp)]
  case mset kk m i x => unfold m_mset; rw [h m (by simp), h i (by simp), h x (by simp)]
  all_goals (first
    | (rename_i x y; rw [h x (by simp), h y (by simp)])
    | (rename_i x; rw [h x (by simp)]))
theorem aParts_congr {rd rd' : X → Option SV} {q : AOp} (h : ∀ x ∈ q.xs, rd x = rd' x) : aParts rd q = aParts rd' q := by
  cases q <;> simp only [AOp.xs] at h <;> simp only [aParts]
  case mkArr a b c fs => rw [readFills_congr h]
  all_goals (first
    | (rename_i x y; rw [h x (by simp), h y (by simp)])
    | (rename_i x; rw [h x (by simp)]))
theorem forkO_congr {rd rd' : X → Option SV} {s : St} {n : Nat} {x : Option X} (h : ∀ y ∈ oX x, rd y = rd' y) : forkO rd s x n = forkO rd' s x n := by
  cases x with
  | none => rfl
  | some x => simp only [forkO]; rw [h x (by simp [oX])]
theorem forkP_congr {rd rd' : X → Option SV} {s : St} {q : POp} (h : ∀ x ∈ q.xs, rd x = rd' x) : forkP rd s q = forkP rd' s q := by
  cases q <;> simp only [POp.xs] at h <;> try rfl
  case bin c op x y =>
    cases c with
    | zero => simp only [forkP]; rw [h y (by simp)]
    | succ c => rfl
  case slice sz x lo hi =>
    simp only [forkP]
    rw [h x (List.mem_cons_self ..)]
    have hxo : ∀ pc len, inXO rd pc lo hi len = inXO rd' pc lo hi len := by
      intro pc len
      cases lo with
      | none => rfl
      | some z => cases hi with
        | none => simp only [inXO]; rw [h z (List.mem_cons_of_mem _ (by simp [oX]))]
        | some _ => rfl
    simp only [hxo]
    simp only [forkO_congr (rd := rd) (rd' := rd') (x := lo) fun y hy => h y (List.mem_cons_of_mem _ (List.mem_append_left _ hy)), forkO_congr (rd := rd) (rd' := rd') (x := hi) fun y hy => h y (List.mem_cons_of_mem _ (List.mem_append_right _ hy))]
  case conv k x => simp only [forkP, forkC]; rw [h x (by simp)]
  case mx x y => simp only [forkP, forkM]; rw [h x (by simp), h y (by simp)]
  case mn x y => simp only [forkP, forkM]; rw [h x (by simp), h y (by simp)]
  all_goals (rename_i x y; simp only [forkP]; first | rw [h x (by simp), h y (by simp)] | rw [h y (by simp)])
theorem evOp_congr {callF : Nat → List SV → St → Option (SV × St)} {rd rd' : X → Option SV} {s : St} {q : AOp} (h : ∀ x ∈ q.xs, rd x = rd' x) : evOp callF rd s q = evOp callF rd' s q := by
  cases q <;> simp only [evOp]
  case p q =>
    rw [forkP_congr h]
    simp only [evP_congr (rd := rd) (rd' := rd') h]
  case pick c a b =>
    have h1 : ∀ t : Bool, rd (bif t then a else b) = rd' (bif t then a else b) := fun t => by
      cases t
      · exact h b (by simp [AOp.xs])
      · exact h a (by simp [AOp.xs])
    rw [h c (by simp [AOp.xs])]
    simp only [h1]
  case call f as =>
    rw [h f (by simp [AOp.xs]), readAll_congr fun x hx => h x (by simp [AOp.xs, hx])]
  all_goals rw [evM_congr h]
end
end Go.Sx
