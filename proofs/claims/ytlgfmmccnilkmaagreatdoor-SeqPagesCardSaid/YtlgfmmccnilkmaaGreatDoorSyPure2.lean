/- The symbolic machine: each operation that leaves memory alone does as it says. No condition: lemmas of the machine. -/
import Derived.Test.YtlgfmmccnilkmaaGreatDoorSyPure
namespace Go.Sx
set_option linter.unusedVariables false
set_option linter.unusedSimpArgs false

section
variable {P : Program} {V : Val} {ι : Nat → Option Loc} {rd : X → Option SV} {a : Operand → Value} {pc : PC}


theorem optNat_rel {lo : Option Operand} {lo' : Option X} {lv : Option SV} (hrd : RdRel V ι rd a) (h1 : cXo lo = some lo') (h2 : readOpt rd lo' = some lv) {d l : Nat} (h3 : optNat lv d = some l) :
    (lo.map a = none ∧ l = d) ∨ ∃ k, lo.map a = some (.int k (l : Int)) := by
  cases lo with
  | none =>
    simp [cXo] at h1; subst h1; simp [readOpt] at h2; subst h2; simp [optNat] at h3
    exact .inl ⟨rfl, h3.symm⟩
  | some x =>
    unfold cXo at h1
    cases hx : cX x <;> simp [hx] at h1
    subst h1
    unfold readOpt at h2
    rename_i y
    cases hy : rd y <;> simp [hy] at h2
    subst h2
    rename_i v
    simp only [optNat] at h3
    obtain ⟨k, hk⟩ := litNat_rel h3 (hrd x y v hx hy)
    exact .inr ⟨k, by simp [hk]⟩
theorem litNatP_rel {pc : PC} (hpc : pc.holds V) {v : SV} {n : Nat} (h : litNatP pc v = some n) {c : Value} (hv : VRel V ι v c) : ∃ k, c = .int k (n : Int) := by
  unfold litNatP at h
  split at h
  · cases h; simp only [VRel, SE.den] at hv; exact ⟨_, hv⟩
  · rename_i k e _
    split at h
    · rename_i m hm
      cases h
      simp only [VRel, PC.one_den hpc hm] at hv
      exact ⟨_, hv⟩
    · cases h
  · cases h
theorem optNatP_rel {pc : PC} (hpc : pc.holds V) {lo : Option Operand} {lo' : Option X} {lv : Option SV} (hrd : RdRel V ι rd a) (h1 : cXo lo = some lo') (h2 : readOpt rd lo' = some lv) {d l : Nat} (h3 : optNatP pc lv d = some l) :
    (lo.map a = none ∧ l = d) ∨ ∃ k, lo.map a = some (.int k (l : Int)) := by
  cases lo with
  | none =>
    simp [cXo] at h1; subst h1; simp [readOpt] at h2; subst h2; simp [optNatP] at h3
    exact .inl ⟨rfl, h3.symm⟩
  | some x =>
    unfold cXo at h1
    cases hx : cX x <;> simp [hx] at h1
    subst h1
    unfold readOpt at h2
    rename_i y
    cases hy : rd y <;> simp [hy] at h2
    subst h2
    rename_i v
    simp only [optNatP] at h3
    obtain ⟨k, hk⟩ := litNatP_rel hpc h3 (hrd x y v hx hy)
    exact .inr ⟨k, by simp [hk]⟩
theorem run_bounds (w : World) (isS : Bool) (len cap l h : Nat) (lo hi : Option Value) (hlo : (lo = none ∧ l = 0) ∨ ∃ k, lo = some (.int k (l : Int))) (hhi : (hi = none ∧ h = len) ∨ ∃ k, hi = some (.int k (h : Int)))
    (h1 : l ≤ h) (h2 : h ≤ cap) : (Instr.sliceBounds isS len cap lo hi none).run P w = .ok (l, h, cap) w := by
  have b2 : ∀ k code, (Instr.sliceBound (.int k (h : Int)) cap code).run P w = .ok h w := fun k code => by simp [Instr.sliceBound, asIntOf, h2]
  have b1 : ∀ k code, (Instr.sliceBound (.int k (l : Int)) h code).run P w = .ok l w := fun k code => by simp [Instr.sliceBound, asIntOf, h1]
  rcases hlo with ⟨rfl, rfl⟩ | ⟨k, rfl⟩ <;> rcases hhi with ⟨rfl, rfl⟩ | ⟨k', rfl⟩ <;> simp [Instr.sliceBounds, b1, b2]

theorem binI_arith (w : World) (op : BinOp) (k : IntKind) (x y : Int) (h : isArith op = true) (t : TypeId) : (binOp op t (.int k x) (.int k y)).run P w = .ok (.int k (binI op k x y)) w := by
  cases op <;> simp [isArith] at h <;> simp [binOp, Op.intArith, Op.intBits, binI]
theorem binI_cmp (w : World) (op : BinOp) (k : IntKind) (x y : Int) (h : isCmp op = true) (t : TypeId) : (binOp op t (.int k x) (.int k y)).run P w = .ok (.bool (cmpI op x y)) w := by
  cases op <;> simp [isCmp] at h <;> simp [binOp, Op.intCmp, cmpI]
theorem binI_shift (w : World) (op : BinOp) (k k' : IntKind) (x y : Int) (h : isShift op = true) (hy : 0 ≤ y) (t : TypeId) : (binOp op t (.int k x) (.int k' y)).run P w = .ok (.int k (binI op k x y)) w := by
  have hy' : ¬ y < 0 := by omega
  cases op <;> simp [isShift] at h <;> simp [binOp, Op.shift, binI, hy']
theorem binI_div (w : World) (op : BinOp) (k : IntKind) (x y : Int) (h : isDiv op = true) (hy : y ≠ 0) (t : TypeId) : (binOp op t (.int k x) (.int k y)).run P w = .ok (.int k (binI op k x y)) w := by
  cases op <;> simp [isDiv] at h <;> simp [binOp, Op.intDiv, binI, hy]
theorem wrap_unsigned {k : IntKind} (h : k.signed = false) (n : Int) : 0 ≤ k.wrap n := by
  cases k <;> simp [IntKind.signed] at h <;> simp [IntKind.wrap, IntKind.bits, IntKind.signed] <;> omega
theorem and_small (k : IntKind) (x n : Int) (h0 : 0 ≤ n) (h1 : n ≤ 127) : 0 ≤ k.wrap ((BitVec.ofInt k.bits x &&& BitVec.ofInt k.bits n).toNat : Int) := by
  have hle : (BitVec.ofInt k.bits x &&& BitVec.ofInt k.bits n).toNat ≤ (BitVec.ofInt k.bits n).toNat := by
    rw [BitVec.toNat_and]; exact Nat.and_le_right
  have hn : (BitVec.ofInt k.bits n).toNat ≤ 127 := by
    rw [BitVec.toNat_ofInt]
    cases k <;> simp [IntKind.bits] <;> omega
  generalize (BitVec.ofInt k.bits x &&& BitVec.ofInt k.bits n).toNat = m at hle
  have hm : m ≤ 127 := Nat.le_trans hle hn
  cases k <;> simp [IntKind.wrap, IntKind.bits, IntKind.signed] <;> (try split) <;> omega
theorem notNeg_den {e : SE} (h : notNeg e = true) : 0 ≤ e.den V := by
  unfold notNeg at h
  split at h
  · simpa [SE.den, Int.ble1_iff] using h
  · simp only [Bool.or_eq_true, Bool.not_eq_true', Bool.and_eq_true, Int.ble1_iff] at h
    simp only [SE.den, binI]
    rcases h with h | h
    · exact wrap_unsigned h _
    · exact and_small _ _ _ h.1 h.2
  · rename_i op k x y _
    simp only [Bool.and_eq_true, Bool.not_eq_true'] at h
    simp only [SE.den]
    obtain ⟨h1, h2⟩ := h
    cases op <;> simp [isArith] at h1 <;> simp only [binI] <;> exact wrap_unsigned h2 _
  · simp only [Bool.not_eq_true'] at h
    exact wrap_unsigned h _
  · cases h

theorem run_eqGuard_scalar (w : World) (op : BinOp) (t : TypeId) (x y : Operand) (c d : Value) (h : (∀ u v, c ≠ .agg u ∨ d ≠ .agg v)) (h' : c ≠ .nilIface ∨ d ≠ .nilIface) : (eqGuard op t x y c d).run P w = .ok () w := by
  unfold eqGuard
  cases c <;> cases d <;> first
    | (exfalso; rcases h' with h' | h' <;> exact h' rfl)
    | (exfalso; rcases h _ _ with h | h <;> exact h rfl)
    | (cases op <;> simp)

theorem isNil_rel {n : Nat} {v : SV} {b : Bool} (h : isNil n v = some b) {c : Value} (hv : VRel V ι v c) :
    (n = 0 ∧ ((b = true ∧ c = .pointer none) ∨ (b = false ∧ ∃ x, c = .pointer (some x)))) ∨ (n = 1 ∧ ((b = true ∧ c = .slice none 0 0) ∨ (b = false ∧ ∃ x i j, c = .slice (some x) i j))) ∨
    (n = 2 ∧ ((b = true ∧ c = .nilFunc) ∨ (b = false ∧ ∃ f x y, c = .func f x y))) := by
  unfold isNil at h
  split at h <;> simp at h <;> subst h <;> simp only [VRel] at hv
  · exact .inl ⟨rfl, .inl ⟨rfl, hv⟩⟩
  · obtain ⟨l, _, rfl⟩ := hv; exact .inl ⟨rfl, .inr ⟨rfl, _, rfl⟩⟩
  · exact .inr (.inl ⟨rfl, .inl ⟨rfl, hv⟩⟩)
  · obtain ⟨l, a, ccap, _, rfl, _⟩ := hv; exact .inr (.inl ⟨rfl, .inr ⟨rfl, _, _, _, rfl⟩⟩)
  · exact .inr (.inr ⟨rfl, .inl ⟨rfl, hv⟩⟩)
  · obtain ⟨f, g, rfl, _⟩ := hv; exact .inr (.inr ⟨rfl, .inr ⟨rfl, _, _, _, rfl⟩⟩)

theorem nilTy_eq {t : TypeId} {n : Nat} (hn : nilTy P t = some n) {x y : SV} {p q : Bool} (hp : isNil n x = some p) (hq : isNil n y = some q) (hpq : p = true ∨ q = true) {c d : Value} (hc : VRel V ι x c) (hd : VRel V ι y d) (w : World) :
    (Op.equal t c d).run P w = .ok (p && q) w := by
  unfold nilTy at hn
  unfold Op.equal Op.maxDepth Op.equalIn
  have hp1 := isNil_rel hp hc
  have hq1 := isNil_rel hq hd
  clear hp hq hc hd
  rcases hp1 with ⟨e1, hp⟩ | ⟨e1, hp⟩ | ⟨e1, hp⟩ <;> rcases hq1 with ⟨e2, hq⟩ | ⟨e2, hq⟩ | ⟨e2, hq⟩ <;> (try (exfalso; omega)) <;>
  (split at hn <;> (try (exfalso; simp at hn; done)) <;> (try (exfalso; simp at hn; omega)) <;> rename_i hu) <;> simp only [Sem.run_bind, run_underlying hu, Result.andThen_ok] <;>
  rcases hp with ⟨rfl, rfl⟩ | ⟨rfl, hp⟩ <;> rcases hq with ⟨rfl, rfl⟩ | ⟨rfl, hq⟩ <;> (try (exfalso; simp at hpq; done))
  all_goals first
    | (simp; done)
    | (obtain ⟨x, rfl⟩ := hp; simp; done)
    | (obtain ⟨x, rfl⟩ := hq; simp; done)
    | (obtain ⟨x, i, j, rfl⟩ := hp; simp; done)
    | (obtain ⟨x, i, j, rfl⟩ := hq; simp; done)

theorem aggOf_run {t : TypeId} {b : Bool} (h : aggOf P t = some b) (w : World) : (isAgg t).run P w = .ok b w := by
  unfold aggOf at h
  unfold isAgg
  cases hu : P.underlying t with
  | none => simp [hu] at h
  | some d => cases d <;> simp [hu] at h <;> subst h <;> simp [run_underlying hu]

theorem notNegP_den {pc : PC} (h : pc.holds V) {e : SE} (hn : notNegP pc e = true) : 0 ≤ e.den V := by
  unfold notNegP at hn
  simp only [Bool.or_eq_true] at hn
  rcases hn with hn | hn
  · exact notNeg_den hn
  · exact leO_den hn (isHi_some (Int.le_refl 0)) (PC.lo_den h)
theorem addX_den {pc : PC} (h : pc.holds V) {a b : SE} (hx : addX pc a b = true) (ha : 0 ≤ a.den V) (hb : 0 ≤ b.den V) : (mkBin .add .i64 a b).den V = a.den V + b.den V := by
  unfold addX at hx
  split at hx
  case h_2 => cases hx
  rename_i x y h1 h2
  have q1 := PC.hi_den h _ h1
  have q2 := PC.hi_den h _ h2
  have q3 := (Int.ble1_iff _ _).1 hx
  rw [mkBin_den]
  simp only [binI]
  have q4 : IntKind.i64.max = 9223372036854775807 := rfl
  exact wrap_of_in (by have : IntKind.i64.min = -9223372036854775808 := rfl; omega) (by omega)
theorem evBin_sound {op : BinOp} {t : TypeId} {cls : Nat} (ht : scalarTy P t = some cls) {x y : Operand} {u v r : SV} {c d : Value} (hc : VRel V ι u c) (hd : VRel V ι v d) (hpc : pc.holds V) (he : evBin pc op cls u v = some r) :
    ∃ e, (∀ w, (do eqGuard op t x y c d; binOp op t c d : Sem Value).run P w = .ok e w) ∧ VRel V ι r e := by
  unfold evBin at he
  split at he
  · rename_i k p k' q
    simp only [VRel] at hc hd
    subst hc; subst hd
    have hg : ∀ w, (eqGuard op t x y (.int k (p.den V)) (.int k' (q.den V))).run P w = .ok () w := fun w => run_eqGuard_scalar w op t x y _ _ (fun _ _ => .inl (by simp)) (.inl (by simp))
    cases h1 : isShift op <;> simp only [h1, cond_true, cond_false] at he
    · cases h2 : decide (k = k') <;> simp only [h2, Bool.not_true, Bool.not_false, cond_true, cond_false] at he
      · cases he
      obtain rfl := of_decide_eq_true h2
      cases h3 : isArith op <;> simp only [h3, cond_true, cond_false] at he
      · cases h4 : isCmp op <;> simp only [h4, cond_true, cond_false] at he
        · cases h5 : isDiv op <;> simp only [h5, cond_true, cond_false] at he
          · cases he
          cases h6 : nonZeroP pc q <;> simp only [h6, cond_true, cond_false] at he
          · cases he
          cases he
          exact ⟨_, fun w => by simp only [Sem.run_bind, hg, Result.andThen_ok]; exact binI_div w op k _ _ h5 (nonZeroP_den hpc h6) t, by simp [VRel, mkBin_den]⟩
        · cases he
          exact ⟨_, fun w => by simp only [Sem.run_bind, hg, Result.andThen_ok]; exact binI_cmp w op k _ _ h4 t, by simp [VRel, mkCmp_den]⟩
      · cases he
        exact ⟨_, fun w => by simp only [Sem.run_bind, hg, Result.andThen_ok]; exact binI_arith w op k _ _ h3 t, by simp [VRel, mkBin_den]⟩
    · cases h2 : notNegP pc q <;> simp only [h2, cond_true, cond_false] at he
      · cases he
      cases he
      exact ⟨_, fun w => by simp only [Sem.run_bind, hg, Result.andThen_ok]; exact binI_shift w op k k' _ _ h1 (notNegP_den hpc h2) t, by simp [VRel, mkBin_den]⟩
  · rename_i p q
    simp only [VRel] at hc hd
    subst hc; subst hd
    have hg : ∀ w, (eqGuard op t x y (.bool (p.den V)) (.bool (q.den V))).run P w = .ok () w := fun w => run_eqGuard_scalar w op t x y _ _ (fun _ _ => .inl (by simp)) (.inl (by simp))
    have hu : P.underlying t = some .bool := by
      unfold scalarTy at ht
      split at ht <;> simp at ht
      assumption
    have hb : ∀ w, (Op.equal t (.bool (p.den V)) (.bool (q.den V))).run P w = .ok (p.den V == q.den V) w := by
      intro w
      unfold Op.equal Op.maxDepth Op.equalIn
      simp [run_underlying hu]
    split at he <;> simp at he <;> subst he
    · exact ⟨.bool (p.den V == q.den V), fun w => by simp only [Sem.run_bind, hg, Result.andThen_ok]; simp [binOp, hb], by simp [VRel, mkEq_den]⟩
    · exact ⟨.bool (!(p.den V == q.den V)), fun w => by simp only [Sem.run_bind, hg, Result.andThen_ok]; simp [binOp, hb], by simp [VRel, mkNot_den, mkEq_den]⟩
  · rename_i p q
    simp only [VRel] at hc hd
    subst hc; subst hd
    have hg : ∀ w, (eqGuard op t x y (.string p) (.string q)).run P w = .ok () w := fun w => run_eqGuard_scalar w op t x y _ _ (fun _ _ => .inl (by simp)) (.inl (by simp))
    have he' : eqStr p q = (p.toList == q.toList) := by unfold eqStr; rw [ByteArray.toList_eq, ByteArray.toList_eq]
    split at he <;> simp at he <;> subst he
    · exact ⟨.bool (eqStr p q), fun w => by simp only [Sem.run_bind, hg, Result.andThen_ok]; simp [binOp, Op.stringOp, he'], by simp [VRel, SB.den]⟩
    · exact ⟨.bool (!(eqStr p q)), fun w => by simp only [Sem.run_bind, hg, Result.andThen_ok]; simp [binOp, Op.stringOp, he'], by simp [VRel, SB.den]⟩
  · rename_i p q
    simp only [VRel] at hc hd
    obtain ⟨s, rfl, hs⟩ := hc
    subst hd
    have hg : ∀ w, (eqGuard op t x y (.string s) (.string q)).run P w = .ok () w := fun w => run_eqGuard_scalar w op t x y _ _ (fun _ _ => .inl (by simp)) (.inl (by simp))
    have he' : (p.den V == strC q) = (s.toList == q.toList) := by
      rw [hs, Bool.eq_iff_iff, beq_iff_eq, beq_iff_eq, ByteArray.toList_eq, ByteArray.toList_eq]
      exact ⟨fun h => by rw [strC_inj h], fun h => by unfold strC; rw [h]⟩
    split at he <;> simp at he <;> subst he
    · exact ⟨.bool (p.den V == strC q), fun w => by simp only [Sem.run_bind, hg, Result.andThen_ok]; simp [binOp, Op.stringOp, he'], by simp [VRel, mkCmp_den, cmpI, SE.den]⟩
    · exact ⟨.bool (!(p.den V == strC q)), fun w => by simp only [Sem.run_bind, hg, Result.andThen_ok]; simp [binOp, Op.stringOp, he'], by simp [VRel, mkNot_den, mkCmp_den, cmpI, SE.den]⟩
  · rename_i p q
    simp only [VRel] at hc hd
    obtain ⟨s, rfl, hs⟩ := hd
    subst hc
    have hg : ∀ w, (eqGuard op t x y (.string p) (.string s)).run P w = .ok () w := fun w => run_eqGuard_scalar w op t x y _ _ (fun _ _ => .inl (by simp)) (.inl (by simp))
    have he' : (q.den V == strC p) = (p.toList == s.toList) := by
      rw [hs, Bool.eq_iff_iff, beq_iff_eq, beq_iff_eq, ByteArray.toList_eq, ByteArray.toList_eq]
      exact ⟨fun h => by rw [strC_inj h], fun h => by unfold strC; rw [h]⟩
    split at he <;> simp at he <;> subst he
    · exact ⟨.bool (q.den V == strC p), fun w => by simp only [Sem.run_bind, hg, Result.andThen_ok]; simp [binOp, Op.stringOp, he'], by simp [VRel, mkCmp_den, cmpI, SE.den]⟩
    · exact ⟨.bool (!(q.den V == strC p)), fun w => by simp only [Sem.run_bind, hg, Result.andThen_ok]; simp [binOp, Op.stringOp, he'], by simp [VRel, mkNot_den, mkCmp_den, cmpI, SE.den]⟩
  · cases he

theorem gives_p {o : Oper} {p : POp} (hc : cOp P o = some (.p p)) (hrd : RdRel V ι rd a) (hpc : pc.holds V) {v : SV} (he : evP rd pc p = some v) : Gives P V ι a o v := by
  obtain ⟨dst, op, type, pos, after, guard⟩ := o
  cases op <;> simp only [cOp] at hc
  case move x =>
    split at hc <;> simp at hc
    subst hc; simp only [evP] at he
    exact ⟨a x, fun w => by simp [execOp], hrd x _ _ ‹_› he⟩
  case assign x =>
    split at hc <;> simp at hc
    subst hc; simp only [evP] at he
    exact ⟨a x, fun w => by simp [execOp], hrd x _ _ ‹_› he⟩
  case pick => split at hc <;> simp at hc
  case alloc => split at hc <;> simp at hc
  case box => split at hc <;> simp at hc
  case build t parts =>
    split at hc
    case h_2 => cases hc
    rename_i z hz
    obtain ⟨i, zv, hi, hzv, hzr⟩ := zeroIn_spec (V := V) (ι := ι) hz
    have hzero : ∀ w, (zeroValue t).run P w = .ok zv w := run_zeroValue hi hzv
    split at hc
    · rename_i fs hu
      split at hc
      case h_2 => cases hc
      rename_i ps hps
      split at hc
      case h_2 => cases hc
      rename_i fl hfl
      simp only [Option.some.injEq, AOp.p.injEq] at hc
      subst hc
      simp only [evP] at he
      split at he
      case h_2 => cases he
      rename_i l hl
      split at he
      case h_2 => cases he
      rename_i cs hcs
      cases he
      obtain ⟨l', q1, q2⟩ := fill_sound hrd hfl hl hcs hzr
      refine ⟨.agg l', fun w => ?_, l', rfl, q2⟩
      have hm := sizesIn_spec (P := P) w hps
      have hm' : (fs.mapM fun f => (do pure (f.offset, ← sizeOf f.type) : Sem (Nat × Nat))).run P w = .ok ps.toArray w := by
        rw [Array.mapM_eq_mapM_toList]
        simp only [map_eq_pure_bind, Sem.run_bind, hm, Result.andThen_ok, Sem.run_pure]
      have hmap : (parts.map fun p => (p.1, a p.2)).toList = parts.toList.map fun p => (p.1, a p.2) := by simp
      have hplace : (fun i : Nat => ps.toArray[i]?) = fun i : Nat => ps[i]? := by funext i; simp
      simp only [execOp, Instr.build, Sem.run_bind, hzero, Result.andThen_ok, run_underlying hu, Sem.run_pure, hm', hmap, hplace, q1]
    · rename_i n e hu
      split at hc
      case h_2 => cases hc
      rename_i sz hsz
      split at hc
      case h_2 => cases hc
      rename_i fl hfl
      simp only [Option.some.injEq, AOp.p.injEq] at hc
      subst hc
      simp only [evP] at he
      split at he
      case h_2 => cases he
      rename_i l hl
      split at he
      case h_2 => cases he
      rename_i cs hcs
      cases he
      obtain ⟨l', q1, q2⟩ := fill_sound hrd hfl hl hcs hzr
      refine ⟨.agg l', fun w => ?_, l', rfl, q2⟩
      have hmap : (parts.map fun p => (p.1, a p.2)).toList = parts.toList.map fun p => (p.1, a p.2) := by simp
      simp only [execOp, Instr.build, Sem.run_bind, hzero, Result.andThen_ok, run_underlying hu, Sem.run_pure, run_sizeOf hsz, hmap, q1]
    · cases hc
  case buildSlice =>
    exfalso
    simp only [Bool.cond_eq_ite] at hc
    (repeat' split at hc) <;> simp at hc
  case load => exfalso; simp only [Bool.cond_eq_ite] at hc; (repeat' split at hc) <;> simp at hc
  case store => exfalso; (repeat' split at hc) <;> simp at hc
  case makeSlice => exfalso; (repeat' split at hc) <;> simp at hc
  case nilCheck x =>
    split at hc <;> simp at hc
    subst hc; simp only [evP] at he
    rename_i y hy
    split at he <;> simp at he <;> subst he <;> rename_i h1 <;> have hx := hrd x y _ hy h1
    · obtain ⟨l, h2, h3⟩ := hx
      exact ⟨a x, fun w => by simp [execOp, h3], ⟨l, h2, h3⟩⟩
    · obtain ⟨u, h2, h3⟩ := hx
      exact ⟨a x, fun w => by simp [execOp, h2], ⟨u, h2, h3⟩⟩
    · obtain ⟨f, g, h2, h3⟩ := hx
      exact ⟨a x, fun w => by simp [execOp, h2], ⟨f, g, h2, h3⟩⟩
  case binOp op t x y yt =>
    split at hc
    case h_2 => cases hc
    rename_i p q hp hq
    split at hc
    · rename_i cls hcls
      simp at hc; subst hc
      simp only [evP] at he
      split at he
      case h_2 => cases he
      rename_i u v' hu hv
      obtain ⟨e, h1, h2⟩ := evBin_sound (P := P) hcls (x := x) (y := y) (hrd x p u hp hu) (hrd y q v' hq hv) hpc he
      exact ⟨e, fun w => by have := h1 w; simp only [Sem.run_bind] at this; simp only [execOp, Sem.run_bind, this, Result.andThen_ok, Sem.run_pure], h2⟩
    · simp only [Bool.cond_eq_ite] at hc
      split at hc
      · split at hc
        case h_2 => cases hc
        rename_i n ng hn hng
        simp at hc; subst hc
        simp only [evP] at he
        split at he
        case h_2 => cases he
        rename_i u v' hu hv
        have hxu := hrd x p u hp hu
        have hyv := hrd y q v' hq hv
        have key : ∀ b1 b2, isNil n u = some b1 → isNil n v' = some b2 → (b1 = true ∨ b2 = true) → ∀ r, v = .bool (.lit (ng != r)) → r = (b1 && b2) → Gives P V ι a ⟨dst, .binOp op t x y yt, type, pos, after, guard⟩ v := by
          intro b1 b2 e1 e2 e3 r hv2 hr
          subst hv2; subst hr
          have heq := fun w => nilTy_eq (P := P) hn e1 e2 e3 hxu hyv w
          have hg : ∀ w, (eqGuard op t x y (a x) (a y)).run P w = .ok () w := fun w => by
            have h1 := isNil_rel e1 hxu
            refine run_eqGuard_scalar w op t x y _ _ (fun i j => .inl ?_) (.inl ?_)
            · rcases h1 with ⟨_, ⟨_, h⟩ | ⟨_, _, h⟩⟩ | ⟨_, ⟨_, h⟩ | ⟨_, _, _, _, h⟩⟩ | ⟨_, ⟨_, h⟩ | ⟨_, _, _, _, h⟩⟩ <;> rw [h] <;> simp
            · rcases h1 with ⟨_, ⟨_, h⟩ | ⟨_, _, h⟩⟩ | ⟨_, ⟨_, h⟩ | ⟨_, _, _, _, h⟩⟩ | ⟨_, ⟨_, h⟩ | ⟨_, _, _, _, h⟩⟩ <;> rw [h] <;> simp
          have hbin : ∀ w, (binOp op t (a x) (a y)).run P w = .ok (.bool (ng != (b1 && b2))) w := fun w => by
            have h1 := isNil_rel e1 hxu
            have h2 := isNil_rel e2 hyv
            have heq' := heq w
            cases op <;> simp [eqlOf] at hng <;> subst hng <;>
            rcases h1 with ⟨_, ⟨_, h⟩ | ⟨_, _, h⟩⟩ | ⟨_, ⟨_, h⟩ | ⟨_, _, _, _, h⟩⟩ | ⟨_, ⟨_, h⟩ | ⟨_, _, _, _, h⟩⟩ <;>
            rcases h2 with ⟨_, ⟨_, h'⟩ | ⟨_, _, h'⟩⟩ | ⟨_, ⟨_, h'⟩ | ⟨_, _, _, _, h'⟩⟩ | ⟨_, ⟨_, h'⟩ | ⟨_, _, _, _, h'⟩⟩ <;> (try (exfalso; omega)) <;>
            rw [h, h'] at heq' ⊢ <;> simp [binOp, heq']
          exact ⟨.bool (ng != (b1 && b2)), fun w => by simp only [execOp, Sem.run_bind, hg, hbin, Result.andThen_ok, Sem.run_pure], by simp [VRel, SB.den]⟩
        split at he
        · rename_i c e1 e2
          exact key true c e1 e2 (.inl rfl) c (Option.some.inj he).symm (by simp)
        · rename_i c e1 e2
          exact key _ _ e1 e2 (.inr rfl) _ (Option.some.inj he).symm (by simp)
        · cases he
      · exfalso; (repeat' split at hc) <;> simp at hc
  case unOp op t x =>
    split at hc <;> simp at hc
    subst hc; simp only [evP] at he
    rename_i y hy
    split at he <;> simp at he <;> subst he <;> rename_i h1 <;> have hx := hrd x y _ hy h1 <;> simp only [VRel] at hx
    · exact ⟨_, fun w => by simp [execOp, hx, Op.unary, Op.intArith]; rfl, by simp [VRel, mkBin_den, binI, SE.den]⟩
    · exact ⟨_, fun w => by simp [execOp, hx, Op.unary, Op.intBits]; rfl, by simp [VRel, mkBin_den, binI, SE.den]⟩
    · exact ⟨_, fun w => by simp [execOp, hx, Op.unary]; rfl, by simp [VRel, mkNot_den]⟩
  case convert s d x =>
    split at hc
    case h_2 => cases hc
    rename_i ds k y hs hu hy
    simp at hc; subst hc
    simp only [evP] at he
    split at he
    case h_2 => cases he
    rename_i k' e h1
    cases he
    have hx := hrd x y _ hy h1
    simp only [VRel] at hx
    refine ⟨.int k (k.wrap (e.den V)), fun w => ?_, by simp [VRel, cvP_den hpc]⟩
    simp only [execOp, hx, convert, Sem.run_bind, run_underlying hs, run_underlying hu, Result.andThen_ok]
    cases ds <;> simp [Conv.intToInt]
  case makeInterface t x =>
    split at hc
    · cases hc
    · rename_i d y hn hu hy
      simp at hc; subst hc
      simp only [evP] at he
      split at he
      case h_2 => cases he
      rename_i u h1
      cases he
      refine ⟨.iface t (a x), fun w => ?_, a x, rfl, hrd x y _ hy h1⟩
      simp only [execOp, Instr.makeInterface, Sem.run_bind, run_underlying hu, Result.andThen_ok]
      cases d <;> first | (exact absurd hu (hn _ _)) | simp
    · cases hc
  case makeFunc fn first caps =>
    cases fn <;> simp only [] at hc <;> (try (cases hc; done))
    split at hc
    case h_2 => cases hc
    rename_i p q hp hq
    simp at hc; subst hc
    simp only [evP] at he
    split at he
    case h_2 => cases he
    rename_i u v' hu hv
    cases he
    exact ⟨.func (.func _) (first.map a) (caps.map a), fun w => by simp [execOp, Instr.makeFunc], _, _, rfl, by simpa using readAll_rel hrd hp hu, by simpa using readAll_rel hrd hq hv⟩
  case typeAssert x xt t ok =>
    split at hc
    · cases hc
    · rename_i d z y hn hu hz hy
      simp at hc; subst hc
      simp only [evP] at he
      obtain ⟨i, zv, hi, hzv, hzr⟩ : ∃ i zv, P.info? t = some i ∧ i.zero = some zv ∧ VRel V ι z zv := by
        unfold zero1 at hz
        split at hz
        case h_2 => cases hz
        rename_i i hi
        split at hz
        case h_2 => cases hz
        rename_i zv hzv
        exact ⟨i, zv, hi, hzv, cval1_rel hz⟩
      have hzero : ∀ w, (zeroValue t).run P w = .ok zv w := run_zeroValue hi hzv
      split at he
      · rename_i h1
        cases ok <;> simp only [cond_true, cond_false] at he
        · cases he
        cases he
        have hx := hrd x y _ hy h1
        simp only [VRel] at hx
        refine ⟨.tuple #[zv, .bool false], fun w => ?_, ⟨_, rfl, .cons hzr (.cons (by simp [VRel, SB.den]) .nil)⟩⟩
        simp only [execOp, Instr.typeAssert, Sem.run_bind, run_underlying hu, Result.andThen_ok, hx]
        cases d <;> first | (exact absurd hu (hn _ _)) | simp [hzero]
      · rename_i u v1 h1
        obtain ⟨c, hx, hv⟩ := hrd x y _ hy h1
        cases hb : Nat.beq u t <;> simp only [hb, cond_true, cond_false] at he
        · have hne : u ≠ t := fun e => by rw [e] at hb; simp at hb
          cases ok <;> simp only [cond_true, cond_false] at he
          · cases he
          cases he
          refine ⟨.tuple #[zv, .bool false], fun w => ?_, ⟨_, rfl, .cons hzr (.cons (by simp [VRel, SB.den]) .nil)⟩⟩
          simp only [execOp, Instr.typeAssert, Sem.run_bind, run_underlying hu, Result.andThen_ok, hx]
          cases d <;> first | (exact absurd hu (hn _ _)) | simp [hzero, hne]
        · obtain rfl := Nat.eq_of_beq_eq_true hb
          cases ok <;> simp only [cond_true, cond_false] at he <;> cases he
          · refine ⟨c, fun w => ?_, hv⟩
            simp only [execOp, Instr.typeAssert, Sem.run_bind, run_underlying hu, Result.andThen_ok, hx]
            cases d <;> first | (exact absurd hu (hn _ _)) | simp
          · refine ⟨.tuple #[c, .bool true], fun w => ?_, ⟨_, rfl, .cons hv (.cons (by simp [VRel, SB.den]) .nil)⟩⟩
            simp only [execOp, Instr.typeAssert, Sem.run_bind, run_underlying hu, Result.andThen_ok, hx]
            cases d <;> first | (exact absurd hu (hn _ _)) | simp
      · cases he
    · cases hc
  case extract x i =>
    split at hc <;> simp at hc
    subst hc; simp only [evP] at he
    rename_i y hy
    split at he
    case h_2 => cases he
    rename_i vs h1
    obtain ⟨l, h2, h3⟩ := hrd x y _ hy h1
    obtain ⟨c, h4, h5⟩ := h3.get _ _ he
    have h4' : l[i]? = some c := by simpa using h4
    exact ⟨c, fun w => by simp [execOp, h2, Instr.extract, h4'], h5⟩
  case slice t x lo hi mx =>
    cases mx <;> simp only [] at hc <;> (try (cases hc; done))
    split at hc
    · rename_i e y l h hu hy hl hh
      split at hc <;> simp at hc
      subst hc
      rename_i sz hsz
      simp only [evP] at he
      split at he
      · rename_i id o len cap sz' lov hiv h1 h2 h3
        split at he
        case h_2 =>
          unfold symS at he
          split at he
          case h_2 => cases he
          rename_i k0 e' _
          cases hb : (inX pc e' (.lit (.ofNat len)) && Nat.beq sz sz') <;> simp only [hb, cond_true, cond_false] at he
          · cases he
          cases he
          simp only [Bool.and_eq_true] at hb
          obtain ⟨b1, b2⟩ := inX_den hpc hb.1
          obtain rfl := Nat.eq_of_beq_eq_true hb.2
          obtain ⟨lc, ad, ccap, hι, hax, ha, c1, c2, c3⟩ := hrd x y _ hy h1
          obtain ⟨m, hm⟩ := Int.eq_ofNat_of_zero_le b1
          have hmN : m < len := by
            rw [hm] at b2
            exact Int.ofNat_lt.1 b2
          obtain rfl := ha.resolve_right (by omega)
          have hlo : (lo.map a = none ∧ m = 0) ∨ ∃ k, lo.map a = some (.int k (m : Int)) := by
            right
            cases lo with
            | none => simp [cXo] at hl; subst hl; simp [readOpt] at h2
            | some x0 =>
              unfold cXo at hl
              cases hx : cX x0 <;> simp [hx] at hl
              subst hl
              rename_i y0
              unfold readOpt at h2
              cases hy0 : rd y0 <;> simp [hy0] at h2
              subst h2
              have := hrd x0 y0 _ hx hy0
              simp only [VRel] at this
              exact ⟨k0, by simp [this, hm]⟩
          have hhi : hi.map a = none := by
            cases hi with
            | none => rfl
            | some x0 =>
              exfalso
              unfold cXo at hh
              cases hx : cX x0 <;> simp [hx] at hh
              subst hh
              rename_i y0
              unfold readOpt at h3
              cases hy0 : rd y0 <;> simp [hy0] at h3
          have hbd : ∀ w, (Instr.sliceBounds true len ccap (lo.map a) (hi.map a) none).run P w = .ok (m, len, ccap) w := fun w =>
            run_bounds w true len ccap m len _ _ hlo (.inl ⟨hhi, rfl⟩) (by omega) (by omega)
          have hne : ¬ ccap = m := by omega
          refine ⟨.slice (some ⟨lc.blk, lc.off + (m * sz + o), none⟩) (len - m) (ccap - m), fun w => ?_, ⟨lc, ccap - m, hι, b1, b2, ?_⟩⟩
          · simp only [execOp, Instr.sliceAt, Instr.slice, Sem.run_bind, run_underlying hu, Result.andThen_ok, hax, Option.map_none, hbd, run_sizeOf hsz, Sem.run_pure, Option.map_some]
            simp [hne, addr_add]
            omega
          · rw [hm]
            simp only [SE.den, Int.toNat_natCast, Int.ofNat_eq_natCast]
            rw [show ((len : Int) - (m : Int)).toNat = len - m by omega]
        rename_i ln hn hln hhn
        cases hb : (Nat.beq sz sz' && Nat.ble hn cap && Nat.ble ln hn) <;> simp only [hb, cond_true, cond_false] at he
        · cases he
        simp only [Bool.and_eq_true] at hb
        obtain rfl := Nat.eq_of_beq_eq_true hb.1.1
        have hb2 := Nat.le_of_ble_eq_true hb.1.2
        have hb3 := Nat.le_of_ble_eq_true hb.2
        cases he
        obtain ⟨lc, ad, ccap, hι, hax, ha, c1, c2, c3⟩ := hrd x y _ hy h1
        have hlo := optNatP_rel hpc hrd hl h2 hln
        have hhi := optNatP_rel hpc hrd hh h3 hhn
        have hbd : ∀ w, (Instr.sliceBounds true len ccap (lo.map a) (hi.map a) none).run P w = .ok (ln, hn, ccap) w := fun w =>
          run_bounds w true len ccap ln hn _ _ hlo hhi hb3 (by omega)
        have hmul : ln * sz ≤ ccap * sz := Nat.mul_le_mul_right _ (by omega)
        refine ⟨.slice (some (if ccap = ln then ⟨lc.blk, ad, none⟩ else (⟨lc.blk, ad, none⟩ : Addr).add (ln * sz))) (hn - ln) (ccap - ln), fun w => ?_, ?_⟩
        · simp only [execOp, Instr.sliceAt, Instr.slice, Sem.run_bind, run_underlying hu, Result.andThen_ok, hax, Option.map_none, hbd, run_sizeOf hsz, Sem.run_pure, Option.map_some]
          by_cases hcl : ccap = ln
          · simp [hcl]
          · simp [hcl]
        · by_cases hcl : ccap = ln
          · refine ⟨lc, ad, ccap - ln, hι, by simp [hcl], .inr (by omega), by omega, by omega, ?_⟩
            have : ccap - ln = 0 := by omega
            rw [this, hcl] at *
            omega
          · refine ⟨lc, ad + ln * sz, ccap - ln, hι, by simp [hcl, addr_add], ?_, by omega, by omega, ?_⟩
            · rcases ha with rfl | h0
              · left; omega
              · omega
            · rw [Nat.sub_mul]; omega
      · rename_i lov hiv h1 h2 h3
        split at he
        case h_2 => cases he
        rename_i hln hhn
        cases he
        have hax := hrd x y _ hy h1
        simp only [VRel] at hax
        have hlo := optNatP_rel hpc hrd hl h2 hln
        have hhi := optNatP_rel hpc hrd hh h3 hhn
        have hbd : ∀ w, (Instr.sliceBounds true 0 0 (lo.map a) (hi.map a) none).run P w = .ok (0, 0, 0) w := fun w =>
          run_bounds w true 0 0 0 0 _ _ hlo hhi (by omega) (by omega)
        refine ⟨.slice none 0 0, fun w => ?_, by simp [VRel]⟩
        simp only [execOp, Instr.sliceAt, Instr.slice, Sem.run_bind, run_underlying hu, Result.andThen_ok, hax, Option.map_none, hbd, run_sizeOf hsz, Sem.run_pure, Option.map_some]
        simp
      · cases he
    · exfalso; (repeat' split at hc) <;> simp at hc
    · cases hc
  case fieldAddr s x f =>
    split at hc
    case h_2 => cases hc
    rename_i fs y hu hy
    split at hc
    case h_2 => cases hc
    rename_i fd hfd
    split at hc
    case h_2 => cases hc
    rename_i n hn
    cases hb : Nat.blt 0 n <;> simp [hb] at hc
    subst hc
    have hn0 := lt_of_blt hb
    simp only [evP] at he
    split at he
    case h_2 => cases he
    rename_i id o h1
    cases he
    obtain ⟨l, h2, h3⟩ := hrd x y _ hy h1
    refine ⟨.pointer (some ⟨l.blk, l.off + (o + fd.offset), none⟩), fun w => ?_, ⟨l, h2, rfl⟩⟩
    have hne : n ≠ 0 := by omega
    simp [execOp, Instr.fieldAt, run_underlying hu, hfd, h3, Instr.sureAddr, fieldPlace, run_sizeOf hn, hne, addr_add, Nat.add_assoc]
  case field s x f =>
    split at hc
    case h_2 => cases hc
    rename_i fs y hu hy
    split at hc
    case h_2 => cases hc
    rename_i fd hfd
    split at hc
    case h_2 => cases hc
    rename_i ag n hag hn
    simp at hc; subst hc
    simp only [evP] at he
    split at he
    case h_2 => cases he
    rename_i cs h1
    obtain ⟨l, h2, h3⟩ := hrd x y _ hy h1
    obtain ⟨c, q1, q2⟩ := partV_sound (P := P) hag hn h3 he
    exact ⟨c, fun w => by simp [execOp, Instr.field, run_underlying hu, hfd, h2, asAgg, q1], q2⟩
  case indexAddr t x i =>
    split at hc
    · rename_i n e y j hu hy hj
      split at hc <;> simp at hc
      subst hc
      rename_i sz hsz
      simp only [evP] at he
      split at he
      case h_2 => cases he
      rename_i id o jv h1 h2
      split at he
      case h_2 => cases he
      rename_i k hk
      cases hb : Nat.blt k n <;> simp [hb] at he
      subst he
      have hkn := lt_of_blt hb
      obtain ⟨l, h3, h4⟩ := hrd x y _ hy h1
      obtain ⟨kk, h5⟩ := litNatP_rel hpc hk (hrd i j _ hj h2)
      refine ⟨.pointer (some ⟨l.blk, l.off + (o + k * sz), none⟩), fun w => ?_, ⟨l, h3, rfl⟩⟩
      simp [execOp, Instr.indexAt, h5, asIntOf, run_underlying hu, h4, Instr.sureAddr, hkn, run_sizeOf hsz, addr_add, Nat.add_assoc]
    · rename_i e y j hu hy hj
      split at hc <;> simp at hc
      subst hc
      rename_i sz hsz
      simp only [evP] at he
      split at he
      case h_4 => cases he
      case h_3 =>
        rename_i id e' n sz' o jv h1 h2
        unfold symI at he
        split at he
        case h_2 => cases he
        rename_i k0 j'
        cases hb : (Nat.beq sz sz' && notNegP pc j' && addX pc e' j' && inX pc (mkBin .add .i64 e' j') n) <;> simp only [hb, cond_true, cond_false] at he
        · cases he
        cases he
        simp only [Bool.and_eq_true] at hb
        obtain ⟨⟨⟨hz, hnn⟩, hadd⟩, hin⟩ := hb
        obtain rfl := Nat.eq_of_beq_eq_true hz
        obtain ⟨b1, b2⟩ := inX_den hpc hin
        have hj0 := notNegP_den hpc hnn
        obtain ⟨l, cc, h3, e1, e2, h4⟩ := hrd x y _ hy h1
        have h6 := hrd i j _ hj h2
        simp only [VRel] at h6
        have hs := addX_den hpc hadd e1 hj0
        have b3 := b2
        rw [hs] at b3
        obtain ⟨m, hm⟩ := Int.eq_ofNat_of_zero_le hj0
        obtain ⟨q, hq⟩ := Int.eq_ofNat_of_zero_le e1
        have hlt : m < (n.den V - e'.den V).toNat := by omega
        refine ⟨.pointer (some ⟨l.blk, l.off + ((q + m) * sz + o), none⟩), fun w => ?_, ⟨l, h3, b1, b2, ?_⟩⟩
        · rw [hm] at h6
          rw [hq] at h4 hlt
          simp [execOp, Instr.indexAt, h6, asIntOf, run_underlying hu, h4, run_sizeOf hsz, addr_add, Nat.add_mul]
          rw [if_pos (by omega), show l.off + (q * sz + o) + m * sz = l.off + (q * sz + m * sz + o) by omega]
        · rw [hs, hm, hq, show (q : Int) + (m : Int) = ((q + m : Nat) : Int) by omega, Int.toNat_natCast]
      case h_2 =>
        rename_i id n k e' h1 h2
        cases hb : inX pc e' n <;> simp only [hb, cond_true, cond_false] at he
        · cases he
        cases he
        obtain ⟨b1, b2⟩ := inX_den hpc hb
        obtain ⟨l, N, ccap, h3, h4, h5⟩ := hrd x y _ hy h1
        have h6 := hrd i j _ hj h2
        simp only [VRel] at h6
        obtain ⟨m, hm⟩ := Int.eq_ofNat_of_zero_le b1
        have hmN : m < N := by
          rw [hm, h4] at b2
          exact Int.ofNat_lt.1 b2
        rcases h5 with h5 | ⟨h5, _⟩
        · refine ⟨.pointer (some ⟨l.blk, l.off + (m * sz + 0), none⟩), fun w => ?_, ⟨l, h3, b1, b2, by rw [hm]; rfl⟩⟩
          rw [hm] at h6
          simp [execOp, Instr.indexAt, h6, asIntOf, run_underlying hu, h5, hmN, run_sizeOf hsz, addr_add, Nat.add_assoc]
        · omega
      rename_i id o len cap sz' jv h1 h2
      split at he
      case h_2 =>
        unfold symX at he
        split at he
        case h_2 => cases he
        rename_i k0 e' _
        cases hb : (inX pc e' (.lit (.ofNat len)) && Nat.beq sz sz') <;> simp only [hb, cond_true, cond_false] at he
        · cases he
        cases he
        simp only [Bool.and_eq_true] at hb
        obtain ⟨b1, b2⟩ := inX_den hpc hb.1
        obtain rfl := Nat.eq_of_beq_eq_true hb.2
        obtain ⟨l, ad, ccap, h3, h4, ha, c1, c2, c3⟩ := hrd x y _ hy h1
        have h6 := hrd i j _ hj h2
        simp only [VRel] at h6
        obtain ⟨m, hm⟩ := Int.eq_ofNat_of_zero_le b1
        have hmN : m < len := by
          rw [hm] at b2
          exact Int.ofNat_lt.1 b2
        obtain rfl := ha.resolve_right (by omega)
        refine ⟨.pointer (some ⟨l.blk, l.off + (m * sz + o), none⟩), fun w => ?_, ⟨l, h3, b1, b2, by rw [hm]; rfl⟩⟩
        rw [hm] at h6
        simp [execOp, Instr.indexAt, h6, asIntOf, run_underlying hu, h4, hmN, run_sizeOf hsz, addr_add]
        omega
      rename_i k hk
      cases hb : (Nat.blt k len && Nat.beq sz sz') <;> simp only [hb, cond_true, cond_false] at he
      · cases he
      cases he
      simp only [Bool.and_eq_true] at hb
      have hkn := lt_of_blt hb.1
      obtain rfl := Nat.eq_of_beq_eq_true hb.2
      obtain ⟨l, ad, ccap, h3, h4, ha, c1, c2, c3⟩ := hrd x y _ hy h1
      obtain ⟨kk, h5⟩ := litNatP_rel hpc hk (hrd i j _ hj h2)
      obtain rfl := ha.resolve_right (by omega)
      refine ⟨.pointer (some ⟨l.blk, l.off + (o + k * sz), none⟩), fun w => ?_, ⟨l, h3, rfl⟩⟩
      simp [execOp, Instr.indexAt, h5, asIntOf, run_underlying hu, h4, hkn, run_sizeOf hsz, addr_add, Nat.add_assoc]
    · cases hc
  case index t x i =>
    split at hc
    · rename_i n e y j hu hy hj
      split at hc <;> simp at hc
      subst hc
      rename_i ag sz hag hsz
      simp only [evP] at he
      split at he
      · rename_i cs jv h1 h2
        split at he
        case h_2 => cases he
        rename_i k hk
        cases hb : Nat.blt k n <;> simp [hb] at he
        have hkn := lt_of_blt hb
        obtain ⟨l, h3, h4⟩ := hrd x y _ hy h1
        obtain ⟨kk, h5⟩ := litNatP_rel hpc hk (hrd i j _ hj h2)
        obtain ⟨c, q1, q2⟩ := partV_sound (P := P) hag hsz h4 he
        exact ⟨c, fun w => by simp [execOp, Instr.index, h5, asIntOf, run_underlying hu, h3, hkn, run_sizeOf hsz, q1], q2⟩
      · cases he
    · rename_i y j hu hy hj
      simp at hc; subst hc
      simp only [evP] at he
      split at he
      case h_2 => cases he
      rename_i s jv h1 h2
      split at he
      case h_2 => cases he
      rename_i k hk
      split at he
      case h_2 => cases he
      rename_i b hb
      cases he
      have hx := hrd x y _ hy h1
      simp only [VRel] at hx
      obtain ⟨kk, h5⟩ := litNatP_rel hpc hk (hrd i j _ hj h2)
      have hb' : s[k]? = some b := by
        have h6 : s.data[k]? = some b := by simpa using hb
        rw [Array.getElem?_eq_some_iff] at h6
        obtain ⟨h7, h8⟩ := h6
        have h9 : k < s.size := h7
        rw [getElem?_pos s k h9]
        exact congrArg some h8
      exact ⟨.int .u8 b.toNat, fun w => by simp [execOp, Instr.index, h5, asIntOf, run_underlying hu, hx, hb'], by simp [VRel, SE.den]⟩
    · cases hc
  case call c =>
    obtain ⟨callee, args, tys⟩ := c
    cases callee <;> simp only [] at hc
    case value f => (repeat' split at hc) <;> simp at hc
    case invoke => cases hc
    case builtin b =>
      have hargs : ∀ xs : List Operand, args.toList = xs → args = xs.toArray := fun xs h => by rw [← h]
      have htys : ∀ xs : List TypeId, tys.toList = xs → tys = xs.toArray := fun xs h => by rw [← h]
      unfold cBuiltin at hc
      split at hc
      · rename_i x t hx ht
        have hx' := hargs _ hx; have ht' := htys _ ht
        subst hx'; subst ht'
        split at hc
        · rename_i hu
          split at hc <;> simp at hc
          subst hc
          rename_i y hy
          simp only [evP] at he
          split at he <;> simp at he <;> subst he <;> rename_i h1 <;> have hxv := hrd x y _ hy h1 <;> simp only [VRel] at hxv
          rename_i s
          exact ⟨goInt s.size, fun w => by simp [execOp, resolve, invoke, builtin, Builtin.len_, run_underlying hu, hxv], by simp [VRel, SE.den, goInt]⟩
        · rename_i hu
          split at hc <;> simp at hc
          subst hc
          rename_i y hy
          simp only [evP] at he
          split at he <;> simp at he <;> subst he <;> rename_i h1 <;> have hxv := hrd x y _ hy h1 <;> simp only [VRel] at hxv
          · obtain ⟨l, N, ccap, _, hn, hxv⟩ := hxv
            refine ⟨goInt N, fun w => ?_, by simp [VRel, hn, goInt]⟩
            rcases hxv with hxv | ⟨h0, hxv⟩
            · simp [execOp, resolve, invoke, builtin, Builtin.len_, run_underlying hu, hxv]
            · subst h0
              simp [execOp, resolve, invoke, builtin, Builtin.len_, run_underlying hu, hxv]
          · obtain ⟨l, ad, ccap, _, hxv, _⟩ := hxv
            rename_i len _ _ _ _
            exact ⟨goInt len, fun w => by simp [execOp, resolve, invoke, builtin, Builtin.len_, run_underlying hu, hxv], by simp [VRel, SE.den, goInt]⟩
          · exact ⟨goInt 0, fun w => by simp [execOp, resolve, invoke, builtin, Builtin.len_, run_underlying hu, hxv], by simp [VRel, SE.den, goInt]⟩
        · rename_i n e hu
          simp at hc; subst hc
          simp only [evP] at he
          cases he
          exact ⟨goInt n, fun w => by simp [execOp, resolve, invoke, builtin, Builtin.len_, run_underlying hu], by simp [VRel, SE.den, goInt]⟩
        · rename_i arr hu
          split at hc <;> simp at hc
          subst hc
          rename_i n e hu2
          simp only [evP] at he
          cases he
          exact ⟨goInt n, fun w => by simp [execOp, resolve, invoke, builtin, Builtin.len_, run_underlying hu, run_underlying hu2], by simp [VRel, SE.den, goInt]⟩
        · cases hc
      · exfalso; simp only [Bool.cond_eq_ite] at hc; (repeat' split at hc) <;> simp at hc
      · exfalso; simp only [Bool.cond_eq_ite] at hc; (repeat' split at hc) <;> simp at hc
      · exfalso; (repeat' split at hc) <;> simp at hc
      · rename_i x y hx
        have hx' := hargs _ hx
        subst hx'
        split at hc <;> simp at hc
        subst hc
        rename_i p q hp hq
        simp only [evP] at he
        split at he
        case h_2 => cases he
        rename_i k m k' n h1 h2
        have hxv := hrd x p _ hp h1
        have hyv := hrd y q _ hq h2
        simp only [VRel] at hxv hyv
        have hv := mxV_den hpc he
        refine ⟨.int k (if m.den V < n.den V then n.den V else m.den V), fun w => by simp [execOp, resolve, invoke, builtin, Builtin.max_, Builtin.max2, hxv, hyv], ?_⟩
        rw [hv]
        simp only [VRel]
        by_cases hlt : m.den V < n.den V
        · rw [if_pos hlt, if_pos hlt]
        · rw [if_neg hlt, if_neg hlt]
      · rename_i x y hx
        have hx' := hargs _ hx
        subst hx'
        split at hc <;> simp at hc
        subst hc
        rename_i p q hp hq
        simp only [evP] at he
        split at he
        case h_2 => cases he
        rename_i k m k' n h1 h2
        have hxv := hrd x p _ hp h1
        have hyv := hrd y q _ hq h2
        simp only [VRel] at hxv hyv
        have hv := mxV_den hpc he
        refine ⟨.int k (if n.den V < m.den V then n.den V else m.den V), fun w => by simp [execOp, resolve, invoke, builtin, Builtin.min_, Builtin.min2, hxv, hyv], ?_⟩
        rw [hv]
        simp only [VRel]
        by_cases hlt : m.den V < n.den V
        · rw [if_pos hlt, if_neg (by omega)]
        · rw [if_neg hlt]
          by_cases heq : n.den V < m.den V
          · rw [if_pos heq]
          · rw [if_neg heq]; congr 1; omega
      · cases hc
  case lookup t x i ok =>
    exfalso
    obtain ⟨_, _, _, _, _, _, _, _, _, _, _, h⟩ := cLook_spec hc
    cases h
  case mapUpdate t m k x =>
    exfalso
    obtain ⟨_, _, _, _, _, _, _, _, _, _, _, h⟩ := cPut_spec hc
    cases h
  case makeMap t r => cases r <;> simp at hc
  all_goals (exfalso; simp at hc; done)
end
end Go.Sx
