/- The symbolic machine: the operations on memory, one step, and that the world follows. No condition: lemmas of the machine. -/
import Derived.Test.YtlgfmmccnilkmaaGreatDoorSyPure2
namespace Go.Sx
set_option linter.unusedVariables false
set_option linter.unusedSimpArgs false

def repL (zs : List SV) : Nat → List SV
  | 0 => []
  | n + 1 => zs ++ repL zs n
def objC : Option SObj → Option (List SV × Bool)
  | some (.cells cs r) => some (cs, r)
  | _ => none
theorem objC_eq {o : Option SObj} {x : List SV × Bool} (h : objC o = some x) : o = some (.cells x.1 x.2) := by
  unfold objC at h
  split at h
  · cases h; rfl
  · cases h
def samePtr (h : Hp) : SV → SV → Option Bool
  | .ptr i o, .ptr j p =>
    bif Nat.beq i j then some (Nat.beq o p)
    else match objC (h.get i), objC (h.get j) with
      | some (cs, r), some (ds, q) => bif Nat.blt o cs.length && Nat.blt p ds.length && (!r || !q || Nat.beq o p) then some false else none
      | _, _ => none
  | _, _ => none
def memT (x : Nat) : List Nat → Bool
  | [] => false
  | y :: l => Nat.beq x y || memT x l
def sameIf (h : Hp) (lit : Bool) (ts : List Nat) : SV → SV → Option Bool
  | .nilIface, .nilIface => bif lit then some true else none
  | .nilIface, .iface _ _ => some false
  | .iface _ _, .nilIface => some false
  | .iface t v, .iface u v' => bif Nat.beq t u then (bif memT t ts then samePtr h v v' else none) else some false
  | _, _ => none
def selV (s : Nat) (e : SE) : AK → SV
  | .int k => .int k (.cv k (.sel s e))
  | .bool => .bool (.cmp .eql (.sel s e) (.lit 1))
def selVs (e : SE) : Nat → List AK → List SV
  | _, [] => []
  | s, k :: ks => selV s e k :: selVs e (s + 1) ks
def clearB (t : Tr SV) : Nat → Nat → Bool
  | _, 0 => true
  | j, k + 1 => (match t.get j with
    | none => true
    | some _ => false) && clearB t (j + 1) k
theorem clearB_at {t : Tr SV} {z : SV} : ∀ {k j i : Nat}, clearB t j k = true → j ≤ i → i < j + k → bigAt t z i = z
  | 0, j, i, h, h1, h2 => by omega
  | k + 1, j, i, h, h1, h2 => by
    simp only [clearB, Bool.and_eq_true] at h
    by_cases e : i = j
    · subst e
      have := h.1
      unfold bigAt
      split at this
      · rename_i hn; rw [hn]
      · cases this
    · exact clearB_at h.2 (by omega) (by omega)
def ldx (h : Hp) (ag : Bool) (cnt id : Nat) (e n : SE) (m o : Nat) : Option (SV × Hp) := match h.get id with
  | some (.arr s ks n') => bif Nat.beq m ks.length && Nat.ble (o + cnt) m && n.same n' then
      (bif ag then some (.agg (selVs e (s + o) ((ks.drop o).take cnt)), h) else (match selVs e (s + o) ((ks.drop o).take cnt) with | [v] => some (v, h) | _ => none)) else none
  | some (.big t mm z) => bif !ag && Nat.beq cnt 1 && Nat.beq m 1 then (match e.rng with
    | (some (.ofNat lo), some (.ofNat hi)) => bif Nat.ble (o + hi + 1) mm && clearB t (o + lo) (hi + 1 - lo) then some (z, h) else none
    | _ => none) else none
  | _ => none
def mres (ok : Bool) (v : SV) (b : Bool) : SV := bif ok then .tuple [v, .bool (.lit b)] else v
def m_mget (rd : X → Option SV) (h : Hp) (kk : IntKind) (ok : Bool) (z : SV) (m i : X) : Option (SV × Hp) := match rd m, rd i with
  | some .nilMap, some (.int k (.lit _)) => bif decide (k = kk) then some (mres ok z false, h) else none
  | some (.mapv id), some (.int k (.lit a)) => (match h.get id with
    | some (.map es) => bif decide (k = kk) then (match findL kk a es with
      | some (some v) => some (mres ok v true, h)
      | some none => some (mres ok z false, h)
      | none => none) else none
    | _ => none)
  | _, _ => none
def m_mset (rd : X → Option SV) (h : Hp) (kk : IntKind) (m i x : X) : Option (SV × Hp) := match rd m, rd i, rd x with
  | some (.mapv id), some (.int k (.lit a)), some v => (match h.get id with
    | some (.map es) => bif decide (k = kk) && !v.isLost then (match setL kk a v es with
      | some es' => match h.set id (.map es') with
        | some h' => some (sundef, h')
        | none => none
      | none => none) else none
    | _ => none)
  | _, _, _ => none
def m_mkMap (h : Hp) : Option (SV × Hp) := match h.push (.map []) with
  | some h' => some (.mapv h.sz, h')
  | none => none
def evM (rd : X → Option SV) (h : Hp) : AOp → Option (SV × Hp)
  | .load ag n x => match rd x with
    | some (.xptr id e k m o) => ldx h ag n id e k m o
    | some (.ptr id o) => match ldc h id o n with
      | some vs => bif ag then some (.agg vs, h) else (match vs with | [v] => some (v, h) | _ => none)
      | none => none
    | _ => none
  | .slarr n sz x lo hi => match rd x, readOpt rd lo, readOpt rd hi with
    | some (.ptr id o), some lo, some hi => match optNat lo 0, optNat hi n, ldc h id o (n * sz) with
      | some l, some k, some _ => bif Nat.ble k n && Nat.ble l k then some (.slice id (o + l * sz) (k - l) (n - l) sz, h) else none
      | _, _, _ => none
    | _, _, _ => none
  | .ptrEq neg x y => match rd x, rd y with
    | some x, some y => match samePtr h x y with
      | some b => some (.bool (.lit (neg != b)), h)
      | none => none
    | _, _ => none
  | .ifEq neg lit ts x y => match rd x, rd y with
    | some x, some y => match sameIf h lit ts x y with
      | some b => some (.bool (.lit (neg != b)), h)
      | none => none
    | _, _ => none
  | .newC cs => match nwo h cs with
    | some h' => some (.ptr h.sz 0, h')
    | none => none
  | .box n x => match rd x with
    | some v => bif Nat.beq v.cells.length n && !v.isLost then (match nwo h v.cells with | some h' => some (.ptr h.sz 0, h') | none => none) else none
    | none => none
  | .mkArr sz len zero fills => match readFills rd fills with
    | some l => match fillV (repL zero len) l with
      | some cs => match nwo h cs with | some h' => some (.slice h.sz 0 len len sz, h') | none => none
      | none => none
    | none => none
  | .mkSl sz by' zero l c => match rd l, rd c with
    | some l, some c => match litNat l, litNat c with
      | some l, some c => bif Nat.ble l c && Nat.ble c most && Nat.ble (by' * c) most then (match nwo h (repL zero c) with | some h' => some (.slice h.sz 0 l c sz, h') | none => none) else none
      | _, _ => none
    | _, _ => none
  | .store n a x => match rd a, rd x with
    | some (.ptr id o), some v => bif Nat.beq v.cells.length n && !v.isLost then (match stc h id o v.cells with | some h' => some (sundef, h') | none => none) else none
    | _, _ => none
  | .append sz by' s x => match rd s, rd x with
    | some s, some x => appendV h sz by' s x
    | _, _ => none
  | .copy sz d s => match rd d, rd s with
    | some (.slice id o len cap sz'), some s => match srcOf h sz s with
      | some (n, vs) => bif Nat.beq sz sz' && !(Nat.beq (Nat.min n len) 0) then (match stc h id o (vs.take (Nat.min n len * sz)) with
        | some h' => some (.int .i64 (.lit (.ofNat (Nat.min n len))), h')
        | none => none) else none
      | none => none
    | _, _ => none
  | .clear sz zero x => match rd x with
    | some .nilSlice => some (.tuple [], h)
    | some (.slice id o len cap sz') => bif Nat.beq len 0 then some (.tuple [], h)
      else bif Nat.beq sz sz' then (match stc h id o (repL zero len) with | some h' => some (.tuple [], h') | none => none) else none
    | _ => none
  | .mkMap => m_mkMap h
  | .mget kk ok z m i => m_mget rd h kk ok z m i
  | .mset kk m i x => m_mset rd h kk m i x
  | _ => none

section
variable {P : Program} {V : Val} {ι : Nat → Option Loc} {B : Nat} {σ σ' : Hp} {w : World} {rd : X → Option SV} {a : Operand → Value}

def Does (P : Program) (V : Val) (B : Nat) (ι : Nat → Option Loc) (σ : Hp) (w : World) (a : Operand → Value) (o : Oper) (v : SV) (σ' : Hp) : Prop :=
  ∃ c w' ι', ((execOp a o).run P w = .ok (.value c) w' ∨ ((execOp a o).run P w = .ok .skip w' ∧ c = undef)) ∧ VRel V ι' v c ∧ HRel V ι' B σ' w' ∧ Ext ι σ w ι' σ' w'

theorem Gives.does {o : Oper} {v : SV} (h : Gives P V ι a o v) (hr : HRel V ι B σ w) : Does P V B ι σ w a o v σ :=
  let ⟨c, h1, h2⟩ := h
  ⟨c, w, ι, .inl (h1 w), h2, hr, Ext.refl _ _ _⟩

theorem repL_length (zs : List SV) : ∀ n, (repL zs n).length = n * zs.length
  | 0 => by simp [repL]
  | n + 1 => by simp [repL, repL_length zs n, Nat.succ_mul, Nat.add_comm]
theorem repL_get (zs : List SV) (hz : 0 < zs.length) : ∀ (n j : Nat), j < n * zs.length → (repL zs n)[j]? = zs[j % zs.length]?
  | 0, j, h => by simp at h
  | n + 1, j, h => by
    unfold repL
    by_cases hj : j < zs.length
    · rw [List.getElem?_append_left hj, Nat.mod_eq_of_lt hj]
    · rw [List.getElem?_append_right (by omega), repL_get zs hz n (j - zs.length) (by rw [Nat.succ_mul] at h; omega)]
      congr 1
      rw [Nat.mod_eq_sub_mod (by omega : zs.length ≤ j)]
theorem made_rel {zs : List SV} {z : Array Value} (h : VRels V ι zs z.toList) (hz : 0 < zs.length) (n : Nat) (f : Nat → Value) (hf : ∀ j, j < n * zs.length → f j = z[j % z.size]!) :
    VRels V ι (repL zs n) ((Array.range (n * zs.length)).map f).toList := by
  refine VRels.of_get (by simp [repL_length]) fun j v hj => ?_
  have hlt : j < n * zs.length := by
    have := (List.getElem?_eq_some_iff.1 hj).1
    rwa [repL_length] at this
  rw [repL_get zs hz n j hlt] at hj
  obtain ⟨c, h1, h2⟩ := h.get _ v hj
  refine ⟨c, ?_, h2⟩
  have hl := h.length
  have h1' : z[j % zs.length]? = some c := by simpa using h1
  have hsz : z.size = zs.length := by simpa using hl
  have h3 : z[j % z.size]! = c := by rw [hsz, getElem!_def, h1']
  simp [hlt, hf j hlt, h3]

theorem elemIn_spec {t : TypeId} {sz bytes : Nat} {zs : List SV} (h : elemIn P t = some (sz, bytes, zs)) : ∃ e i z, ElemOf P t e i z sz bytes ∧ VRels V ι zs z.cells.toList ∧ zs.length = sz := by
  unfold elemIn at h
  split at h
  case h_2 => cases h
  rename_i e hu
  split at h
  case h_2 => cases h
  rename_i i hi
  split at h
  case h_2 => cases h
  rename_i z hz
  cases hb : (Nat.beq z.cells.size i.size && Nat.blt 0 i.size) <;> simp only [hb, cond_true, cond_false] at h
  · cases h
  simp only [Bool.and_eq_true] at hb
  split at h
  case h_2 => cases h
  rename_i zs' hzs
  simp only [Option.some.injEq, Prod.mk.injEq] at h
  obtain ⟨rfl, rfl, rfl⟩ := h
  have hr := cval1s_rel (V := V) (ι := ι) hzs
  have h1 := Nat.eq_of_beq_eq_true hb.1
  refine ⟨e, i, z, ⟨hu, hi, hz, rfl, rfl, h1, lt_of_blt hb.2⟩, hr, ?_⟩
  have := hr.length; simp at this; omega

theorem Addr_beq (b o p : Nat) : ((⟨b, o, none⟩ : Addr) == ⟨b, p, none⟩) = Nat.beq o p := by
  by_cases h : o = p
  · subst h; simp
  · have : ((⟨b, o, none⟩ : Addr) == ⟨b, p, none⟩) = false := by simp [h]
    rw [this]
    cases hb : Nat.beq o p
    · rfl
    · exact absurd (Nat.eq_of_beq_eq_true hb) h
theorem samePtr_sound (h : HRel V ι B σ w) {x y : SV} {b : Bool} (he : samePtr σ x y = some b) {c d : Value} (hc : VRel V ι x c) (hd : VRel V ι y d) :
    ∃ p q, c = .pointer (some p) ∧ d = .pointer (some q) ∧ (sameAddr p q).run P w = .ok b w := by
  unfold samePtr at he
  split at he
  case h_2 => cases he
  rename_i i o j p
  obtain ⟨l, h1, rfl⟩ := hc
  obtain ⟨m, h2, rfl⟩ := hd
  refine ⟨_, _, rfl, rfl, ?_⟩
  cases hb : Nat.beq i j <;> simp only [hb, cond_true, cond_false] at he
  · have hne : i ≠ j := fun e => by rw [e] at hb; simp at hb
    split at he
    case h_2 => cases he
    rename_i cs r ds q hi hj
    have hi := objC_eq hi
    have hj := objC_eq hj
    cases hbb : (Nat.blt o cs.length && Nat.blt p ds.length && (!r || !q || Nat.beq o p)) <;> simp only [hbb, cond_true, cond_false] at he
    · cases he
    cases he
    simp only [Bool.and_eq_true, Bool.or_eq_true, Bool.not_eq_true'] at hbb
    obtain ⟨⟨g1, g2⟩, g3⟩ := hbb
    have g1 := lt_of_blt g1
    have g2 := lt_of_blt g2
    obtain ⟨c1, e1, f1, k1, k2, k3, k4⟩ := h.obj i _ l hi h1
    obtain ⟨c2, e2, f2, m1, m2, m3, m4⟩ := h.obj j _ m hj h2
    by_cases hblk : l.blk = m.blk
    · have hoff : l.off ≠ m.off ∧ o = p := by
        rcases h.inj.cells i j cs ds r q l m hi hj hne h1 h2 with hx | ⟨hr, hq, hx⟩
        · exact absurd hblk hx
        · subst hr; subst hq
          rcases g3 with (g3 | g3) | g3
          · cases g3
          · cases g3
          · exact ⟨hx, Nat.eq_of_beq_eq_true g3⟩
      have : l.off + o ≠ m.off + p := by omega
      simp [sameAddr, hblk, this]
    have s1 : c1.size ≠ 0 := by
      obtain ⟨_, u, hu, _⟩ := k4 o _ (List.getElem?_eq_getElem g1)
      have := (Array.getElem?_eq_some_iff.1 hu).1; omega
    have s2 : c2.size ≠ 0 := by
      obtain ⟨_, u, hu, _⟩ := m4 p _ (List.getElem?_eq_getElem g2)
      have := (Array.getElem?_eq_some_iff.1 hu).1; omega
    have sh1 : w.shape? l.blk = some (e1, c1.size) := by simp [World.shape?, k1]
    have sh2 : w.shape? m.blk = some (e2, c2.size) := by simp [World.shape?, m1]
    have nb : (l.blk == m.blk) = false := by simpa using hblk
    have fr : (∀ a : Addr, a.block = l.blk → w.frozen? a = false) ∨ (∀ a : Addr, a.block = m.blk → w.frozen? a = false) := by
      left; intro a ha
      have : f1 = (0, 0) := by
        cases r with
        | false => exact (k2 rfl).1
        | true => exact (k3.2 rfl).2
      subst this
      simp [World.frozen?, ha, k1]
    have fz : ∀ a : Addr, (frozen a).run P w = .ok (w.frozen? a) w := fun a => rfl
    have sp : ∀ r : Nat, (shape r).run P w = .ok (w.shape? r) w := fun r => rfl
    rcases fr with fr | fr
    · have fr1 := fr ⟨l.blk, l.off + o, none⟩ rfl
      have fr2 := fr ⟨l.blk, c1.size, none⟩ rfl
      simp [sameAddr, nb, fz, fr1, noView, viewAt, sp, sh1, sh2, mayBeOne, stringish, fr2, s1, s2]
    · have fr1 := fr ⟨m.blk, m.off + p, none⟩ rfl
      have fr2 := fr ⟨m.blk, c2.size, none⟩ rfl
      simp [sameAddr, nb, fz, fr1, noView, viewAt, sp, sh1, sh2, mayBeOne, stringish, fr2, s1, s2]
  · obtain rfl := Nat.eq_of_beq_eq_true hb
    rw [h1] at h2; cases h2
    cases he
    simp only [sameAddr, beq_self_eq_true, if_true, Sem.run_pure, Addr_beq]
    congr 1
    have : Nat.beq (l.off + o) (l.off + p) = Nat.beq o p := by
      cases h3 : Nat.beq o p
      · cases h4 : Nat.beq (l.off + o) (l.off + p)
        · rfl
        · have := Nat.eq_of_beq_eq_true h4
          have e : o = p := by omega
          rw [e] at h3; simp at h3
      · have := Nat.eq_of_beq_eq_true h3
        rw [this]; simp
    exact this


theorem memT_mem {x : Nat} : ∀ {l : List Nat}, memT x l = true → x ∈ l
  | [], h => by simp [memT] at h
  | y :: l, h => by
    simp only [memT, Bool.or_eq_true] at h
    rcases h with h | h
    · rw [Nat.eq_of_beq_eq_true h]; exact List.mem_cons_self ..
    · exact List.mem_cons_of_mem _ (memT_mem h)
theorem cmpTys_spec {t : Nat} (h : t ∈ cmpTys P) : ∃ e n i, P.underlying t = some (.pointer e) ∧ sizeIn P e = some n ∧ 0 < n ∧ P.info? t = some i ∧ i.comparable = true := by
  unfold cmpTys at h
  rw [List.mem_filter] at h
  have h := h.2
  unfold cmpTy isPtrTy at h
  simp only [Bool.and_eq_true] at h
  obtain ⟨h1, h2⟩ := h
  split at h1
  case h_2 => cases h1
  rename_i e hu
  split at h1
  case h_2 => cases h1
  rename_i n hn
  split at h2
  case h_2 => cases h2
  rename_i i hi
  exact ⟨e, n, i, hu, hn, lt_of_blt h1, hi, h2⟩
theorem sameIf_sound (h : HRel V ι B σ w) {t : TypeId} (ht : isIfTy P t = true) {op : BinOp} {x' y' : Operand} {x y : SV} {b : Bool} (he : sameIf σ (litIf x' || litIf y') (cmpTys P) x y = some b) {c d : Value} (hc : VRel V ι x c) (hd : VRel V ι y d) :
    (eqGuard op t x' y' c d).run P w = .ok () w ∧ (Op.equal t c d).run P w = .ok b w ∧ (binOp .eql t c d = do pure (.bool (← Op.equal t c d))) ∧ (binOp .neq t c d = do pure (.bool (!(← Op.equal t c d)))) := by
  unfold isIfTy at ht
  split at ht
  case h_2 => cases ht
  rename_i ms hu
  unfold sameIf at he
  split at he
  · simp only [VRel] at hc hd
    subst hc; subst hd
    cases hl : (litIf x' || litIf y') <;> simp only [hl, cond_true, cond_false] at he
    · cases he
    cases he
    refine ⟨?_, by unfold Op.equal Op.maxDepth Op.equalIn; simp [run_underlying hu], rfl, rfl⟩
    have hlit : ∀ z, litIf z = true → z = .const .nilIface := by
      intro z hz
      unfold litIf at hz
      split at hz
      · rfl
      · cases hz
    rw [Bool.or_eq_true] at hl
    unfold eqGuard
    rcases hl with hl | hl <;> rw [hlit _ hl] <;> cases op <;> simp
  · obtain ⟨u, rfl, _⟩ := hd
    simp only [VRel] at hc
    subst hc; cases he
    exact ⟨run_eqGuard_scalar w op t x' y' _ _ (fun _ _ => .inr (by simp)) (.inr (by simp)), by unfold Op.equal Op.maxDepth Op.equalIn; simp [run_underlying hu], rfl, rfl⟩
  · obtain ⟨u, rfl, _⟩ := hc
    simp only [VRel] at hd
    subst hd; cases he
    exact ⟨run_eqGuard_scalar w op t x' y' _ _ (fun _ _ => .inl (by simp)) (.inl (by simp)), by unfold Op.equal Op.maxDepth Op.equalIn; simp [run_underlying hu], rfl, rfl⟩
  · rename_i u v u' v'
    obtain ⟨c1, rfl, hc⟩ := hc
    obtain ⟨d1, rfl, hd⟩ := hd
    refine ⟨run_eqGuard_scalar w op t x' y' _ _ (fun _ _ => .inl (by simp)) (.inl (by simp)), ?_, rfl, rfl⟩
    cases hb : Nat.beq u u' <;> simp only [hb, cond_true, cond_false] at he
    · cases he
      have hne : u ≠ u' := fun e => by rw [e] at hb; simp at hb
      unfold Op.equal Op.maxDepth Op.equalIn; simp [run_underlying hu, hne]
    · obtain rfl := Nat.eq_of_beq_eq_true hb
      cases hm : memT u (cmpTys P) <;> simp only [hm, cond_true, cond_false] at he
      · cases he
      obtain ⟨e, n, i, g1, g2, g3, g4, g5⟩ := cmpTys_spec (memT_mem hm)
      obtain ⟨p, r, hp, hrr, hs⟩ := samePtr_sound (P := P) h he hc hd
      subst hp; subst hrr
      have : n ≠ 0 := by omega
      have hin : (Op.equalIn 9999 u (.pointer (some p)) (.pointer (some r))).run P w = .ok b w := by
        unfold Op.equalIn
        simp [run_underlying g1, run_sizeOf g2, this, hs]
      unfold Op.equal Op.maxDepth Op.equalIn
      simp [run_underlying hu, typeInfo, g4, g5, hin]
  · cases he

theorem srcOf_part (h : HRel V ι B σ w) {sz n : Nat} {xv : SV} {vs : List SV} (he : srcOf σ sz xv = some (n, vs)) {x : Value} (hx : VRel V ι xv x) :
    ∃ us, VRels V ι vs us ∧ us.length = n * sz ∧ (∀ v ∈ vs, v.one = true) ∧ (Builtin.lenOf x).run P w = .ok n w ∧ (∀ m, m ≤ n → (Builtin.firstCells sz m x).run P w = .ok (us.take (m * sz)).toArray w) := by
  unfold srcOf at he
  split at he
  · cases he
    simp only [VRel] at hx; subst hx
    exact ⟨[], .nil, by simp, by simp, by simp [Builtin.lenOf], fun m _ => by simp [Builtin.firstCells]⟩
  · rename_i id o len _ sz'
    cases hb : Nat.beq sz sz' <;> simp only [hb, cond_true, cond_false] at he
    · cases he
    obtain rfl := Nat.eq_of_beq_eq_true hb
    cases hl : ldc σ id o (len * sz) with
    | none => simp [hl] at he
    | some vs' =>
      simp only [hl, Option.some.injEq, Prod.mk.injEq] at he
      obtain ⟨rfl, rfl⟩ := he
      obtain ⟨l, a, ccap, hι, rfl, ha, h1, h2, h3⟩ := hx
      obtain ⟨us, k1, k2, k3, k4, k5⟩ := ldc_sound h hl hι
      refine ⟨us, k1, k2, k4, by simp [Builtin.lenOf], fun m hm => ?_⟩
      simp only [Builtin.firstCells]
      have hmul : m * sz ≤ len * sz := Nat.mul_le_mul_right _ hm
      rcases ha with rfl | hc
      · refine run_load_cells (by rw [List.length_take, k2, Nat.min_eq_left hmul]) (fun j u hj => k3 j u ?_)
        rw [List.getElem?_take] at hj
        split at hj
        · exact hj
        · cases hj
      · have h0 : m = 0 := by omega
        subst h0
        simp [loadCells, loadCellsFrom]
  · cases he

theorem selVs_get {e : SE} : ∀ {ks : List AK} {s i : Nat}, (selVs e s ks)[i]? = (ks[i]?).map (selV (s + i) e)
  | [], s, i => by simp [selVs]
  | k :: ks, s, 0 => by simp [selVs]
  | k :: ks, s, i + 1 => by
    simp only [selVs, List.getElem?_cons_succ]
    rw [selVs_get (s := s + 1) (i := i), show s + 1 + i = s + (i + 1) by omega]
theorem selVs_len {e : SE} : ∀ {ks : List AK} {s : Nat}, (selVs e s ks).length = ks.length
  | [], s => rfl
  | k :: ks, s => by simp [selVs, selVs_len (s := s + 1)]
theorem selV_rel {s j : Nat} {e : SE} {k : AK} {u : Value} (he : e.den V = Int.ofNat j) (hk : k.ok V s j (some u)) : VRel V ι (selV s e k) u := by
  cases k with
  | int k =>
    obtain ⟨h1, h2⟩ := hk
    cases h2
    simp only [selV, VRel, SE.den, he]
    rw [wrap_of_in h1.1 h1.2]
  | bool =>
    simp only [AK.ok, Option.some.injEq] at hk
    subst hk
    simp [selV, VRel, SB.den, SE.den, cmpI, he]
theorem ldx_sound (h : HRel V ι B σ w) {ag : Bool} {cnt id m o : Nat} {e n : SE} {v : SV} (he : ldx σ ag cnt id e n m o = some (v, σ')) {l : Loc} (hl : ι id = some l) (b1 : 0 ≤ e.den V) (b2 : e.den V < n.den V) :
    σ' = σ ∧ ∃ vs us, VRels V ι vs us ∧ us.length = cnt ∧ (∀ j u, us[j]? = some u → w.cell? ((⟨l.blk, l.off + ((e.den V).toNat * m + o), none⟩ : Addr).add j) = some u) ∧ (if ag then v = .agg vs else vs = [v]) := by
  unfold ldx at he
  split at he
  case h_3 => cases he
  case h_2 =>
    rename_i t mm z hg
    cases hb : (!ag && Nat.beq cnt 1 && Nat.beq m 1) <;> simp only [hb, cond_true, cond_false] at he
    · cases he
    simp only [Bool.and_eq_true, Bool.not_eq_true'] at hb
    obtain ⟨⟨rfl, hc⟩, hm⟩ := hb
    obtain rfl := Nat.eq_of_beq_eq_true hc
    obtain rfl := Nat.eq_of_beq_eq_true hm
    split at he
    case h_2 => cases he
    rename_i lo hi hr
    cases hb : (Nat.ble (o + hi + 1) mm && clearB t (o + lo) (hi + 1 - lo)) <;> simp only [hb, cond_true, cond_false] at he
    · cases he
    simp only [Bool.and_eq_true] at hb
    cases he
    obtain ⟨r1, r2⟩ := SE.rng_den V e
    rw [hr] at r1 r2
    have q1 := r1 _ rfl
    have q2 := r2 _ rfl
    obtain ⟨c, ty, hblk, _, _, _, hcr⟩ := h.obj id _ l hg hl
    have hle := Nat.le_of_ble_eq_true hb.1
    obtain ⟨j, hj⟩ := Int.eq_ofNat_of_zero_le b1
    have e1 : lo ≤ j := by rw [hj] at q1; exact Int.ofNat_le.1 q1
    have e2 : j ≤ hi := by rw [hj] at q2; exact Int.ofNat_le.1 q2
    obtain ⟨_, u, s2, s3⟩ := hcr (o + j) (by omega)
    rw [clearB_at hb.2 (by omega) (by omega)] at s3
    refine ⟨rfl, [v], [u], .cons s3 .nil, rfl, fun i x hx => ?_, by simp⟩
    have hi0 : i = 0 := by
      have := (List.getElem?_eq_some_iff.1 hx).1
      simp at this; omega
    subst hi0
    simp at hx
    subst hx
    rw [addr_add, cell_of_row w _ _ c ty (0, 0) hblk, hj]
    rw [← s2]
    congr 1
    simp
    omega
  rename_i s ks n' hg
  cases hb : (Nat.beq m ks.length && Nat.ble (o + cnt) m && n.same n') <;> simp only [hb, cond_true, cond_false] at he
  · cases he
  simp only [Bool.and_eq_true] at hb
  obtain ⟨⟨hm, hle⟩, hs⟩ := hb
  obtain rfl := Nat.eq_of_beq_eq_true hm
  have hle := Nat.le_of_ble_eq_true hle
  obtain rfl := SE.same_eq hs
  obtain ⟨N, q1, q2⟩ := h.obj id _ l hg hl
  obtain ⟨j, hj⟩ := Int.eq_ofNat_of_zero_le b1
  have hjN : j < N := by
    rw [hj, q1] at b2
    exact Int.ofNat_lt.1 b2
  rcases q2 with q2 | ⟨c, ty, fr, hblk, hlt, hc⟩
  · omega
  have hc := hc j hjN
  have get : ∀ i, i < cnt → ∃ (k : AK) (u : Value), ((ks.drop o).take cnt)[i]? = some k ∧ c[l.off + (j * ks.length + (o + i))]? = some u ∧ k.ok V (s + o + i) j (some u) := by
    intro i hi
    have hlt : o + i < ks.length := by omega
    have h1 := hc (o + i) _ (List.getElem?_eq_getElem hlt)
    have h2 : ∃ u, c[l.off + (j * ks.length + (o + i))]? = some u := by
      cases hk : ks[o + i] with
      | int k => rw [hk] at h1; exact ⟨_, h1.2⟩
      | bool => rw [hk] at h1; exact ⟨_, h1⟩
    obtain ⟨u, hu⟩ := h2
    refine ⟨ks[o + i], u, ?_, hu, ?_⟩
    · rw [List.getElem?_take, if_pos hi, List.getElem?_drop, List.getElem?_eq_getElem hlt]
    · rw [hu] at h1
      rwa [show s + o + i = s + (o + i) by omega]
  have hj' : (e.den V).toNat = j := by rw [hj]; rfl
  have hv : VRels V ι (selVs e (s + o) ((ks.drop o).take cnt)) ((c.toList.drop (l.off + (j * ks.length + o))).take cnt) := by
    refine VRels.of_get ?_ fun i x hx => ?_
    · rw [selVs_len]
      simp only [List.length_take, List.length_drop, Array.length_toList]
      have : 0 < cnt → l.off + (j * ks.length + (o + (cnt - 1))) < c.size := fun h0 => by
        obtain ⟨k, u, _, h2, _⟩ := get (cnt - 1) (by omega)
        exact (Array.getElem?_eq_some_iff.1 h2).1
      omega
    · rw [selVs_get] at hx
      cases hk : ((ks.drop o).take cnt)[i]? with
      | none => rw [hk] at hx; cases hx
      | some k =>
        rw [hk] at hx
        cases hx
        have hi : i < cnt := by
          have := (List.getElem?_eq_some_iff.1 hk).1
          simp only [List.length_take] at this
          omega
        obtain ⟨k', u, h1, h2, h3⟩ := get i hi
        rw [hk] at h1; cases h1
        refine ⟨u, ?_, selV_rel hj h3⟩
        rw [List.getElem?_take, if_pos hi, List.getElem?_drop, Array.getElem?_toList, ← h2]
        congr 1; omega
  refine ⟨?_, _, _, hv, ?_, ?_, ?_⟩
  · cases ag <;> simp only [cond_true, cond_false] at he
    · split at he <;> cases he; rfl
    · cases he; rfl
  · simp only [List.length_take, List.length_drop, Array.length_toList]
    have : 0 < cnt → l.off + (j * ks.length + (o + (cnt - 1))) < c.size := fun h0 => by
      obtain ⟨k, u, _, h2, _⟩ := get (cnt - 1) (by omega)
      exact (Array.getElem?_eq_some_iff.1 h2).1
    omega
  · intro i u hu
    rw [List.getElem?_take] at hu
    split at hu
    case isFalse => cases hu
    rw [List.getElem?_drop, Array.getElem?_toList] at hu
    have e : l.off + (j * ks.length + o) + i = l.off + (j * ks.length + o + i) := by omega
    have e2 : l.off + (j * ks.length + o) + i = l.off + (j * ks.length + (o + i)) := by omega
    rw [addr_add, cell_of_row w _ _ c ty fr hblk, hj', ← hu]
    first | done | (congr 1 <;> omega)
  · cases ag <;> simp only [cond_true, cond_false] at he
    · split at he
      · rename_i x hx
        cases he
        exact hx
      · cases he
    · cases he
      first | rfl | simp
theorem look_sound {dst : Option Tmp} {t : TypeId} {x i : Operand} {ok : Bool} {type : TypeId} {pos : String} {after : Array Edge} {guard : Option (Nat × Bool)} {q : AOp} (hc : cLook P t (cX x) (cX i) ok = some q) (hrd : RdRel V ι rd a) (hr : HRel V ι B σ w) {v : SV} (he : evM rd σ q = some (v, σ')) :
    σ' = σ ∧ ∃ c, (execOp a ⟨dst, .lookup t x i ok, type, pos, after, guard⟩).run P w = .ok (.value c) w ∧ VRel V ι v c := by
  obtain ⟨kt, e, kk, z, m, j, hu, hk, hz, hm, hj, rfl⟩ := cLook_spec hc
  obtain ⟨inf, zv, hi, hzv, hzr⟩ : ∃ inf zv, P.info? e = some inf ∧ inf.zero = some zv ∧ VRel V ι z zv := by
    unfold zero1 at hz
    split at hz
    case h_2 => cases hz
    rename_i inf hi
    split at hz
    case h_2 => cases hz
    rename_i zv hzv
    exact ⟨inf, zv, hi, hzv, cval1_rel hz⟩
  have hzero : ∀ w, (zeroValue e).run P w = .ok zv w := run_zeroValue hi hzv
  simp only [evM, m_mget] at he
  split at he
  · rename_i k a0 h1 h2
    cases hb : decide (k = kk) <;> simp only [hb, cond_true, cond_false] at he
    · cases he
    obtain rfl := of_decide_eq_true hb
    simp only [Option.some.injEq, Prod.mk.injEq] at he
    obtain ⟨rfl, rfl⟩ := he
    have hx := hrd x m _ hm h1
    have hy := hrd i j _ hj h2
    simp only [VRel, SE.den] at hx hy
    have hck := MapKept.run_checkKey (P := P) (w := w) (k := .int k a0) hk (by simp [MapKept.IsKey]) true 9999
    have hfk := MapKept.run_findKey (P := P) (w := w) (k := .int k a0) (l := []) (a := none) hk rfl
    refine ⟨rfl, if ok then .tuple #[zv, .bool false] else zv, ?_, ?_⟩
    · simp [execOp, Instr.lookup, run_underlying hu, hx, hy, hck, hfk, hzero]
    · cases ok
      · exact hzr
      · exact ⟨_, rfl, .cons hzr (.cons (by simp [VRel, SB.den]) .nil)⟩
  · rename_i id k a0 h1 h2
    split at he
    case h_2 => cases he
    rename_i es hg
    cases hb : decide (k = kk) <;> simp only [hb, cond_true, cond_false] at he
    · cases he
    obtain rfl := of_decide_eq_true hb
    obtain ⟨l, hι, hx⟩ := hrd x m _ hm h1
    have hy := hrd i j _ hj h2
    simp only [VRel, SE.den] at hy
    obtain ⟨ms, hbk, _, hms⟩ := hr.obj id _ l hg hι
    have hget := MapKept.run_getObj_map (P := P) hbk
    have hck := MapKept.run_checkKey (P := P) (w := w) (k := .int k a0) hk (by simp [MapKept.IsKey]) ms.isEmpty 9999
    split at he
    · rename_i v' hf
      simp only [Option.some.injEq, Prod.mk.injEq] at he
      obtain ⟨rfl, rfl⟩ := he
      rcases findL_rel (j := 0) hms hf with ⟨h3, _⟩ | ⟨v2, n, c, h3, h4, h5⟩
      · cases h3
      · cases h3
        have hfk := MapKept.run_findKey (P := P) (w := w) hk h4
        refine ⟨rfl, if ok then .tuple #[c, .bool true] else c, ?_, ?_⟩
        · simp [execOp, Instr.lookup, run_underlying hu, hx, hy, hget, hck, hfk]
        · cases ok
          · exact h5
          · exact ⟨_, rfl, .cons h5 (.cons (by simp [VRel, SB.den]) .nil)⟩
    · rename_i hf
      simp only [Option.some.injEq, Prod.mk.injEq] at he
      obtain ⟨rfl, rfl⟩ := he
      rcases findL_rel (j := 0) hms hf with ⟨_, h4⟩ | ⟨v2, n, c, h3, _, _⟩
      · have hfk := MapKept.run_findKey (P := P) (w := w) hk h4
        refine ⟨rfl, if ok then .tuple #[zv, .bool false] else zv, ?_, ?_⟩
        · simp [execOp, Instr.lookup, run_underlying hu, hx, hy, hget, hck, hfk, hzero]
        · cases ok
          · exact hzr
          · exact ⟨_, rfl, .cons hzr (.cons (by simp [VRel, SB.den]) .nil)⟩
      · cases h3
    · cases he
  · cases he
theorem does_M {o : Oper} {q : AOp} (hc : cOp P o = some q) (hrd : RdRel V ι rd a) (hr : HRel V ι B σ w) {v : SV} (he : evM rd σ q = some (v, σ')) : Does P V B ι σ w a o v σ' := by
  obtain ⟨dst, op, type, pos, after, guard⟩ := o
  cases op <;> simp only [cOp] at hc
  case load t x =>
    split at hc
    case h_2 => cases hc
    rename_i ag n y hag hn hy
    cases hb : (ag || Nat.beq n 1) <;> simp only [hb, cond_true, cond_false] at hc
    · cases hc
    cases hc
    simp only [evM] at he
    split at he
    case h_3 => cases he
    case h_1 =>
      rename_i id e' k' m o h1
      obtain ⟨l, h2, b1, b2, h3⟩ := hrd x y _ hy h1
      obtain ⟨rfl, vs, us, u1, u2, u3, u4⟩ := ldx_sound hr he h2 b1 b2
      cases ag <;> simp only [Bool.false_eq_true, if_true, if_false] at u4
      · subst u4
        obtain ⟨c, cs, rfl, h4, h5⟩ := u1
        have hcell := u3 0 c rfl
        rw [addr_add, Nat.add_zero] at hcell
        refine ⟨c, w, ι, .inl ?_, h4, hr, Ext.refl _ _ _⟩
        simp [execOp, Instr.loadAt, h3, Instr.sureAddr, loadVar, aggOf_run hag, hcell]
      · subst u4
        refine ⟨.agg us.toArray, w, ι, .inl ?_, ⟨_, rfl, u1⟩, hr, Ext.refl _ _ _⟩
        simp [execOp, Instr.loadAt, h3, Instr.sureAddr, loadVar, aggOf_run hag, run_sizeOf hn, run_load_cells u2 u3]
    rename_i id o h1
    split at he
    case h_2 => cases he
    rename_i vs hvs
    obtain ⟨l, h2, h3⟩ := hrd x y _ hy h1
    obtain ⟨us, u1, u2, u3, u4, u5⟩ := ldc_sound hr hvs h2
    cases ag <;> simp only [cond_true, cond_false] at he
    · split at he
      case h_2 => cases he
      rename_i v'
      simp only [Option.some.injEq, Prod.mk.injEq] at he
      obtain ⟨rfl, rfl⟩ := he
      obtain ⟨c, cs, rfl, h4, h5⟩ := u1
      have hcell := u3 0 c rfl
      rw [addr_add, Nat.add_zero] at hcell
      refine ⟨c, w, ι, .inl ?_, h4, hr, Ext.refl _ _ _⟩
      simp [execOp, Instr.loadAt, h3, Instr.sureAddr, loadVar, aggOf_run hag, hcell]
    · simp only [Option.some.injEq, Prod.mk.injEq] at he
      obtain ⟨rfl, rfl⟩ := he
      refine ⟨.agg us.toArray, w, ι, .inl ?_, ⟨_, rfl, u1⟩, hr, Ext.refl _ _ _⟩
      simp [execOp, Instr.loadAt, h3, Instr.sureAddr, loadVar, aggOf_run hag, run_sizeOf hn, run_load_cells u2 u3]
  case slice t x lo hi mx =>
    cases mx <;> simp only [] at hc <;> (try (cases hc; done))
    split at hc
    · split at hc <;> simp at hc
      subst hc; simp [evM] at he
    · rename_i n e y l h hu hy hl hh
      split at hc <;> simp at hc
      subst hc
      rename_i sz hsz
      simp only [evM] at he
      split at he
      case h_2 => cases he
      rename_i id o lov hiv h1 h2 h3
      split at he
      case h_2 => cases he
      rename_i ln hn vs hln hhn hvs
      cases hb : (Nat.ble hn n && Nat.ble ln hn) <;> simp only [hb, cond_true, cond_false] at he
      · cases he
      simp only [Bool.and_eq_true] at hb
      have hb2 := Nat.le_of_ble_eq_true hb.1
      have hb3 := Nat.le_of_ble_eq_true hb.2
      simp only [Option.some.injEq, Prod.mk.injEq] at he
      obtain ⟨rfl, rfl⟩ := he
      obtain ⟨lc, hι, hax⟩ := hrd x y _ hy h1
      have hext := ldc_ext hr hvs hι
      have hlo := optNat_rel hrd hl h2 hln
      have hhi := optNat_rel hrd hh h3 hhn
      have hbd : (Instr.sliceBounds false n n (lo.map a) (hi.map a) none).run P w = .ok (ln, hn, n) w :=
        run_bounds w false n n ln hn _ _ hlo hhi hb3 hb2
      have hmul : ln * sz ≤ n * sz := Nat.mul_le_mul_right _ (by omega)
      refine ⟨.slice (some (if n = ln then ⟨lc.blk, lc.off + o, none⟩ else (⟨lc.blk, lc.off + o, none⟩ : Addr).add (ln * sz))) (hn - ln) (n - ln), w, ι, .inl ?_, ?_, hr, Ext.refl _ _ _⟩
      · simp only [execOp, Instr.sliceAt, Sem.run_bind, run_underlying hu, Result.andThen_ok, hax, Instr.sureAddr, Sem.run_pure, Option.map_none, hbd, run_sizeOf hsz]
      · by_cases hcl : n = ln
        · refine ⟨lc, lc.off + o, n - ln, hι, by simp [hcl], .inr (by omega), by omega, by omega, ?_⟩
          have : n - ln = 0 := by omega
          rw [this, hcl] at *
          omega
        · refine ⟨lc, lc.off + o + ln * sz, n - ln, hι, by simp [hcl, addr_add], .inl (by omega), by omega, by omega, ?_⟩
          rw [Nat.sub_mul]; omega
    · cases hc
  case alloc e =>
    split at hc <;> simp at hc
    subst hc
    rename_i cs hcs
    obtain ⟨i, z, hi, hz, hzr⟩ := zeroIn_spec (V := V) (ι := ι) hcs
    simp only [evM] at he
    split at he
    case h_2 => cases he
    rename_i h' hn
    simp only [Option.some.injEq, Prod.mk.injEq] at he
    obtain ⟨rfl, rfl⟩ := he
    have hs := nwo_sound hr hn hzr (c := z.cells) (e := e) (rest := []) (by simp)
    refine ⟨.pointer (some ⟨w.heap.size, 0, none⟩), _, _, .inl ?_, ⟨_, if_pos rfl, by simp⟩, hs.1, hs.2⟩
    simp [execOp, Instr.alloc, run_zeroValue hi hz, newVar, newRow]
  case box e x =>
    split at hc <;> simp at hc
    subst hc
    rename_i n y hn hy
    simp only [evM] at he
    split at he
    case h_2 => cases he
    rename_i u h1
    cases hb : (Nat.beq u.cells.length n && !u.isLost) <;> simp only [hb, cond_true, cond_false] at he
    · cases he
    simp only [Bool.and_eq_true, Bool.not_eq_true'] at hb
    split at he
    case h_2 => cases he
    rename_i h' hnw
    simp only [Option.some.injEq, Prod.mk.injEq] at he
    obtain ⟨rfl, rfl⟩ := he
    have hs := nwo_sound hr hnw ((hrd x y _ hy h1).cells hb.2) (c := (a x).cells) (e := e) (rest := []) (by simp)
    refine ⟨.pointer (some ⟨w.heap.size, 0, none⟩), _, _, .inl ?_, ⟨_, if_pos rfl, by simp⟩, hs.1, hs.2⟩
    simp [execOp, Instr.box, newVar, newRow]
  case buildSlice t len parts =>
    split at hc
    case h_2 => cases hc
    rename_i sz by' z hel
    obtain ⟨e, i, zv, E, hzr, hzl⟩ := elemIn_spec (V := V) (ι := ι) hel
    cases hb : Nat.ble (len * sz) 16777216 <;> simp only [hb, cond_true, cond_false] at hc
    · cases hc
    have hb' := Nat.le_of_ble_eq_true hb
    split at hc
    case h_2 => cases hc
    rename_i fl hfl
    cases hc
    simp only [evM] at he
    split at he
    case h_2 => cases he
    rename_i l hl
    split at he
    case h_2 => cases he
    rename_i cs hcs
    split at he
    case h_2 => cases he
    rename_i h' hnw
    simp only [Option.some.injEq, Prod.mk.injEq] at he
    obtain ⟨rfl, rfl⟩ := he
    obtain ⟨E1, E2, E3, E4, E5, E6, E7⟩ := E
    have hmr := made_rel hzr (by omega) len (fun j => zv.cells[j % zv.cells.size]!) (fun _ _ => rfl)
    rw [hzl] at hmr
    obtain ⟨l', q1, q2⟩ := fill_sound hrd hfl hl hcs hmr
    have hs := nwo_sound hr hnw q2 (c := l') (e := e) (rest := []) (by simp)
    have hcl : cs.length = len * sz := by
      have k1 := q2.length
      have : ∀ {f : List (Nat × Nat × SV)} {x y : List SV}, fillV x f = some y → y.length = x.length := by
        intro f
        induction f with
        | nil => intro x y h; simp [fillV] at h; subst h; rfl
        | cons p f ih =>
          obtain ⟨o, n, u⟩ := p
          intro x y h
          simp only [fillV] at h
          cases hbb : (Nat.beq u.cells.length n && Nat.ble (o + n) x.length && !u.isLost) <;> simp only [hbb, cond_true, cond_false] at h
          · cases h
          simp only [Bool.and_eq_true] at hbb
          have e1 := Nat.eq_of_beq_eq_true hbb.1.1
          have e2 := Nat.le_of_ble_eq_true hbb.1.2
          have := ih h
          simp only [List.length_append, List.length_take, List.length_drop] at this
          omega
      rw [this hcs, repL_length, hzl]
    have hl'sz : l'.size = len * sz := by have := q2.length; simp at this; omega
    refine ⟨.slice (some ⟨w.heap.size, 0, none⟩) len len, _, _, .inl ?_, ⟨_, 0, len, if_pos rfl, rfl, .inl (by simp), Nat.le_refl _, Nat.le_refl _, by simp [hl'sz]⟩, hs.1, hs.2⟩
    have hnot : ¬ (16777216 < len * i.size) := by rw [E4]; omega
    have hmap : (parts.map fun p => (p.1, a p.2)).toList = parts.toList.map fun p => (p.1, a p.2) := by simp
    subst E4
    by_cases h0 : len * i.size = 0
    · have hz0 : ((Array.range (len * i.size)).map fun j => zv.cells[j % zv.cells.size]!) = #[] := by rw [h0]; simp
      rw [hz0] at q1
      have hr0 : Array.range 0 = #[] := by simp
      simp [execOp, Instr.buildSlice, run_underlying E1, sizeOf, typeInfo, E2, hnot, h0, hr0, hmap, q1, newRow]
    · simp only [execOp, Instr.buildSlice, Sem.run_bind, run_underlying E1, sizeOf, typeInfo]
      simp [E2, hnot, h0, zeroValue, typeInfo, E3, hmap, q1, newRow]
  case makeSlice t lx cx =>
    split at hc
    case h_2 => cases hc
    rename_i sz by' z l c hel hl hcx
    cases hc
    obtain ⟨e, i, zv, E, hzr, hzl⟩ := elemIn_spec (V := V) (ι := ι) hel
    simp only [evM] at he
    split at he
    case h_2 => cases he
    rename_i lv cv h1 h2
    split at he
    case h_2 => cases he
    rename_i ln cn h3 h4
    cases hb : (Nat.ble ln cn && Nat.ble cn most && Nat.ble (by' * cn) most) <;> simp only [hb, cond_true, cond_false] at he
    · cases he
    simp only [Bool.and_eq_true] at hb
    have b1 := Nat.le_of_ble_eq_true hb.1.1
    have b2 := Nat.le_of_ble_eq_true hb.1.2
    have b3 := Nat.le_of_ble_eq_true hb.2
    split at he
    case h_2 => cases he
    rename_i h' hnw
    simp only [Option.some.injEq, Prod.mk.injEq] at he
    obtain ⟨rfl, rfl⟩ := he
    obtain ⟨kl, e1⟩ := litNat_rel h3 (hrd lx l _ hl h1)
    obtain ⟨kc, e2⟩ := litNat_rel h4 (hrd cx c _ hcx h2)
    obtain ⟨E1, E2, E3, E4, E5, E6, E7⟩ := E
    have hb3' : (i.bytes : Int) * (cn : Int) ≤ 281474976710656 := by
      have h : ((i.bytes * cn : Nat) : Int) ≤ 281474976710656 := by rw [E5]; unfold most at b3; omega
      rwa [Int.natCast_mul] at h
    have hrun := run_make (P := P) w t e i zv E1 E2 E3 kl kc (ln : Int) (cn : Int) (by omega) (by omega) hb3' (by unfold most at b2; omega)
    simp only [Int.toNat_natCast] at hrun
    have hmr := made_rel hzr (by omega) cn (fun j => zv.cells[j % zv.cells.size]!) (fun _ _ => rfl)
    have hs := nwo_sound hr hnw (us := (madeCells zv.cells (cn * i.size)).toList) (by simpa [madeCells, hzl, E4] using hmr) (c := madeCells zv.cells (cn * i.size)) (e := e) (rest := []) (by simp)
    refine ⟨.slice (some ⟨w.heap.size, 0, none⟩) ln cn, _, _, .inl ?_, ⟨_, 0, cn, if_pos rfl, rfl, .inl (by simp), b1, Nat.le_refl _, by simp [madeCells, E4]⟩, hs.1, hs.2⟩
    simp only [execOp, e1, e2, Sem.run_bind, hrun, Result.andThen_ok, Sem.run_pure]
  case store t x y =>
    split at hc
    case h_2 => cases hc
    rename_i n p q hn hp hq
    cases hc
    simp only [evM] at he
    split at he
    case h_2 => cases he
    rename_i id o u h1 h2
    cases hb : (Nat.beq u.cells.length n && !u.isLost) <;> simp only [hb, cond_true, cond_false] at he
    · cases he
    simp only [Bool.and_eq_true, Bool.not_eq_true'] at hb
    have hb' := Nat.eq_of_beq_eq_true hb.1
    split at he
    case h_2 => cases he
    rename_i h' hst
    simp only [Option.some.injEq, Prod.mk.injEq] at he
    obtain ⟨rfl, rfl⟩ := he
    obtain ⟨l, h3, h4⟩ := hrd x p _ hp h1
    have hv := (hrd y q _ hq h2).cells hb.2
    obtain ⟨w', r1, r2, r3⟩ := stc_sound (P := P) hr hst h3 hv
    refine ⟨undef, w', ι, .inr ⟨?_, rfl⟩, VRel.undef, r2, r3⟩
    have hsz : (a y).cells.size = n := by have := hv.length; simp at this; omega
    simp [execOp, Instr.storeAt, h4, Instr.sureAddr, storeVar, run_sizeOf hn, hsz, r1]
  case makeMap t r =>
    cases r with
    | some r => simp at hc
    | none =>
      simp only [Option.some.injEq] at hc
      subst hc
      simp only [evM, m_mkMap] at he
      split at he
      case h_2 => cases he
      rename_i h' hp
      simp only [Option.some.injEq, Prod.mk.injEq] at he
      obtain ⟨rfl, rfl⟩ := he
      obtain ⟨s1, s2⟩ := mapNew_sound hr hp
      refine ⟨.map (some w.heap.size), _, _, .inl ?_, ⟨⟨w.heap.size, 0, 0⟩, if_pos rfl, rfl⟩, s1, s2⟩
      simp [execOp, Instr.makeMap]
  case lookup t x i ok =>
    obtain ⟨rfl, c, h1, h2⟩ := look_sound (dst := dst) (type := type) (pos := pos) (after := after) (guard := guard) hc hrd hr he
    exact ⟨c, w, ι, .inl h1, h2, hr, Ext.refl _ _ _⟩
  case mapUpdate t m k x =>
    obtain ⟨kt, e, kk, m', j, y, hu, hk, hm, hj, hy, rfl⟩ := cPut_spec hc
    simp only [evM, m_mset] at he
    split at he
    case h_2 => cases he
    rename_i id k0 a0 v0 h1 h2 h3
    split at he
    case h_2 => cases he
    rename_i es hg
    cases hb : (decide (k0 = kk) && !v0.isLost) <;> simp only [hb, cond_true, cond_false] at he
    · cases he
    simp only [Bool.and_eq_true] at hb
    obtain rfl := of_decide_eq_true hb.1
    split at he
    case h_2 => cases he
    rename_i es' hs
    split at he
    case h_2 => cases he
    rename_i h' hst
    simp only [Option.some.injEq, Prod.mk.injEq] at he
    obtain ⟨rfl, rfl⟩ := he
    obtain ⟨l, hι, hx⟩ := hrd m m' _ hm h1
    have hkey := hrd k j _ hj h2
    simp only [VRel, SE.den] at hkey
    have hval := hrd x y _ hy h3
    obtain ⟨ms, hbk, _, hms⟩ := hr.obj id _ l hg hι
    have hget := MapKept.run_getObj_map (P := P) hbk
    have hck := MapKept.run_checkKey (P := P) (w := w) (k := .int k0 a0) hk (by simp [MapKept.IsKey]) false 9999
    have hlen := MRel_len hms
    rcases setL_rel hval (j := 0) hms hs with ⟨q1, q2, q3⟩ | ⟨n, c, q1, q2, q3, q4, q5⟩
    · have hfk := MapKept.run_findKey (P := P) (w := w) hk q1
      have hm' : MRel V ι 0 es' (ms.push { key := .int k0 a0, val := a x, born := es.length }).toList := by
        simpa using q2
      obtain ⟨s1, s2⟩ := mapSet_sound hr hg hι hst hm'
      rw [q3] at s1 s2
      refine ⟨undef, _, ι, .inr ⟨?_, rfl⟩, VRel.undef, s1, s2⟩
      simp [execOp, Instr.mapUpdate, run_underlying hu, hx, hkey, hget, hck, hfk, MapKept.run_setObj_map _ hbk]
    · rw [Nat.zero_add] at q1
      have hfk := MapKept.run_findKey (P := P) (w := w) hk q1
      have hm' : MRel V ι 0 es' (ms.modify n fun e => { e with key := .int k0 a0, val := a x }).toList := by
        simpa using q4
      obtain ⟨s1, s2⟩ := mapSet_sound hr hg hι hst hm'
      rw [q5] at s1 s2
      have hkn : ((ms[n]?).map (·.key)).getD (Value.int k0 a0) = .int k0 a0 := by
        have : (ms[n]?).map (·.key) = some (.int k0 a0) := by simpa using q3
        rw [this]; rfl
      have hst' : (Instr.keyThatStays (.int k0 a0) (.int k0 a0)).run P w = .ok (.int k0 a0) w := by
        simp [Instr.keyThatStays, Instr.sameBits]
      refine ⟨undef, _, ι, .inr ⟨?_, rfl⟩, VRel.undef, s1, s2⟩
      simp [execOp, Instr.mapUpdate, run_underlying hu, hx, hkey, hget, hck, hfk, hkn, hst', MapKept.run_setObj_map _ hbk]
  case call c =>
    obtain ⟨callee, args, tys⟩ := c
    cases callee <;> simp only [] at hc
    case value f => split at hc <;> simp at hc; subst hc; simp [evM] at he
    case invoke => cases hc
    case builtin b =>
      have hargs : ∀ xs : List Operand, args.toList = xs → args = xs.toArray := fun xs h => by rw [← h]
      have htys : ∀ xs : List TypeId, tys.toList = xs → tys = xs.toArray := fun xs h => by rw [← h]
      unfold cBuiltin at hc
      split at hc
      · exfalso; (repeat' split at hc) <;> simp at hc <;> subst hc <;> simp [evM] at he
      · rename_i s x t tx hx ht
        have hx' := hargs _ hx; have ht' := htys _ ht
        subst hx'; subst ht'
        cases hb : isSliceTy P tx <;> simp only [hb, cond_true, cond_false] at hc
        · cases hc
        split at hc
        case h_2 => cases hc
        rename_i sz by' z p q hel hp hq
        cases hc
        obtain ⟨e, i, zv, E, hzr, hzl⟩ := elemIn_spec (V := V) (ι := ι) hel
        have htx : ∃ e', P.underlying tx = some (.slice e') := by
          unfold isSliceTy at hb
          split at hb
          · exact ⟨_, ‹_›⟩
          · cases hb
        obtain ⟨e', htx⟩ := htx
        simp only [evM] at he
        split at he
        case h_2 => cases he
        rename_i sv xv h1 h2
        obtain ⟨c, w', ι', r1, r2, r3, r4⟩ := append_sound (P := P) hr (ty := type) E htx (hrd s p _ hp h1) (hrd x q _ hq h2) he
        refine ⟨c, w', ι', .inl ?_, r2, r3, r4⟩
        simp [execOp, resolve, invoke, builtin, r1]
      · rename_i d s t ts hx ht
        have hx' := hargs _ hx; have ht' := htys _ ht
        subst hx'; subst ht'
        cases hb : isSliceTy P ts <;> simp only [hb, cond_true, cond_false] at hc
        · cases hc
        split at hc
        case h_2 => cases hc
        rename_i sz by' z p q hel hp hq
        cases hc
        obtain ⟨e, i, zv, E, hzr, hzl⟩ := elemIn_spec (V := V) (ι := ι) hel
        obtain ⟨E1, E2, E3, E4, E5, E6, E7⟩ := E
        simp only [evM] at he
        split at he
        case h_2 => cases he
        rename_i id o len cap sz' sv h1 h2
        split at he
        case h_2 => cases he
        rename_i n vs hsrc
        cases hbb : (Nat.beq sz sz' && !(Nat.beq (Nat.min n len) 0)) <;> simp only [hbb, cond_true, cond_false] at he
        · cases he
        simp only [Bool.and_eq_true, Bool.not_eq_true'] at hbb
        obtain rfl := Nat.eq_of_beq_eq_true hbb.1
        have hne : Nat.min n len ≠ 0 := fun e => by rw [e] at hbb; simp at hbb
        split at he
        case h_2 => cases he
        rename_i h' hst
        simp only [Option.some.injEq, Prod.mk.injEq] at he
        obtain ⟨rfl, rfl⟩ := he
        obtain ⟨l, ad, ccap, h3, h4, ha, c1, c2, c3⟩ := hrd d p _ hp h1
        have hmin : Nat.min n len ≤ len := Nat.min_le_right _ _
        have hmin' : Nat.min n len ≤ n := Nat.min_le_left _ _
        obtain rfl := ha.resolve_right (by omega)
        obtain ⟨us, u1, u2, u3, u4, u5⟩ := srcOf_part (P := P) hr hsrc (hrd s q _ hq h2)
        obtain ⟨w', r1, r2, r3⟩ := stc_sound (P := P) hr hst h3 (u1.take _)
        refine ⟨goInt (Nat.min n len : Nat), w', ι, .inl ?_, by simp [VRel, SE.den, goInt], r2, r3⟩
        have hsz : i.size = sz := E4
        have hrun : (Builtin.copy_ #[t, ts] type #[a d, a s]).run P w = .ok (goInt (Nat.min n len : Nat)) w' := by
          rw [h4]
          simp only [Builtin.copy_, List.getElem?_toArray, List.getElem?_cons_zero, List.getElem?_cons_succ, Sem.run_bind, run_underlying E1, Result.andThen_ok, u4, sizeOf, typeInfo]
          simp [E2, hsz, u5 _ hmin', r1]
        simp [execOp, resolve, invoke, builtin, hrun]
      · rename_i x t hx ht
        have hx' := hargs _ hx; have ht' := htys _ ht
        subst hx'; subst ht'
        split at hc
        case h_2 => cases hc
        rename_i sz by' z p hel hp
        cases hc
        obtain ⟨e, i, zv, E, hzr, hzl⟩ := elemIn_spec (V := V) (ι := ι) hel
        obtain ⟨E1, E2, E3, E4, E5, E6, E7⟩ := E
        simp only [evM] at he
        split at he
        · rename_i h1
          simp only [Option.some.injEq, Prod.mk.injEq] at he
          obtain ⟨rfl, rfl⟩ := he
          have hx1 := hrd x p _ hp h1
          simp only [VRel] at hx1
          exact ⟨.tuple #[], w, ι, .inl (by simp [execOp, resolve, invoke, builtin, Builtin.clear_, run_underlying E1, hx1]), ⟨#[], rfl, by simp [VRels]⟩, hr, Ext.refl _ _ _⟩
        · rename_i id o len cap sz' h1
          obtain ⟨l, ad, ccap, h3, h4, ha, c1, c2, c3⟩ := hrd x p _ hp h1
          cases hb0 : Nat.beq len 0 <;> simp only [hb0, cond_true, cond_false] at he
          · have hlen0 : len ≠ 0 := fun e => by rw [e] at hb0; simp at hb0
            cases hbb : Nat.beq sz sz' <;> simp only [hbb, cond_true, cond_false] at he
            · cases he
            obtain rfl := Nat.eq_of_beq_eq_true hbb
            split at he
            case h_2 => cases he
            rename_i h' hst
            simp only [Option.some.injEq, Prod.mk.injEq] at he
            obtain ⟨rfl, rfl⟩ := he
            obtain rfl := ha.resolve_right (by omega)
            have hmr := made_rel hzr (by omega) len (fun j => zv.cells[j % zv.cells.size]!) (fun _ _ => rfl)
            obtain ⟨w', r1, r2, r3⟩ := stc_sound (P := P) hr hst h3 hmr
            refine ⟨.tuple #[], w', ι, .inl ?_, ⟨#[], rfl, by simp [VRels]⟩, r2, r3⟩
            have hzc : Builtin.zeroCells zv.cells len = (Array.range (len * z.length)).map (fun j => zv.cells[j % zv.cells.size]!) := by
              unfold Builtin.zeroCells
              rw [hzl, E6]
            have hlen1 : ∃ m, len = m + 1 := ⟨len - 1, by omega⟩
            obtain ⟨m, rfl⟩ := hlen1
            have hrun : (Builtin.clear_ #[t] type #[a x]).run P w = .ok (.tuple #[]) w' := by
              rw [h4]
              have r1' := r1
              simp only [Array.toList_map, Array.toList_range] at r1'
              simp [Builtin.clear_, run_underlying E1, run_zeroValue E2 E3, hzc, r1']
            simp [execOp, resolve, invoke, builtin, hrun]
          · obtain rfl := Nat.eq_of_beq_eq_true hb0
            simp only [Option.some.injEq, Prod.mk.injEq] at he
            obtain ⟨rfl, rfl⟩ := he
            exact ⟨.tuple #[], w, ι, .inl (by simp [execOp, resolve, invoke, builtin, Builtin.clear_, run_underlying E1, h4]), ⟨#[], rfl, by simp [VRels]⟩, hr, Ext.refl _ _ _⟩
        · cases he
      · exfalso; (repeat' split at hc) <;> simp at hc <;> subst hc <;> simp [evM] at he
      · exfalso; (repeat' split at hc) <;> simp at hc <;> subst hc <;> simp [evM] at he
      · cases hc
  case binOp op t x' y' yt =>
      simp only [Bool.cond_eq_ite] at hc
      split at hc
      case h_2 => cases hc
      rename_i hx hy
      split at hc
      · simp at hc; subst hc; simp [evM] at he
      split at hc
      · split at hc <;> simp at hc
        subst hc; simp [evM] at he
      split at hc
      case isFalse =>
        split at hc
        case isFalse => cases hc
        rename_i hif
        split at hc <;> simp at hc
        subst hc
        rename_i n hop
        simp only [evM] at he
        split at he
        case h_2 => cases he
        rename_i xv yv h1 h2
        split at he
        case h_2 => cases he
        rename_i b h3
        simp only [Option.some.injEq, Prod.mk.injEq] at he
        obtain ⟨rfl, rfl⟩ := he
        obtain ⟨q1, q2, q3, q4⟩ := sameIf_sound (P := P) (op := op) hr hif h3 (hrd x' _ _ hx h1) (hrd y' _ _ hy h2)
        refine ⟨.bool (n != b), w, ι, .inl ?_, by simp [VRel, SB.den], hr, Ext.refl _ _ _⟩
        cases op <;> simp [eqlOf] at hop <;> subst hop <;> simp only [execOp, Sem.run_bind, q1, Result.andThen_ok, q3, q4] <;> simp [q2]
      rename_i hpt
      split at hc <;> simp at hc
      subst hc
      rename_i n hop
      simp only [evM] at he
      split at he
      case h_2 => cases he
      rename_i xv yv h1 h2
      split at he
      case h_2 => cases he
      rename_i b h3
      simp only [Option.some.injEq, Prod.mk.injEq] at he
      obtain ⟨rfl, rfl⟩ := he
      obtain ⟨p, r, hp, hrr, hs⟩ := samePtr_sound (P := P) hr h3 (hrd x' _ _ hx h1) (hrd y' _ _ hy h2)
      unfold isPtrTy at hpt
      split at hpt
      case h_2 => cases hpt
      rename_i e hu
      split at hpt
      case h_2 => cases hpt
      rename_i sz hsz
      have hsz0 := lt_of_blt hpt
      have heq : (Op.equal t (.pointer (some p)) (.pointer (some r))).run P w = .ok b w := by
        unfold Op.equal Op.maxDepth Op.equalIn
        have : sz ≠ 0 := by omega
        simp [run_underlying hu, run_sizeOf hsz, this, hs]
      have hgd : (eqGuard op t x' y' (.pointer (some p)) (.pointer (some r))).run P w = .ok () w := run_eqGuard_scalar w op t x' y' _ _ (fun _ _ => .inl (by simp)) (.inl (by simp))
      refine ⟨.bool (n != b), w, ι, .inl ?_, by simp [VRel, SB.den], hr, Ext.refl _ _ _⟩
      cases op <;> simp [eqlOf] at hop <;> subst hop <;> simp only [execOp, hp, hrr, Sem.run_bind, hgd, Result.andThen_ok] <;> simp [binOp, heq]
  case makeFunc fn first caps =>
    exfalso
    cases fn <;> simp only [] at hc <;> (try (cases hc; done))
    split at hc <;> simp at hc
    subst hc; simp [evM] at he
  all_goals (exfalso; (try simp only [Bool.cond_eq_ite] at hc); (repeat' split at hc) <;> (first | (cases hc; done) | (simp at hc; subst hc; simp [evM] at he; done)))
end
end Go.Sx
