/- The symbolic machine's append, copy and clear, and that the world follows. No condition: lemmas of the machine. -/
import Derived.Test.YtlgfmmccnilkmaaGreatDoorSyMem
namespace Go.Sx
set_option linter.unusedVariables false

def most : Nat := 140737488355328
def srcOf (σ : Hp) (sz : Nat) : SV → Option (Nat × List SV)
  | .nilSlice => some (0, [])
  | .slice id o len _ sz' => bif Nat.beq sz sz' then (match ldc σ id o (len * sz) with | some vs => some (len, vs) | none => none) else none
  | _ => none
def appendV (σ : Hp) (sz bytes : Nat) (sv xv : SV) : Option (SV × Hp) :=
  match srcOf σ sz xv with
  | none => none
  | some (n, vs) =>
    match sv with
    | .nilSlice =>
      bif Nat.beq n 0 then some (.nilSlice, σ)
      else bif Nat.ble n most && Nat.ble (n * bytes) most then (match nwo σ vs with | some s => some (.slice σ.sz 0 n n sz, s) | none => none) else none
    | .slice id o len cap sz' =>
      bif Nat.beq n 0 then some (.slice id o len cap sz', σ)
      else bif !(Nat.beq sz sz') then none
      else bif Nat.ble (len + n) cap then (match stc σ id (o + len * sz) vs with | some s => some (.slice id o (len + n) cap sz, s) | none => none)
      else bif Nat.ble (len + n) most && Nat.ble ((len + n) * bytes) most then
        (match ldc σ id o (len * sz) with
          | some old => (match apo σ id (old ++ vs) with | some s => some (.slice σ.sz 0 (len + n) (len + n) sz, s) | none => none)
          | none => none)
      else none
    | _ => none

section
variable {P : Program} {V : Val} {ι : Nat → Option Loc} {B : Nat} {σ σ' : Hp} {w : World}

structure ElemOf (P : Program) (t e : TypeId) (i : TypeInfo) (z : Value) (sz bytes : Nat) : Prop where
  sl : P.underlying t = some (.slice e)
  info : P.info? e = some i
  zero : i.zero = some z
  size : i.size = sz
  byte : i.bytes = bytes
  cells : z.cells.size = sz
  pos : 0 < sz

theorem srcOf_sound (h : HRel V ι B σ w) {sz n : Nat} {xv : SV} {vs : List SV} (he : srcOf σ sz xv = some (n, vs)) {x : Value} (hx : VRel V ι xv x) :
    ∃ us, VRels V ι vs us ∧ us.length = n * sz ∧ (∀ v ∈ vs, v.one = true) ∧ (Builtin.lenOf x).run P w = .ok n w ∧ (∀ w' : World, w'.heap = w.heap → (Builtin.firstCells sz n x).run P w' = .ok us.toArray w') := by
  unfold srcOf at he
  split at he
  · cases he
    simp only [VRel] at hx; subst hx
    exact ⟨[], .nil, by simp, by simp, by simp [Builtin.lenOf], fun w' _ => by simp [Builtin.firstCells]⟩
  · rename_i id o len cap sz'
    cases hb : Nat.beq sz sz' <;> simp only [hb, cond_true, cond_false] at he
    · cases he
    obtain rfl := Nat.eq_of_beq_eq_true hb
    cases hl : ldc σ id o (len * sz) with
    | none => simp [hl] at he
    | some vs' =>
      simp only [hl, Option.some.injEq, Prod.mk.injEq] at he
      obtain ⟨rfl, rfl⟩ := he
      obtain ⟨l, a, ccap, hι, rfl, ha, h1, h2, h3⟩ := hx
      obtain ⟨us, k1, k2, k3, k4, k5⟩ := ldc_sound h hl hι
      refine ⟨us, k1, k2, k4, by simp [Builtin.lenOf], fun w' hw' => ?_⟩
      simp only [Builtin.firstCells]
      have k3' : ∀ j u, us[j]? = some u → w'.cell? ((⟨l.blk, l.off + o, none⟩ : Addr).add j) = some u := fun j u hj => by
        have := k3 j u hj
        simpa [World.cell?, hw'] using this
      rcases ha with rfl | hc
      · exact run_load_cells k2 k3'
      · have h0 : len = 0 := by omega
        subst h0
        have hnil : us = [] := List.eq_nil_of_length_eq_zero (by simpa using k2)
        subst hnil
        simp [loadCells, loadCellsFrom]
  · cases he

theorem run_append_within (w : World) {t tx ty e e' : TypeId} {i : TypeInfo} {z : Value} {sz bytes : Nat} (E : ElemOf P t e i z sz bytes) (htx : P.underlying tx = some (.slice e'))
    (a : Addr) (sLen sCap n : Nat) (x : Value) (us : List Value) (hlen : (Builtin.lenOf x).run P w = .ok n w) (hc : (Builtin.firstCells sz n x).run P w = .ok us.toArray w) (hroom : sLen + n ≤ sCap)
    {w' : World} (hst : (storeCells (a.add (sLen * sz)) us).run P w = .ok () w') :
    (Builtin.append_ #[t, tx] ty #[.slice (some a) sLen sCap, x]).run P w = .ok (.slice (some a) (sLen + n) sCap) w' := by
  obtain ⟨h1, h2, h3, h4, h5, h6, h7⟩ := E
  subst h4
  simp [Builtin.append_, run_underlying h1, run_underlying htx, sizeOf, typeInfo, h2, hlen, hroom, hc, hst]
theorem run_append_beyond (w : World) {t tx ty e e' : TypeId} {i : TypeInfo} {z : Value} {sz bytes : Nat} (E : ElemOf P t e i z sz bytes) (htx : P.underlying tx = some (.slice e'))
    (base : Option Addr) (sLen sCap n : Nat) (x : Value) (us olds : List Value) (hlen : (Builtin.lenOf x).run P w = .ok n w) (hc : (Builtin.firstCells sz n x).run P w.drew = .ok us.toArray w.drew)
    (ho : (Builtin.firstCells sz sLen (.slice base sLen sCap)).run P w.drew = .ok olds.toArray w.drew) (hroom : sCap < sLen + n) (h63 : sLen + n ≤ most) (h48 : (sLen + n) * bytes ≤ most) :
    (Builtin.append_ #[t, tx] ty #[.slice base sLen sCap, x]).run P w =
      .ok (.slice (some ⟨w.heap.size, 0, none⟩) (sLen + n) (grownCap w (sLen + n) sCap e)) (w.drew.alloc (.cells (olds.toArray ++ us.toArray ++ Builtin.zeroCells z.cells (grownCap w (sLen + n) sCap e - (sLen + n))) e)) := by
  obtain ⟨h1, h2, h3, h4, h5, h6, h7⟩ := E
  subst h4
  subst h5
  have hn : ¬ (sLen + n ≤ sCap) := by omega
  have h63' : ¬ (9223372036854775807 < ((sLen : Int) + (n : Int))) := by unfold most at h63; omega
  have h48' : ¬ (281474976710656 < Builtin.nextslicecap (sLen + n) sCap * i.bytes) := by have := growslice_fits (bytes := i.bytes) hroom h48; omega
  simp [Builtin.append_, run_underlying h1, run_underlying htx, sizeOf, typeInfo, zeroValue, h2, h3, hlen, hn, h63', h48', Question.forced, hc, ho, newRow, grownCap]
  congr 2
  apply Array.ext'
  simp [List.append_assoc]

theorem HRel.drew (h : HRel V ι B σ w) : HRel V ι B σ w.drew :=
  ⟨h.base, fun id o l h1 h2 => by have := h.obj id o l h1 h2; cases o <;> exact this, h.inj, h.dom⟩
theorem Ext.drew (w : World) : Ext ι σ w ι σ w.drew := ⟨fun _ _ => rfl, Nat.le_refl _, Nat.le_refl _, rfl, rfl, rfl, fun _ _ _ => rfl, fun _ _ h => h, fun _ _ _ => rfl, fun _ => rfl⟩

theorem HRel.kill (h : HRel V ι B σ w) {id : Nat} (hs : σ.set id .dead = some σ') : HRel V ι B σ' w := by
  refine ⟨h.base, ?_, ?_, fun k hk => h.dom k (by rw [← Hp.set_sz hs]; exact hk)⟩
  · intro k o l hk hl
    rw [Hp.get_set hs] at hk
    split at hk
    · cases hk; trivial
    · exact h.obj k o l hk hl
  · exact h.inj.dead hs
theorem Ext.kill {id : Nat} (hs : σ.set id .dead = some σ') (hm : (ι id).isSome = true) : Ext ι σ w ι σ' w := by
  refine ⟨fun _ _ => rfl, by rw [Hp.set_sz hs]; exact Nat.le_refl _, Nat.le_refl _, rfl, rfl, rfl, fun _ _ _ => rfl, ?_, ?_, fun _ => rfl⟩
  · rintro b hb ⟨k, o, l, h1, h2, h3, h4⟩
    rw [Hp.get_set hs] at h1
    split at h1
    · cases h1; exact absurd h2 (by simp [SObj.knd])
    · exact ⟨k, o, l, h1, h2, h3, h4⟩
  · intro k hk hn
    rw [Hp.get_set hs]
    split
    · rename_i e; subst e; rw [hn] at hm; cases hm
    · rfl

theorem apo_in_place (h : HRel V ι B σ w) {id o m : Nat} {vs old : List SV} (hold : ldc σ id o m = some old) (he : apo σ id (old ++ vs) = some σ') {l : Loc} (hl : ι id = some l) {us : List Value} (hv : VRels V ι vs us)
    (hfit : o + m + us.length ≤ l.ext) :
    ∃ w', (storeCells ⟨l.blk, l.off + o + m, none⟩ us).run P w = .ok () w' ∧ HRel V (upd ι σ.sz ⟨l.blk, l.off + o, l.ext - o⟩) B σ' w' ∧ Ext ι σ w (upd ι σ.sz ⟨l.blk, l.off + o, l.ext - o⟩) σ' w' := by
  unfold apo at he
  split at he
  case h_2 => cases he
  rename_i cs hg
  split at he
  case h_2 => cases he
  rename_i s1 hs1
  obtain ⟨hlen, rfl⟩ := ldc_cells hg hold
  obtain ⟨hone, hp⟩ := nwo_push he
  have hsz1 := Hp.set_sz hs1
  obtain ⟨c, e, fr, hblk, hown, ⟨hext, _⟩, hc⟩ := h.obj id _ l hg hl
  obtain ⟨rfl, hB, hsz⟩ := hown rfl
  obtain ⟨ous, q1, q2, q3, q4⟩ := hc.sub o m hlen
  have hul := hv.length
  have h1 : ∀ u ∈ us, u.oneCell' = true := by
    intro u hu
    obtain ⟨j, hj⟩ := List.getElem?_of_mem hu
    have hjl : j < vs.length := by
      have := (List.getElem?_eq_some_iff.1 hj).1; omega
    obtain ⟨u', h2, h3⟩ := hv.get j _ (List.getElem?_eq_getElem hjl)
    rw [hj] at h2; cases h2
    exact h3.one (hone _ (List.mem_append_right _ (List.getElem_mem hjl)))
  have hrun := run_storeCells_at P l.blk (l.off + o + m) e us 0 c w hblk (by omega) h1
  simp only [Nat.add_zero] at hrun
  let c' : Array Value := (c.toList.take (l.off + o + m) ++ us ++ c.toList.drop (l.off + o + m + us.length)).toArray
  have hc' : (c.toList.take (l.off + o + m) ++ us ++ c.toList.drop (l.off + o + m + us.length)).toArray = c' := rfl
  rw [hc'] at hrun
  have hcs : c'.size = c.size := by
    simp only [c', List.size_toArray, List.length_append, List.length_take, List.length_drop, Array.length_toList]; omega
  have hget : ∀ j, c'[j]? = if j < l.off + o + m then c[j]? else if j < l.off + o + m + us.length then us[j - (l.off + o + m)]? else c[j]? := by
    intro j
    have := list_mid c.toList us (l.off + o + m) j (by simp only [Array.length_toList]; omega)
    simpa only [c', List.getElem?_toArray, Array.getElem?_toList] using this
  have hw' : (w.setRow l.blk c').heap[l.blk]? = some (.cells c' e (0, 0)) := setRow_heap w l.blk c c' e (0, 0) hblk
  have hoth : ∀ k, k ≠ l.blk → (w.setRow l.blk c').heap[k]? = w.heap[k]? := fun k hk => setRow_other w l.blk k c' hk
  have hm := h.upd_mono ⟨l.blk, l.off + o, l.ext - o⟩
  have hupd : ∀ k, k < σ.sz → upd ι σ.sz ⟨l.blk, l.off + o, l.ext - o⟩ k = ι k := fun k hk => by unfold upd; rw [if_neg (by omega)]
  have hnew : upd ι σ.sz ⟨l.blk, l.off + o, l.ext - o⟩ σ.sz = some ⟨l.blk, l.off + o, l.ext - o⟩ := by simp [upd]
  have hget' : ∀ k, σ'.get k = if k = σ.sz then some (.cells ((cs.drop o).take m ++ vs) false) else if k = id then some .dead else σ.get k := by
    intro k
    rw [Hp.get_push hp, hsz1, Hp.get_set hs1]
  have holdK : ∀ k o, k ≠ σ.sz → σ'.get k = some o → o.knd ≠ 0 → k ≠ id ∧ σ.get k = some o := by
    intro k o hk hg2 ho
    rw [hget', if_neg hk] at hg2
    split at hg2
    · cases hg2; exact absurd rfl ho
    · rename_i hne; exact ⟨hne, hg2⟩
  have hold_ : ∀ k ks ro, k ≠ σ.sz → σ'.get k = some (.cells ks ro) → k ≠ id ∧ σ.get k = some (.cells ks ro) := fun k ks ro hk hg2 => holdK k _ hk hg2 knd_cells
  have hul2 : ous.length = m := q2
  refine ⟨_, hrun, ?_, ?_⟩
  · refine ⟨by simpa using h.base, ?_, ?_, ?_⟩
    · intro k ob lk hk hlk
      cases ob with
      | dead => trivial
      | arr s k' n' =>
        have ek : k ≠ σ.sz := fun e => by subst e; rw [hget', if_pos rfl] at hk; cases hk
        rw [hget', if_neg ek] at hk
        split at hk
        · cases hk
        · rw [hupd k (Hp.get_lt hk)] at hlk
          obtain ⟨N, h1, h2⟩ := h.obj k _ lk hk hlk
          exact ⟨N, h1, h2.imp (fun x => x) fun ⟨ck, ek2, frk, hbk, hlt, rest⟩ => ⟨ck, ek2, frk, by rw [hoth _ (by omega)]; exact hbk, hlt, rest⟩⟩
      | big tk mk zk =>
        have ek : k ≠ σ.sz := fun e => by subst e; rw [hget', if_pos rfl] at hk; cases hk
        obtain ⟨hne, hk0⟩ := holdK k _ ek hk (by simp [SObj.knd])
        rw [hupd k (Hp.get_lt hk0)] at hlk
        have hr := (h.obj k _ lk hk0 hlk).mono hm
        obtain ⟨ck, ek2, hbk, rest⟩ := hr
        have hnb : lk.blk ≠ l.blk := fun e => (h.inj.own hg hk0 rfl (by simp [SObj.knd]) (fun e => hne e.symm) hl hlk) e.symm
        exact ⟨ck, ek2, by rw [hoth _ hnb]; exact hbk, rest⟩
      | map es =>
        have ek : k ≠ σ.sz := fun e => by subst e; rw [hget', if_pos rfl] at hk; cases hk
        obtain ⟨hne, hk0⟩ := holdK k _ ek hk (by simp [SObj.knd])
        rw [hupd k (Hp.get_lt hk0)] at hlk
        have hr := (h.obj k _ lk hk0 hlk).mono hm
        obtain ⟨ms, hbk, rest⟩ := hr
        have hnb : lk.blk ≠ l.blk := fun e => (h.inj.own hg hk0 rfl (by simp [SObj.knd]) (fun e => hne e.symm) hl hlk) e.symm
        exact ⟨ms, by rw [hoth _ hnb]; exact hbk, rest⟩
      | cells ks ro =>
        by_cases ek : k = σ.sz
        · subst ek
          rw [hget', if_pos rfl] at hk; cases hk
          rw [hnew] at hlk; cases hlk
          refine ⟨c', e, (0, 0), hw', fun _ => ⟨rfl, hB, by simp only; omega⟩, ⟨?_, fun h => by cases h⟩, ?_⟩
          · simp only [List.length_append, List.length_take, List.length_drop]; omega
          · intro j v hj
            have hv1 := hone v (List.mem_of_getElem? hj)
            refine ⟨hv1, ?_⟩
            have hlm : ((cs.drop o).take m).length = m := by simp only [List.length_take, List.length_drop]; omega
            simp only
            rw [hget]
            by_cases hj1 : j < m
            · rw [List.getElem?_append_left (by omega)] at hj
              obtain ⟨u, r1, r2⟩ := q1.get j v hj
              exact ⟨u, by rw [if_pos (by omega)]; exact q3 j u r1, VRel.mono hm _ _ r2⟩
            · rw [List.getElem?_append_right (by omega), hlm] at hj
              obtain ⟨u, r1, r2⟩ := hv.get _ v hj
              have := (List.getElem?_eq_some_iff.1 r1).1
              refine ⟨u, ?_, VRel.mono hm _ _ r2⟩
              rw [if_neg (by omega), if_pos (by omega), ← r1]
              congr 1; omega
        · obtain ⟨hne, hk0⟩ := hold_ k ks ro ek hk
          rw [hupd k (Hp.get_lt hk0)] at hlk
          have hr := (h.obj k _ lk hk0 hlk).mono hm
          obtain ⟨ck, ek2, frk, hbk, rest⟩ := hr
          have hnb : lk.blk ≠ l.blk := fun e => (h.inj.own hg hk0 rfl knd_cells (fun e => hne e.symm) hl hlk) e.symm
          exact ⟨ck, ek2, frk, by rw [hoth _ hnb]; exact hbk, rest⟩
    · intro k k' o1 o2 lk lk' hk hk' n1 n2 hne hlk hlk'
      by_cases e1 : k = σ.sz
      · subst e1
        obtain ⟨hne2, hk0⟩ := holdK k' o2 (fun e => hne e.symm) hk' n2
        rw [hnew] at hlk; cases hlk
        rw [hupd k' (Hp.get_lt hk0)] at hlk'
        exact .inl (show l.blk ≠ lk'.blk from h.inj.own (l := l) hg hk0 rfl n2 (fun e => hne2 e.symm) hl hlk')
      · obtain ⟨hne1, hk0⟩ := holdK k o1 e1 hk n1
        rw [hupd k (Hp.get_lt hk0)] at hlk
        by_cases e2 : k' = σ.sz
        · subst e2
          rw [hnew] at hlk'; cases hlk'
          exact .inl (show lk.blk ≠ l.blk from fun e => (h.inj.own (l := l) hg hk0 rfl n1 (fun e => hne1 e.symm) hl hlk) e.symm)
        · obtain ⟨hne2, hk1⟩ := holdK k' o2 e2 hk' n2
          rw [hupd k' (Hp.get_lt hk1)] at hlk'
          exact h.inj k k' o1 o2 lk lk' hk0 hk1 n1 n2 hne hlk hlk'
    · intro k hk
      rw [Hp.push_sz hp, hsz1] at hk
      unfold upd
      rw [if_neg (by omega)]
      exact h.dom k (by omega)
  · refine ⟨hupd, by rw [Hp.push_sz hp, hsz1]; omega, by simp, rfl, rfl, rfl, ?_, ?_, ?_, frozen_setRow hblk⟩
    · intro b hb hno
      exact hoth b fun e => hno ⟨id, _, l, hg, rfl, hl, e.symm⟩
    · rintro b hb ⟨k, o, lk, h1, h2, h3, h4⟩
      by_cases ek : k = σ.sz
      · subst ek
        rw [hnew] at h3; cases h3
        exact ⟨id, _, l, hg, rfl, hl, h4⟩
      · obtain ⟨hne, hk0⟩ := holdK k o ek h1 (by omega)
        rw [hupd k (Hp.get_lt hk0)] at h3
        exact ⟨k, o, lk, hk0, h2, h3, h4⟩
    · intro k hk hn
      rw [hget', if_neg (by omega)]
      split
      · rename_i e; subst e; rw [hl] at hn; cases hn
      · rfl

theorem size_zero_cells (z : Array Value) (n : Nat) : (Builtin.zeroCells z n).size = n * z.size := by simp [Builtin.zeroCells]

theorem append_sound (h : HRel V ι B σ w) {t tx ty e e' : TypeId} {i : TypeInfo} {z : Value} {sz bytes : Nat} (E : ElemOf P t e i z sz bytes) (htx : P.underlying tx = some (.slice e'))
    {sv xv v : SV} {s x : Value} (hs : VRel V ι sv s) (hx : VRel V ι xv x) (he : appendV σ sz bytes sv xv = some (v, σ')) :
    ∃ c w' ι', (Builtin.append_ #[t, tx] ty #[s, x]).run P w = .ok c w' ∧ VRel V ι' v c ∧ HRel V ι' B σ' w' ∧ Ext ι σ w ι' σ' w' := by
  unfold appendV at he
  cases hsrc : srcOf σ sz xv with
  | none => simp [hsrc] at he
  | some nv =>
    obtain ⟨n, vs⟩ := nv
    simp only [hsrc] at he
    obtain ⟨us, u1, u2, u3, u4, u5⟩ := srcOf_sound (P := P) h hsrc hx
    have grow : ∀ (base : Option Addr) (sLen sCap : Nat) (olds : List Value) (old : List SV), VRels V ι old olds → olds.length = sLen * sz →
        (Builtin.firstCells sz sLen (.slice base sLen sCap)).run P w.drew = .ok olds.toArray w.drew → sCap < sLen + n → sLen + n ≤ most → (sLen + n) * bytes ≤ most →
        ∀ (σ1 : Hp) (hσ : σ1.sz = σ.sz) (h1 : HRel V ι B σ1 w) (hx1 : Ext ι σ w ι σ1 w) (hp : nwo σ1 (old ++ vs) = some σ'),
        ∃ c w' ι', (Builtin.append_ #[t, tx] ty #[.slice base sLen sCap, x]).run P w = .ok c w' ∧ VRel V ι' (.slice σ.sz 0 (sLen + n) (sLen + n) sz) c ∧ HRel V ι' B σ' w' ∧ Ext ι σ w ι' σ' w' := by
      intro base sLen sCap olds old ho1 ho2 ho3 hr h63 h48 σ1 hσ h1 hx1 hp
      have hge := grownCap_ge w (sLen + n) sCap e
      have hrun := run_append_beyond (P := P) w (ty := ty) E htx base sLen sCap n x us olds u4 (u5 _ rfl) ho3 hr h63 h48
      have hsize : (olds.toArray ++ us.toArray ++ Builtin.zeroCells z.cells (grownCap w (sLen + n) sCap e - (sLen + n))).size = grownCap w (sLen + n) sCap e * sz := by
        simp only [Array.size_append, List.size_toArray, size_zero_cells, E.cells, ho2, u2, ← Nat.add_mul]
        congr 1; omega
      have hn := nwo_sound h1.drew hp (ho1.append u1) (c := olds.toArray ++ us.toArray ++ Builtin.zeroCells z.cells (grownCap w (sLen + n) sCap e - (sLen + n))) (e := e)
        (rest := (Builtin.zeroCells z.cells (grownCap w (sLen + n) sCap e - (sLen + n))).toList) (by simp)
      rw [hσ] at hn
      refine ⟨_, _, _, hrun, ⟨⟨w.heap.size, 0, _⟩, 0, grownCap w (sLen + n) sCap e, if_pos rfl, rfl, .inl rfl, Nat.le_refl _, hge, by rw [Nat.zero_add]; exact Nat.le_of_eq hsize.symm⟩, hn.1, (hx1.trans (Ext.drew w)).trans hn.2⟩
    cases sv <;> simp only [] at he <;> try (cases he; done)
    case nilSlice =>
      simp only [VRel] at hs; subst hs
      cases hn : Nat.beq n 0 <;> simp only [hn, cond_true, cond_false] at he
      · cases hb : (Nat.ble n most && Nat.ble (n * bytes) most) <;> simp only [hb, cond_true, cond_false] at he
        · cases he
        simp only [Bool.and_eq_true] at hb
        have hb1 := Nat.le_of_ble_eq_true hb.1
        have hb2 := Nat.le_of_ble_eq_true hb.2
        cases hp : nwo σ vs with
        | none => simp [hp] at he
        | some s1 =>
          simp only [hp, Option.some.injEq, Prod.mk.injEq] at he
          obtain ⟨rfl, rfl⟩ := he
          have hn0 : n ≠ 0 := fun e => by simp [e] at hn
          have := grow none 0 0 [] [] .nil (by simp) (by simp [Builtin.firstCells]) (by omega) (by omega) (by simpa using hb2) σ rfl h (Ext.refl _ _ _) (by simpa using hp)
          simpa using this
      · cases he
        obtain rfl := Nat.eq_of_beq_eq_true hn
        refine ⟨.slice none 0 0, w, ι, ?_, by simp [VRel], h, Ext.refl _ _ _⟩
        have hu : us = [] := List.eq_nil_of_length_eq_zero (by simpa using u2)
        subst hu
        have h5 := u5 w rfl
        obtain ⟨h1, h2, h3, h4, _⟩ := E
        subst h4
        simp [Builtin.append_, run_underlying h1, run_underlying htx, sizeOf, typeInfo, h2, u4, h5]
    case slice id o len cap sz' =>
      obtain ⟨l, a, ccap, hι, rfl, ha, c1, c2, c3⟩ := hs
      cases hn : Nat.beq n 0 <;> simp only [hn, cond_true, cond_false] at he
      · have hn0 : n ≠ 0 := fun e => by simp [e] at hn
        cases hq : Nat.beq sz sz' <;> simp only [hq, Bool.not_true, Bool.not_false, cond_true, cond_false] at he
        · cases he
        obtain rfl := Nat.eq_of_beq_eq_true hq
        cases hr : Nat.ble (len + n) cap <;> simp only [hr, cond_true, cond_false] at he
        · cases hb : (Nat.ble (len + n) most && Nat.ble ((len + n) * bytes) most) <;> simp only [hb, cond_true, cond_false] at he
          · cases he
          simp only [Bool.and_eq_true] at hb
          have hb1 := Nat.le_of_ble_eq_true hb.1
          have hb2 := Nat.le_of_ble_eq_true hb.2
          cases hold : ldc σ id o (len * sz) with
          | none => simp [hold] at he
          | some old =>
            simp only [hold] at he
            cases hp : apo σ id (old ++ vs) with
            | none => simp [hp] at he
            | some s1 =>
              simp only [hp, Option.some.injEq, Prod.mk.injEq] at he
              obtain ⟨rfl, rfl⟩ := he
              by_cases hroom : len + n ≤ ccap
              · have hccap : ccap ≠ 0 := by omega
                obtain rfl := ha.resolve_right hccap
                have hmul : (len + n) * sz ≤ ccap * sz := Nat.mul_le_mul_right _ hroom
                obtain ⟨w', r1, r2, r3⟩ := apo_in_place (P := P) h hold hp hι u1 (by rw [u2, Nat.add_assoc, ← Nat.add_mul]; omega)
                refine ⟨_, w', _, run_append_within (P := P) w (ty := ty) E htx ⟨l.blk, l.off + o, none⟩ len ccap n x us u4 (u5 w rfl) hroom (by rw [addr_add]; exact r1), ?_, r2, r3⟩
                refine ⟨⟨l.blk, l.off + o, l.ext - o⟩, l.off + o, ccap, by simp [upd], rfl, .inl (by simp), Nat.le_refl _, hroom, ?_⟩
                simp only; omega
              · obtain ⟨ous, k1, k2, k3, k4, k5⟩ := ldc_sound h hold hι
                unfold apo at hp
                split at hp
                case h_2 => cases hp
                rename_i cs hg
                split at hp
                case h_2 => cases hp
                rename_i s2 hs2
                refine grow (some ⟨l.blk, a, none⟩) len ccap ous old k1 k2 ?_ (by omega) hb1 hb2 s2 (Hp.set_sz hs2) (h.kill hs2) (Ext.kill hs2 (by rw [hι]; rfl)) hp
                simp only [Builtin.firstCells]
                rcases ha with rfl | hc0
                · exact run_load_cells k2 (fun j u hj => by simpa using k3 j u hj)
                · have h0 : len = 0 := by omega
                  subst h0
                  have hnil : ous = [] := List.eq_nil_of_length_eq_zero (by simpa using k2)
                  subst hnil
                  simp [loadCells, loadCellsFrom]
        · have hr' := Nat.le_of_ble_eq_true hr
          cases hst : stc σ id (o + len * sz) vs with
          | none => simp [hst] at he
          | some s1 =>
            simp only [hst, Option.some.injEq, Prod.mk.injEq] at he
            obtain ⟨rfl, rfl⟩ := he
            have hccap : ccap ≠ 0 := by omega
            obtain rfl := ha.resolve_right hccap
            obtain ⟨w', r1, r2, r3⟩ := stc_sound (P := P) h hst hι u1
            refine ⟨_, w', ι, run_append_within (P := P) w (ty := ty) E htx ⟨l.blk, l.off + o, none⟩ len ccap n x us u4 (u5 w rfl) (by omega) (by rw [addr_add, Nat.add_assoc]; exact r1), ?_, r2, r3⟩
            exact ⟨l, l.off + o, ccap, hι, rfl, .inl rfl, hr', c2, c3⟩
      · cases he
        obtain rfl := Nat.eq_of_beq_eq_true hn
        refine ⟨.slice (some ⟨l.blk, a, none⟩) len ccap, w, ι, ?_, ⟨l, a, ccap, hι, rfl, ha, c1, c2, c3⟩, h, Ext.refl _ _ _⟩
        have hu : us = [] := List.eq_nil_of_length_eq_zero (by simpa using u2)
        subst hu
        exact run_append_within (P := P) w (ty := ty) E htx ⟨l.blk, a, none⟩ len ccap 0 x [] u4 (u5 w rfl) (by omega) (by simp [storeCells])
end
end Go.Sx
