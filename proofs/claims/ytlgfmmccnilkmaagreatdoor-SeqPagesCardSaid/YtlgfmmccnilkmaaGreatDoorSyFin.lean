/- The symbolic machine: what is left to show, where the numbers in it are known. No condition: plain lemmas. -/
import Derived.Test.YtlgfmmccnilkmaaGreatDoorSyLaw
namespace Go.Sx
set_option linter.unusedVariables false
abbrev Env := List (SE × Int)
def Env.look : Env → SE → Option Int
  | [], _ => none
  | (a, n) :: l, e => bif a.same e then some n else Env.look l e
def SE.ev (s : Env) : SE → Option Int
  | .lit n => some n
  | .var i => s.look (.var i)
  | .bin op k a b => match s.look (.bin op k a b) with
    | some n => some n
    | none => match a.ev s with
      | some x => match b.ev s with
        | some y => some (binI op k x y)
        | none => none
      | none => none
  | .sel k a => s.look (.sel k a)
  | .cv k a => match s.look (.cv k a) with
    | some n => some n
    | none => match a.ev s with
      | some x => some (k.wrap x)
      | none => none
def SB.ev (s : Env) : SB → Option Bool
  | .lit b => some b
  | .var _ => none
  | .cmp op a b => match a.ev s with
    | some x => match b.ev s with
      | some y => some (cmpI op x y)
      | none => none
    | none => none
  | .eq a b => match a.ev s with
    | some x => match b.ev s with
      | some y => some (x == y)
      | none => none
    | none => none
  | .not a => match a.ev s with
    | some x => some (!x)
    | none => none
  | .and a b => match a.ev s with
    | some x => match b.ev s with
      | some y => some (x && y)
      | none => none
    | none => none
def Pt.dueB (s : Env) : Pt → Bool
  | .fin => true
  | .dead => false
  | .res e => match e.ev s with
    | some b => b
    | none => false
  | .node e a b => match e.ev s with
    | some true => a.dueB s
    | some false => b.dueB s
    | none => a.dueB s && b.dueB s
def Env.holds (V : Val) (s : Env) : Prop := ∀ p ∈ s, p.1.den V = p.2
theorem Env.look_den {V : Val} : ∀ {s : Env} {e : SE} {n : Int}, s.holds V → s.look e = some n → e.den V = n
  | [], e, n, h, he => by simp [Env.look] at he
  | (a, m) :: l, e, n, h, he => by
    unfold Env.look at he
    cases hs : a.same e <;> simp only [hs, cond_true, cond_false] at he
    · exact Env.look_den (fun p hp => h p (List.mem_cons_of_mem _ hp)) he
    · cases he
      rw [← SE.same_eq hs]
      exact h (a, m) (List.mem_cons_self ..)
theorem SE.ev_den {V : Val} {s : Env} (h : s.holds V) : ∀ {e : SE} {n : Int}, e.ev s = some n → e.den V = n
  | .lit m, n, he => by simp [SE.ev] at he; exact he
  | .var i, n, he => Env.look_den h he
  | .bin op k a b, n, he => by
    unfold SE.ev at he
    split at he
    · rename_i m hm
      cases he
      exact Env.look_den h hm
    · split at he
      case h_2 => cases he
      rename_i x hx
      split at he
      case h_2 => cases he
      rename_i y hy
      cases he
      simp only [SE.den, SE.ev_den h hx, SE.ev_den h hy]
  | .sel k a, n, he => Env.look_den h he
  | .cv k a, n, he => by
    unfold SE.ev at he
    split at he
    · rename_i m hm
      cases he
      exact Env.look_den h hm
    · split at he
      case h_2 => cases he
      rename_i x hx
      cases he
      simp only [SE.den, SE.ev_den h hx]
theorem SB.ev_den {V : Val} {s : Env} (h : s.holds V) : ∀ {e : SB} {b : Bool}, e.ev s = some b → e.den V = b
  | .lit c, b, he => by simp [SB.ev] at he; exact he
  | .var i, b, he => by simp [SB.ev] at he
  | .cmp op x y, b, he => by
    unfold SB.ev at he
    split at he
    case h_2 => cases he
    rename_i u hu
    split at he
    case h_2 => cases he
    rename_i v hv
    cases he
    simp only [SB.den, SE.ev_den h hu, SE.ev_den h hv]
  | .eq x y, b, he => by
    unfold SB.ev at he
    split at he
    case h_2 => cases he
    rename_i u hu
    split at he
    case h_2 => cases he
    rename_i v hv
    cases he
    simp only [SB.den, SB.ev_den h hu, SB.ev_den h hv]
  | .not x, b, he => by
    unfold SB.ev at he
    split at he
    case h_2 => cases he
    rename_i u hu
    cases he
    simp only [SB.den, SB.ev_den h hu]
  | .and x y, b, he => by
    unfold SB.ev at he
    split at he
    case h_2 => cases he
    rename_i u hu
    split at he
    case h_2 => cases he
    rename_i v hv
    cases he
    simp only [SB.den, SB.ev_den h hu, SB.ev_den h hv]
theorem Pt.due_of {V : Val} {s : Env} (h : s.holds V) : ∀ {t : Pt}, t.dueB s = true → t.due V
  | .fin, _ => trivial
  | .dead, ht => by simp [Pt.dueB] at ht
  | .res e, ht => by
    unfold Pt.dueB at ht
    split at ht
    · rename_i b hb
      subst ht
      exact SB.ev_den h hb
    · cases ht
  | .node e a b, ht => by
    unfold Pt.dueB at ht
    split at ht
    · rename_i hb
      have := SB.ev_den h hb
      exact ⟨fun _ => Pt.due_of h ht, fun hf => by rw [this] at hf; cases hf⟩
    · rename_i hb
      have := SB.ev_den h hb
      exact ⟨(fun hf => by rw [this] at hf; cases hf), fun _ => Pt.due_of h ht⟩
    · simp only [Bool.and_eq_true] at ht
      exact ⟨fun _ => Pt.due_of h ht.1, fun _ => Pt.due_of h ht.2⟩
end Go.Sx
