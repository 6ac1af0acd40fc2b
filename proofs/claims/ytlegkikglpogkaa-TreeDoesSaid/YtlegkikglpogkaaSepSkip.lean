/-
  Several operations that are not wanted, passed over at once. (In a region of more than some sixty operations the walk's own step does not pass over them.)
-/
import Derived.Test.YtlegkikglpogkaaSepLaws
namespace Go.Sep
set_option linter.unusedSimpArgs false
set_option linter.unusedVariables false

def skipsB (ops : Array Oper) : List Unit → List Oper → Act → Bool
  | [], _, _ => true
  | _ :: n, o :: l, a => !(Region.wanted o (yielded ops a.tmps)) && skipsB ops n l (a.put o.dst undef)
  | _ :: _, [], _ => false
def skipsL : List Unit → List Oper → List Oper
  | [], l => l
  | _ :: n, _ :: l => skipsL n l
  | _ :: _, [] => []
def skipsA : List Unit → List Oper → Act → Act
  | [], _, a => a
  | _ :: n, o :: l, a => skipsA n l (a.put o.dst undef)
  | _ :: _, [], a => a
theorem wpList_skips {P : Program} {ops : Array Oper} {Q : Exit → Act → World → Prop} (n : List Unit) : ∀ {l : List Oper} {a : Act} {w : World}, skipsB ops n l a = true → wpList P ops Q (skipsL n l) (skipsA n l a) w → wpList P ops Q l a w := by
  induction n with
  | nil => intro l a w _ h; exact h
  | cons u n ih =>
    intro l a w h h2
    cases l with
    | nil => cases h
    | cons o l =>
      unfold skipsB at h
      simp only [Bool.and_eq_true, Bool.not_eq_true'] at h
      exact wpList_skip h.1 (ih h.2 h2)
end Go.Sep
