/-
  The walk of an arena's Move.
-/
import Derived.Test.YtcefnihhlbeebaaRingWalkE
namespace Go.RingM
set_option linter.unusedSimpArgs false
set_option linter.unusedVariables false
def Ring.two (R : Ring) (f t : Nat) (a b : List Nat) : Ring := (R.setRow f a).setRow t b
theorem two_f {R : Ring} {f t : Nat} (hne : f ≠ t) (hf : f < R.rows.length) (a b : List Nat) : (R.two f t a b).rows[f]? = some a := by
  simp only [Ring.two, Ring.setRow]
  rw [List.getElem?_set_ne (fun h => hne h.symm), List.getElem?_set_self hf]
theorem two_t {R : Ring} {f t : Nat} (ht : t < R.rows.length) (a b : List Nat) : (R.two f t a b).rows[t]? = some b := by
  simp only [Ring.two, Ring.setRow]
  rw [List.getElem?_set_self (by simpa using ht)]
theorem two_setF {R : Ring} {f t : Nat} (hne : f ≠ t) (a b a' : List Nat) : (R.two f t a b).setRow f a' = R.two f t a' b := by
  simp only [Ring.two, Ring.setRow]
  rw [List.set_comm _ _ (fun h => hne h.symm), List.set_set]
theorem two_setT {R : Ring} {f t : Nat} (a b b' : List Nat) : (R.two f t a b).setRow t b' = R.two f t a b' := by
  simp only [Ring.two, Ring.setRow, List.set_set]
theorem two_self {R : Ring} {f t : Nat} {a b : List Nat} (hf : R.rows[f]? = some a) (ht : R.rows[t]? = some b) : R.two f t a b = R := by
  obtain ⟨h1, rfl⟩ := List.getElem?_eq_some_iff.1 hf
  obtain ⟨h2, rfl⟩ := List.getElem?_eq_some_iff.1 ht
  simp only [Ring.two, Ring.setRow, List.set_getElem_self]
def Ring.moveE (R : Ring) (f t : Int) : Int := if R.isRow f && R.isRow t then (if f = t then 1 else 0) else 3
def Ring.move (R : Ring) (f t : Int) : Ring := if R.moveE f t = 0 then R.two f.toNat t.toNat [] (R.row t ++ R.row f) else R
theorem first_nil {R : Ring} {f : Nat} (h : R.rows[f]? = some []) : R.first f = -1 := by unfold Ring.first; rw [Ring.row_of h]
theorem first_cons {R : Ring} {f y : Nat} {l : List Nat} (h : R.rows[f]? = some (y :: l)) : R.first f = (y : Int) := by unfold Ring.first; rw [Ring.row_of h]
theorem in_neg (R : Ring) : R.in_ (-1) = -1 := by simp [Ring.in_, Ring.isNode]
end Go.RingM
namespace Go.Proofs.Ytcefnihhlbeebaa
open Go.RowKit Go.Sep Go.RingM

def rowLen (p f : Nat) (w : World) : Nat :=
  match w.cell? ⟨p, 3, none⟩ with
  | some (.slice (some a) _ _) => (match w.cell? (a.add f) with | some (.int _ k) => k.toNat | _ => 0)
  | _ => 0
def isOne : Value → Nat
  | .bool true => 1
  | _ => 0
theorem rowLen_eq {p f : Nat} {R : Ring} {e w : World} {X : HProp} {l : List Nat} (hw : Holds e w [X, IsRing p R]) (hr : R.rows[f]? = some l) : rowLen p f w = l.length := by
  obtain ⟨x, nx, pv, hok, hw⟩ := IsRing.open_ hw
  have h1 := hw.cells (i := 1) rfl 3
  have h5 := hw.cells (i := 5) rfl f
  rw [longs_get hr] at h5
  have h3 : (ringCells R x)[3]? = some (.slice (some ⟨x.bl, 0, none⟩) R.rows.length R.rows.length) := rfl
  rw [h3] at h1
  have hadd : (⟨x.bl, 0, none⟩ : Addr).add f = ⟨x.bl, f, none⟩ := by unfold Addr.add; split <;> simp_all
  unfold rowLen
  rw [h1]
  simp only [hadd, h5, Int.toNat_natCast]
theorem ring_wf {p : Nat} {R : Ring} {e w : World} {X : HProp} (hw : Holds e w [X, IsRing p R]) : R.Wf := by
  obtain ⟨_, _, _, hok, _⟩ := IsRing.open_ hw; exact hok.wf

/-- What Take leaves of two rows. -/
theorem rTake2_calls (p : Nat) (R : Ring) (f t : Nat) (hne : f ≠ t) (hf : f < R.rows.length) (rest b : List Nat) (e w : World) (X : HProp) (hw : Holds e w [X, IsRing p (R.two f t rest b)]) :
    Calls Try.prog 28 #[.pointer (some ⟨p, 0, none⟩), .int .i64 (f : Int)] w fun en w' =>
      ∃ (n : Int) (is : Bool) (l : List Nat), en = .returned (.tuple #[.int .i64 n, .bool is]) ∧ Holds e w' [X, IsRing p (R.two f t l b)] ∧ rowLen p f w' = l.length ∧
        ((is = false ∧ rest = [] ∧ l = []) ∨ (∃ y : Nat, is = true ∧ rest = y :: l ∧ n = (y : Int) ∧ y < R.n ∧ (R.two f t l b).in_ y = -1)) := by
  refine (rTake_calls p _ f e w X hw).mono ?_
  rintro en w' ⟨rfl, hw'⟩
  have hr := two_f hne hf rest b
  have hW := ring_wf hw
  cases rest with
  | nil =>
    rw [first_nil hr, in_neg]
    rw [first_nil hr, Ring.drop_no (in_neg _)] at hw'
    exact ⟨_, _, [], rfl, hw', rowLen_eq hw' hr, .inl ⟨by simp, rfl, rfl⟩⟩
  | cons y l =>
    obtain ⟨h1, h2⟩ := Ring.drop_eq hW (l1 := []) (x := y) (l2 := l) hr
    rw [first_cons hr, h2, two_setF hne] at hw'
    rw [first_cons hr, h1]
    have hy : y < R.n := (hW.one f _ hr).2 y (by simp)
    have hin : (R.two f t l b).inOf y = -1 := by
      have := inOf_remove hW (l1 := []) hr (by rw [two_setF hne]; exact ring_wf hw') y
      rw [two_setF hne, if_pos rfl] at this
      exact this
    have hin2 : (R.two f t l b).in_ y = -1 := by
      have hy' : y < (R.two f t l b).n := hy
      simp [Ring.in_, Ring.isNode, hy', hin]
    refine ⟨_, _, l, rfl, hw', rowLen_eq hw' (two_f hne hf _ _), .inr ⟨y, ?_, rfl, rfl, hy, hin2⟩⟩
    simp only [Bool.not_eq_true', decide_eq_false_iff_not]; omega

end Go.Proofs.Ytcefnihhlbeebaa
