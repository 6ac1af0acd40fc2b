/-
  The walk of an arena's Move.
-/
import Derived.Test.YtecdkajhcglpdaaRingWalkE
namespace Go.RingM
set_option linter.unusedSimpArgs false
set_option linter.unusedVariables false
def Ring.two (R : Ring) (f t : Nat) (a b : List Nat) : Ring := (R.setRow f a).setRow t b
theorem two_f {R : Ring} {f t : Nat} (hne : f ≠ t) (hf : f < R.rows.length) (a b : List Nat) : (R.two f t a b).rows[f]? = some a := by
  simp only [Ring.two, Ring.setRow]
  rw [List.getElem?_set_ne (fun h => hne h.symm), List.getElem?_set_self hf]
theorem two_t {R : Ring} {f t : Nat} (ht : t < R.rows.length) (a b : List Nat) : (R.two f t a b).rows[t]? = some b := by
  simp only [Ring.two, Ring.setRow]
  rw [List.getElem?_set_self (by simpa using ht)]
theorem two_setF {R : Ring} {f t : Nat} (hne : f ≠ t) (a b a' : List Nat) : (R.two f t a b).setRow f a' = R.two f t a' b := by
  simp only [Ring.two, Ring.setRow]
  rw [List.set_comm _ _ (fun h => hne h.symm), List.set_set]
theorem two_setT {R : Ring} {f t : Nat} (a b b' : List Nat) : (R.two f t a b).setRow t b' = R.two f t a b' := by
  simp only [Ring.two, Ring.setRow, List.set_set]
theorem two_self {R : Ring} {f t : Nat} {a b : List Nat} (hf : R.rows[f]? = some a) (ht : R.rows[t]? = some b) : R.two f t a b = R := by
  obtain ⟨h1, rfl⟩ := List.getElem?_eq_some_iff.1 hf
  obtain ⟨h2, rfl⟩ := List.getElem?_eq_some_iff.1 ht
  simp only [Ring.two, Ring.setRow, List.set_getElem_self]
def Ring.moveE (R : Ring) (f t : Int) : Int := if R.isRow f && R.isRow t then (if f = t then 1 else 0) else 3
def Ring.move (R : Ring) (f t : Int) : Ring := if R.moveE f t = 0 then R.two f.toNat t.toNat [] (R.row t ++ R.row f) else R
theorem first_nil {R : Ring} {f : Nat} (h : R.rows[f]? = some []) : R.first f = -1 := by unfold Ring.first; rw [Ring.row_of h]
theorem first_cons {R : Ring} {f y : Nat} {l : List Nat} (h : R.rows[f]? = some (y :: l)) : R.first f = (y : Int) := by unfold Ring.first; rw [Ring.row_of h]
theorem in_neg (R : Ring) : R.in_ (-1) = -1 := by simp [Ring.in_, Ring.isNode]
end Go.RingM
namespace Go.Proofs.Ytecdkajhcglpdaa
open Go.RowKit Go.Sep Go.RingM

def rowLen (p f : Nat) (w : World) : Nat :=
  match w.cell? ⟨p, 3, none⟩ with
  | some (.slice (some a) _ _) => (match w.cell? (a.add f) with | some (.int _ k) => k.toNat | _ => 0)
  | _ => 0
def isOne : Value → Nat
  | .bool true => 1
  | _ => 0
theorem rowLen_eq {p f : Nat} {R : Ring} {e w : World} {X : HProp} {l : List Nat} (hw : Holds e w [X, IsRing p R]) (hr : R.rows[f]? = some l) : rowLen p f w = l.length := by
  obtain ⟨x, nx, pv, hok, hw⟩ := IsRing.open_ hw
  have h1 := hw.cells (i := 1) rfl 3
  have h5 := hw.cells (i := 5) rfl f
  rw [longs_get hr] at h5
  have h3 : (ringCells R x)[3]? = some (.slice (some ⟨x.bl, 0, none⟩) R.rows.length R.rows.length) := rfl
  rw [h3] at h1
  have hadd : (⟨x.bl, 0, none⟩ : Addr).add f = ⟨x.bl, f, none⟩ := by unfold Addr.add; split <;> simp_all
  unfold rowLen
  rw [h1]
  simp only [hadd, h5, Int.toNat_natCast]
theorem ring_wf {p : Nat} {R : Ring} {e w : World} {X : HProp} (hw : Holds e w [X, IsRing p R]) : R.Wf := by
  obtain ⟨_, _, _, hok, _⟩ := IsRing.open_ hw; exact hok.wf

end Go.Proofs.Ytecdkajhcglpdaa
