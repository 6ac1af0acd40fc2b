/-
  How an arena of rows lies in memory.
-/
import Derived.Test.YtcefnihhlbeebaaTypes
import Derived.Test.YtcefnihhlbeebaaRingM
import Derived.Test.YtcefnihhlbeebaaSepList
import Derived.Test.YtcefnihhlbeebaaSepMore
namespace Go.Proofs.Ytcefnihhlbeebaa
set_option linter.unusedSimpArgs false
set_option linter.unusedVariables false
open Go.RowKit Go.Sep Go.RingM

def nats (l : List Nat) : List Value := l.map (fun (k : Nat) => .int .i64 (k : Int))
def inns (R : Ring) : List Value := (List.range R.n).map (fun x => .int .i64 (R.inOf x))
def longs (R : Ring) : List Value := R.rows.map (fun (l : List Nat) => .int .i64 (l.length : Int))
theorem nats_length (l : List Nat) : (nats l).length = l.length := by simp [nats]
theorem inns_length (R : Ring) : (inns R).length = R.n := by simp [inns]
theorem longs_length (R : Ring) : (longs R).length = R.rows.length := by simp [longs]
theorem nats_one (l : List Nat) : ∀ v ∈ nats l, v.oneCell' = true := by simp [nats, Value.oneCell']
theorem nats_get {l : List Nat} {i : Nat} (h : i < l.length) : (nats l)[i]? = some (.int .i64 (l.getD i 0 : Nat)) := by
  simp [nats, List.getD_eq_getElem?_getD, List.getElem?_eq_getElem h]
theorem nats_set (l : List Nat) (i v : Nat) : (nats l).set i (.int .i64 (v : Int)) = nats (l.set i v) := by
  simp [nats, List.map_set]
theorem inns_get {R : Ring} {x : Nat} (h : x < R.n) : (inns R)[x]? = some (.int .i64 (R.inOf x)) := by
  simp [inns, h]
theorem longs_get {R : Ring} {r : Nat} {l : List Nat} (h : R.rows[r]? = some l) : (longs R)[r]? = some (.int .i64 (l.length : Int)) := by
  simp [longs, h]
theorem longs_set (R : Ring) (r : Nat) (l : List Nat) : (longs R).set r (.int .i64 (l.length : Int)) = longs (R.setRow r l) := by
  simp [longs, Ring.setRow, List.map_set]
theorem inns_set {R R' : Ring} {x : Nat} {v : Int} (hn : R'.n = R.n) (h : ∀ y, R'.inOf y = if y = x then v else R.inOf y) : (inns R).set x (.int .i64 v) = inns R' := by
  unfold inns
  rw [hn]
  apply List.ext_getElem
  · simp
  · intro i h1 h2
    by_cases e : i = x
    · subst e; simp [h]
    · rw [List.getElem_set_ne (fun h => e h.symm)]; simp [h, e]

structure RingOk (R : Ring) (nx pv : List Nat) : Prop where
  wf : R.Wf
  laid : Laid R nx pv
  n1 : 1 ≤ R.n
  n2 : R.n ≤ 1000
  r1 : 1 ≤ R.rows.length
  r2 : R.rows.length ≤ 1000
/-- Where the four rows of an arena begin. -/
structure RingAt where
  bn : Nat
  bp : Nat
  bi : Nat
  bl : Nat
def ringCells (R : Ring) (x : RingAt) : List Value :=
  [.slice (some ⟨x.bn, 0, none⟩) (R.n + R.rows.length) (R.n + R.rows.length), .slice (some ⟨x.bp, 0, none⟩) (R.n + R.rows.length) (R.n + R.rows.length), .slice (some ⟨x.bi, 0, none⟩) R.n R.n, .slice (some ⟨x.bl, 0, none⟩) R.rows.length R.rows.length]
def ringParts (p : Nat) (R : Ring) (x : RingAt) (nx pv : List Nat) : List HProp :=
  [pt p (ringCells R x) 68, pt x.bn (nats nx) 3, pt x.bp (nats pv) 3, pt x.bi (inns R) 3, pt x.bl (longs R) 3]
def IsRing (p : Nat) (R : Ring) : HProp := fun h => ∃ (x : RingAt × List Nat × List Nat), RingOk R x.2.1 x.2.2 ∧ sepL (ringParts p R x.1 x.2.1 x.2.2) h

theorem IsRing.open_ {e w : World} {X : HProp} {p : Nat} {R : Ring} (hw : Holds e w [X, IsRing p R]) :
    ∃ (x : RingAt) (nx pv : List Nat), RingOk R nx pv ∧ Holds e w [X, pt p (ringCells R x) 68, pt x.bn (nats nx) 3, pt x.bp (nats pv) 3, pt x.bi (inns R) 3, pt x.bl (longs R) 3] := by
  obtain ⟨x, h⟩ := hw.elim (i := 1) (Q := fun (x : RingAt × List Nat × List Nat) => fun h => RingOk R x.2.1 x.2.2 ∧ sepL (ringParts p R x.1 x.2.1 x.2.2) h) rfl (fun h hh => hh)
  have hok : RingOk R x.2.1 x.2.2 := h.fact (i := 1) rfl (fun _ hh => hh.1)
  have h2 := h.imp (i := 1) (sepL (ringParts p R x.1 x.2.1 x.2.2)) rfl (fun _ hh => hh.2)
  exact ⟨x.1, x.2.1, x.2.2, hok, h2.open_ 1 rfl⟩
theorem IsRing.mk {e w : World} {X : HProp} {p : Nat} {R : Ring} {x : RingAt} {nx pv : List Nat} (hok : RingOk R nx pv) (hw : Holds e w [X, pt p (ringCells R x) 68, pt x.bn (nats nx) 3, pt x.bp (nats pv) 3, pt x.bi (inns R) 3, pt x.bl (longs R) 3]) :
    Holds e w [X, IsRing p R] := by
  have h := Holds.group (ringParts p R x nx pv) [X] (hw.sel [1, 2, 3, 4, 5, 0] (by decide))
  have h2 := h.imp (i := 0) (IsRing p R) rfl (fun h hh => ⟨(x, nx, pv), hok, hh⟩)
  exact h2.sel [1, 0] (by decide)
end Go.Proofs.Ytcefnihhlbeebaa
