/-
  A lock, as plain data: what its methods answer, and what they leave.
-/
import Derived.Test.YtgmclhjigafbmaaRowsM
import Derived.Test.YtgmclhjigafbmaaDeed
namespace Go.Proofs.Ytgmclhjigafbmaa
set_option linter.unusedSimpArgs false
set_option linter.unusedVariables false
open Go.RowKit Go.Sep Go.RingM

structure MM where
  n : Nat
  h : Int
  row : List Int
def MM.lock (M : MM) (t : Int) (wait : Bool) : Bool × Int × MM :=
  if ¬ (0 ≤ t ∧ t < M.n) then (false, 3, M)
  else if t ∈ M.row then (false, 6, M)
  else if M.h = -1 then (true, 0, { M with h := t })
  else (false, 0, { M with row := if wait then M.row ++ [t] else M.row })
def MM.unlock (M : MM) (t : Int) : Int × Int × MM :=
  if ¬ (0 ≤ t ∧ t < M.n) then (-1, 3, M)
  else if ¬ M.h = t then (-1, 4, M)
  else (M.row.headD (-1), 0, { M with h := M.row.headD (-1), row := M.row.tail })
def MM.leave (M : MM) (t : Int) : Bool × MM := (decide (t ∈ M.row), { M with row := without M.row t })
def MM.act (M : MM) (a : Deed) : Int × Bool × Int × MM :=
  if a.f0 = 0 then (0, (M.lock a.f1 true).1, (M.lock a.f1 true).2.1, (M.lock a.f1 true).2.2)
  else if a.f0 = 1 then (0, (M.lock a.f1 false).1, (M.lock a.f1 false).2.1, (M.lock a.f1 false).2.2)
  else if a.f0 = 2 then ((M.unlock a.f1).1, false, (M.unlock a.f1).2.1, (M.unlock a.f1).2.2)
  else if a.f0 = 3 then (0, (M.leave a.f1).1, 0, (M.leave a.f1).2)
  else (0, false, 0, M)
end Go.Proofs.Ytgmclhjigafbmaa
