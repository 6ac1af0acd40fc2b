/-
  A group that is waited for, as plain data: what its methods answer, and what they leave.
-/
import Derived.Test.YtfbdlpgmoinmbaaRowsM
import Derived.Test.YtfbdlpgmoinmbaaDeed
namespace Go.Proofs.Ytfbdlpgmoinmbaa
set_option linter.unusedSimpArgs false
set_option linter.unusedVariables false
open Go.RowKit Go.Sep Go.RingM

structure WM where
  n : Nat
  c : Int
  row : List Int
def WM.add (M : WM) (x : Int) : List Int × Int × WM :=
  if M.c + x < 0 then ([], 1, M)
  else if 9223372036854775807 < M.c + x then ([], 2, M)
  else if 0 < M.c + x then ([], 0, { M with c := M.c + x })
  else (M.row, 0, { M with c := 0, row := [] })
def WM.wait (M : WM) (t : Int) : Bool × Int × WM :=
  if ¬ (0 ≤ t ∧ t < M.n) then (false, 3, M)
  else if t ∈ M.row then (false, 6, M)
  else if M.c = 0 then (true, 0, M)
  else (false, 0, { M with row := M.row ++ [t] })
def WM.leave (M : WM) (t : Int) : Bool × WM := (decide (t ∈ M.row), { M with row := without M.row t })
def WM.act (M : WM) (a : Deed) : List Int × Bool × Int × WM :=
  if a.f0 = 0 then ((M.add a.f2).1, false, (M.add a.f2).2.1, (M.add a.f2).2.2)
  else if a.f0 = 1 then ((M.add (-1)).1, false, (M.add (-1)).2.1, (M.add (-1)).2.2)
  else if a.f0 = 2 then ([], (M.wait a.f1).1, (M.wait a.f1).2.1, (M.wait a.f1).2.2)
  else if a.f0 = 3 then ([], (M.leave a.f1).1, 0, (M.leave a.f1).2)
  else ([], false, 0, M)
end Go.Proofs.Ytfbdlpgmoinmbaa
