/-
  A team, as plain data: what its methods answer, and what they leave.
-/
import Derived.Test.YtcchbhaiegehjaaRowsM
import Derived.Test.YtcchbhaiegehjaaDeed
namespace Go.Proofs.Ytcchbhaiegehjaa
set_option linter.unusedSimpArgs false
set_option linter.unusedVariables false
open Go.RowKit Go.Sep Go.RingM

structure TM where
  n : Nat
  lim : Int
  act : Int
  fst : Int
  c : List Int
  w : List Int
/-- Who ended: the caller that begins, the waiters that are told, was it the first error? -/
structure TE where
  caller : Int
  waiters : List Int
  first : Bool
def TM.setLimit (M : TM) (n : Int) : Int × TM :=
  if 0 < M.act ∨ ¬ M.c = [] then (5, M) else (0, { M with lim := if n < -1 then -1 else n })
def TM.may (M : TM) : Bool := decide (M.lim = -1) || decide (M.act < M.lim)
def TM.tryGo (M : TM) : Bool × TM := if M.may then (true, { M with act := M.act + 1 }) else (false, M)
def TM.askE (M : TM) (t : Int) : Int := if ¬ (0 ≤ t ∧ t < M.n) then 3 else if t ∈ M.c ∨ t ∈ M.w then 6 else 0
def TM.go (M : TM) (t : Int) : Bool × Int × TM :=
  if ¬ M.askE t = 0 then (false, M.askE t, M)
  else if M.may then (true, 0, { M with act := M.act + 1 })
  else (false, 0, { M with c := M.c ++ [t] })
def TM.wait (M : TM) (t : Int) : Bool × Int × TM :=
  if ¬ M.askE t = 0 then (false, M.askE t, M)
  else if M.act = 0 then (true, 0, M)
  else (false, 0, { M with w := M.w ++ [t] })
def TM.isFirst (M : TM) (x : Int) : Bool := decide (¬ x = 0) && decide (M.fst = 0)
def TM.fin (M : TM) (x : Int) : TE × Int × TM :=
  if M.act = 0 then (⟨0, [], false⟩, 4, M)
  else match M.c with
    | y :: l => (⟨y, [], M.isFirst x⟩, 0, { M with fst := if M.isFirst x then x else M.fst, c := l })
    | [] => if M.act = 1 then (⟨-1, M.w, M.isFirst x⟩, 0, { M with fst := if M.isFirst x then x else M.fst, act := 0, w := [] })
      else (⟨-1, [], M.isFirst x⟩, 0, { M with fst := if M.isFirst x then x else M.fst, act := M.act - 1 })
def TM.leave (M : TM) (t : Int) : Bool × TM := (decide (t ∈ M.c ∨ t ∈ M.w), { M with c := without M.c t, w := without M.w t })
def TM.deed (M : TM) (a : Deed) : TE × Bool × Int × TM :=
  if a.f0 = 0 then (⟨0, [], false⟩, (M.go a.f1).1, (M.go a.f1).2.1, (M.go a.f1).2.2)
  else if a.f0 = 1 then (⟨0, [], false⟩, M.tryGo.1, 0, M.tryGo.2)
  else if a.f0 = 2 then ((M.fin a.f2).1, false, (M.fin a.f2).2.1, (M.fin a.f2).2.2)
  else if a.f0 = 3 then (⟨0, [], false⟩, (M.wait a.f1).1, (M.wait a.f1).2.1, (M.wait a.f1).2.2)
  else if a.f0 = 4 then (⟨0, [], false⟩, (M.leave a.f1).1, 0, (M.leave a.f1).2)
  else if a.f0 = 5 then (⟨0, [], false⟩, false, (M.setLimit a.f1).1, (M.setLimit a.f1).2)
  else (⟨0, [], false⟩, false, 0, M)
end Go.Proofs.Ytcchbhaiegehjaa
