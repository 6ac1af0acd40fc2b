/-
  The tasks' table as plain data, and what is done with it; for the program's table and for the document's alike.
-/
namespace Go.TaskM
set_option linter.unusedSimpArgs false
set_option linter.unusedVariables false

structure Park where
  kind : Int
  obj : Int
  ctx : Int
  reg : Int
  lock : Int
  n : Int
  deriving DecidableEq, Repr

structure Task where
  state : Int
  prog : Int
  at_ : Int
  team : Int
  r0 : Int
  r1 : Int
  r2 : Int
  r3 : Int
  r4 : Int
  r5 : Int
  wait : Park
  err : Int
  deriving DecidableEq, Repr

def noPark : Park := ⟨0, 0, 0, 0, 0, 0⟩
def noTask : Task := ⟨0, 0, 0, 0, 0, 0, 0, 0, 0, 0, noPark, 0⟩

def Task.put (t : Task) (reg x : Int) : Task :=
  if reg = 0 then { t with r0 := x } else if reg = 1 then { t with r1 := x } else if reg = 2 then { t with r2 := x }
  else if reg = 3 then { t with r3 := x } else if reg = 4 then { t with r4 := x } else if reg = 5 then { t with r5 := x } else t
def regOk (reg : Int) : Bool := decide (0 ≤ reg) && decide (reg < 6)

structure Table where
  l : List Task
  most : Int
  deriving DecidableEq, Repr

def Table.get (t : Table) (n : Int) : Option Task := if 0 ≤ n then t.l[n.toNat]? else none
def Table.getD (t : Table) (n : Int) : Task := (t.get n).getD noTask

def Task.isNo (t : Task) : Bool := decide (t = noTask)
/-- may: may that task be changed so? -/
def Table.can (t : Table) (n : Int) (may : Task → Bool) : Bool :=
  match t.get n with
  | some x => !x.isNo && may x
  | none => false
def Table.change (t : Table) (n : Int) (may : Task → Bool) (g : Task → Task) : Table :=
  if t.can n may then { t with l := t.l.set n.toNat (g (t.getD n)) } else t

def ready (x : Task) : Bool := x.state == 1
def parked (x : Task) : Bool := x.state == 2
def live (x : Task) : Bool := x.state != 3

def Table.full (t : Table) : Bool := (t.l.length : Int) == t.most
def Table.begin_ (t : Table) (prog team : Int) : Table := if t.full then t else { t with l := t.l ++ [{ noTask with state := 1, prog := prog, team := team }] }
def Table.beginN (t : Table) : Int := if t.full then -1 else t.l.length
def Table.beginE (t : Table) : Int := if t.full then 2 else 0

def setG (reg x : Int) (t : Task) : Task := t.put reg x
def goG (at_ : Int) (t : Task) : Task := { t with at_ := at_ }
def parkG (p : Park) (t : Task) : Task := { t with state := 2, wait := p }
def againG (p : Park) (t : Task) : Task := { t with wait := p }
def wakeG (x : Int) (t : Task) : Task := { t.put t.wait.reg x with state := 1, wait := noPark }
def endG (err : Int) (t : Task) : Task := { t with state := 3, wait := noPark, err := err }

def Table.those (t : Table) (such : Task → Bool) : List Int := (t.l.zipIdx.filter fun x => such x.1).map fun x => (x.2 : Int)
def inState (s : Int) (x : Task) : Bool := x.state == s
def underCtx (ctx : Int) (x : Task) : Bool := decide (0 ≤ ctx) && (x.state == 2 && x.wait.ctx == ctx)

end Go.TaskM
namespace Go.TaskM
structure Deed where
  do_ : Int
  t : Int
  a : Int
  b : Int
  x : Int
  p : Park
  deriving DecidableEq, Repr

def parkOk (p : Park) : Bool := decide (1 ≤ p.kind)

def actT (T : Table) (a : Deed) : Table :=
  if a.do_ = 0 then T.begin_ a.a a.b
  else if a.do_ = 1 then T.change a.t ready (goG a.a)
  else if a.do_ = 2 then T.change a.t live (setG a.a a.x)
  else if a.do_ = 3 then (if parkOk a.p then T.change a.t ready (parkG a.p) else T)
  else if a.do_ = 4 then (if parkOk a.p then T.change a.t parked (againG a.p) else T)
  else if a.do_ = 5 then T.change a.t parked (wakeG a.x)
  else if a.do_ = 6 then T.change a.t live (endG a.x)
  else T
def actN (T : Table) (a : Deed) : Int := if a.do_ = 0 then T.beginN else 0
def actE (T : Table) (a : Deed) : Int := if a.do_ = 0 then T.beginE else 0
def actB (T : Table) (a : Deed) : Bool :=
  if a.do_ = 0 then false
  else if a.do_ = 1 then T.can a.t ready
  else if a.do_ = 2 then T.can a.t live && regOk a.a
  else if a.do_ = 3 then parkOk a.p && T.can a.t ready
  else if a.do_ = 4 then parkOk a.p && T.can a.t parked
  else if a.do_ = 5 then T.can a.t parked
  else if a.do_ = 6 then T.can a.t live
  else false

def Table.ok (T : Table) : Prop := (T.l.length : Int) ≤ T.most ∧ T.most ≤ 200
theorem Table.change_length (T : Table) (n : Int) (m : Task → Bool) (g : Task → Task) : (T.change n m g).l.length = T.l.length := by
  unfold Table.change; split <;> simp
theorem Table.change_most (T : Table) (n : Int) (m : Task → Bool) (g : Task → Task) : (T.change n m g).most = T.most := by
  unfold Table.change; split <;> rfl
theorem Table.ok.change {T : Table} (h : T.ok) (n : Int) (m : Task → Bool) (g : Task → Task) : (T.change n m g).ok := by
  unfold Table.ok; rw [Table.change_length, Table.change_most]; exact h
theorem Table.ok.begin_ {T : Table} (h : T.ok) (a b : Int) : (T.begin_ a b).ok := by
  unfold Table.begin_
  split
  · exact h
  · rename_i hf
    unfold Table.full at hf
    simp only [Table.ok] at h ⊢
    simp at hf ⊢
    omega
theorem Table.ok.act {T : Table} (h : T.ok) (a : Deed) : (actT T a).ok := by
  unfold actT
  repeat' split
  all_goals first | exact h | exact h.begin_ _ _ | exact h.change _ _ _
theorem Table.ok.len {T : Table} (h : T.ok) : T.l.length ≤ 200 := by unfold Table.ok at h; omega
end Go.TaskM
namespace Go.TaskM
theorem Table.getD_change {T : Table} {n : Int} {m : Task → Bool} {g : Task → Task} (h : T.can n m = true) : (T.change n m g).getD n = g (T.getD n) := by
  have h0 : ∃ x, T.get n = some x := by
    unfold Table.can at h
    cases hg : T.get n with
    | none => simp [hg] at h
    | some x => exact ⟨x, rfl⟩
  obtain ⟨x, hx⟩ := h0
  have hx' := hx
  unfold Table.get at hx'
  split at hx'
  · rename_i hn
    have hlt := (List.getElem?_eq_some_iff.1 hx').1
    simp only [Table.change, h, if_true, Table.getD, Table.get, hn]
    rw [List.getElem?_set_self hlt]
    simp [hx']
  · cases hx'
theorem Table.change_no {T : Table} {n : Int} {m : Task → Bool} {g : Task → Task} (h : T.can n m = false) : T.change n m g = T := by simp [Table.change, h]
end Go.TaskM
