/-
  'for k, v := range m' over a map that is held, and that the round leaves alone.
-/
import Derived.Test.YtmokklkckecmdaaDoorSepMap
import Derived.Maps.RangeRun
namespace Go.Sep
set_option linter.unusedSimpArgs false
set_option linter.unusedVariables false
open Go.RowKit Go.ChangeMaps Go.MapKept
/-- How many entries are still to come: for a loop's measure. -/
def iterLeft (es : Array MapEntry) (r : Nat) (w : World) : Nat := match w.heap[r]? with | some (.mapIter _ _ seen _) => (leftOf es seen).size | _ => 0
section
variable {P : Program} {ops : Array Oper} {Q : Exit → Act → World → Prop} {K : Act → World → Prop} {a : Act} {e w : World} {rest : List Oper} {o : Oper} {L : List HProp}

/-- The entries of a map that is held, by name. -/
theorem Holds.mapName {i b : Nat} {k : IntKind} {f : Int → Option Value} (hw : Holds e w L) (hi : L[i]? = some (IsMap b k f)) : ∃ es clock, Rep es clock k f ∧ Holds e w (L.set i (pto b (.map es clock))) := by
  obtain ⟨E, g, g1, g2, g3⟩ := hw
  obtain ⟨es, clock, R, h⟩ := g1 i _ hi
  refine ⟨es, clock, R, E, g, ?_, g2, g3⟩
  intro j X hj
  rw [List.getElem?_set] at hj
  split at hj
  · rename_i e; subst e
    split at hj
    · cases hj; exact h
    · cases hj
  · exact g1 j X hj
theorem Holds.mapBack {i b : Nat} {k : IntKind} {f : Int → Option Value} {es : Array MapEntry} {clock : Nat} (R : Rep es clock k f) (hw : Holds e w L) (hi : L[i]? = some (pto b (.map es clock))) : Holds e w (L.set i (IsMap b k f)) :=
  hw.imp _ hi fun _ hp => ⟨es, clock, R, hp⟩
theorem Holds.obj {i b : Nat} {x : Obj} (hw : Holds e w L) (hi : L[i]? = some (pto b x)) : w.heap[b]? = some x := hw.read hi fun _ h => h

theorem Holds.iterLeft {es : Array MapEntry} {j r c0 c1 : Nat} {m : Option Nat} {seen : Array Nat} (hw : Holds e w L) (hj : L[j]? = some (pto r (.mapIter m c1 seen c0))) : iterLeft es r w = (leftOf es seen).size := by
  unfold Go.Sep.iterLeft; rw [hw.obj hj]
/-- 'range m': the iterator comes at the end of the list. -/
theorem wp_range {t kt el : TypeId} [mt : MpT P t kt el] {x : Operand} {i b : Nat} {es : Array MapEntry} {clock : Nat} (ho : o.op = .range t x) (hx : a.eval x = .map (some b)) (hw : Holds e w L) (hi : L[i]? = some (pto b (.map es clock)))
    (h : ∀ r w', Holds e w' (L ++ [pto r (.mapIter (some b) clock #[] clock)]) → K (a.put o.dst (.pointer (some ⟨r, 0, none⟩))) w') : o.wp P a w K Q := by
  have hr := run_range_map w t kt el b es clock mt.out (hw.obj hi)
  unfold Oper.wp execOp
  simp only [ho, hx, Sem.run_bind, Sem.run_pure, Result.andThen_ok, hr]
  exact h _ _ (hw.alloc _)
/-- The entry that an iterator handed out last. -/
def Cur (es : Array MapEntry) (bn : Nat) (k : IntKind) (q : Int) (v : Value) : Prop := ∃ en ∈ es.toList, en.born = bn ∧ en.key = .int k q ∧ en.val = v
/-- The step. -/
theorem wp_next {x : Operand} {i j b r c0 : Nat} {k : IntKind} {f : Int → Option Value} {es : Array MapEntry} {clock : Nat} {seen : Array Nat} (ho : o.op = .next x false) (hx : a.eval x = .pointer (some ⟨r, 0, none⟩)) (R : Rep es clock k f) (hc0 : clock ≤ c0)
    (hw : Holds e w L) (hi : L[i]? = some (pto b (.map es clock))) (hj : L[j]? = some (pto r (.mapIter (some b) clock seen c0)))
    (hdone : (leftOf es seen).size = 0 → K (a.put o.dst (.tuple #[.bool false])) w)
    (hmore : ∀ q v bn w', f q = some v → Cur es bn k q v → (leftOf es (seen.push bn)).size < (leftOf es seen).size → Holds e w' (L.set j (pto r (.mapIter (some b) clock (seen.push bn) clock))) → K (a.put o.dst (.tuple #[.bool true, .int k q, v])) w') : o.wp P a w K Q := by
  rcases run_next_at (P := P) w o.type r b clock c0 seen es clock (hw.obj hj) (hw.obj hi) R.old hc0 with ⟨h0, hrun⟩ | ⟨en, he, w1, hal, hrun⟩
  · unfold Oper.wp execOp
    simp only [ho, hx, Sem.run_bind, Sem.run_pure, Result.andThen_ok, hrun]
    exact hdone h0
  · obtain ⟨hem, _⟩ := mem_left he
    obtain ⟨q, hq⟩ := R.keys en hem
    have hv : f q = some en.val := (R.get q _).2 ⟨en, hem, hq, rfl⟩
    have hw1 : Holds e w1 L := by rcases hal with rfl | rfl; exact hw; exact hw.drew
    have hset := heap_set (o' := .mapIter (some b) clock (seen.push en.born) clock) (hw1.obj hj)
    have hH : Holds e (setBlock w1 r (.mapIter (some b) clock (seen.push en.born) clock)) (L.set j (pto r (.mapIter (some b) clock (seen.push en.born) clock))) :=
      hw1.update hj (fun _ h => h) (P' := pto r (.mapIter (some b) clock (seen.push en.born) clock)) (fun h _ => by simp [pto]) (o' := .mapIter (some b) clock (seen.push en.born) clock) hset.1 (fun c hc => hset.2 c hc) rfl rfl rfl (by simp [setBlock])
    have hm := hmore q en.val en.born _ hv ⟨en, hem, rfl, hq, rfl⟩ (left_shrinks es seen en he) hH
    unfold Oper.wp execOp
    simp only [ho, hx, Sem.run_bind, Sem.run_pure, Result.andThen_ok, hrun, hq]
    exact hm
/-- What it handed out. -/
theorem wp_entry {x : Operand} {i j b r bn : Nat} {k : IntKind} {f : Int → Option Value} {es : Array MapEntry} {clock : Nat} {seen : Array Nat} {q : Int} {v : Value} (ho : o.op = .entry x) (hx : a.eval x = .pointer (some ⟨r, 0, none⟩)) (R : Rep es clock k f)
    (hw : Holds e w L) (hi : L[i]? = some (pto b (.map es clock))) (hj : L[j]? = some (pto r (.mapIter (some b) clock (seen.push bn) clock))) (hcur : Cur es bn k q v)
    (h : K (a.put o.dst (.tuple #[.int k q, v])) w) : o.wp P a w K Q := by
  obtain ⟨en, hem, rfl, hq, rfl⟩ := hcur
  have hrun := run_entry_at (P := P) w r b clock seen es clock en (hw.obj hj) (hw.obj hi) hem (by
    have := R.born
    unfold List.Nodup
    rw [List.pairwise_map]
    exact this)
  unfold Oper.wp execOp
  simp only [ho, hx, Sem.run_bind, Sem.run_pure, Result.andThen_ok, hrun, hq]
  exact h
theorem upon_next {t : TypeId} {i j b r c0 : Nat} {k : IntKind} {f : Int → Option Value} {es : Array MapEntry} {clock : Nat} {seen : Array Nat} (R : Rep es clock k f) (hc0 : clock ≤ c0)
    (hw : Holds e w L) (hi : L[i]? = some (pto b (.map es clock))) (hj : L[j]? = some (pto r (.mapIter (some b) clock seen c0)))
    (hdone : (leftOf es seen).size = 0 → K (a.put o.dst (.tuple #[.bool false])) w)
    (hmore : ∀ q v bn w', f q = some v → Cur es bn k q v → (leftOf es (seen.push bn)).size < (leftOf es seen).size → Holds e w' (L.set j (pto r (.mapIter (some b) clock (seen.push bn) clock))) → K (a.put o.dst (.tuple #[.bool true, .int k q, v])) w') :
    o.upon P a K Q ((Sem.run P (Instr.next (.pointer (some ⟨r, 0, none⟩)) false t) w).andThen fun a w' => .ok (.value a) w') := by
  rcases run_next_at (P := P) w t r b clock c0 seen es clock (hw.obj hj) (hw.obj hi) R.old hc0 with ⟨h0, hrun⟩ | ⟨en, he, w1, hal, hrun⟩
  · simp only [hrun, Result.andThen_ok]
    exact hdone h0
  · obtain ⟨hem, _⟩ := mem_left he
    obtain ⟨q, hq⟩ := R.keys en hem
    have hv : f q = some en.val := (R.get q _).2 ⟨en, hem, hq, rfl⟩
    have hw1 : Holds e w1 L := by rcases hal with rfl | rfl; exact hw; exact hw.drew
    have hset := heap_set (o' := .mapIter (some b) clock (seen.push en.born) clock) (hw1.obj hj)
    have hH : Holds e (setBlock w1 r (.mapIter (some b) clock (seen.push en.born) clock)) (L.set j (pto r (.mapIter (some b) clock (seen.push en.born) clock))) :=
      hw1.update hj (fun _ h => h) (P' := pto r (.mapIter (some b) clock (seen.push en.born) clock)) (fun h _ => by simp [pto]) (o' := .mapIter (some b) clock (seen.push en.born) clock) hset.1 (fun c hc => hset.2 c hc) rfl rfl rfl (by simp [setBlock])
    have hm := hmore q en.val en.born _ hv ⟨en, hem, rfl, hq, rfl⟩ (left_shrinks es seen en he) hH
    simp only [hrun, Result.andThen_ok, hq]
    exact hm
theorem upon_entry {i j b r bn : Nat} {k : IntKind} {f : Int → Option Value} {es : Array MapEntry} {clock : Nat} {seen : Array Nat} {q : Int} {v : Value} (R : Rep es clock k f)
    (hw : Holds e w L) (hi : L[i]? = some (pto b (.map es clock))) (hj : L[j]? = some (pto r (.mapIter (some b) clock (seen.push bn) clock))) (hcur : Cur es bn k q v)
    (h : K (a.put o.dst (.tuple #[.int k q, v])) w) : o.upon P a K Q ((Sem.run P (Instr.entry (.pointer (some ⟨r, 0, none⟩))) w).andThen fun a w' => .ok (.value a) w') := by
  obtain ⟨en, hem, rfl, hq, rfl⟩ := hcur
  have hrun := run_entry_at (P := P) w r b clock seen es clock en (hw.obj hj) (hw.obj hi) hem (by
    have := R.born
    unfold List.Nodup
    rw [List.pairwise_map]
    exact this)
  simp only [hrun, Result.andThen_ok, hq]
  exact h
/-- An element of an array that is a value. -/
theorem upon_index {t el : TypeId} {z v : Value} {n kb : Nat} {i : Int} {k : IntKind} {cs : Array Value} [ti : TI P el z 1 kb] [fl : Flat P el] (ht : P.underlying t = some (.array n el)) (hi : 0 ≤ i ∧ i < (n : Int)) (hv : cs[i.toNat]? = some v)
    (h : K (a.put o.dst v) w) : o.upon P a K Q ((Sem.run P (Instr.index t (.agg cs) (.int k i)) w).andThen fun a w' => .ok (.value a) w') := by
  have hrun : (Instr.index t (.agg cs) (.int k i)).run P w = .ok v w := by
    simp only [Instr.index, asIntOf, Sem.run_bind, Sem.run_pure, Result.andThen_ok, run_underlying ht, hi, and_self, if_true, ti.sizeOf_run, Nat.mul_one, part, fl.run, Bool.false_eq_true, if_false, hv]
  simp only [hrun, Result.andThen_ok]
  exact h
end
end Go.Sep
