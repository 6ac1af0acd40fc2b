/-
  'for k, v := range m' over a map that is held, and that the round leaves alone.
-/
import Derived.Test.YtmjpppemdjknoaaSepMap
import Derived.Maps.RangeRun
namespace Go.Sep
set_option linter.unusedSimpArgs false
set_option linter.unusedVariables false
open Go.RowKit Go.ChangeMaps Go.MapKept
section
variable {P : Program} {ops : Array Oper} {Q : Exit → Act → World → Prop} {K : Act → World → Prop} {a : Act} {e w : World} {rest : List Oper} {o : Oper} {L : List HProp}

/-- The entries of a map that is held, by name. -/
theorem Holds.mapName {i b : Nat} {k : IntKind} {f : Int → Option Value} (hw : Holds e w L) (hi : L[i]? = some (IsMap b k f)) : ∃ es clock, Rep es clock k f ∧ Holds e w (L.set i (pto b (.map es clock))) := by
  obtain ⟨E, g, g1, g2, g3⟩ := hw
  obtain ⟨es, clock, R, h⟩ := g1 i _ hi
  refine ⟨es, clock, R, E, g, ?_, g2, g3⟩
  intro j X hj
  rw [List.getElem?_set] at hj
  split at hj
  · rename_i e; subst e
    split at hj
    · cases hj; exact h
    · cases hj
  · exact g1 j X hj
theorem Holds.mapBack {i b : Nat} {k : IntKind} {f : Int → Option Value} {es : Array MapEntry} {clock : Nat} (R : Rep es clock k f) (hw : Holds e w L) (hi : L[i]? = some (pto b (.map es clock))) : Holds e w (L.set i (IsMap b k f)) :=
  hw.imp _ hi fun _ hp => ⟨es, clock, R, hp⟩
theorem Holds.obj {i b : Nat} {x : Obj} (hw : Holds e w L) (hi : L[i]? = some (pto b x)) : w.heap[b]? = some x := hw.read hi fun _ h => h

/-- 'range m': the iterator comes at the end of the list. -/
theorem wp_range {t kt el : TypeId} [mt : MpT P t kt el] {x : Operand} {i b : Nat} {es : Array MapEntry} {clock : Nat} (ho : o.op = .range t x) (hx : a.eval x = .map (some b)) (hw : Holds e w L) (hi : L[i]? = some (pto b (.map es clock)))
    (h : ∀ r w', Holds e w' (L ++ [pto r (.mapIter (some b) clock #[] clock)]) → K (a.put o.dst (.pointer (some ⟨r, 0, none⟩))) w') : o.wp P a w K Q := by
  have hr := run_range_map w t kt el b es clock mt.out (hw.obj hi)
  unfold Oper.wp execOp
  simp only [ho, hx, Sem.run_bind, Sem.run_pure, Result.andThen_ok, hr]
  exact h _ _ (hw.alloc _)
/-- The step. -/
theorem wp_next {x : Operand} {i j b r c0 : Nat} {k : IntKind} {f : Int → Option Value} {es : Array MapEntry} {clock : Nat} {seen : Array Nat} (ho : o.op = .next x false) (hx : a.eval x = .pointer (some ⟨r, 0, none⟩)) (R : Rep es clock k f) (hc0 : clock ≤ c0)
    (hw : Holds e w L) (hi : L[i]? = some (pto b (.map es clock))) (hj : L[j]? = some (pto r (.mapIter (some b) clock seen c0)))
    (hdone : (leftOf es seen).size = 0 → K (a.put o.dst (.tuple #[.bool false])) w)
    (hmore : ∀ q v seen' w', f q = some v → (leftOf es seen').size < (leftOf es seen).size → Holds e w' (L.set j (pto r (.mapIter (some b) clock seen' clock))) → K (a.put o.dst (.tuple #[.bool true, .int k q, v])) w') : o.wp P a w K Q := by
  rcases run_next_at (P := P) w o.type r b clock c0 seen es clock (hw.obj hj) (hw.obj hi) R.old hc0 with ⟨h0, hrun⟩ | ⟨en, he, w1, hal, hrun⟩
  · unfold Oper.wp execOp
    simp only [ho, hx, Sem.run_bind, Sem.run_pure, Result.andThen_ok, hrun]
    exact hdone h0
  · obtain ⟨hem, _⟩ := mem_left he
    obtain ⟨q, hq⟩ := R.keys en hem
    have hv : f q = some en.val := (R.get q _).2 ⟨en, hem, hq, rfl⟩
    have hw1 : Holds e w1 L := by rcases hal with rfl | rfl; exact hw; exact hw.drew
    have hset := heap_set (o' := .mapIter (some b) clock (seen.push en.born) clock) (hw1.obj hj)
    have hH : Holds e (setBlock w1 r (.mapIter (some b) clock (seen.push en.born) clock)) (L.set j (pto r (.mapIter (some b) clock (seen.push en.born) clock))) :=
      hw1.update hj (fun _ h => h) (P' := pto r (.mapIter (some b) clock (seen.push en.born) clock)) (fun h _ => by simp [pto]) (o' := .mapIter (some b) clock (seen.push en.born) clock) hset.1 (fun c hc => hset.2 c hc) rfl rfl rfl (by simp [setBlock])
    have hm := hmore q en.val _ _ hv (left_shrinks es seen en he) hH
    unfold Oper.wp execOp
    simp only [ho, hx, Sem.run_bind, Sem.run_pure, Result.andThen_ok, hrun, hq]
    exact hm
end
end Go.Sep
