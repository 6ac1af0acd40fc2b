/-
  'm[k], .. = v, ..': an entry of a held map is found or made, and stored to by its stamp.
-/
import Derived.Test.YtecdkajhcglpdaaSepMap
namespace Go.Sep
set_option linter.unusedSimpArgs false
set_option linter.unusedVariables false
open Go.RowKit

/-- A map, and the stamp of one of its entries. -/
def IsMapAt (r : Nat) (k : IntKind) (f : Int → Option Value) (q : Int) (s : Nat) : HProp := fun h => ∃ es clock, Rep es clock k f ∧ h r = some (.map es clock) ∧ ∃ en ∈ es.toList, en.key = .int k q ∧ en.born = s
theorem setF_same {f : Int → Option Value} {q : Int} {v : Value} (h : f q = some v) : setF f q (some v) = f := by
  funext y; unfold setF; split
  · rename_i e; rw [e, h]
  · rfl
theorem setF_setF (f : Int → Option Value) (q : Int) (u v : Option Value) : setF (setF f q u) q v = setF f q v := by
  funext y; unfold setF; split <;> rfl
section
variable {P : Program} {ops : Array Oper} {Q : Exit → Act → World → Prop} {K : Act → World → Prop} {a : Act} {e w : World} {rest : List Oper} {o : Oper} {L : List HProp}

theorem Holds.mapSetAt {i r : Nat} {k : IntKind} {f f' : Int → Option Value} {q : Int} {s : Nat} (hw : Holds e w L) (hi : L[i]? = some (IsMap r k f)) {es' : Array MapEntry} {clock' : Nat} (R' : Rep es' clock' k f') (hen : ∃ en ∈ es'.toList, en.key = .int k q ∧ en.born = s) :
    Holds e { w with heap := w.heap.set! r (.map es' clock') } (L.set i (IsMapAt r k f' q s)) := by
  obtain ⟨es, clock, R, hb⟩ := hw.mapAt hi
  have hr : r < w.heap.size := (Array.getElem?_eq_some_iff.1 hb).1
  have h1 : Holds e w (L.set i (pto r (.map es clock))) := by
    obtain ⟨E, g, g1, g2, g3⟩ := hw
    obtain ⟨es2, clock2, _, h⟩ := g1 i _ hi
    have := g3 i r _ h
    have hsame : (w.heap[r]?) = some (.map es2 clock2) := this
    rw [hb] at hsame
    injection hsame with hs
    injection hs with h1 h2
    subst h1; subst h2
    refine ⟨E, g, ?_, g2, g3⟩
    intro j X hj
    rw [List.getElem?_set] at hj
    split at hj
    · rename_i e; subst e
      split at hj
      · cases hj; exact h
      · cases hj
    · exact g1 j X hj
  have hil : i < L.length := (List.getElem?_eq_some_iff.1 hi).1
  have h2 := h1.update (i := i) (b := r) (w' := { w with heap := w.heap.set! r (.map es' clock') }) (P' := IsMapAt r k f' q s) (o' := .map es' clock') (List.getElem?_set_self hil) (fun _ h => h)
    (fun h _ => ⟨es', clock', R', by simp, hen⟩) (by simp [Array.set!_eq_setIfInBounds, hr]) (fun c hc => by simp [Array.set!_eq_setIfInBounds, Array.getElem?_setIfInBounds, Ne.symm hc]) rfl rfl rfl (by simp [Array.set!_eq_setIfInBounds])
  rwa [List.set_set] at h2
theorem Holds.mapAtAt {i r : Nat} {k : IntKind} {f : Int → Option Value} {q : Int} {s : Nat} (hw : Holds e w L) (hi : L[i]? = some (IsMapAt r k f q s)) : ∃ es clock, Rep es clock k f ∧ w.heap[r]? = some (.map es clock) ∧ ∃ en ∈ es.toList, en.key = .int k q ∧ en.born = s := by
  obtain ⟨E, g, g1, g2, g3⟩ := hw
  obtain ⟨es, clock, R, h, hen⟩ := g1 i _ hi
  exact ⟨es, clock, R, g3 i r _ h, hen⟩
theorem IsMapAt.isMap {r : Nat} {k : IntKind} {f : Int → Option Value} {q : Int} {s : Nat} (h : Heap) (hh : IsMapAt r k f q s h) : IsMap r k f h := by
  obtain ⟨es, clock, R, hb, _⟩ := hh
  exact ⟨es, clock, R, hb⟩

theorem wp_mapEntry {t kt el : TypeId} {kd : TypeDesc} {z : Value} {n b : Nat} [mt : MpT P t kt el] [it : IntT P kt kd] [ti : TI P el z n b] {x y : Operand} {i r : Nat} {k : IntKind} {f : Int → Option Value} {q : Int}
    (ho : o.op = .mapEntry t x y) (hx : a.eval x = .map (some r)) (hy : a.eval y = .int k q) (hw : Holds e w L) (hi : L[i]? = some (IsMap r k f))
    (h : ∀ (s : Nat) w', Holds e w' (L.set i (IsMapAt r k (setF f q (some ((f q).getD z))) q s)) → K (a.put o.dst (.tuple #[(f q).getD z, .int .i64 (s : Int)])) w') : o.wp P a w K Q := by
  obtain ⟨es, clock, R, hb⟩ := hw.mapAt hi
  have hr : ∃ (s : Nat) (w' : World), (Instr.mapEntry t (.map (some r)) (.int k q)).run P w = .ok (.tuple #[(f q).getD z, .int .i64 (s : Int)]) w' ∧ Holds e w' (L.set i (IsMapAt r k (setF f q (some ((f q).getD z))) q s)) := by
    unfold Instr.mapEntry
    simp only [Sem.run_bind, run_underlying mt.out, Result.andThen_ok, Sem.run_pure, run_getMap hb, run_checkKey]
    rcases run_findKey (P := P) (kt := kt) R q w with ⟨hf, hno, hr⟩ | ⟨l1, e', l2, he, hk, _, hf, hr⟩
    · simp only [hr, Result.andThen_ok, Sem.run_bind, ti.zero_run, Sem.run_pure, run_setMap _ hb, goInt]
      rw [hf]
      refine ⟨clock, _, rfl, hw.mapSetAt hi (R.push hno) ⟨{ key := .int k q, val := z, born := clock }, by simp, rfl, rfl⟩⟩
    · have hget : ((es[l1.length]?).map (·.key)).getD (.int k q) = .int k q := by
        rw [← Array.getElem?_toList, he, List.getElem?_append_right (Nat.le_refl _), Nat.sub_self]; simp [hk]
      have hborn : (Option.map (fun x : MapEntry => (x.born : Int)) es[l1.length]?).getD 0 = (e'.born : Int) := by
        rw [← Array.getElem?_toList, he, List.getElem?_append_right (Nat.le_refl _), Nat.sub_self]; simp
      have hes : (es.modify l1.length fun e => { e with key := Value.int k q }) = es := by
        apply Array.ext'
        rw [Array.toList_modify, he, modify_mid]
        cases e'; simp at hk; subst hk; rfl
      simp only [hr, Result.andThen_ok, Sem.run_bind, hget, Instr.keyThatStays, sameBits_int, if_true, Sem.run_pure, run_setMap _ hb, goInt, hborn]
      rw [hf, hes]
      refine ⟨e'.born, _, rfl, ?_⟩
      have hs : setF f q (some ((some e'.val).getD z)) = f := setF_same hf
      rw [hs]
      exact hw.mapSetAt hi R ⟨e', by rw [he]; simp, hk, rfl⟩
  obtain ⟨s, w', hr, hH⟩ := hr
  unfold Oper.wp execOp
  simp only [ho, hx, hy, Sem.run_bind, Sem.run_pure, hr, Result.andThen_ok]
  exact h s w' hH
theorem findIdx_born {es : Array MapEntry} {l1 l2 : List MapEntry} {e0 : MapEntry} (he : es.toList = l1 ++ e0 :: l2) (hb : es.toList.Pairwise (fun a b => a.born ≠ b.born)) : es.findIdx? (fun e => (e.born : Int) == (e0.born : Int)) = some l1.length := by
  have h1 : es.findIdx? (fun e => (e.born : Int) == (e0.born : Int)) = es.toList.findIdx? (fun e => (e.born : Int) == (e0.born : Int)) := by
    rcases es with ⟨l⟩; rw [List.findIdx?_toArray]
  rw [h1, he, List.findIdx?_append]
  rw [he, List.pairwise_append] at hb
  have h2 : l1.findIdx? (fun e => (e.born : Int) == (e0.born : Int)) = none := by
    rw [List.findIdx?_eq_none_iff]
    intro x hx
    have := hb.2.2 x hx e0 (by simp)
    simp; omega
  rw [h2]
  simp [List.findIdx?_cons]
theorem wp_entryStore {t : TypeId} {x y z : Operand} {i r : Nat} {k : IntKind} {f : Int → Option Value} {q : Int} {s : Nat} {v : Value}
    (ho : o.op = .entryStore t x y z) (hx : a.eval x = .map (some r)) (hy : a.eval y = .int .i64 (s : Int)) (hz : a.eval z = v) (hw : Holds e w L) (hi : L[i]? = some (IsMapAt r k f q s))
    (h : ∀ w', Holds e w' (L.set i (IsMap r k (setF f q (some v)))) → K (a.put o.dst undef) w') : o.wp P a w K Q := by
  obtain ⟨es, clock, R, hb, en, hen, hk, rfl⟩ := hw.mapAtAt hi
  obtain ⟨l1, l2, he⟩ := List.append_of_mem hen
  have hfi := findIdx_born he R.born
  have hil : i < L.length := (List.getElem?_eq_some_iff.1 hi).1
  have hm := hw.imp (i := i) (IsMap r k f) hi (fun h hh => IsMapAt.isMap h hh)
  have hes : (es.modify l1.length fun e => { e with val := v }) = es.modify l1.length fun e => { e with key := Value.int k q, val := v } := by
    apply Array.ext'
    rw [Array.toList_modify, Array.toList_modify, he, modify_mid, modify_mid]
    cases en; simp at hk; subst hk; rfl
  have hH := hm.mapSet (i := i) (List.getElem?_set_self hil) (R.upd (v := v) he hk)
  rw [List.set_set] at hH
  have hr : (Instr.entryStore t (.map (some r)) (.int .i64 (en.born : Int)) v).run P w = .ok () { w with heap := w.heap.set! r (.map (es.modify l1.length fun e => { e with key := Value.int k q, val := v }) clock) } := by
    unfold Instr.entryStore
    simp only [Sem.run_bind, Result.andThen_ok, Sem.run_pure, run_getMap hb, asInt, asIntOf, hfi, hes, run_setMap _ hb]
  unfold Oper.wp execOp
  simp only [ho, hx, hy, hz, Sem.run_bind, Sem.run_pure, hr, Result.andThen_ok]
  exact h _ hH
end
end Go.Sep
