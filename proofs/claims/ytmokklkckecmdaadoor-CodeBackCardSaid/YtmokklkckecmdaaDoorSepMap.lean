/-
  Maps from whole numbers that are held.
-/
import Derived.Test.YtmokklkckecmdaaDoorSepRet
import Derived.MapKept
namespace Go.Sep
set_option linter.unusedSimpArgs false
set_option linter.unusedVariables false
open Go.RowKit

/-- How a map's entries stand for a function. -/
structure Rep (es : Array MapEntry) (clock : Nat) (k : IntKind) (f : Int → Option Value) : Prop where
  keys : ∀ e ∈ es.toList, ∃ x, e.key = .int k x
  nodup : es.toList.Pairwise (fun a b => a.key ≠ b.key)
  born : es.toList.Pairwise (fun a b => a.born ≠ b.born)
  old : ∀ e ∈ es.toList, e.born < clock
  get : ∀ x v, f x = some v ↔ ∃ e ∈ es.toList, e.key = .int k x ∧ e.val = v
def IsMap (r : Nat) (k : IntKind) (f : Int → Option Value) : HProp := fun h => ∃ es clock, Rep es clock k f ∧ h r = some (.map es clock)
def setF (f : Int → Option Value) (x : Int) (v : Option Value) : Int → Option Value := fun y => if y = x then v else f y

class MpT (P : Program) (t : TypeId) (kt el : outParam TypeId) : Prop where
  out : P.underlying t = some (.map kt el)
class IntT (P : Program) (t : TypeId) (kd : outParam TypeDesc) : Prop where
  out : P.underlying t = some kd
  isInt : ∃ k, kd = .int k

theorem Rep.nil (k : IntKind) (c : Nat) : Rep #[] c k (fun _ => none) :=
  ⟨by simp, by simp, by simp, by simp, by simp⟩

theorem findNow_spec {kd : IntKind} {k : IntKind} {x : Int} : ∀ (es : List MapEntry) (i : Nat), (∀ e ∈ es, ∃ y, e.key = .int k y) →
    ((∀ e ∈ es, e.key ≠ .int k x) ∧ Instr.findNow (.int kd) (.int k x) es i = some none) ∨
    ∃ l1 e l2, es = l1 ++ e :: l2 ∧ e.key = .int k x ∧ (∀ e' ∈ l1, e'.key ≠ .int k x) ∧ Instr.findNow (.int kd) (.int k x) es i = some (some (i + l1.length, e.val))
  | [], i, _ => .inl ⟨by simp, rfl⟩
  | e :: es, i, h => by
    obtain ⟨y, hy⟩ := h e (by simp)
    by_cases hxy : x = y
    · refine .inr ⟨[], e, es, rfl, by rw [hy, hxy], by simp, ?_⟩
      simp [Instr.findNow, Instr.sameNow, hy, hxy]
    · have hs : Instr.sameNow (.int kd) (.int k x) e.key = some false := by simp [Instr.sameNow, hy, hxy]
      have hne : e.key ≠ .int k x := by rw [hy]; intro hh; injection hh with _ h2; exact hxy h2.symm
      rcases findNow_spec (kd := kd) es (i + 1) (fun e' he => h e' (by simp [he])) with ⟨h1, h2⟩ | ⟨l1, e', l2, h1, h2, h3, h4⟩
      · refine .inl ⟨?_, ?_⟩
        · intro e' he
          rcases List.mem_cons.1 he with rfl | he
          · exact hne
          · exact h1 e' he
        · simp only [Instr.findNow, hs, h2]
      · refine .inr ⟨e :: l1, e', l2, by rw [h1]; rfl, h2, ?_, ?_⟩
        · intro e'' he
          rcases List.mem_cons.1 he with rfl | he
          · exact hne
          · exact h3 e'' he
        · simp only [Instr.findNow, hs, h4, List.length_cons]
          congr 3; omega
section
variable {P : Program} {ops : Array Oper} {Q : Exit → Act → World → Prop} {K : Act → World → Prop} {a : Act} {e w : World} {rest : List Oper} {o : Oper} {L : List HProp}

theorem run_findKey {kt : TypeId} {kd : TypeDesc} [it : IntT P kt kd] {es : Array MapEntry} {clock : Nat} {k : IntKind} {f : Int → Option Value} (R : Rep es clock k f) (x : Int) (w : World) :
    (f x = none ∧ (∀ e ∈ es.toList, e.key ≠ .int k x) ∧ (Instr.findKey kt (.int k x) es.toList).run P w = .ok none w) ∨
    ∃ l1 e l2, es.toList = l1 ++ e :: l2 ∧ e.key = .int k x ∧ (∀ e' ∈ l1, e'.key ≠ .int k x) ∧ f x = some e.val ∧ (Instr.findKey kt (.int k x) es.toList).run P w = .ok (some (l1.length, e.val)) w := by
  obtain ⟨kk, rfl⟩ := it.isInt
  rcases findNow_spec (kd := kk) (x := x) es.toList 0 R.keys with ⟨h1, h2⟩ | ⟨l1, e', l2, h1, h2, h3, h4⟩
  · refine .inl ⟨?_, h1, ?_⟩
    · cases hf : f x with
      | none => rfl
      | some v => obtain ⟨e', he, hk, _⟩ := (R.get x v).1 hf; exact absurd hk (h1 e' he)
    · simp only [Instr.findKey, Sem.run_bind, run_underlying it.out, Result.andThen_ok, h2, Sem.run_pure]
  · refine .inr ⟨l1, e', l2, h1, h2, h3, (R.get x _).2 ⟨e', by rw [h1]; simp, h2, rfl⟩, ?_⟩
    simp only [Instr.findKey, Sem.run_bind, run_underlying it.out, Result.andThen_ok, h4, Sem.run_pure, Nat.zero_add]
theorem run_checkKey {kt : TypeId} {kd : TypeDesc} [it : IntT P kt kd] (b : Bool) (k : IntKind) (x : Int) (w : World) : (Instr.checkKey b 10000 kt (.int k x)).run P w = .ok () w := by
  obtain ⟨kk, rfl⟩ := it.isInt
  show (Instr.checkKey b (9999 + 1) kt (.int k x)).run P w = .ok () w
  unfold Instr.checkKey
  simp only [Sem.run_bind, run_underlying it.out, Result.andThen_ok, Sem.run_pure]

theorem run_getMap {r : Nat} {es : Array MapEntry} {clock : Nat} (hb : w.heap[r]? = some (.map es clock)) : (getObj r).run P w = .ok (.map es clock) w := by
  simp [getObj, Sem.run, hb]
theorem run_setMap {r : Nat} {es : Array MapEntry} {clock : Nat} (o : Obj) (hb : w.heap[r]? = some (.map es clock)) : (setObj r o).run P w = .ok () { w with heap := w.heap.set! r o } := by
  simp [setObj, Sem.run, hb, Array.set!_eq_setIfInBounds]
theorem Holds.mapAt {i r : Nat} {k : IntKind} {f : Int → Option Value} (hw : Holds e w L) (hi : L[i]? = some (IsMap r k f)) : ∃ es clock, Rep es clock k f ∧ w.heap[r]? = some (.map es clock) := by
  obtain ⟨E, g, g1, g2, g3⟩ := hw
  obtain ⟨es, clock, R, h⟩ := g1 i _ hi
  exact ⟨es, clock, R, g3 i r _ h⟩
theorem Holds.mapSet {i r : Nat} {k : IntKind} {f f' : Int → Option Value} (hw : Holds e w L) (hi : L[i]? = some (IsMap r k f)) {es' : Array MapEntry} {clock' : Nat} (R' : Rep es' clock' k f') :
    Holds e { w with heap := w.heap.set! r (.map es' clock') } (L.set i (IsMap r k f')) := by
  obtain ⟨es, clock, R, hb⟩ := hw.mapAt hi
  have hr : r < w.heap.size := (Array.getElem?_eq_some_iff.1 hb).1
  have h1 : Holds e w (L.set i (pto r (.map es clock))) := by
    obtain ⟨E, g, g1, g2, g3⟩ := hw
    obtain ⟨es2, clock2, _, h⟩ := g1 i _ hi
    have := g3 i r _ h
    have hsame : (w.heap[r]?) = some (.map es2 clock2) := this
    rw [hb] at hsame
    injection hsame with hs
    injection hs with h1 h2
    subst h1; subst h2
    refine ⟨E, g, ?_, g2, g3⟩
    intro j X hj
    rw [List.getElem?_set] at hj
    split at hj
    · rename_i e; subst e
      split at hj
      · cases hj; exact h
      · cases hj
    · exact g1 j X hj
  have hil : i < L.length := (List.getElem?_eq_some_iff.1 hi).1
  have h2 := h1.update (i := i) (b := r) (w' := { w with heap := w.heap.set! r (.map es' clock') }) (P' := IsMap r k f') (o' := .map es' clock') (List.getElem?_set_self hil) (fun _ h => h)
    (fun h _ => ⟨es', clock', R', by simp⟩) (by simp [Array.set!_eq_setIfInBounds, hr]) (fun c hc => by simp [Array.set!_eq_setIfInBounds, Array.getElem?_setIfInBounds, Ne.symm hc]) rfl rfl rfl (by simp [Array.set!_eq_setIfInBounds])
  rwa [List.set_set] at h2

theorem wp_makeMap {t : TypeId} (ho : o.op = .makeMap t none) (hw : Holds e w L) (k : IntKind)
    (h : ∀ r w', Holds e w' (L ++ [IsMap r k (fun _ => none)]) → K (a.put o.dst (.map (some r))) w') : o.wp P a w K Q := by
  unfold Oper.wp execOp
  simp only [ho, Option.map_none, Instr.makeMap, Sem.run_bind, Sem.run_pure, run_newObj, Result.andThen_ok]
  refine h w.heap.size _ ?_
  have h1 := hw.alloc (.map #[] 0)
  have h2 := h1.imp (i := L.length) (P := pto w.heap.size (.map #[] 0)) (IsMap w.heap.size k (fun _ => none)) (by rw [List.getElem?_append_right (Nat.le_refl _), Nat.sub_self]; rfl) (fun _ hp => ⟨#[], 0, Rep.nil k 0, hp⟩)
  have h3 : (L ++ [pto w.heap.size (.map #[] 0)]).set L.length (IsMap w.heap.size k (fun _ => none)) = L ++ [IsMap w.heap.size k (fun _ => none)] := by
    rw [List.set_append_right _ _ (Nat.le_refl _), Nat.sub_self]; rfl
  rw [h3] at h2
  exact h2
theorem wp_lookup {t kt el : TypeId} {kd : TypeDesc} {z : Value} {n b : Nat} [mt : MpT P t kt el] [it : IntT P kt kd] [ti : TI P el z n b] {x y : Operand} {c : Bool} {i r : Nat} {k : IntKind} {f : Int → Option Value} {q : Int}
    (ho : o.op = .lookup t x y c) (hx : a.eval x = .map (some r)) (hy : a.eval y = .int k q) (hw : Holds e w L) (hi : L[i]? = some (IsMap r k f))
    (h : K (a.put o.dst (if c then .tuple #[(f q).getD z, .bool (f q).isSome] else (f q).getD z)) w) : o.wp P a w K Q := by
  obtain ⟨es, clock, R, hb⟩ := hw.mapAt hi
  have hr : (Instr.lookup t (.map (some r)) (.int k q) c).run P w = .ok (if c then .tuple #[(f q).getD z, .bool (f q).isSome] else (f q).getD z) w := by
    unfold Instr.lookup
    simp only [Sem.run_bind, run_underlying mt.out, Result.andThen_ok, Sem.run_pure, run_getMap hb, run_checkKey]
    rcases run_findKey (P := P) (kt := kt) R q w with ⟨hf, _, hr⟩ | ⟨l1, e', l2, _, _, _, hf, hr⟩
    · simp only [hr, Result.andThen_ok, Sem.run_bind, ti.zero_run, Sem.run_pure, hf]
      cases c <;> rfl
    · simp only [hr, Result.andThen_ok, Sem.run_bind, Sem.run_pure, hf]
      cases c <;> rfl
  unfold Oper.wp execOp
  simp only [ho, hx, hy, Sem.run_bind, Sem.run_pure, hr, Result.andThen_ok]
  exact h

theorem modify_mid {α : Type} (f : α → α) (a : α) (l2 : List α) : ∀ l1 : List α, (l1 ++ a :: l2).modify l1.length f = l1 ++ f a :: l2
  | [] => by simp
  | b :: l1 => by simp [modify_mid f a l2 l1]
theorem Rep.upd {es : Array MapEntry} {clock : Nat} {k : IntKind} {f : Int → Option Value} (R : Rep es clock k f) {x : Int} {v : Value} {l1 l2 : List MapEntry} {e0 : MapEntry} (he : es.toList = l1 ++ e0 :: l2) (hk : e0.key = .int k x) :
    Rep (es.modify l1.length fun e => { e with key := .int k x, val := v }) clock k (setF f x (some v)) := by
  have hl : (es.modify l1.length fun e => { e with key := .int k x, val := v }).toList = l1 ++ { e0 with key := .int k x, val := v } :: l2 := by
    rw [Array.toList_modify, he, modify_mid]
  have hno : ∀ e' ∈ l1 ++ l2, e'.key ≠ .int k x := by
    have h := R.nodup
    rw [he, List.pairwise_append] at h
    obtain ⟨_, h2, h3⟩ := h
    intro e' he'
    rcases List.mem_append.1 he' with h' | h'
    · rw [← hk]; exact h3 e' h' e0 (by simp)
    · rw [← hk]; exact fun hh => (List.pairwise_cons.1 h2).1 e' h' hh.symm
  refine ⟨?_, ?_, ?_, ?_, ?_⟩
  · rw [hl]
    intro e' he'
    rcases List.mem_append.1 he' with h | h
    · exact R.keys e' (by rw [he]; simp [h])
    · rcases List.mem_cons.1 h with rfl | h
      · exact ⟨x, rfl⟩
      · exact R.keys e' (by rw [he]; simp [h])
  · have h := R.nodup
    rw [he, List.pairwise_append, List.pairwise_cons] at h
    rw [hl, List.pairwise_append, List.pairwise_cons]
    refine ⟨h.1, ⟨fun b hb => ?_, h.2.1.2⟩, fun a ha b hb => ?_⟩
    · have := h.2.1.1 b hb; rw [hk] at this; exact this
    · rcases List.mem_cons.1 hb with rfl | hb
      · have := h.2.2 a ha e0 (by simp); rw [hk] at this; exact this
      · exact h.2.2 a ha b (by simp [hb])
  · have h := R.born
    rw [he, List.pairwise_append, List.pairwise_cons] at h
    rw [hl, List.pairwise_append, List.pairwise_cons]
    refine ⟨h.1, ⟨fun b hb => h.2.1.1 b hb, h.2.1.2⟩, fun a ha b hb => ?_⟩
    rcases List.mem_cons.1 hb with rfl | hb
    · exact h.2.2 a ha e0 (by simp)
    · exact h.2.2 a ha b (by simp [hb])
  · rw [hl]
    intro e' he'
    rcases List.mem_append.1 he' with h | h
    · exact R.old e' (by rw [he]; simp [h])
    · rcases List.mem_cons.1 h with rfl | h
      · exact R.old e0 (by rw [he]; simp)
      · exact R.old e' (by rw [he]; simp [h])
  · intro y u
    rw [hl]
    unfold setF
    by_cases hy : y = x
    · subst hy
      rw [if_pos rfl]
      constructor
      · intro h; injection h with h; subst h
        exact ⟨{ e0 with key := .int k y, val := v }, by simp, rfl, rfl⟩
      · rintro ⟨e', he', hk', hv'⟩
        rcases List.mem_append.1 he' with h | h
        · exact absurd hk' (hno e' (by simp [h]))
        · rcases List.mem_cons.1 h with rfl | h
          · rw [← hv']
          · exact absurd hk' (hno e' (by simp [h]))
    · rw [if_neg hy, R.get y u]
      constructor
      · rintro ⟨e', he', hk', hv'⟩
        rw [he] at he'
        refine ⟨e', ?_, hk', hv'⟩
        rcases List.mem_append.1 he' with h | h
        · simp [h]
        · rcases List.mem_cons.1 h with rfl | h
          · rw [hk] at hk'; injection hk' with _ h2; exact absurd h2.symm hy
          · simp [h]
      · rintro ⟨e', he', hk', hv'⟩
        refine ⟨e', ?_, hk', hv'⟩
        rw [he]
        rcases List.mem_append.1 he' with h | h
        · simp [h]
        · rcases List.mem_cons.1 h with rfl | h
          · injection hk' with _ h2; exact absurd h2.symm hy
          · simp [h]
theorem Rep.push {es : Array MapEntry} {clock : Nat} {k : IntKind} {f : Int → Option Value} (R : Rep es clock k f) {x : Int} {v : Value} (hno : ∀ e ∈ es.toList, e.key ≠ .int k x) :
    Rep (es.push { key := .int k x, val := v, born := clock }) (clock + 1) k (setF f x (some v)) := by
  have hl : (es.push { key := .int k x, val := v, born := clock }).toList = es.toList ++ [{ key := .int k x, val := v, born := clock }] := by simp
  refine ⟨?_, ?_, ?_, ?_, ?_⟩
  · rw [hl]
    intro e' he'
    rcases List.mem_append.1 he' with h | h
    · exact R.keys e' h
    · rw [List.mem_singleton.1 h]; exact ⟨x, rfl⟩
  · rw [hl, List.pairwise_append]
    refine ⟨R.nodup, by simp, fun a ha b hb => ?_⟩
    rw [List.mem_singleton.1 hb]; exact hno a ha
  · rw [hl, List.pairwise_append]
    refine ⟨R.born, by simp, fun a ha b hb => ?_⟩
    rw [List.mem_singleton.1 hb]
    have := R.old a ha
    exact Nat.ne_of_lt this
  · rw [hl]
    intro e' he'
    rcases List.mem_append.1 he' with h | h
    · have := R.old e' h; omega
    · rw [List.mem_singleton.1 h]; exact Nat.lt_succ_self _
  · intro y u
    rw [hl]
    unfold setF
    by_cases hy : y = x
    · subst hy
      rw [if_pos rfl]
      constructor
      · intro h; injection h with h; subst h
        exact ⟨{ key := .int k y, val := v, born := clock }, by simp, rfl, rfl⟩
      · rintro ⟨e', he', hk', hv'⟩
        rcases List.mem_append.1 he' with h | h
        · exact absurd hk' (hno e' h)
        · rw [List.mem_singleton.1 h] at hv'; rw [← hv']
    · rw [if_neg hy, R.get y u]
      constructor
      · rintro ⟨e', he', hk', hv'⟩; exact ⟨e', by simp [he'], hk', hv'⟩
      · rintro ⟨e', he', hk', hv'⟩
        rcases List.mem_append.1 he' with h | h
        · exact ⟨e', h, hk', hv'⟩
        · rw [List.mem_singleton.1 h] at hk'; injection hk' with _ h2; exact absurd h2.symm hy
theorem Rep.del {es : Array MapEntry} {clock : Nat} {k : IntKind} {f : Int → Option Value} (R : Rep es clock k f) {x : Int} {l1 l2 : List MapEntry} {e0 : MapEntry} (he : es.toList = l1 ++ e0 :: l2) (hk : e0.key = .int k x) :
    Rep (es.eraseIdxIfInBounds l1.length) clock k (setF f x none) := by
  have hl : (es.eraseIdxIfInBounds l1.length).toList = l1 ++ l2 := by
    have hlt : l1.length < es.size := by rw [← Array.length_toList, he]; simp
    rw [Array.eraseIdxIfInBounds, dif_pos hlt, Array.toList_eraseIdx, he, List.eraseIdx_append_of_length_le (Nat.le_refl _), Nat.sub_self]
    rfl
  have hsub : (l1 ++ l2).Sublist es.toList := by
    rw [he]; exact List.Sublist.append (List.Sublist.refl _) (List.sublist_cons_self _ _)
  have hno : ∀ e' ∈ l1 ++ l2, e'.key ≠ .int k x := by
    have h := R.nodup
    rw [he, List.pairwise_append] at h
    obtain ⟨_, h2, h3⟩ := h
    intro e' he'
    rcases List.mem_append.1 he' with h' | h'
    · rw [← hk]; exact h3 e' h' e0 (by simp)
    · rw [← hk]; exact fun hh => (List.pairwise_cons.1 h2).1 e' h' hh.symm
  refine ⟨?_, ?_, ?_, ?_, ?_⟩
  · rw [hl]; exact fun e' he' => R.keys e' (hsub.subset he')
  · rw [hl]; exact R.nodup.sublist hsub
  · rw [hl]; exact R.born.sublist hsub
  · rw [hl]; exact fun e' he' => R.old e' (hsub.subset he')
  · intro y u
    rw [hl]
    unfold setF
    by_cases hy : y = x
    · subst hy
      rw [if_pos rfl]
      constructor
      · intro h; cases h
      · rintro ⟨e', he', hk', _⟩; exact absurd hk' (hno e' he')
    · rw [if_neg hy, R.get y u]
      constructor
      · rintro ⟨e', he', hk', hv'⟩
        rw [he] at he'
        refine ⟨e', ?_, hk', hv'⟩
        rcases List.mem_append.1 he' with h | h
        · simp [h]
        · rcases List.mem_cons.1 h with rfl | h
          · rw [hk] at hk'; injection hk' with _ h2; exact absurd h2.symm hy
          · simp [h]
      · rintro ⟨e', he', hk', hv'⟩; exact ⟨e', hsub.subset he', hk', hv'⟩

theorem sameBits_int (k : IntKind) (x : Int) : Instr.sameBits 10000 (.int k x) (.int k x) = true := by
  show Instr.sameBits (9999 + 1) (.int k x) (.int k x) = true
  unfold Instr.sameBits
  simp
theorem wp_mapUpdate {t kt el : TypeId} {kd : TypeDesc} [mt : MpT P t kt el] [it : IntT P kt kd] {x y z : Operand} {i r : Nat} {k : IntKind} {f : Int → Option Value} {q : Int} {v : Value}
    (ho : o.op = .mapUpdate t x y z) (hx : a.eval x = .map (some r)) (hy : a.eval y = .int k q) (hz : a.eval z = v) (hw : Holds e w L) (hi : L[i]? = some (IsMap r k f))
    (h : ∀ w', Holds e w' (L.set i (IsMap r k (setF f q (some v)))) → K (a.put o.dst undef) w') : o.wp P a w K Q := by
  obtain ⟨es, clock, R, hb⟩ := hw.mapAt hi
  have hr : ∃ w', (Instr.mapUpdate t (.map (some r)) (.int k q) v).run P w = .ok () w' ∧ Holds e w' (L.set i (IsMap r k (setF f q (some v)))) := by
    unfold Instr.mapUpdate
    simp only [Sem.run_bind, run_underlying mt.out, Result.andThen_ok, Sem.run_pure, run_getMap hb, run_checkKey]
    rcases run_findKey (P := P) (kt := kt) R q w with ⟨hf, hno, hr⟩ | ⟨l1, e', l2, he, hk, _, hf, hr⟩
    · simp only [hr, Result.andThen_ok, Sem.run_bind, run_setMap _ hb]
      exact ⟨_, rfl, hw.mapSet hi (R.push hno)⟩
    · have hget : ((es[l1.length]?).map (·.key)).getD (.int k q) = .int k q := by
        rw [← Array.getElem?_toList, he, List.getElem?_append_right (Nat.le_refl _), Nat.sub_self]; simp [hk]
      simp only [hr, Result.andThen_ok, Sem.run_bind, hget, Instr.keyThatStays, sameBits_int, if_true, Sem.run_pure, run_setMap _ hb]
      exact ⟨_, rfl, hw.mapSet hi (R.upd he hk)⟩
  obtain ⟨w', hr, hH⟩ := hr
  unfold Oper.wp execOp
  simp only [ho, hx, hy, hz, Sem.run_bind, Sem.run_pure, hr, Result.andThen_ok]
  exact h w' hH
theorem wp_mapDelete {t kt el t2 : TypeId} {kd : TypeDesc} [mt : MpT P t kt el] [it : IntT P kt kd] {x y : Operand} {i r : Nat} {k : IntKind} {f : Int → Option Value} {q : Int}
    (ho : o.op = .call { callee := .builtin .delete, args := #[x, y], argTypes := #[t, t2] }) (hx : a.eval x = .map (some r)) (hy : a.eval y = .int k q) (hw : Holds e w L) (hi : L[i]? = some (IsMap r k f))
    (h : ∀ w', Holds e w' (L.set i (IsMap r k (setF f q none))) → K (a.put o.dst (.tuple #[])) w') : o.wp P a w K Q := by
  obtain ⟨es, clock, R, hb⟩ := hw.mapAt hi
  have hr : ∃ w', (Builtin.delete_ #[t, t2] o.type #[.map (some r), .int k q]).run P w = .ok (.tuple #[]) w' ∧ Holds e w' (L.set i (IsMap r k (setF f q none))) := by
    unfold Builtin.delete_
    simp only [List.getElem?_toArray, List.getElem?_cons_zero, List.getElem?_cons_succ, Sem.run_bind, run_underlying mt.out, Result.andThen_ok, Sem.run_pure, run_getMap hb, run_checkKey]
    rcases run_findKey (P := P) (kt := kt) R q w with ⟨hf, hno, hr⟩ | ⟨l1, e', l2, he, hk, _, hf, hr⟩
    · simp only [hr, Result.andThen_ok, Sem.run_bind, run_setMap _ hb, Sem.run_pure]
      refine ⟨_, rfl, ?_⟩
      have : setF f q none = f := by
        funext y; unfold setF; split
        · rename_i hy; rw [hy, hf]
        · rfl
      rw [this]
      exact hw.mapSet hi R
    · simp only [hr, Result.andThen_ok, Sem.run_bind, run_setMap _ hb, Sem.run_pure]
      exact ⟨_, rfl, hw.mapSet hi (R.del he hk)⟩
  obtain ⟨w', hr, hH⟩ := hr
  unfold Oper.wp execOp
  simp only [ho, resolve, invoke, builtin, Sem.run_bind, Sem.run_pure, Result.andThen_ok, List.map_toArray, List.map_cons, List.map_nil, hx, hy, hr]
  exact h w' hH
end
end Go.Sep
