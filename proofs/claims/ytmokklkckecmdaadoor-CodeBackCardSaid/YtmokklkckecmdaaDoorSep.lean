/-
  A separation logic in small over the walk: what a part of memory holds is said by a predicate on partial heaps; a list of such predicates holds of a world where they hold of parts of its memory that have no block in common.
-/
import Derived.WalkKit
import Derived.WalkSpells
import Derived.WalkLawsBesides
import Derived.Deep.RegionHeld3
namespace Go.Sep
set_option linter.unusedSimpArgs false
set_option linter.unusedVariables false

abbrev Heap := Nat → Option Obj
abbrev HProp := Heap → Prop

def emp : HProp := fun _ => True
def pto (b : Nat) (o : Obj) : HProp := fun h => h b = some o
def pt (b : Nat) (cs : List Value) (t : TypeId) : HProp := fun h => h b = some (.cells cs.toArray t (0, 0))

/-- A piece in the middle of a row: a name of its own, so that 'simp' lets it stand. -/
def mid (pre cs post : List Value) : List Value := pre ++ cs ++ post

/-- vs is written over what stands from place o on. -/
def splice (cs : List Value) (o : Nat) (vs : List Value) : List Value := cs.take o ++ vs ++ cs.drop (o + vs.length)
def sepL (L : List HProp) : HProp := fun h =>
  ∃ f : Nat → Heap, (∀ (i : Nat) (P : HProp), L[i]? = some P → P (f i)) ∧ (∀ (i j b : Nat), i ≠ j → f i b ≠ none → f j b = none) ∧ ∀ (i b : Nat) (o : Obj), f i b = some o → h b = some o

structure Env (e w : World) : Prop where
  os : w.os = e.os
  tape : w.tape = e.tape
  output : w.output = e.output
  size : e.heap.size ≤ w.heap.size

def Holds (e w : World) (L : List HProp) : Prop := Env e w ∧ sepL L (fun b => w.heap[b]?)

theorem Env.refl (e : World) : Env e e := ⟨rfl, rfl, rfl, Nat.le_refl _⟩

section lists
variable {L M : List HProp} {h : Heap}

theorem sepL.mono {h h' : Heap} (H : sepL L h) (hs : ∀ b o, h b = some o → h' b = some o) : sepL L h' := by
  obtain ⟨f, h1, h2, h3⟩ := H
  exact ⟨f, h1, h2, fun i b o hb => hs _ _ (h3 i b o hb)⟩

/-- Pick parts by their places. -/
theorem sepL.sel (σ : List Nat) (hσ : σ.Nodup) (H : sepL L h) : sepL (σ.map fun i => L.getD i emp) h := by
  obtain ⟨f, h1, h2, h3⟩ := H
  refine ⟨fun k => match σ[k]? with | some i => f i | none => fun _ => none, ?_, ?_, ?_⟩
  · intro k P hk
    rw [List.getElem?_map] at hk
    cases hs : σ[k]? with
    | none => simp [hs] at hk
    | some i =>
      simp only [hs, Option.map_some, Option.some.injEq] at hk
      subst hk
      simp only [List.getD_eq_getElem?_getD]
      cases hl : L[i]? with
      | none => trivial
      | some Q => simp only [hs, Option.getD_some]; exact h1 i Q hl
  · intro i j b hij hb
    dsimp only at hb ⊢
    cases hi : σ[i]? with
    | none => simp [hi] at hb
    | some i' =>
      cases hj : σ[j]? with
      | none => rfl
      | some j' =>
        simp only [hi] at hb
        refine h2 i' j' b (fun e => hij ?_) hb
        subst e
        have hi' := (List.getElem?_eq_some_iff.1 hi)
        have hj' := (List.getElem?_eq_some_iff.1 hj)
        obtain ⟨a1, a2⟩ := hi'
        obtain ⟨b1, b2⟩ := hj'
        exact (List.getElem_inj hσ).1 (a2.trans b2.symm)
  · intro i b o hb
    dsimp only at hb
    cases hi : σ[i]? with
    | none => simp [hi] at hb
    | some i' => simp only [hi] at hb; exact h3 _ _ _ hb

/-- A row of parts is one part. -/
theorem sepL.group (A B : List HProp) (H : sepL (A ++ B) h) : sepL (sepL A :: B) h := by
  classical
  obtain ⟨f, h1, h2, h3⟩ := H
  refine ⟨fun k => match k with | 0 => fun b => if ∃ i, i < A.length ∧ f i b ≠ none then h b else none | k + 1 => f (A.length + k), ?_, ?_, ?_⟩
  · intro k P hk
    cases k with
    | zero =>
      simp only [List.getElem?_cons_zero, Option.some.injEq] at hk
      subst hk
      refine ⟨fun i => if i < A.length then f i else fun _ => none, ?_, ?_, ?_⟩
      · intro i Q hi
        have hlt : i < A.length := (List.getElem?_eq_some_iff.1 hi).1
        simp only [hlt, if_true]
        exact h1 i Q (by rw [List.getElem?_append_left hlt]; exact hi)
      · intro i j b hij hb
        dsimp only at hb ⊢
        by_cases hi : i < A.length <;> by_cases hj : j < A.length <;> simp only [hi, hj, if_true, if_false] at hb ⊢
        · exact h2 i j b hij hb
        · exact (hb rfl).elim
      · intro i b o hb
        dsimp only at hb ⊢
        by_cases hi : i < A.length
        · simp only [hi, if_true] at hb
          rw [if_pos ⟨i, hi, by rw [hb]; simp⟩]
          exact h3 _ _ _ hb
        · simp [hi] at hb
    | succ k =>
      simp only [List.getElem?_cons_succ] at hk
      exact h1 _ P (by rw [List.getElem?_append_right (by omega)]; simpa using hk)
  · intro i j b hij hb
    cases i with
    | zero =>
      cases j with
      | zero => exact (hij rfl).elim
      | succ j =>
        dsimp only at hb ⊢
        split at hb
        · rename_i hx
          obtain ⟨i, hi, hib⟩ := hx
          exact h2 i _ b (by omega) hib
        · exact (hb rfl).elim
    | succ i =>
      cases j with
      | zero =>
        dsimp only at hb ⊢
        rw [if_neg]
        rintro ⟨j, hj, hjb⟩
        exact hb (h2 j _ b (by omega) hjb)
      | succ j => exact h2 _ _ b (by omega) hb
  · intro i b o hb
    cases i with
    | zero => dsimp only at hb; split at hb <;> simp_all
    | succ i => exact h3 _ _ _ hb

theorem sepL.ungroup (A B : List HProp) (H : sepL (sepL A :: B) h) : sepL (A ++ B) h := by
  obtain ⟨g, h1, h2, h3⟩ := H
  obtain ⟨fA, a1, a2, a3⟩ := h1 0 _ rfl
  refine ⟨fun i => if i < A.length then fA i else g (i - A.length + 1), ?_, ?_, ?_⟩
  · intro i P hi
    by_cases hlt : i < A.length
    · simp only [hlt, if_true]
      rw [List.getElem?_append_left hlt] at hi
      exact a1 i P hi
    · simp only [hlt, if_false]
      rw [List.getElem?_append_right (by omega)] at hi
      exact h1 _ P (by simpa using hi)
  · intro i j b hij hb
    dsimp only at hb ⊢
    by_cases hi : i < A.length <;> by_cases hj : j < A.length <;> simp only [hi, hj, if_true, if_false] at hb ⊢
    · exact a2 i j b hij hb
    · refine h2 0 _ b (by omega) ?_
      cases hx : fA i b with
      | none => exact (hb hx).elim
      | some o => rw [a3 i b o hx]; simp
    · have := h2 _ 0 b (by omega) hb
      cases hx : fA j b with
      | none => rfl
      | some o => rw [a3 j b o hx] at this; cases this
    · exact h2 _ _ b (by omega) hb
  · intro i b o hb
    dsimp only at hb
    by_cases hi : i < A.length <;> simp only [hi, if_true, if_false] at hb
    · exact h3 0 b o (a3 i b o hb)
    · exact h3 _ _ _ hb

/-- Turn one part. -/
theorem sepL.imp {i : Nat} {P Q : HProp} (hi : L[i]? = some P) (hPQ : ∀ h, P h → Q h) (H : sepL L h) : sepL (L.set i Q) h := by
  obtain ⟨f, h1, h2, h3⟩ := H
  refine ⟨f, ?_, h2, h3⟩
  intro j R hj
  rw [List.getElem?_set] at hj
  split at hj
  · rename_i e; subst e
    split at hj
    · cases hj; exact hPQ _ (h1 _ P hi)
    · cases hj
  · exact h1 j R hj

theorem sepL.elim {i : Nat} {P : HProp} {α : Type} {Q : α → HProp} (hi : L[i]? = some P) (hPQ : ∀ h, P h → ∃ x, Q x h) (H : sepL L h) : ∃ x, sepL (L.set i (Q x)) h := by
  obtain ⟨f, h1, h2, h3⟩ := H
  obtain ⟨x, hx⟩ := hPQ _ (h1 i P hi)
  refine ⟨x, f, ?_, h2, h3⟩
  intro j R hj
  rw [List.getElem?_set] at hj
  split at hj
  · rename_i e; subst e
    split at hj
    · cases hj; exact hx
    · cases hj
  · exact h1 j R hj

theorem sepL.fact {i : Nat} {P : HProp} {p : Prop} (hi : L[i]? = some P) (hP : ∀ h, P h → p) (H : sepL L h) : p := by
  obtain ⟨f, h1, h2, h3⟩ := H
  exact hP _ (h1 i P hi)

theorem sepL.read {i : Nat} {P : HProp} {b : Nat} {o : Obj} (hi : L[i]? = some P) (hP : ∀ h, P h → h b = some o) (H : sepL L h) : h b = some o := by
  obtain ⟨f, h1, h2, h3⟩ := H
  exact h3 i _ _ (hP _ (h1 i P hi))
end lists

theorem sepL.swapIn {L : List HProp} {h : Heap} {X : HProp} {i : Nat} (hil : i < L.length) (H : sepL (L ++ [X]) h) : sepL (L.set i X) h := by
  obtain ⟨f, h1, h2, h3⟩ := H
  refine ⟨fun j => if j = i then f L.length else if j < L.length then f j else fun _ => none, ?_, ?_, ?_⟩
  · intro j P hj
    rw [List.getElem?_set] at hj
    split at hj
    · rename_i e; subst e
      cases hj
      simp only [if_true]
      exact h1 _ _ (by simp)
    · rename_i ne
      have hjl := (List.getElem?_eq_some_iff.1 hj).1
      simp only [Ne.symm ne, if_false, hjl, if_true]
      exact h1 j P (by rw [List.getElem?_append_left hjl]; exact hj)
  · intro j k b hjk hb
    dsimp only at hb ⊢
    by_cases hj : j = i
    · have hk : k ≠ i := by omega
      simp only [hj, if_true, hk, if_false] at hb ⊢
      by_cases hkl : k < L.length
      · simp only [hkl, if_true]; exact h2 _ _ b (by omega) hb
      · simp [hkl]
    · simp only [hj, if_false] at hb
      by_cases hjl : j < L.length
      · simp only [hjl, if_true] at hb
        by_cases hk : k = i
        · simp only [hk, if_true]; exact h2 _ _ b (by omega) hb
        · simp only [hk, if_false]
          by_cases hkl : k < L.length
          · simp only [hkl, if_true]; exact h2 _ _ b hjk hb
          · simp [hkl]
      · simp [hjl] at hb
  · intro j b o hb
    dsimp only at hb
    by_cases hj : j = i
    · simp only [hj, if_true] at hb; exact h3 _ _ _ hb
    · simp only [hj, if_false] at hb
      by_cases hjl : j < L.length
      · simp only [hjl, if_true] at hb; exact h3 _ _ _ hb
      · simp [hjl] at hb

theorem sepL.focus {L : List HProp} {h : Heap} {A : HProp} {i : Nat} (hi : L[i]? = some A) (H : sepL L h) : sepL [sepL (L.set i emp), A] h := by
  classical
  obtain ⟨f, h1, h2, h3⟩ := H
  refine ⟨fun k => if k = 0 then (fun b => if ∃ j, j ≠ i ∧ f j b ≠ none then h b else none) else if k = 1 then f i else fun _ => none, ?_, ?_, ?_⟩
  · intro k P hk
    match k, hk with
    | 0, hk =>
      simp only [List.getElem?_cons_zero, Option.some.injEq] at hk
      subst hk
      refine ⟨fun j => if j = i then fun _ => none else f j, ?_, ?_, ?_⟩
      · intro j R hj
        rw [List.getElem?_set] at hj
        split at hj
        · split at hj
          · cases hj; trivial
          · cases hj
        · rename_i ne
          simp only [Ne.symm ne, if_false]
          exact h1 j R hj
      · intro j k b hjk hb
        dsimp only at hb ⊢
        by_cases hj : j = i
        · simp [hj] at hb
        · simp only [hj, if_false] at hb
          by_cases hk : k = i
          · simp [hk]
          · simp only [hk, if_false]; exact h2 j k b hjk hb
      · intro j b o hb
        dsimp only at hb ⊢
        by_cases hj : j = i
        · simp [hj] at hb
        · simp only [hj, if_false] at hb
          simp only [if_true]
          rw [if_pos ⟨j, hj, by rw [hb]; simp⟩]
          exact h3 _ _ _ hb
    | 1, hk =>
      simp only [List.getElem?_cons_succ, List.getElem?_cons_zero, Option.some.injEq] at hk
      subst hk
      simp only [Nat.one_ne_zero, if_false, if_true]
      exact h1 i A hi
    | k + 2, hk => simp at hk
  · intro j k b hjk hb
    dsimp only at hb ⊢
    by_cases hj0 : j = 0
    · simp only [hj0, if_true] at hb
      have hk0 : k ≠ 0 := by omega
      simp only [hk0, if_false]
      by_cases hk1 : k = 1
      · simp only [hk1, if_true]
        split at hb
        · rename_i hx; obtain ⟨q, hq, hqb⟩ := hx; exact h2 q i b hq hqb
        · exact (hb rfl).elim
      · simp [hk1]
    · simp only [hj0, if_false] at hb
      by_cases hj1 : j = 1
      · simp only [hj1, if_true] at hb
        by_cases hk0 : k = 0
        · simp only [hk0, if_true]
          rw [if_neg]
          rintro ⟨q, hq, hqb⟩
          exact hqb (h2 i q b (Ne.symm hq) hb)
        · have hk1 : k ≠ 1 := by omega
          simp [hk0, hk1]
      · simp [hj1] at hb
  · intro j b o hb
    dsimp only at hb
    by_cases hj0 : j = 0
    · simp only [hj0, if_true] at hb; split at hb <;> simp_all
    · simp only [hj0, if_false] at hb
      by_cases hj1 : j = 1
      · simp only [hj1, if_true] at hb; exact h3 _ _ _ hb
      · simp [hj1] at hb

theorem sepL.unfocus {L N : List HProp} {h : Heap} {B : HProp} {i : Nat} (hil : i < L.length) (H : sepL (sepL (L.set i emp) :: B :: N) h) : sepL (L.set i B ++ N) h := by
  have H1 := sepL.ungroup _ _ H
  obtain ⟨f, h1, h2, h3⟩ := H1
  have hlen : (L.set i emp).length = L.length := by simp
  refine ⟨fun j => if j = i then f L.length else if j < L.length then f j else f (j + 1), ?_, ?_, ?_⟩
  · intro j P hj
    by_cases hj1 : j = i
    · subst hj1
      rw [List.getElem?_append_left (by simpa using hil), List.getElem?_set_self hil] at hj
      cases hj
      simp only [if_true]
      exact h1 _ _ (by rw [List.getElem?_append_right (by omega), hlen]; simp)
    · simp only [hj1, if_false]
      by_cases hjl : j < L.length
      · simp only [hjl, if_true]
        rw [List.getElem?_append_left (by simpa using hjl), List.getElem?_set_ne (Ne.symm hj1)] at hj
        exact h1 _ _ (by rw [List.getElem?_append_left (by omega), List.getElem?_set_ne (Ne.symm hj1)]; exact hj)
      · simp only [hjl, if_false]
        rw [List.getElem?_append_right (by simp; omega)] at hj
        exact h1 _ _ (by rw [List.getElem?_append_right (by omega), hlen, show j + 1 - L.length = (j - L.length) + 1 by omega]; simpa using hj)
  · intro j k b hjk hb
    dsimp only at hb ⊢
    have hne : (if j = i then L.length else if j < L.length then j else j + 1) ≠ (if k = i then L.length else if k < L.length then k else k + 1) := by
      split <;> split <;> (try split) <;> (try split) <;> omega
    have e1 : ∀ q, (if q = i then f L.length else if q < L.length then f q else f (q + 1)) = f (if q = i then L.length else if q < L.length then q else q + 1) := by
      intro q; split <;> (try split) <;> rfl
    rw [e1] at hb ⊢
    exact h2 _ _ b hne hb
  · intro j b o hb
    dsimp only at hb
    split at hb
    · exact h3 _ _ _ hb
    · split at hb <;> exact h3 _ _ _ hb

section holds
variable {e w : World} {L M : List HProp}

theorem Holds.sel (σ : List Nat) (hσ : σ.Nodup) (H : Holds e w L) : Holds e w (σ.map fun i => L.getD i emp) := ⟨H.1, H.2.sel σ hσ⟩
theorem Holds.group (A B : List HProp) (H : Holds e w (A ++ B)) : Holds e w (sepL A :: B) := ⟨H.1, sepL.group A B H.2⟩
theorem Holds.ungroup (A B : List HProp) (H : Holds e w (sepL A :: B)) : Holds e w (A ++ B) := ⟨H.1, sepL.ungroup A B H.2⟩
theorem Holds.swapIn {X : HProp} {i : Nat} (hil : i < L.length) (H : Holds e w (L ++ [X])) : Holds e w (L.set i X) := ⟨H.1, H.2.swapIn hil⟩
theorem Holds.focus0 (H : Holds e w L) : Holds e w [sepL L] := Holds.group L [] (by simpa using H)
theorem Holds.unfocus0 {N : List HProp} (H : Holds e w (sepL L :: N)) : Holds e w (L ++ N) := Holds.ungroup L N H
theorem Holds.focus1 {A : HProp} (i : Nat) (hi : L[i]? = some A) (H : Holds e w L) : Holds e w [sepL (L.set i emp), A] := ⟨H.1, H.2.focus hi⟩
theorem Holds.unfocus1 {B : HProp} {N : List HProp} (i : Nat) (hil : i < L.length) (H : Holds e w (sepL (L.set i emp) :: B :: N)) : Holds e w (L.set i B ++ N) := ⟨H.1, H.2.unfocus hil⟩
/-- The part at place i is a row of parts: its first stays there, the others come at the end. -/
theorem Holds.open_ {A : HProp} {M : List HProp} (i : Nat) (hi : L[i]? = some (sepL (A :: M))) (H : Holds e w L) : Holds e w (L.set i A ++ M) := by
  have hil : i < L.length := (List.getElem?_eq_some_iff.1 hi).1
  have h1 := (H.focus1 i hi).sel [1, 0] (by decide)
  have h2 : Holds e w ((A :: M) ++ [sepL (L.set i emp)]) := Holds.ungroup _ _ h1
  have h3 := h2.sel ((M.length + 1) :: List.range (M.length + 1)) (by simp [List.nodup_range])
  refine Holds.unfocus1 i hil ?_
  have e : ((M.length + 1) :: List.range (M.length + 1)).map (fun q => ((A :: M) ++ [sepL (L.set i emp)]).getD q emp) = sepL (L.set i emp) :: A :: M := by
    apply List.ext_getElem?
    intro q
    cases q with
    | zero => simp
    | succ q =>
      simp only [List.map_cons, List.getElem?_cons_succ, List.getElem?_map]
      by_cases hq : q < M.length + 1
      · rw [List.getElem?_range hq]
        simp only [Option.map_some, List.getD_eq_getElem?_getD]
        rw [List.getElem?_append_left (by simpa using hq)]
        rw [List.getElem?_eq_getElem (by simpa using hq)]
        rfl
      · simp [hq]
  rwa [e] at h3
theorem Holds.imp {i : Nat} {P : HProp} (Q : HProp) (hi : L[i]? = some P) (hPQ : ∀ h, P h → Q h) (H : Holds e w L) : Holds e w (L.set i Q) := ⟨H.1, H.2.imp hi hPQ⟩
theorem Holds.elim {i : Nat} {P : HProp} {α : Type} {Q : α → HProp} (hi : L[i]? = some P) (hPQ : ∀ h, P h → ∃ x, Q x h) (H : Holds e w L) : ∃ x, Holds e w (L.set i (Q x)) :=
  let ⟨x, hx⟩ := H.2.elim hi hPQ; ⟨x, H.1, hx⟩
theorem Holds.fact {i : Nat} {P : HProp} {p : Prop} (hi : L[i]? = some P) (hP : ∀ h, P h → p) (H : Holds e w L) : p := H.2.fact hi hP
theorem Holds.read {i : Nat} {P : HProp} {b : Nat} {o : Obj} (hi : L[i]? = some P) (hP : ∀ h, P h → h b = some o) (H : Holds e w L) : w.heap[b]? = some o := H.2.read hi hP

theorem Holds.at_ {i b : Nat} {cs : List Value} {t : TypeId} (H : Holds e w L) (hi : L[i]? = some (pt b cs t)) : w.heap[b]? = some (.cells cs.toArray t (0, 0)) :=
  H.read hi fun _ h => h

theorem Holds.lt {i : Nat} {P : HProp} {b : Nat} {o : Obj} (hi : L[i]? = some P) (hP : ∀ h, P h → h b = some o) (H : Holds e w L) : b < w.heap.size :=
  (Array.getElem?_eq_some_iff.1 (H.read hi hP)).1

/-- What the walk looks up: the cells of a block that stands at place i. -/
theorem Holds.cells {i b : Nat} {cs : List Value} {t : TypeId} (H : Holds e w L) (hi : L[i]? = some (Sep.pt b cs t)) (k : Nat) : w.cell? ⟨b, k, none⟩ = cs[k]? := by
  simp [World.cell?, H.at_ hi]
theorem Holds.free {i b : Nat} {cs : List Value} {t : TypeId} (H : Holds e w L) (hi : L[i]? = some (Sep.pt b cs t)) (k : Nat) : w.frozen? ⟨b, k, none⟩ = false := by
  simp [World.frozen?, H.at_ hi]
theorem Holds.cellsX {i b : Nat} {P : HProp} {cs : List Value} {t : TypeId} (H : Holds e w L) (hi : L[i]? = some P) (hP : ∀ h, P h → h b = some (.cells cs.toArray t (0, 0))) (k : Nat) : w.cell? ⟨b, k, none⟩ = cs[k]? := by
  simp [World.cell?, H.read hi hP]

theorem Holds.env {w' : World} (H : Holds e w L) (hh : w'.heap = w.heap) (h1 : w'.os = w.os) (h2 : w'.tape = w.tape) (h3 : w'.output = w.output) : Holds e w' L :=
  ⟨⟨h1.trans H.1.os, h2.trans H.1.tape, h3.trans H.1.output, by rw [hh]; exact H.1.size⟩, by rw [hh]; exact H.2⟩
theorem Holds.drew (H : Holds e w L) : Holds e w.drew L := H.env rfl rfl rfl rfl
theorem Holds.drewN (H : Holds e w L) (n : Nat) : Holds e (w.drewN n) L := H.env rfl rfl rfl rfl

/-- A new block. -/
theorem Holds.alloc (H : Holds e w L) (o : Obj) : Holds e (w.alloc o) (L ++ [pto w.heap.size o]) := by
  obtain ⟨E, f, h1, h2, h3⟩ := H
  have hlt : ∀ i b, f i b ≠ none → b < w.heap.size := fun i b hb => by
    cases hx : f i b with
    | none => exact (hb hx).elim
    | some o => exact (Array.getElem?_eq_some_iff.1 (h3 i b o hx)).1
  refine ⟨⟨E.os, E.tape, E.output, Nat.le_trans E.size (by simp)⟩, fun i => if i < L.length then f i else if i = L.length then fun b => if b = w.heap.size then some o else none else fun _ => none, ?_, ?_, ?_⟩
  · intro i P hi
    by_cases hl : i < L.length
    · simp only [hl, if_true]
      rw [List.getElem?_append_left hl] at hi
      exact h1 i P hi
    · rw [List.getElem?_append_right (by omega)] at hi
      have : i = L.length := by
        rcases Nat.lt_or_ge (i - L.length) 1 with h | h
        · omega
        · rw [List.getElem?_eq_none (by simpa using h)] at hi; cases hi
      subst this
      simp only [Nat.sub_self, List.getElem?_cons_zero, Option.some.injEq] at hi
      subst hi
      simp [pto]
  · intro i j b hij hb
    dsimp only at hb ⊢
    by_cases hi : i < L.length
    · simp only [hi, if_true] at hb
      by_cases hj : j < L.length
      · simp only [hj, if_true]; exact h2 i j b hij hb
      · simp only [hj, if_false]
        split
        · have := hlt i b hb
          dsimp only
          rw [if_neg (by omega)]
        · rfl
    · simp only [hi, if_false] at hb
      split at hb
      · rename_i e
        dsimp only at hb
        split at hb
        · rename_i eb
          by_cases hj : j < L.length
          · simp only [hj, if_true]
            cases hx : f j b with
            | none => rfl
            | some o => have := hlt j b (by rw [hx]; simp); omega
          · simp only [hj, if_false]; rw [if_neg (by omega)]
        · exact (hb rfl).elim
      · exact (hb rfl).elim
  · intro i b o' hb
    dsimp only at hb
    by_cases hi : i < L.length
    · simp only [hi, if_true] at hb
      have := hlt i b (by rw [hb]; simp)
      show (w.heap.push o)[b]? = _
      rw [Array.getElem?_push, if_neg (by omega)]
      exact h3 i b o' hb
    · simp only [hi, if_false] at hb
      split at hb
      · dsimp only at hb
        split at hb
        · rename_i eb
          cases hb
          subst eb
          show (w.heap.push _)[w.heap.size]? = _
          simp
        · cases hb
      · cases hb

theorem Holds.allocCells (H : Holds e w L) (cs : List Value) (t : TypeId) : Holds e (w.alloc (.cells cs.toArray t)) (L ++ [Sep.pt w.heap.size cs t]) := H.alloc _

/-- What holds of no memory at all may be added. -/
theorem Holds.addEmp {X : HProp} (H : Holds e w L) (hX : X fun _ => none) : Holds e w (L ++ [X]) := by
  obtain ⟨E, f, h1, h2, h3⟩ := H
  refine ⟨E, fun i => if i < L.length then f i else fun _ => none, ?_, ?_, ?_⟩
  · intro i P hi
    by_cases hl : i < L.length
    · simp only [hl, if_true]
      rw [List.getElem?_append_left hl] at hi
      exact h1 i P hi
    · rw [List.getElem?_append_right (by omega)] at hi
      have : i = L.length := by
        rcases Nat.lt_or_ge (i - L.length) 1 with h | h
        · omega
        · rw [List.getElem?_eq_none (by simpa using h)] at hi; cases hi
      subst this
      simp only [Nat.sub_self, List.getElem?_cons_zero, Option.some.injEq] at hi
      subst hi
      simpa using hX
  · intro i j b hij hb
    dsimp only at hb ⊢
    by_cases hi : i < L.length
    · simp only [hi, if_true] at hb
      by_cases hj : j < L.length
      · simp only [hj, if_true]; exact h2 i j b hij hb
      · simp [hj]
    · simp [hi] at hb
  · intro i b o hb
    dsimp only at hb
    by_cases hi : i < L.length
    · simp only [hi, if_true] at hb; exact h3 _ _ _ hb
    · simp [hi] at hb

/-- One block is turned. -/
theorem Holds.update {w' : World} {i b : Nat} {P P' : HProp} {o o' : Obj} (H : Holds e w L) (hi : L[i]? = some P) (hP : ∀ h, P h → h b = some o)
    (hP' : ∀ h, P h → P' (fun c => if c = b then some o' else h c)) (hb' : w'.heap[b]? = some o') (ho : ∀ c, c ≠ b → w'.heap[c]? = w.heap[c]?)
    (h1 : w'.os = w.os) (h2 : w'.tape = w.tape) (h3 : w'.output = w.output) (h4 : w'.heap.size = w.heap.size) : Holds e w' (L.set i P') := by
  obtain ⟨E, f, f1, f2, f3⟩ := H
  have hfb : f i b = some o := hP _ (f1 i P hi)
  have hother : ∀ j, j ≠ i → f j b = none := fun j hj => f2 i j b (Ne.symm hj) (by rw [hfb]; simp)
  refine ⟨⟨h1.trans E.os, h2.trans E.tape, h3.trans E.output, by rw [h4]; exact E.size⟩, fun j => if j = i then (fun c => if c = b then some o' else f i c) else f j, ?_, ?_, ?_⟩
  · intro j R hj
    rw [List.getElem?_set] at hj
    split at hj
    · rename_i eij; subst eij
      split at hj
      · cases hj; simp only [if_true]; exact hP' _ (f1 _ P hi)
      · cases hj
    · rename_i ne
      simp only [Ne.symm ne, if_false]
      exact f1 j R hj
  · intro j k c hjk hc
    dsimp only at hc ⊢
    by_cases hj : j = i
    · subst hj
      have hk : k ≠ j := Ne.symm hjk
      simp only [if_true, hk, if_false] at hc ⊢
      by_cases hcb : c = b
      · subst hcb; exact hother k hk
      · simp only [hcb, if_false] at hc; exact f2 j k c hjk hc
    · simp only [hj, if_false] at hc
      by_cases hk : k = i
      · subst hk
        simp only [if_true]
        by_cases hcb : c = b
        · subst hcb; exact (hc (hother j hj)).elim
        · simp only [hcb, if_false]; exact f2 j k c hjk hc
      · simp only [hk, if_false]; exact f2 j k c hjk hc
  · intro j c x hx
    dsimp only at hx
    by_cases hj : j = i
    · simp only [hj, if_true] at hx
      by_cases hcb : c = b
      · subst hcb; simp only [if_true, Option.some.injEq] at hx; subst hx; exact hb'
      · simp only [hcb, if_false] at hx; show w'.heap[c]? = _; rw [ho c hcb]; exact f3 i c x hx
    · simp only [hj, if_false] at hx
      have hcb : c ≠ b := fun ecb => by subst ecb; rw [hother j hj] at hx; cases hx
      show w'.heap[c]? = _; rw [ho c hcb]; exact f3 j c x hx

theorem Holds.setCell {i b off : Nat} {cs : List Value} {t : TypeId} (H : Holds e w L) (hi : L[i]? = some (Sep.pt b cs t)) (v : Value) :
    Holds e (w.setCell ⟨b, off, none⟩ v) (L.set i (Sep.pt b (cs.set off v) t)) := by
  refine H.update hi (fun _ h => h) (P' := Sep.pt b (cs.set off v) t) (fun h _ => by simp [Sep.pt]) (o' := .cells (cs.set off v).toArray t (0, 0)) ?_ ?_ rfl rfl rfl (by simp)
  · have h := H.at_ hi
    have := heap_setCell_same w b off cs.toArray t v h
    simpa using this
  · exact fun c hc => heap_setCell_other w _ c v hc

theorem Holds.setRow {i b : Nat} {cs cs' : List Value} {t : TypeId} (H : Holds e w L) (hi : L[i]? = some (Sep.pt b cs t)) :
    Holds e (w.setRow b cs'.toArray) (L.set i (Sep.pt b cs' t)) := by
  refine H.update hi (fun _ h => h) (P' := Sep.pt b cs' t) (fun h _ => by simp [Sep.pt]) (o' := .cells cs'.toArray t (0, 0)) ?_ ?_ ?_ ?_ ?_ (by simp)
  · exact setRow_heap w b cs.toArray _ t _ (H.at_ hi)
  · exact fun c hc => setRow_other w b c _ hc
  all_goals rfl

/-- The memory as it was: old blocks are as they were. -/
def Old (e : World) : HProp := fun h => ∀ b, b < e.heap.size → h b = e.heap[b]?

theorem Holds.start (e : World) : Holds e e [Old e] := by
  refine ⟨Env.refl e, fun i => if i = 0 then fun b => e.heap[b]? else fun _ => none, ?_, ?_, ?_⟩
  · intro i P hi
    cases i with
    | zero => simp at hi; subst hi; intro b _; rfl
    | succ i => simp at hi
  · intro i j b hij hb
    dsimp only at hb ⊢
    split at hb
    · rename_i e0; rw [if_neg (by omega)]
    · exact (hb rfl).elim
  · intro i b o hb
    dsimp only at hb
    split at hb
    · exact hb
    · cases hb

theorem Holds.old {i : Nat} (H : Holds e w L) (hi : L[i]? = some (Old e)) {b : Nat} {o : Obj} (hb : e.heap[b]? = some o) : w.heap[b]? = some o :=
  H.read hi fun _ h => by rw [h b (Array.getElem?_eq_some_iff.1 hb).1]; exact hb

theorem Holds.below {i : Nat} (H : Holds e w L) (hi : L[i]? = some (Old e)) : RowKit.Below e.heap.size e w := by
  refine ⟨H.1.os, H.1.tape, H.1.output, H.1.size, fun k hk => ?_⟩
  have : e.heap[k]? = some e.heap[k] := by simp [hk]
  rw [this]
  exact H.old hi this
end holds

end Go.Sep
