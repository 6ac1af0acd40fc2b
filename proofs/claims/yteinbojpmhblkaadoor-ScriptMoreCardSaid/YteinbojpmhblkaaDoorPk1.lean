/-
  Part 1 of the proof: contracts of functions and what they lean on (Sep, SepLaws, Types, Deed, Ins, SepMore, SepRet, SepMap, SepRange, SepRound, SepStr, SepList, CodeF, CodeG, Region, Flat, LawFrame, LawArgs, Acts, SepEq, CodeR, RegionS, SepRead).
-/
import Derived.WalkKit
import Derived.WalkSpells
import Derived.WalkLawsBesides
import Derived.Deep.RegionHeld3
import Derived.Test.YteinbojpmhblkaaDoorRows
import Derived.KernelRfl
import Derived.Laws.MakeOwn
import Derived.IntWalk
import Derived.MapKept
import Derived.Maps.RangeRun
import Derived.RangeFuncLeaves
import Derived.RangeFuncRecord
import Derived.RangeFuncSeq
import Derived.TacticsIn
import Derived.Orders
import Derived.ProofKit
import Derived.OpenShut
import Derived.Deep.Slices
/-
  A separation logic in small over the walk: what a part of memory holds is said by a predicate on partial heaps; a list of such predicates holds of a world where they hold of parts of its memory that have no block in common.
-/
namespace Go.Sep
set_option linter.unusedSimpArgs false
set_option linter.unusedVariables false

abbrev Heap := Nat → Option Obj
abbrev HProp := Heap → Prop

def emp : HProp := fun _ => True
def pto (b : Nat) (o : Obj) : HProp := fun h => h b = some o
def pt (b : Nat) (cs : List Value) (t : TypeId) : HProp := fun h => h b = some (.cells cs.toArray t (0, 0))

/-- A piece in the middle of a row: a name of its own, so that 'simp' lets it stand. -/
def mid (pre cs post : List Value) : List Value := pre ++ cs ++ post

/-- vs is written over what stands from place o on. -/
def splice (cs : List Value) (o : Nat) (vs : List Value) : List Value := cs.take o ++ vs ++ cs.drop (o + vs.length)
def sepL (L : List HProp) : HProp := fun h =>
  ∃ f : Nat → Heap, (∀ (i : Nat) (P : HProp), L[i]? = some P → P (f i)) ∧ (∀ (i j b : Nat), i ≠ j → f i b ≠ none → f j b = none) ∧ ∀ (i b : Nat) (o : Obj), f i b = some o → h b = some o

structure Env (e w : World) : Prop where
  os : w.os = e.os
  tape : w.tape = e.tape
  output : w.output = e.output
  size : e.heap.size ≤ w.heap.size

def Holds (e w : World) (L : List HProp) : Prop := Env e w ∧ sepL L (fun b => w.heap[b]?)

theorem Env.refl (e : World) : Env e e := ⟨rfl, rfl, rfl, Nat.le_refl _⟩

section lists
variable {L M : List HProp} {h : Heap}

theorem sepL.mono {h h' : Heap} (H : sepL L h) (hs : ∀ b o, h b = some o → h' b = some o) : sepL L h' := by
  obtain ⟨f, h1, h2, h3⟩ := H
  exact ⟨f, h1, h2, fun i b o hb => hs _ _ (h3 i b o hb)⟩

/-- Pick parts by their places. -/
theorem sepL.sel (σ : List Nat) (hσ : σ.Nodup) (H : sepL L h) : sepL (σ.map fun i => L.getD i emp) h := by
  obtain ⟨f, h1, h2, h3⟩ := H
  refine ⟨fun k => match σ[k]? with | some i => f i | none => fun _ => none, ?_, ?_, ?_⟩
  · intro k P hk
    rw [List.getElem?_map] at hk
    cases hs : σ[k]? with
    | none => simp [hs] at hk
    | some i =>
      simp only [hs, Option.map_some, Option.some.injEq] at hk
      subst hk
      simp only [List.getD_eq_getElem?_getD]
      cases hl : L[i]? with
      | none => trivial
      | some Q => simp only [hs, Option.getD_some]; exact h1 i Q hl
  · intro i j b hij hb
    dsimp only at hb ⊢
    cases hi : σ[i]? with
    | none => simp [hi] at hb
    | some i' =>
      cases hj : σ[j]? with
      | none => rfl
      | some j' =>
        simp only [hi] at hb
        refine h2 i' j' b (fun e => hij ?_) hb
        subst e
        have hi' := (List.getElem?_eq_some_iff.1 hi)
        have hj' := (List.getElem?_eq_some_iff.1 hj)
        obtain ⟨a1, a2⟩ := hi'
        obtain ⟨b1, b2⟩ := hj'
        exact (List.getElem_inj hσ).1 (a2.trans b2.symm)
  · intro i b o hb
    dsimp only at hb
    cases hi : σ[i]? with
    | none => simp [hi] at hb
    | some i' => simp only [hi] at hb; exact h3 _ _ _ hb

/-- A row of parts is one part. -/
theorem sepL.group (A B : List HProp) (H : sepL (A ++ B) h) : sepL (sepL A :: B) h := by
  classical
  obtain ⟨f, h1, h2, h3⟩ := H
  refine ⟨fun k => match k with | 0 => fun b => if ∃ i, i < A.length ∧ f i b ≠ none then h b else none | k + 1 => f (A.length + k), ?_, ?_, ?_⟩
  · intro k P hk
    cases k with
    | zero =>
      simp only [List.getElem?_cons_zero, Option.some.injEq] at hk
      subst hk
      refine ⟨fun i => if i < A.length then f i else fun _ => none, ?_, ?_, ?_⟩
      · intro i Q hi
        have hlt : i < A.length := (List.getElem?_eq_some_iff.1 hi).1
        simp only [hlt, if_true]
        exact h1 i Q (by rw [List.getElem?_append_left hlt]; exact hi)
      · intro i j b hij hb
        dsimp only at hb ⊢
        by_cases hi : i < A.length <;> by_cases hj : j < A.length <;> simp only [hi, hj, if_true, if_false] at hb ⊢
        · exact h2 i j b hij hb
        · exact (hb rfl).elim
      · intro i b o hb
        dsimp only at hb ⊢
        by_cases hi : i < A.length
        · simp only [hi, if_true] at hb
          rw [if_pos ⟨i, hi, by rw [hb]; simp⟩]
          exact h3 _ _ _ hb
        · simp [hi] at hb
    | succ k =>
      simp only [List.getElem?_cons_succ] at hk
      exact h1 _ P (by rw [List.getElem?_append_right (by omega)]; simpa using hk)
  · intro i j b hij hb
    cases i with
    | zero =>
      cases j with
      | zero => exact (hij rfl).elim
      | succ j =>
        dsimp only at hb ⊢
        split at hb
        · rename_i hx
          obtain ⟨i, hi, hib⟩ := hx
          exact h2 i _ b (by omega) hib
        · exact (hb rfl).elim
    | succ i =>
      cases j with
      | zero =>
        dsimp only at hb ⊢
        rw [if_neg]
        rintro ⟨j, hj, hjb⟩
        exact hb (h2 j _ b (by omega) hjb)
      | succ j => exact h2 _ _ b (by omega) hb
  · intro i b o hb
    cases i with
    | zero => dsimp only at hb; split at hb <;> simp_all
    | succ i => exact h3 _ _ _ hb

theorem sepL.ungroup (A B : List HProp) (H : sepL (sepL A :: B) h) : sepL (A ++ B) h := by
  obtain ⟨g, h1, h2, h3⟩ := H
  obtain ⟨fA, a1, a2, a3⟩ := h1 0 _ rfl
  refine ⟨fun i => if i < A.length then fA i else g (i - A.length + 1), ?_, ?_, ?_⟩
  · intro i P hi
    by_cases hlt : i < A.length
    · simp only [hlt, if_true]
      rw [List.getElem?_append_left hlt] at hi
      exact a1 i P hi
    · simp only [hlt, if_false]
      rw [List.getElem?_append_right (by omega)] at hi
      exact h1 _ P (by simpa using hi)
  · intro i j b hij hb
    dsimp only at hb ⊢
    by_cases hi : i < A.length <;> by_cases hj : j < A.length <;> simp only [hi, hj, if_true, if_false] at hb ⊢
    · exact a2 i j b hij hb
    · refine h2 0 _ b (by omega) ?_
      cases hx : fA i b with
      | none => exact (hb hx).elim
      | some o => rw [a3 i b o hx]; simp
    · have := h2 _ 0 b (by omega) hb
      cases hx : fA j b with
      | none => rfl
      | some o => rw [a3 j b o hx] at this; cases this
    · exact h2 _ _ b (by omega) hb
  · intro i b o hb
    dsimp only at hb
    by_cases hi : i < A.length <;> simp only [hi, if_true, if_false] at hb
    · exact h3 0 b o (a3 i b o hb)
    · exact h3 _ _ _ hb

/-- Turn one part. -/
theorem sepL.imp {i : Nat} {P Q : HProp} (hi : L[i]? = some P) (hPQ : ∀ h, P h → Q h) (H : sepL L h) : sepL (L.set i Q) h := by
  obtain ⟨f, h1, h2, h3⟩ := H
  refine ⟨f, ?_, h2, h3⟩
  intro j R hj
  rw [List.getElem?_set] at hj
  split at hj
  · rename_i e; subst e
    split at hj
    · cases hj; exact hPQ _ (h1 _ P hi)
    · cases hj
  · exact h1 j R hj

theorem sepL.elim {i : Nat} {P : HProp} {α : Type} {Q : α → HProp} (hi : L[i]? = some P) (hPQ : ∀ h, P h → ∃ x, Q x h) (H : sepL L h) : ∃ x, sepL (L.set i (Q x)) h := by
  obtain ⟨f, h1, h2, h3⟩ := H
  obtain ⟨x, hx⟩ := hPQ _ (h1 i P hi)
  refine ⟨x, f, ?_, h2, h3⟩
  intro j R hj
  rw [List.getElem?_set] at hj
  split at hj
  · rename_i e; subst e
    split at hj
    · cases hj; exact hx
    · cases hj
  · exact h1 j R hj

theorem sepL.fact {i : Nat} {P : HProp} {p : Prop} (hi : L[i]? = some P) (hP : ∀ h, P h → p) (H : sepL L h) : p := by
  obtain ⟨f, h1, h2, h3⟩ := H
  exact hP _ (h1 i P hi)

theorem sepL.read {i : Nat} {P : HProp} {b : Nat} {o : Obj} (hi : L[i]? = some P) (hP : ∀ h, P h → h b = some o) (H : sepL L h) : h b = some o := by
  obtain ⟨f, h1, h2, h3⟩ := H
  exact h3 i _ _ (hP _ (h1 i P hi))
end lists

theorem sepL.swapIn {L : List HProp} {h : Heap} {X : HProp} {i : Nat} (hil : i < L.length) (H : sepL (L ++ [X]) h) : sepL (L.set i X) h := by
  obtain ⟨f, h1, h2, h3⟩ := H
  refine ⟨fun j => if j = i then f L.length else if j < L.length then f j else fun _ => none, ?_, ?_, ?_⟩
  · intro j P hj
    rw [List.getElem?_set] at hj
    split at hj
    · rename_i e; subst e
      cases hj
      simp only [if_true]
      exact h1 _ _ (by simp)
    · rename_i ne
      have hjl := (List.getElem?_eq_some_iff.1 hj).1
      simp only [Ne.symm ne, if_false, hjl, if_true]
      exact h1 j P (by rw [List.getElem?_append_left hjl]; exact hj)
  · intro j k b hjk hb
    dsimp only at hb ⊢
    by_cases hj : j = i
    · have hk : k ≠ i := by omega
      simp only [hj, if_true, hk, if_false] at hb ⊢
      by_cases hkl : k < L.length
      · simp only [hkl, if_true]; exact h2 _ _ b (by omega) hb
      · simp [hkl]
    · simp only [hj, if_false] at hb
      by_cases hjl : j < L.length
      · simp only [hjl, if_true] at hb
        by_cases hk : k = i
        · simp only [hk, if_true]; exact h2 _ _ b (by omega) hb
        · simp only [hk, if_false]
          by_cases hkl : k < L.length
          · simp only [hkl, if_true]; exact h2 _ _ b hjk hb
          · simp [hkl]
      · simp [hjl] at hb
  · intro j b o hb
    dsimp only at hb
    by_cases hj : j = i
    · simp only [hj, if_true] at hb; exact h3 _ _ _ hb
    · simp only [hj, if_false] at hb
      by_cases hjl : j < L.length
      · simp only [hjl, if_true] at hb; exact h3 _ _ _ hb
      · simp [hjl] at hb

theorem sepL.focus {L : List HProp} {h : Heap} {A : HProp} {i : Nat} (hi : L[i]? = some A) (H : sepL L h) : sepL [sepL (L.set i emp), A] h := by
  classical
  obtain ⟨f, h1, h2, h3⟩ := H
  refine ⟨fun k => if k = 0 then (fun b => if ∃ j, j ≠ i ∧ f j b ≠ none then h b else none) else if k = 1 then f i else fun _ => none, ?_, ?_, ?_⟩
  · intro k P hk
    match k, hk with
    | 0, hk =>
      simp only [List.getElem?_cons_zero, Option.some.injEq] at hk
      subst hk
      refine ⟨fun j => if j = i then fun _ => none else f j, ?_, ?_, ?_⟩
      · intro j R hj
        rw [List.getElem?_set] at hj
        split at hj
        · split at hj
          · cases hj; trivial
          · cases hj
        · rename_i ne
          simp only [Ne.symm ne, if_false]
          exact h1 j R hj
      · intro j k b hjk hb
        dsimp only at hb ⊢
        by_cases hj : j = i
        · simp [hj] at hb
        · simp only [hj, if_false] at hb
          by_cases hk : k = i
          · simp [hk]
          · simp only [hk, if_false]; exact h2 j k b hjk hb
      · intro j b o hb
        dsimp only at hb ⊢
        by_cases hj : j = i
        · simp [hj] at hb
        · simp only [hj, if_false] at hb
          simp only [if_true]
          rw [if_pos ⟨j, hj, by rw [hb]; simp⟩]
          exact h3 _ _ _ hb
    | 1, hk =>
      simp only [List.getElem?_cons_succ, List.getElem?_cons_zero, Option.some.injEq] at hk
      subst hk
      simp only [Nat.one_ne_zero, if_false, if_true]
      exact h1 i A hi
    | k + 2, hk => simp at hk
  · intro j k b hjk hb
    dsimp only at hb ⊢
    by_cases hj0 : j = 0
    · simp only [hj0, if_true] at hb
      have hk0 : k ≠ 0 := by omega
      simp only [hk0, if_false]
      by_cases hk1 : k = 1
      · simp only [hk1, if_true]
        split at hb
        · rename_i hx; obtain ⟨q, hq, hqb⟩ := hx; exact h2 q i b hq hqb
        · exact (hb rfl).elim
      · simp [hk1]
    · simp only [hj0, if_false] at hb
      by_cases hj1 : j = 1
      · simp only [hj1, if_true] at hb
        by_cases hk0 : k = 0
        · simp only [hk0, if_true]
          rw [if_neg]
          rintro ⟨q, hq, hqb⟩
          exact hqb (h2 i q b (Ne.symm hq) hb)
        · have hk1 : k ≠ 1 := by omega
          simp [hk0, hk1]
      · simp [hj1] at hb
  · intro j b o hb
    dsimp only at hb
    by_cases hj0 : j = 0
    · simp only [hj0, if_true] at hb; split at hb <;> simp_all
    · simp only [hj0, if_false] at hb
      by_cases hj1 : j = 1
      · simp only [hj1, if_true] at hb; exact h3 _ _ _ hb
      · simp [hj1] at hb

theorem sepL.unfocus {L N : List HProp} {h : Heap} {B : HProp} {i : Nat} (hil : i < L.length) (H : sepL (sepL (L.set i emp) :: B :: N) h) : sepL (L.set i B ++ N) h := by
  have H1 := sepL.ungroup _ _ H
  obtain ⟨f, h1, h2, h3⟩ := H1
  have hlen : (L.set i emp).length = L.length := by simp
  refine ⟨fun j => if j = i then f L.length else if j < L.length then f j else f (j + 1), ?_, ?_, ?_⟩
  · intro j P hj
    by_cases hj1 : j = i
    · subst hj1
      rw [List.getElem?_append_left (by simpa using hil), List.getElem?_set_self hil] at hj
      cases hj
      simp only [if_true]
      exact h1 _ _ (by rw [List.getElem?_append_right (by omega), hlen]; simp)
    · simp only [hj1, if_false]
      by_cases hjl : j < L.length
      · simp only [hjl, if_true]
        rw [List.getElem?_append_left (by simpa using hjl), List.getElem?_set_ne (Ne.symm hj1)] at hj
        exact h1 _ _ (by rw [List.getElem?_append_left (by omega), List.getElem?_set_ne (Ne.symm hj1)]; exact hj)
      · simp only [hjl, if_false]
        rw [List.getElem?_append_right (by simp; omega)] at hj
        exact h1 _ _ (by rw [List.getElem?_append_right (by omega), hlen, show j + 1 - L.length = (j - L.length) + 1 by omega]; simpa using hj)
  · intro j k b hjk hb
    dsimp only at hb ⊢
    have hne : (if j = i then L.length else if j < L.length then j else j + 1) ≠ (if k = i then L.length else if k < L.length then k else k + 1) := by
      split <;> split <;> (try split) <;> (try split) <;> omega
    have e1 : ∀ q, (if q = i then f L.length else if q < L.length then f q else f (q + 1)) = f (if q = i then L.length else if q < L.length then q else q + 1) := by
      intro q; split <;> (try split) <;> rfl
    rw [e1] at hb ⊢
    exact h2 _ _ b hne hb
  · intro j b o hb
    dsimp only at hb
    split at hb
    · exact h3 _ _ _ hb
    · split at hb <;> exact h3 _ _ _ hb

section holds
variable {e w : World} {L M : List HProp}

theorem Holds.sel (σ : List Nat) (hσ : σ.Nodup) (H : Holds e w L) : Holds e w (σ.map fun i => L.getD i emp) := ⟨H.1, H.2.sel σ hσ⟩
theorem Holds.group (A B : List HProp) (H : Holds e w (A ++ B)) : Holds e w (sepL A :: B) := ⟨H.1, sepL.group A B H.2⟩
theorem Holds.ungroup (A B : List HProp) (H : Holds e w (sepL A :: B)) : Holds e w (A ++ B) := ⟨H.1, sepL.ungroup A B H.2⟩
theorem Holds.swapIn {X : HProp} {i : Nat} (hil : i < L.length) (H : Holds e w (L ++ [X])) : Holds e w (L.set i X) := ⟨H.1, H.2.swapIn hil⟩
theorem Holds.focus0 (H : Holds e w L) : Holds e w [sepL L] := Holds.group L [] (by simpa using H)
theorem Holds.unfocus0 {N : List HProp} (H : Holds e w (sepL L :: N)) : Holds e w (L ++ N) := Holds.ungroup L N H
theorem Holds.focus1 {A : HProp} (i : Nat) (hi : L[i]? = some A) (H : Holds e w L) : Holds e w [sepL (L.set i emp), A] := ⟨H.1, H.2.focus hi⟩
theorem Holds.unfocus1 {B : HProp} {N : List HProp} (i : Nat) (hil : i < L.length) (H : Holds e w (sepL (L.set i emp) :: B :: N)) : Holds e w (L.set i B ++ N) := ⟨H.1, H.2.unfocus hil⟩
/-- The part at place i is a row of parts: its first stays there, the others come at the end. -/
theorem Holds.open_ {A : HProp} {M : List HProp} (i : Nat) (hi : L[i]? = some (sepL (A :: M))) (H : Holds e w L) : Holds e w (L.set i A ++ M) := by
  have hil : i < L.length := (List.getElem?_eq_some_iff.1 hi).1
  have h1 := (H.focus1 i hi).sel [1, 0] (by decide)
  have h2 : Holds e w ((A :: M) ++ [sepL (L.set i emp)]) := Holds.ungroup _ _ h1
  have h3 := h2.sel ((M.length + 1) :: List.range (M.length + 1)) (by simp [List.nodup_range])
  refine Holds.unfocus1 i hil ?_
  have e : ((M.length + 1) :: List.range (M.length + 1)).map (fun q => ((A :: M) ++ [sepL (L.set i emp)]).getD q emp) = sepL (L.set i emp) :: A :: M := by
    apply List.ext_getElem?
    intro q
    cases q with
    | zero => simp
    | succ q =>
      simp only [List.map_cons, List.getElem?_cons_succ, List.getElem?_map]
      by_cases hq : q < M.length + 1
      · rw [List.getElem?_range hq]
        simp only [Option.map_some, List.getD_eq_getElem?_getD]
        rw [List.getElem?_append_left (by simpa using hq)]
        rw [List.getElem?_eq_getElem (by simpa using hq)]
        rfl
      · simp [hq]
  rwa [e] at h3
theorem Holds.imp {i : Nat} {P : HProp} (Q : HProp) (hi : L[i]? = some P) (hPQ : ∀ h, P h → Q h) (H : Holds e w L) : Holds e w (L.set i Q) := ⟨H.1, H.2.imp hi hPQ⟩
theorem Holds.elim {i : Nat} {P : HProp} {α : Type} {Q : α → HProp} (hi : L[i]? = some P) (hPQ : ∀ h, P h → ∃ x, Q x h) (H : Holds e w L) : ∃ x, Holds e w (L.set i (Q x)) :=
  let ⟨x, hx⟩ := H.2.elim hi hPQ; ⟨x, H.1, hx⟩
theorem Holds.fact {i : Nat} {P : HProp} {p : Prop} (hi : L[i]? = some P) (hP : ∀ h, P h → p) (H : Holds e w L) : p := H.2.fact hi hP
theorem Holds.read {i : Nat} {P : HProp} {b : Nat} {o : Obj} (hi : L[i]? = some P) (hP : ∀ h, P h → h b = some o) (H : Holds e w L) : w.heap[b]? = some o := H.2.read hi hP

theorem Holds.at_ {i b : Nat} {cs : List Value} {t : TypeId} (H : Holds e w L) (hi : L[i]? = some (pt b cs t)) : w.heap[b]? = some (.cells cs.toArray t (0, 0)) :=
  H.read hi fun _ h => h

theorem Holds.lt {i : Nat} {P : HProp} {b : Nat} {o : Obj} (hi : L[i]? = some P) (hP : ∀ h, P h → h b = some o) (H : Holds e w L) : b < w.heap.size :=
  (Array.getElem?_eq_some_iff.1 (H.read hi hP)).1

/-- What the walk looks up: the cells of a block that stands at place i. -/
theorem Holds.cells {i b : Nat} {cs : List Value} {t : TypeId} (H : Holds e w L) (hi : L[i]? = some (Sep.pt b cs t)) (k : Nat) : w.cell? ⟨b, k, none⟩ = cs[k]? := by
  simp [World.cell?, H.at_ hi]
theorem Holds.free {i b : Nat} {cs : List Value} {t : TypeId} (H : Holds e w L) (hi : L[i]? = some (Sep.pt b cs t)) (k : Nat) : w.frozen? ⟨b, k, none⟩ = false := by
  simp [World.frozen?, H.at_ hi]
theorem Holds.cellsX {i b : Nat} {P : HProp} {cs : List Value} {t : TypeId} (H : Holds e w L) (hi : L[i]? = some P) (hP : ∀ h, P h → h b = some (.cells cs.toArray t (0, 0))) (k : Nat) : w.cell? ⟨b, k, none⟩ = cs[k]? := by
  simp [World.cell?, H.read hi hP]

theorem Holds.env {w' : World} (H : Holds e w L) (hh : w'.heap = w.heap) (h1 : w'.os = w.os) (h2 : w'.tape = w.tape) (h3 : w'.output = w.output) : Holds e w' L :=
  ⟨⟨h1.trans H.1.os, h2.trans H.1.tape, h3.trans H.1.output, by rw [hh]; exact H.1.size⟩, by rw [hh]; exact H.2⟩
theorem Holds.drew (H : Holds e w L) : Holds e w.drew L := H.env rfl rfl rfl rfl
theorem Holds.drewN (H : Holds e w L) (n : Nat) : Holds e (w.drewN n) L := H.env rfl rfl rfl rfl

/-- A new block. -/
theorem Holds.alloc (H : Holds e w L) (o : Obj) : Holds e (w.alloc o) (L ++ [pto w.heap.size o]) := by
  obtain ⟨E, f, h1, h2, h3⟩ := H
  have hlt : ∀ i b, f i b ≠ none → b < w.heap.size := fun i b hb => by
    cases hx : f i b with
    | none => exact (hb hx).elim
    | some o => exact (Array.getElem?_eq_some_iff.1 (h3 i b o hx)).1
  refine ⟨⟨E.os, E.tape, E.output, Nat.le_trans E.size (by simp)⟩, fun i => if i < L.length then f i else if i = L.length then fun b => if b = w.heap.size then some o else none else fun _ => none, ?_, ?_, ?_⟩
  · intro i P hi
    by_cases hl : i < L.length
    · simp only [hl, if_true]
      rw [List.getElem?_append_left hl] at hi
      exact h1 i P hi
    · rw [List.getElem?_append_right (by omega)] at hi
      have : i = L.length := by
        rcases Nat.lt_or_ge (i - L.length) 1 with h | h
        · omega
        · rw [List.getElem?_eq_none (by simpa using h)] at hi; cases hi
      subst this
      simp only [Nat.sub_self, List.getElem?_cons_zero, Option.some.injEq] at hi
      subst hi
      simp [pto]
  · intro i j b hij hb
    dsimp only at hb ⊢
    by_cases hi : i < L.length
    · simp only [hi, if_true] at hb
      by_cases hj : j < L.length
      · simp only [hj, if_true]; exact h2 i j b hij hb
      · simp only [hj, if_false]
        split
        · have := hlt i b hb
          dsimp only
          rw [if_neg (by omega)]
        · rfl
    · simp only [hi, if_false] at hb
      split at hb
      · rename_i e
        dsimp only at hb
        split at hb
        · rename_i eb
          by_cases hj : j < L.length
          · simp only [hj, if_true]
            cases hx : f j b with
            | none => rfl
            | some o => have := hlt j b (by rw [hx]; simp); omega
          · simp only [hj, if_false]; rw [if_neg (by omega)]
        · exact (hb rfl).elim
      · exact (hb rfl).elim
  · intro i b o' hb
    dsimp only at hb
    by_cases hi : i < L.length
    · simp only [hi, if_true] at hb
      have := hlt i b (by rw [hb]; simp)
      show (w.heap.push o)[b]? = _
      rw [Array.getElem?_push, if_neg (by omega)]
      exact h3 i b o' hb
    · simp only [hi, if_false] at hb
      split at hb
      · dsimp only at hb
        split at hb
        · rename_i eb
          cases hb
          subst eb
          show (w.heap.push _)[w.heap.size]? = _
          simp
        · cases hb
      · cases hb

theorem Holds.allocCells (H : Holds e w L) (cs : List Value) (t : TypeId) : Holds e (w.alloc (.cells cs.toArray t)) (L ++ [Sep.pt w.heap.size cs t]) := H.alloc _

/-- What holds of no memory at all may be added. -/
theorem Holds.addEmp {X : HProp} (H : Holds e w L) (hX : X fun _ => none) : Holds e w (L ++ [X]) := by
  obtain ⟨E, f, h1, h2, h3⟩ := H
  refine ⟨E, fun i => if i < L.length then f i else fun _ => none, ?_, ?_, ?_⟩
  · intro i P hi
    by_cases hl : i < L.length
    · simp only [hl, if_true]
      rw [List.getElem?_append_left hl] at hi
      exact h1 i P hi
    · rw [List.getElem?_append_right (by omega)] at hi
      have : i = L.length := by
        rcases Nat.lt_or_ge (i - L.length) 1 with h | h
        · omega
        · rw [List.getElem?_eq_none (by simpa using h)] at hi; cases hi
      subst this
      simp only [Nat.sub_self, List.getElem?_cons_zero, Option.some.injEq] at hi
      subst hi
      simpa using hX
  · intro i j b hij hb
    dsimp only at hb ⊢
    by_cases hi : i < L.length
    · simp only [hi, if_true] at hb
      by_cases hj : j < L.length
      · simp only [hj, if_true]; exact h2 i j b hij hb
      · simp [hj]
    · simp [hi] at hb
  · intro i b o hb
    dsimp only at hb
    by_cases hi : i < L.length
    · simp only [hi, if_true] at hb; exact h3 _ _ _ hb
    · simp [hi] at hb

/-- One block is turned. -/
theorem Holds.update {w' : World} {i b : Nat} {P P' : HProp} {o o' : Obj} (H : Holds e w L) (hi : L[i]? = some P) (hP : ∀ h, P h → h b = some o)
    (hP' : ∀ h, P h → P' (fun c => if c = b then some o' else h c)) (hb' : w'.heap[b]? = some o') (ho : ∀ c, c ≠ b → w'.heap[c]? = w.heap[c]?)
    (h1 : w'.os = w.os) (h2 : w'.tape = w.tape) (h3 : w'.output = w.output) (h4 : w'.heap.size = w.heap.size) : Holds e w' (L.set i P') := by
  obtain ⟨E, f, f1, f2, f3⟩ := H
  have hfb : f i b = some o := hP _ (f1 i P hi)
  have hother : ∀ j, j ≠ i → f j b = none := fun j hj => f2 i j b (Ne.symm hj) (by rw [hfb]; simp)
  refine ⟨⟨h1.trans E.os, h2.trans E.tape, h3.trans E.output, by rw [h4]; exact E.size⟩, fun j => if j = i then (fun c => if c = b then some o' else f i c) else f j, ?_, ?_, ?_⟩
  · intro j R hj
    rw [List.getElem?_set] at hj
    split at hj
    · rename_i eij; subst eij
      split at hj
      · cases hj; simp only [if_true]; exact hP' _ (f1 _ P hi)
      · cases hj
    · rename_i ne
      simp only [Ne.symm ne, if_false]
      exact f1 j R hj
  · intro j k c hjk hc
    dsimp only at hc ⊢
    by_cases hj : j = i
    · subst hj
      have hk : k ≠ j := Ne.symm hjk
      simp only [if_true, hk, if_false] at hc ⊢
      by_cases hcb : c = b
      · subst hcb; exact hother k hk
      · simp only [hcb, if_false] at hc; exact f2 j k c hjk hc
    · simp only [hj, if_false] at hc
      by_cases hk : k = i
      · subst hk
        simp only [if_true]
        by_cases hcb : c = b
        · subst hcb; exact (hc (hother j hj)).elim
        · simp only [hcb, if_false]; exact f2 j k c hjk hc
      · simp only [hk, if_false]; exact f2 j k c hjk hc
  · intro j c x hx
    dsimp only at hx
    by_cases hj : j = i
    · simp only [hj, if_true] at hx
      by_cases hcb : c = b
      · subst hcb; simp only [if_true, Option.some.injEq] at hx; subst hx; exact hb'
      · simp only [hcb, if_false] at hx; show w'.heap[c]? = _; rw [ho c hcb]; exact f3 i c x hx
    · simp only [hj, if_false] at hx
      have hcb : c ≠ b := fun ecb => by subst ecb; rw [hother j hj] at hx; cases hx
      show w'.heap[c]? = _; rw [ho c hcb]; exact f3 j c x hx

theorem Holds.setCell {i b off : Nat} {cs : List Value} {t : TypeId} (H : Holds e w L) (hi : L[i]? = some (Sep.pt b cs t)) (v : Value) :
    Holds e (w.setCell ⟨b, off, none⟩ v) (L.set i (Sep.pt b (cs.set off v) t)) := by
  refine H.update hi (fun _ h => h) (P' := Sep.pt b (cs.set off v) t) (fun h _ => by simp [Sep.pt]) (o' := .cells (cs.set off v).toArray t (0, 0)) ?_ ?_ rfl rfl rfl (by simp)
  · have h := H.at_ hi
    have := heap_setCell_same w b off cs.toArray t v h
    simpa using this
  · exact fun c hc => heap_setCell_other w _ c v hc

theorem Holds.setRow {i b : Nat} {cs cs' : List Value} {t : TypeId} (H : Holds e w L) (hi : L[i]? = some (Sep.pt b cs t)) :
    Holds e (w.setRow b cs'.toArray) (L.set i (Sep.pt b cs' t)) := by
  refine H.update hi (fun _ h => h) (P' := Sep.pt b cs' t) (fun h _ => by simp [Sep.pt]) (o' := .cells cs'.toArray t (0, 0)) ?_ ?_ ?_ ?_ ?_ (by simp)
  · exact setRow_heap w b cs.toArray _ t _ (H.at_ hi)
  · exact fun c hc => setRow_other w b c _ hc
  all_goals rfl

/-- The memory as it was: old blocks are as they were. -/
def Old (e : World) : HProp := fun h => ∀ b, b < e.heap.size → h b = e.heap[b]?

theorem Holds.start (e : World) : Holds e e [Old e] := by
  refine ⟨Env.refl e, fun i => if i = 0 then fun b => e.heap[b]? else fun _ => none, ?_, ?_, ?_⟩
  · intro i P hi
    cases i with
    | zero => simp at hi; subst hi; intro b _; rfl
    | succ i => simp at hi
  · intro i j b hij hb
    dsimp only at hb ⊢
    split at hb
    · rename_i e0; rw [if_neg (by omega)]
    · exact (hb rfl).elim
  · intro i b o hb
    dsimp only at hb
    split at hb
    · exact hb
    · cases hb

theorem Holds.old {i : Nat} (H : Holds e w L) (hi : L[i]? = some (Old e)) {b : Nat} {o : Obj} (hb : e.heap[b]? = some o) : w.heap[b]? = some o :=
  H.read hi fun _ h => by rw [h b (Array.getElem?_eq_some_iff.1 hb).1]; exact hb

theorem Holds.below {i : Nat} (H : Holds e w L) (hi : L[i]? = some (Old e)) : RowKit.Below e.heap.size e w := by
  refine ⟨H.1.os, H.1.tape, H.1.output, H.1.size, fun k hk => ?_⟩
  have : e.heap[k]? = some e.heap[k] := by simp [hk]
  rw [this]
  exact H.old hi this
end holds

end Go.Sep
/-
  The laws of single operations over 'Holds': a new block, a load and a store of several cells, append, a call by its contract.
-/
namespace Go.Sep
set_option linter.unusedSimpArgs false
set_option linter.unusedVariables false
open Go.RowKit

/-- What a type's row of the table says: its zero value, its cells, its bytes; is it a struct or an array? -/
class TI (P : Program) (t : TypeId) (z : outParam Value) (n : outParam Nat) (k : outParam Nat) : Prop where
  out : (P.info? t).map (fun i => (i.zero, i.size, i.bytes)) = some (some z, n, k)
class Agg (P : Program) (t : TypeId) : Prop where
  out : (match P.underlying t with | some (.struct _) => true | some (.array _ _) => true | _ => false) = true
class Flat (P : Program) (t : TypeId) : Prop where
  out : (match P.underlying t with | some (.struct _) => false | some (.array _ _) => false | some _ => true | none => false) = true
class SlT (P : Program) (t : TypeId) (e : outParam TypeId) : Prop where
  out : P.underlying t = some (.slice e)

section
variable {P : Program} {ops : Array Oper} {Q : Exit → Act → World → Prop} {K : Act → World → Prop} {a : Act} {e w : World} {rest : List Oper} {o : Oper} {L : List HProp}

theorem TI.info {t : TypeId} {z : Value} {n k : Nat} (h : TI P t z n k) : ∃ i, P.info? t = some i ∧ i.zero = some z ∧ i.size = n ∧ i.bytes = k := by
  have := h.out
  cases hi : P.info? t with
  | none => simp [hi] at this
  | some i => simp [hi] at this; exact ⟨i, rfl, this.1, this.2.1, this.2.2⟩

theorem Agg.run {t : TypeId} (h : Agg P t) (w : World) : (isAgg t).run P w = .ok true w := by
  have := h.out
  cases hu : P.underlying t with
  | none => simp [hu] at this
  | some d => cases d <;> simp [hu] at this <;> simp [isAgg, run_underlying hu]
theorem Flat.run {t : TypeId} (h : Flat P t) (w : World) : (isAgg t).run P w = .ok false w := by
  have := h.out
  cases hu : P.underlying t with
  | none => simp [hu] at this
  | some d => cases d <;> simp [hu] at this <;> simp [isAgg, run_underlying hu]
theorem TI.sizeOf_run {t : TypeId} {z : Value} {n k : Nat} (h : TI P t z n k) (w : World) : (sizeOf t).run P w = .ok n w := by
  obtain ⟨i, hi, _, hs, _⟩ := h.info
  simp [sizeOf, typeInfo, hi, hs]
theorem TI.zero_run {t : TypeId} {z : Value} {n k : Nat} (h : TI P t z n k) (w : World) : (zeroValue t).run P w = .ok z w := by
  obtain ⟨i, hi, hz, _⟩ := h.info
  simp [zeroValue, typeInfo, hi, hz]

/-- An operation whose guard lets it run. -/
theorem wpList_on (hwant : Region.wanted o (yielded ops a.tmps) = true) (h : o.wp P a w (wpList P ops Q rest) Q) : wpList P ops Q (o :: rest) a w := by
  unfold wpList
  rw [if_pos hwant]
  exact .inl h

theorem wp_box {T : TypeId} {x : Operand} (ho : o.op = .box T x) (hw : Holds e w L)
    (h : ∀ b w', Holds e w' (L ++ [pt b (a.eval x).cells.toList T]) → K (a.put o.dst (.pointer (some ⟨b, 0, none⟩))) w') : o.wp P a w K Q := by
  unfold Oper.wp execOp
  simp only [ho, Instr.box, newVar, newRow, Sem.run_bind, Sem.run_pure, run_newObj, Result.andThen_ok]
  refine h w.heap.size _ ?_
  have := hw.allocCells (a.eval x).cells.toList T
  simpa using this

theorem wp_alloc {T : TypeId} {z : Value} {n k : Nat} [ti : TI P T z n k] (ho : o.op = .alloc T) (hw : Holds e w L)
    (h : ∀ b w', Holds e w' (L ++ [pt b z.cells.toList T]) → K (a.put o.dst (.pointer (some ⟨b, 0, none⟩))) w') : o.wp P a w K Q := by
  unfold Oper.wp execOp
  simp only [ho, Instr.alloc, newVar, newRow, Sem.run_bind, Sem.run_pure, run_newObj, Result.andThen_ok, ti.zero_run]
  refine h w.heap.size _ ?_
  have := hw.allocCells z.cells.toList T
  simpa using this

/-- A slice literal. -/
theorem wp_buildSlice {t E : TypeId} {z : Value} {n k len : Nat} {parts : Array (Nat × Operand)} [st : SlT P t E] [ti : TI P E z n k] (cells : List Value) (ho : o.op = .buildSlice t len parts) (hw : Holds e w L)
    (hsz : len * n ≤ 16777216)
    (hf : Instr.fill (fun i => some (i * n, n)) ((Array.range (len * n)).map (fun j => z.cells[j % z.cells.size]!)) (parts.map fun x => (x.1, a.eval x.2)).toList = some cells.toArray)
    (hlen : cells.length = len * n)
    (h : ∀ b w', Holds e w' (L ++ [pt b cells E]) → K (a.put o.dst (.slice (some ⟨b, 0, none⟩) len len)) w') : o.wp P a w K Q := by
  unfold Oper.wp execOp
  have h24 : ¬ (len * n > 2 ^ 24) := by omega
  have fin : K (a.put o.dst (.slice (some ⟨w.heap.size, 0, none⟩) len len)) (w.alloc (.cells cells.toArray E)) := h w.heap.size _ (hw.allocCells cells E)
  by_cases h0 : len * n = 0
  · have hr0 : Array.range 0 = #[] := rfl
    simp only [h0, hr0, Array.map_empty] at hf
    simp only [ho, Instr.buildSlice, Sem.run_bind, run_underlying st.out, Result.andThen_ok, ti.sizeOf_run, if_false, h0, if_true, Sem.run_pure, hr0, Array.map_empty, show ¬ ((0 : Nat) > 2 ^ 24) from by omega, hf, newRow, run_newObj]
    exact fin
  · simp only [ho, Instr.buildSlice, Sem.run_bind, run_underlying st.out, Result.andThen_ok, ti.sizeOf_run, h24, if_false, h0, ti.zero_run, Sem.run_pure, hf, newRow, run_newObj]
    exact fin

theorem fill_one (n : Nat) (z : Array Value) (v : Value) (hz : z.size = n) (hv : v.cells.size = n) :
    Instr.fill (fun i => some (i * n, n)) ((Array.range (1 * n)).map (fun j => z[j % z.size]!)) [(0, v)] = some v.cells := by
  have key : ∀ (l : List Value) (pre : Array Value) (post : List Value), post.length = l.length →
      (l.zipIdx pre.size).foldl (fun (cs : Array Value) (x : Value × Nat) => cs.setIfInBounds (0 + x.2) x.1) (pre ++ post.toArray) = pre ++ l.toArray := by
    intro l
    induction l with
    | nil => intro pre post hp; have : post = [] := List.eq_nil_of_length_eq_zero (by simpa using hp); subst this; simp
    | cons x l ih =>
      intro pre post hp
      obtain ⟨p, post, rfl⟩ : ∃ p q, post = p :: q := by cases post with | nil => simp at hp | cons p q => exact ⟨p, q, rfl⟩
      simp only [List.zipIdx_cons, List.foldl_cons]
      have e1 : (pre ++ (p :: post).toArray).setIfInBounds (0 + pre.size) x = (pre.push x) ++ post.toArray := by
        apply Array.ext'
        simp
      rw [e1]
      have := ih (pre.push x) post (by simpa using hp)
      simp only [Array.size_push] at this
      rw [this]
      apply Array.ext'
      simp
  simp only [Instr.fill, hv, ne_eq, not_true, false_or, Nat.zero_mul, Nat.zero_add, Array.size_map, Array.size_range, Nat.one_mul, Nat.lt_irrefl, if_false, gt_iff_lt]
  have h := key v.cells.toList #[] ((Array.range n).map (fun j => z[j % z.size]!)).toList (by simp [hv])
  simp only [Array.size_empty, Array.empty_append, Array.toArray_toList] at h
  refine congrArg some (Eq.trans ?_ h)
  rw [← Array.foldl_toList, Array.toList_zipIdx]
  simp only [Nat.zero_add]

/-- A slice literal of one element. -/
theorem wp_bsl1 {t E : TypeId} {z v : Value} {n k : Nat} {x : Operand} [st : SlT P t E] [ti : TI P E z n k] (ho : o.op = .buildSlice t 1 #[(0, x)]) (hx : a.eval x = v) (hzs : z.cells.size = n) (hv : v.cells.size = n) (hn : n ≤ 16777216) (hw : Holds e w L)
    (h : ∀ b w', Holds e w' (L ++ [pt b v.cells.toList E]) → K (a.put o.dst (.slice (some ⟨b, 0, none⟩) 1 1)) w') : o.wp P a w K Q :=
  wp_buildSlice v.cells.toList ho hw (by omega) (by
    have := fill_one n z.cells v hzs hv
    simpa [hx] using this) (by simp [hv]) h
/-- The empty one. -/
theorem wp_bsl0 {t E : TypeId} {z : Value} {n k : Nat} [st : SlT P t E] [ti : TI P E z n k] (ho : o.op = .buildSlice t 0 #[]) (hw : Holds e w L)
    (h : ∀ b w', Holds e w' (L ++ [pt b [] E]) → K (a.put o.dst (.slice (some ⟨b, 0, none⟩) 0 0)) w') : o.wp P a w K Q :=
  wp_buildSlice [] ho hw (by omega) (by simp [Instr.fill]) (by simp) h

/-- A struct or an array is read whole. -/
theorem wp_loadN {T : TypeId} {x : Operand} {z : Value} {n k b off i : Nat} {cs vs : List Value} {t : TypeId} [ti : TI P T z n k] [ag : Agg P T] (ho : o.op = .load T x) (hx : a.eval x = .pointer (some ⟨b, off, none⟩))
    (hw : Holds e w L) (hi : L[i]? = some (pt b cs t)) (hl : vs.length = n) (hv : ∀ j v, vs[j]? = some v → cs[off + j]? = some v)
    (h : K (a.put o.dst (.agg vs.toArray)) w) : o.wp P a w K Q := by
  have hc := fun k => hw.cells hi k
  have hrun : (loadCells ⟨b, off, none⟩ vs.length).run P w = .ok vs.toArray w :=
    run_loadCells_list (P := P) w ⟨b, off, none⟩ vs (fun j v hj => by
      have hadd : (⟨b, off, none⟩ : Addr).add j = ⟨b, off + j, none⟩ := by unfold Addr.add; split <;> simp_all
      rw [hadd, hc]; exact hv j v hj)
  rw [hl] at hrun
  unfold Oper.wp execOp
  simp only [ho, hx, Instr.loadAt, Instr.sureAddr, loadVar, Sem.run_bind, Sem.run_pure, Result.andThen_ok, ag.run, if_true, ti.sizeOf_run, hrun]
  exact h

theorem wp_load1 {T : TypeId} {x : Operand} {b off i : Nat} {v : Value} {cs : List Value} {t : TypeId} [fl : Flat P T] (ho : o.op = .load T x) (hx : a.eval x = .pointer (some ⟨b, off, none⟩))
    (hw : Holds e w L) (hi : L[i]? = some (pt b cs t)) (hv : cs[off]? = some v)
    (h : K (a.put o.dst v) w) : o.wp P a w K Q := by
  have hc := (hw.cells hi off).trans hv
  unfold Oper.wp execOp
  simp only [ho, hx, Instr.loadAt, Instr.sureAddr, loadVar, Sem.run_bind, Sem.run_pure, Result.andThen_ok, fl.run, Bool.false_eq_true, if_false, run_load, hc]
  exact h

/-- A struct or an array that lies in a block of its own, as a function's result. -/
theorem run_loadVar_block {ty : TypeId} {z : Value} {n k b i : Nat} {cs : List Value} {t : TypeId} [ti : TI P ty z n k] [ag : Agg P ty] (hw : Holds e w L) (hi : L[i]? = some (pt b cs t)) (hl : cs.length = n) :
    (loadVar ty ⟨b, 0, none⟩).run P w = .ok (.agg cs.toArray) w := by
  have hc := fun k => hw.cells hi k
  have hrun : (loadCells ⟨b, 0, none⟩ cs.length).run P w = .ok cs.toArray w :=
    run_loadCells_list (P := P) w ⟨b, 0, none⟩ cs (fun j v hj => by
      have hadd : (⟨b, 0, none⟩ : Addr).add j = ⟨b, j, none⟩ := by unfold Addr.add; split <;> simp_all
      rw [hadd, hc]; exact hj)
  rw [hl] at hrun
  simp only [loadVar, Sem.run_bind, ag.run, Result.andThen_ok, if_true, ti.sizeOf_run, hrun, Sem.run_pure]
theorem res_cell_tmp {fn : Func} {p q : Tmp} {ty : TypeId} {z v : Value} {n k b i : Nat} {cs : List Value} {t : TypeId} {tmps : Array Value} [ti : TI P ty z n k] [ag : Agg P ty] (h : fn.results = #[.cell p ty, .tmp q])
    (hp : tmps.getD p undef = .pointer (some ⟨b, 0, none⟩)) (hq : tmps.getD q undef = v) (hw : Holds e w L) (hi : L[i]? = some (pt b cs t)) (hl : cs.length = n) :
    (results fn tmps).run P w = .ok (.tuple #[.agg cs.toArray, v]) w := by
  have hr := run_loadVar_block (P := P) (ty := ty) hw hi hl
  have hp' : tmps[p]?.getD undef = .pointer (some ⟨b, 0, none⟩) := by simpa using hp
  have hq' : tmps[q]?.getD undef = v := by simpa using hq
  simp [results, h, hp', hq', asAddr, hr]
theorem res_cell {fn : Func} {p : Tmp} {ty : TypeId} {z : Value} {n k b i : Nat} {cs : List Value} {t : TypeId} {tmps : Array Value} [ti : TI P ty z n k] [ag : Agg P ty] (h : fn.results = #[.cell p ty])
    (hp : tmps.getD p undef = .pointer (some ⟨b, 0, none⟩)) (hw : Holds e w L) (hi : L[i]? = some (pt b cs t)) (hl : cs.length = n) :
    (results fn tmps).run P w = .ok (.agg cs.toArray) w := by
  have hr := run_loadVar_block (P := P) (ty := ty) hw hi hl
  have hp' : tmps[p]?.getD undef = .pointer (some ⟨b, 0, none⟩) := by simpa using hp
  simp [results, h, hp', asAddr, hr]

/-- A store of n cells. -/
theorem wp_storeN {T : TypeId} {x y : Operand} {z : Value} {n k b off i : Nat} {cs : List Value} {vs : List Value} {t : TypeId} [ti : TI P T z n k] (ho : o.op = .store T x y) (hx : a.eval x = .pointer (some ⟨b, off, none⟩))
    (hy : (a.eval y).cells.toList = vs) (hw : Holds e w L) (hi : L[i]? = some (pt b cs t)) (hn : vs.length = n) (hfit : off + n ≤ cs.length) (h1 : ∀ v ∈ vs, v.oneCell' = true)
    (h : ∀ w', Holds e w' (L.set i (pt b (splice cs off vs) t)) → K (a.put o.dst undef) w') : o.wp P a w K Q := by
  have hst := run_storeCells_at P b off t vs 0 cs.toArray w (hw.at_ hi) (by simp; omega) h1
  have hsz : (a.eval y).cells.size = n := by rw [← hn, ← hy]; simp
  have hcl : (a.eval y).cells.toList = vs := hy
  unfold Oper.wp execOp
  simp only [ho, hx, Instr.storeAt, Instr.sureAddr, storeVar, Sem.run_bind, Sem.run_pure, Result.andThen_ok, ti.sizeOf_run, hsz, ne_eq, not_true, if_false, hcl, hst]
  refine h _ ?_
  have := hw.setRow (cs' := splice cs off vs) hi
  simpa [splice] using this

/-- A store of several cells that the walk has already begun. -/
theorem upon_storeN {b off i : Nat} {cs : List Value} {vs : List Value} {t : TypeId} (hw : Holds e w L) (hi : L[i]? = some (pt b cs t)) (hfit : off + vs.length ≤ cs.length) (h1 : ∀ v ∈ vs, v.oneCell' = true)
    (h : ∀ w', Holds e w' (L.set i (pt b (splice cs off vs) t)) → K (a.put o.dst undef) w') : o.upon P a K Q ((Sem.run P (storeCells ⟨b, off, none⟩ vs) w).andThen fun _ w' => .ok .skip w') := by
  have hst := run_storeCells_at P b off t vs 0 cs.toArray w (hw.at_ hi) (by simp; omega) h1
  rw [hst]
  refine h _ ?_
  have := hw.setRow (cs' := splice cs off vs) hi
  simpa [splice] using this

theorem wp_storeAll {T : TypeId} {x y : Operand} {z : Value} {n k b i : Nat} {cs : List Value} {vs : List Value} {t : TypeId} [ti : TI P T z n k] (ho : o.op = .store T x y) (hx : a.eval x = .pointer (some ⟨b, 0, none⟩))
    (hy : (a.eval y).cells.toList = vs) (hw : Holds e w L) (hi : L[i]? = some (pt b cs t)) (hn : vs.length = n) (hl : cs.length = n) (h1 : ∀ v ∈ vs, v.oneCell' = true)
    (h : ∀ w', Holds e w' (L.set i (pt b vs t)) → K (a.put o.dst undef) w') : o.wp P a w K Q := by
  refine wp_storeN ho hx hy hw hi hn (by omega) h1 (fun w' hw' => h w' ?_)
  have : splice cs 0 vs = vs := by
    unfold splice
    rw [Nat.zero_add, hn, ← hl, List.drop_length]; simp
  rwa [this] at hw'
theorem wp_store1 {T : TypeId} {x y : Operand} {z v : Value} {k b off i : Nat} {cs : List Value} {t : TypeId} [ti : TI P T z 1 k] (ho : o.op = .store T x y) (hx : a.eval x = .pointer (some ⟨b, off, none⟩))
    (hy : a.eval y = v) (hw : Holds e w L) (hi : L[i]? = some (pt b cs t)) (hfit : off < cs.length) (h1 : v.oneCell' = true)
    (h : ∀ w', Holds e w' (L.set i (pt b (cs.set off v) t)) → K (a.put o.dst undef) w') : o.wp P a w K Q := by
  have hc1 : v.cells = #[v] := by cases v <;> simp [Value.oneCell'] at h1 <;> rfl
  have hcell : w.cell? ⟨b, off, none⟩ = some cs[off] := by rw [hw.cells hi]; simp [hfit]
  have hfro := hw.free hi off
  have hst := run_store P w ⟨b, off, none⟩ v .plain h1
  rw [hcell] at hst
  simp only [hfro, Bool.false_eq_true, if_false] at hst
  have hadd : (⟨b, off, none⟩ : Addr).add 0 = ⟨b, off, none⟩ := rfl
  unfold Oper.wp execOp
  simp only [ho, hx, hy, Instr.storeAt, Instr.sureAddr, storeVar, storeCells, hc1, Sem.run_bind, Sem.run_pure, Result.andThen_ok, ti.sizeOf_run, hst, hadd, List.size_toArray, List.length_cons, List.length_nil, ne_eq, not_true, if_false, Nat.zero_add]
  exact h _ (hw.setCell hi v)

/-- A slice that is held: n elements of sz cells each, which are cs; what stands ahead of it and behind it in its array is nobody's. -/
def Sl (T : TypeId) (sz : Nat) (v : Value) (n : Nat) (cs : List Value) : HProp := fun h =>
  cs.length = n * sz ∧ ((v = .slice none 0 0 ∧ n = 0) ∨
    ∃ b cap pre post, v = .slice (some ⟨b, pre.length, none⟩) n cap ∧ n ≤ cap ∧ cap ≤ maxLen ∧ (cap - n) * sz ≤ post.length ∧ h b = some (.cells (mid pre cs post).toArray T (0, 0)))

theorem Sl.nil (T sz : Nat) (h : Heap) : Sl T sz (.slice none 0 0) 0 [] h := ⟨by simp, .inl ⟨rfl, rfl⟩⟩

theorem Holds.newSl {i b : Nat} {cs : List Value} {T : TypeId} (hw : Holds e w L) (hi : L[i]? = some (pt b cs T)) (sz n : Nat) (hl : cs.length = n * sz) (hm : n ≤ maxLen) :
    Holds e w (L.set i (Sl T sz (.slice (some ⟨b, 0, none⟩) n n) n cs)) :=
  hw.imp _ hi fun h hp => ⟨hl, .inr ⟨b, n, [], [], rfl, Nat.le_refl _, hm, by simp, by simpa [pt, mid] using hp⟩⟩

theorem Holds.openSl {i sz n : Nat} {v : Value} {cs : List Value} {T : TypeId} (hw : Holds e w L) (hi : L[i]? = some (Sl T sz v n cs)) :
    (v = .slice none 0 0 ∧ n = 0 ∧ cs = []) ∨ ∃ b cap pre post, v = .slice (some ⟨b, pre.length, none⟩) n cap ∧ n ≤ cap ∧ cap ≤ maxLen ∧ (cap - n) * sz ≤ post.length ∧ Holds e w (L.set i (pt b (mid pre cs post) T)) := by
  obtain ⟨E, f, f1, f2, f3⟩ := hw
  obtain ⟨hl, h | ⟨b, cap, pre, post, hv, h1, h2, h3, h4⟩⟩ := f1 i _ hi
  · obtain ⟨h1, rfl⟩ := h
    exact .inl ⟨h1, rfl, List.eq_nil_of_length_eq_zero (by simpa using hl)⟩
  · refine .inr ⟨b, cap, pre, post, hv, h1, h2, h3, E, f, ?_, f2, f3⟩
    intro j R hj
    rw [List.getElem?_set] at hj
    split at hj
    · rename_i e; subst e
      split at hj
      · cases hj; exact h4
      · cases hj
    · exact f1 j R hj
theorem Holds.closeSl {i sz n b cap : Nat} {pre cs post : List Value} {T : TypeId} (hw : Holds e w L) (hi : L[i]? = some (pt b (mid pre cs post) T)) (hl : cs.length = n * sz) (h1 : n ≤ cap) (h2 : cap ≤ maxLen) (h3 : (cap - n) * sz ≤ post.length) :
    Holds e w (L.set i (Sl T sz (.slice (some ⟨b, pre.length, none⟩) n cap) n cs)) :=
  hw.imp _ hi fun _ hp => ⟨hl, .inr ⟨b, cap, pre, post, rfl, h1, h2, h3, hp⟩⟩

/-- append: the slice at place i grows by what stands at place j. -/
theorem wp_append {t E : TypeId} {z : Value} {sz k : Nat} {s x : Operand} [st : SlT P t E] [ti : TI P E z sz k]
    (ho : o.op = .call { callee := .builtin .append, args := #[s, x], argTypes := #[t, t] }) {i n m c : Nat} {v : Value} {cs news : List Value} (hs : a.eval s = v) (hw : Holds e w L) (hi : L[i]? = some (Sl E sz v n cs))
    (ad : Addr) (hx : a.eval x = .slice (some ad) m c) (hl : news.length = m * sz) (hnews : ∀ j u, news[j]? = some u → w.cell? (ad.add j) = some u) (h1 : ∀ u ∈ news, u.oneCell' = true) (hm : 0 < m) (hzs : z.cells.size = sz)
    (h63 : n + m ≤ maxLen) (hbytes : (n + m) * k ≤ 140737488355328)
    (h : ∀ b cap off w', n + m ≤ cap → Holds e w' (L.set i (Sl E sz (.slice (some ⟨b, off, none⟩) (n + m) cap) (n + m) (cs ++ news))) → K (a.put o.dst (.slice (some ⟨b, off, none⟩) (n + m) cap)) w') : o.wp P a w K Q := by
  obtain ⟨ii, hii, hz0, hz1, hz2⟩ := ti.info
  have hcs : cs.length = n * sz := hw.fact hi fun h hp => hp.1
  have hsmall : n + m ≤ 9223372036854775807 := by simp only [maxLen] at h63; omega
  have grown : ∀ old, old < n + m → Holds e (w.drew.alloc (.cells (cs.toArray ++ news.toArray ++ Builtin.zeroCells z.cells (grownCap w (n + m) old E - (n + m))) E))
      (L.set i (Sl E sz (.slice (some ⟨w.heap.size, 0, none⟩) (n + m) (grownCap w (n + m) old E)) (n + m) (cs ++ news))) := by
    intro old hold
    have hge := grownCap_ge w (n + m) old E
    have hcm : grownCap w (n + m) old E ≤ maxLen := grownCap_le_maxLen w (n + m) old E h63
    have h1 := (hw.drew.alloc (.cells (cs.toArray ++ news.toArray ++ Builtin.zeroCells z.cells (grownCap w (n + m) old E - (n + m))) E))
    have hil : i < L.length := (List.getElem?_eq_some_iff.1 hi).1
    have h2 := h1.swapIn hil
    have h4 := h2.imp (i := i) (Sl E sz (.slice (some ⟨w.heap.size, 0, none⟩) (n + m) (grownCap w (n + m) old E)) (n + m) (cs ++ news)) (by rw [List.getElem?_set_self hil]) (fun hh hp => by
      refine ⟨by rw [List.length_append, hcs, hl, Nat.add_mul], .inr ⟨w.heap.size, _, [], (Builtin.zeroCells z.cells (grownCap w (n + m) old E - (n + m))).toList, rfl, hge, hcm, ?_, ?_⟩⟩
      · rw [Array.length_toList, size_zeroCells, hzs]; exact Nat.le_refl _
      · simp only [pto, World.size_drew] at hp
        rw [hp]
        congr 2
        apply Array.ext'
        simp [mid])
    rwa [List.set_set] at h4
  have key : ∃ b off cap w', n + m ≤ cap ∧ (Builtin.append_ #[t, t] o.type #[v, .slice (some ad) m c]).run P w = .ok (.slice (some ⟨b, off, none⟩) (n + m) cap) w' ∧
      Holds e w' (L.set i (Sl E sz (.slice (some ⟨b, off, none⟩) (n + m) cap) (n + m) (cs ++ news))) := by
    rcases hw.openSl hi with ⟨rfl, rfl, rfl⟩ | ⟨b, cap, pre, post, rfl, hnc, hcm, hpost, hH⟩
    · have hr := run_append_nil (P := P) w t o.type E ii z st.out hii hz0 ad m c news (by rw [hl, hz1]) hnews hm (by omega) (by rw [hz2]; simp only [Nat.zero_add] at hbytes; omega)
      have hg := grown 0 (by omega)
      simp only [Nat.zero_add, List.nil_append, Array.empty_append] at hg ⊢
      exact ⟨_, _, _, _, by have := grownCap_ge w m 0 E; exact this, hr, by simpa using hg⟩
    · have hil : i < L.length := (List.getElem?_eq_some_iff.1 hi).1
      have hH : Holds e w (L.set i (pt b (pre ++ cs ++ post) E)) := hH
      have hii' : (L.set i (pt b (pre ++ cs ++ post) E))[i]? = some (pt b (pre ++ cs ++ post) E) := List.getElem?_set_self hil
      have hwb := hH.at_ hii'
      by_cases hroom : n + m ≤ cap
      · -- there is room
        have hf := run_firstCells_some (P := P) w ii.size m ad m c news (by rw [hl, hz1]) hnews
        have hle : m * sz ≤ (cap - n) * sz := Nat.mul_le_mul_right _ (by omega)
        have hst := run_storeCells_at P b (pre.length + n * ii.size) E news 0 (pre ++ cs ++ post).toArray w hwb (by
            simp only [Nat.add_zero, List.size_toArray, List.length_append, hz1, hcs, hl]
            omega) h1
        have hadd : (⟨b, pre.length, none⟩ : Addr).add (n * ii.size) = ⟨b, pre.length + n * ii.size, none⟩ := by unfold Addr.add; split <;> simp_all
        refine ⟨b, pre.length, cap, w.setRow b (pre ++ cs ++ news ++ post.drop (m * sz)).toArray, hroom, ?_, ?_⟩
        · have hcells : ((pre ++ cs ++ post).toArray.toList.take (pre.length + n * ii.size + 0) ++ news ++ (pre ++ cs ++ post).toArray.toList.drop (pre.length + n * ii.size + 0 + news.length)).toArray = (pre ++ cs ++ news ++ post.drop (m * sz)).toArray := by
            congr 1
            have e1 : pre.length + n * ii.size + 0 = (pre ++ cs).length := by simp [hz1, hcs]
            rw [e1]
            simp only [List.append_assoc]
            rw [← List.append_assoc pre cs post, List.take_left, ← List.drop_drop, List.drop_left, hl]
            simp
          rw [hcells] at hst
          simp [Builtin.append_, run_underlying st.out, sizeOf, typeInfo, hii, Builtin.lenOf, hroom, hf, hadd, hst]
        · have h5 := hH.setRow (cs' := pre ++ cs ++ news ++ post.drop (m * sz)) hii'
          rw [List.set_set] at h5
          have h6 := h5.imp (i := i) (Sl E sz (.slice (some ⟨b, pre.length, none⟩) (n + m) cap) (n + m) (cs ++ news)) (List.getElem?_set_self hil) (fun hh hp => by
            refine ⟨by rw [List.length_append, hcs, hl, Nat.add_mul], .inr ⟨b, cap, pre, post.drop (m * sz), rfl, hroom, hcm, ?_, ?_⟩⟩
            · rw [List.length_drop]
              have : (cap - n) * sz = (cap - (n + m)) * sz + m * sz := by rw [← Nat.add_mul]; congr 1; omega
              omega
            · simp only [pt] at hp
              rw [hp]; simp [mid])
          rwa [List.set_set] at h6
      · have hr := run_append_grow (P := P) w t o.type E ii z st.out hii hz0 ⟨b, pre.length, none⟩ n cap cs (by rw [hcs, hz1]) (fun j u hj => by
            have hadd : (⟨b, pre.length, none⟩ : Addr).add j = ⟨b, pre.length + j, none⟩ := by unfold Addr.add; split <;> simp_all
            rw [hadd, hH.cells hii', List.append_assoc, List.getElem?_append_right (by omega)]
            rw [show pre.length + j - pre.length = j by omega, List.getElem?_append_left (List.getElem?_eq_some_iff.1 hj).1]; exact hj)
          ad m c news (by rw [hl, hz1]) hnews (by omega) (by omega) (growslice_fits (by omega) (by rw [hz2]; exact hbytes))
        exact ⟨_, _, _, _, grownCap_ge w (n + m) cap E, hr, grown cap (by omega)⟩
  obtain ⟨b, off, cap, w', hcap, hr, hH⟩ := key
  unfold Oper.wp execOp
  simp only [ho, resolve, invoke, builtin, Sem.run_bind, Sem.run_pure, Result.andThen_ok, List.map_toArray, List.map_cons, List.map_nil, hs, hx, hr]
  exact h b cap off w' hcap hH

/-- append of what a literal holds. -/
theorem wp_appendPt {t E T' : TypeId} {z : Value} {sz k : Nat} {s x : Operand} [st : SlT P t E] [ti : TI P E z sz k]
    (ho : o.op = .call { callee := .builtin .append, args := #[s, x], argTypes := #[t, t] }) {i j n m c b' : Nat} {v : Value} {cs news : List Value} (hs : a.eval s = v) (hw : Holds e w L) (hi : L[i]? = some (Sl E sz v n cs))
    (hx : a.eval x = .slice (some ⟨b', 0, none⟩) m c) (hj : L[j]? = some (pt b' news T')) (hl : news.length = m * sz) (h1 : ∀ u ∈ news, u.oneCell' = true) (hm : 0 < m) (hzs : z.cells.size = sz)
    (h63 : n + m ≤ maxLen) (hbytes : (n + m) * k ≤ 140737488355328)
    (h : ∀ b cap off w', n + m ≤ cap → Holds e w' (L.set i (Sl E sz (.slice (some ⟨b, off, none⟩) (n + m) cap) (n + m) (cs ++ news))) → K (a.put o.dst (.slice (some ⟨b, off, none⟩) (n + m) cap)) w') : o.wp P a w K Q :=
  wp_append ho hs hw hi ⟨b', 0, none⟩ hx hl (fun q u hq => by
    have hadd : (⟨b', 0, none⟩ : Addr).add q = ⟨b', q, none⟩ := by unfold Addr.add; split <;> simp_all
    rw [hadd, hw.cells hj]; exact hq) h1 hm hzs h63 hbytes h

/-- A call of a function value. -/
def HasBody (P : Program) (f : FuncId) : Prop := ∃ fn, P.funcs[f]? = some fn ∧ fn.body.isNone = false ∧ (fn.name == "runtime.NumGoroutine") = false
theorem wp_callv {args' : List Value} {f : Operand} {args : Array Operand} {ts : Array TypeId} {fm : FuncId} {first cap : Array Value} (ho : o.op = .call { callee := .value f, args := args, argTypes := ts }) (hf : a.eval f = .func (.func fm) first cap)
    (hb : HasBody P fm) (hargs : first.toList ++ args.toList.map a.eval ++ cap.toList = args') (h : Calls P fm args'.toArray w fun en w'' => ∃ v, en = .returned v ∧ K (a.put o.dst v) w'') : o.wp P a w K Q := by
  obtain ⟨fn, hfn, hbody, hname⟩ := hb
  have hargs' : args'.toArray = first ++ args.map a.eval ++ cap := by subst hargs; simp
  rw [hargs'] at h
  unfold Oper.wp execOp
  have hr : (callFunc fm (first ++ args.map a.eval ++ cap)).run P w = .ok (.enter fm (first ++ args.map a.eval ++ cap)) w := by
    have h1 : fn.name ≠ "runtime.NumGoroutine" := by simpa using hname
    have h2 : fn.body ≠ none := by intro h0; simp [h0] at hbody
    simp [callFunc, hfn, h1, h2]
  simp only [ho, resolve, hf, Deferred.ofValue, invoke, Sem.run_bind, Sem.run_pure, Result.andThen_ok, hr]
  exact h.mono fun en w'' ⟨v, he, hk⟩ => by subst he; exact hk
end
end Go.Sep
/-
  What the types' table says of each type of this translation, as instances; printed by a program of ours (types.py).
-/
namespace Go.Proofs.YteinbojpmhblkaaDoor
instance ti1 : Sep.TI Tryd.prog 1 .nilFunc 1 8 := ⟨by kernel_rfl⟩
instance flat1 : Sep.Flat Tryd.prog 1 := ⟨by kernel_rfl⟩
instance ti2 : Sep.TI Tryd.prog 2 (.int .i64 0) 1 8 := ⟨by kernel_rfl⟩
instance flat2 : Sep.Flat Tryd.prog 2 := ⟨by kernel_rfl⟩
instance ti3 : Sep.TI Tryd.prog 3 (.int .i64 0) 1 8 := ⟨by kernel_rfl⟩
instance flat3 : Sep.Flat Tryd.prog 3 := ⟨by kernel_rfl⟩
instance ti4 : Sep.TI Tryd.prog 4 (.bool false) 1 1 := ⟨by kernel_rfl⟩
instance flat4 : Sep.Flat Tryd.prog 4 := ⟨by kernel_rfl⟩
instance ti5 : Sep.TI Tryd.prog 5 (.int .u8 0) 1 1 := ⟨by kernel_rfl⟩
instance flat5 : Sep.Flat Tryd.prog 5 := ⟨by kernel_rfl⟩
instance ti6 : Sep.TI Tryd.prog 6 (.int .u8 0) 1 1 := ⟨by kernel_rfl⟩
instance flat6 : Sep.Flat Tryd.prog 6 := ⟨by kernel_rfl⟩
instance ti7 : Sep.TI Tryd.prog 7 (.agg #[(.int .i64 0), (.int .i64 0), (.bool false), (.int .u8 0)]) 4 24 := ⟨by kernel_rfl⟩
instance agg7 : Sep.Agg Tryd.prog 7 := ⟨by kernel_rfl⟩
instance ti8 : Sep.TI Tryd.prog 8 (.agg #[(.int .i64 0), (.int .i64 0), (.bool false), (.int .u8 0)]) 4 24 := ⟨by kernel_rfl⟩
instance agg8 : Sep.Agg Tryd.prog 8 := ⟨by kernel_rfl⟩
instance ti9 : Sep.TI Tryd.prog 9 (.string .empty) 1 16 := ⟨by kernel_rfl⟩
instance flat9 : Sep.Flat Tryd.prog 9 := ⟨by kernel_rfl⟩
instance ti10 : Sep.TI Tryd.prog 10 (.string .empty) 1 16 := ⟨by kernel_rfl⟩
instance flat10 : Sep.Flat Tryd.prog 10 := ⟨by kernel_rfl⟩
instance ti11 : Sep.TI Tryd.prog 11 (.string .empty) 1 16 := ⟨by kernel_rfl⟩
instance flat11 : Sep.Flat Tryd.prog 11 := ⟨by kernel_rfl⟩
instance ti12 : Sep.TI Tryd.prog 12 (.int .u64 0) 1 8 := ⟨by kernel_rfl⟩
instance flat12 : Sep.Flat Tryd.prog 12 := ⟨by kernel_rfl⟩
instance ti13 : Sep.TI Tryd.prog 13 (.agg #[(.string .empty), (.int .u64 0)]) 2 24 := ⟨by kernel_rfl⟩
instance agg13 : Sep.Agg Tryd.prog 13 := ⟨by kernel_rfl⟩
instance ti14 : Sep.TI Tryd.prog 14 (.agg #[(.string .empty), (.int .u64 0)]) 2 24 := ⟨by kernel_rfl⟩
instance agg14 : Sep.Agg Tryd.prog 14 := ⟨by kernel_rfl⟩
instance ti15 : Sep.TI Tryd.prog 15 (.pointer none) 1 8 := ⟨by kernel_rfl⟩
instance flat15 : Sep.Flat Tryd.prog 15 := ⟨by kernel_rfl⟩
instance ti16 : Sep.TI Tryd.prog 16 (.pointer none) 1 8 := ⟨by kernel_rfl⟩
instance flat16 : Sep.Flat Tryd.prog 16 := ⟨by kernel_rfl⟩
instance ti17 : Sep.TI Tryd.prog 17 (.pointer none) 1 8 := ⟨by kernel_rfl⟩
instance flat17 : Sep.Flat Tryd.prog 17 := ⟨by kernel_rfl⟩
instance ti18 : Sep.TI Tryd.prog 18 (.agg #[(.pointer none)]) 1 8 := ⟨by kernel_rfl⟩
instance agg18 : Sep.Agg Tryd.prog 18 := ⟨by kernel_rfl⟩
instance ti19 : Sep.TI Tryd.prog 19 (.agg #[(.pointer none)]) 1 8 := ⟨by kernel_rfl⟩
instance agg19 : Sep.Agg Tryd.prog 19 := ⟨by kernel_rfl⟩
instance ti20 : Sep.TI Tryd.prog 20 .nilIface 1 16 := ⟨by kernel_rfl⟩
instance flat20 : Sep.Flat Tryd.prog 20 := ⟨by kernel_rfl⟩
instance ti21 : Sep.TI Tryd.prog 21 (.int .i32 0) 1 4 := ⟨by kernel_rfl⟩
instance flat21 : Sep.Flat Tryd.prog 21 := ⟨by kernel_rfl⟩
instance ti22 : Sep.TI Tryd.prog 22 (.agg #[(.int .i64 0), (.int .i64 0), (.int .i64 0)]) 3 24 := ⟨by kernel_rfl⟩
instance agg22 : Sep.Agg Tryd.prog 22 := ⟨by kernel_rfl⟩
instance ti23 : Sep.TI Tryd.prog 23 (.agg #[(.int .i64 0), (.int .i64 0), (.int .i64 0)]) 3 24 := ⟨by kernel_rfl⟩
instance agg23 : Sep.Agg Tryd.prog 23 := ⟨by kernel_rfl⟩
instance ti24 : Sep.TI Tryd.prog 24 (.agg #[(.int .i64 0), (.int .i64 0), (.int .i64 0), (.int .i64 0)]) 4 32 := ⟨by kernel_rfl⟩
instance agg24 : Sep.Agg Tryd.prog 24 := ⟨by kernel_rfl⟩
instance ti25 : Sep.TI Tryd.prog 25 (.slice none 0 0) 1 24 := ⟨by kernel_rfl⟩
instance flat25 : Sep.Flat Tryd.prog 25 := ⟨by kernel_rfl⟩
instance sl25 : Sep.SlT Tryd.prog 25 57 := ⟨by kernel_rfl⟩
instance ti26 : Sep.TI Tryd.prog 26 (.slice none 0 0) 1 24 := ⟨by kernel_rfl⟩
instance flat26 : Sep.Flat Tryd.prog 26 := ⟨by kernel_rfl⟩
instance sl26 : Sep.SlT Tryd.prog 26 23 := ⟨by kernel_rfl⟩
instance ti27 : Sep.TI Tryd.prog 27 (.agg #[(.int .i64 0), (.int .i64 0), (.int .i64 0), (.int .i64 0), (.slice none 0 0), (.slice none 0 0)]) 6 80 := ⟨by kernel_rfl⟩
instance agg27 : Sep.Agg Tryd.prog 27 := ⟨by kernel_rfl⟩
instance ti28 : Sep.TI Tryd.prog 28 (.agg #[(.int .i64 0), (.int .i64 0), (.int .i64 0), (.int .i64 0), (.slice none 0 0), (.slice none 0 0)]) 6 80 := ⟨by kernel_rfl⟩
instance agg28 : Sep.Agg Tryd.prog 28 := ⟨by kernel_rfl⟩
instance ti29 : Sep.TI Tryd.prog 29 (.slice none 0 0) 1 24 := ⟨by kernel_rfl⟩
instance flat29 : Sep.Flat Tryd.prog 29 := ⟨by kernel_rfl⟩
instance sl29 : Sep.SlT Tryd.prog 29 5 := ⟨by kernel_rfl⟩
instance ti30 : Sep.TI Tryd.prog 30 .nilFunc 1 8 := ⟨by kernel_rfl⟩
instance flat30 : Sep.Flat Tryd.prog 30 := ⟨by kernel_rfl⟩
instance ti31 : Sep.TI Tryd.prog 31 .nilFunc 1 8 := ⟨by kernel_rfl⟩
instance flat31 : Sep.Flat Tryd.prog 31 := ⟨by kernel_rfl⟩
instance ti32 : Sep.TI Tryd.prog 32 (.int .i64 0) 1 8 := ⟨by kernel_rfl⟩
instance flat32 : Sep.Flat Tryd.prog 32 := ⟨by kernel_rfl⟩
instance ti34 : Sep.TI Tryd.prog 34 .nilFunc 1 8 := ⟨by kernel_rfl⟩
instance flat34 : Sep.Flat Tryd.prog 34 := ⟨by kernel_rfl⟩
instance ti35 : Sep.TI Tryd.prog 35 .nilFunc 1 8 := ⟨by kernel_rfl⟩
instance flat35 : Sep.Flat Tryd.prog 35 := ⟨by kernel_rfl⟩
instance ti36 : Sep.TI Tryd.prog 36 (.slice none 0 0) 1 24 := ⟨by kernel_rfl⟩
instance flat36 : Sep.Flat Tryd.prog 36 := ⟨by kernel_rfl⟩
instance sl36 : Sep.SlT Tryd.prog 36 62 := ⟨by kernel_rfl⟩
instance ti37 : Sep.TI Tryd.prog 37 (.slice none 0 0) 1 24 := ⟨by kernel_rfl⟩
instance flat37 : Sep.Flat Tryd.prog 37 := ⟨by kernel_rfl⟩
instance sl37 : Sep.SlT Tryd.prog 37 47 := ⟨by kernel_rfl⟩
instance ti38 : Sep.TI Tryd.prog 38 (.agg #[(.int .i64 0), (.int .i64 0), (.int .i64 0), (.int .i64 0), (.slice none 0 0), (.slice none 0 0)]) 6 80 := ⟨by kernel_rfl⟩
instance agg38 : Sep.Agg Tryd.prog 38 := ⟨by kernel_rfl⟩
instance ti39 : Sep.TI Tryd.prog 39 (.agg #[(.int .i64 0), (.int .i64 0), (.int .i64 0), (.int .i64 0), (.slice none 0 0), (.slice none 0 0)]) 6 80 := ⟨by kernel_rfl⟩
instance agg39 : Sep.Agg Tryd.prog 39 := ⟨by kernel_rfl⟩
instance ti40 : Sep.TI Tryd.prog 40 .nilFunc 1 8 := ⟨by kernel_rfl⟩
instance flat40 : Sep.Flat Tryd.prog 40 := ⟨by kernel_rfl⟩
instance ti42 : Sep.TI Tryd.prog 42 .nilFunc 1 8 := ⟨by kernel_rfl⟩
instance flat42 : Sep.Flat Tryd.prog 42 := ⟨by kernel_rfl⟩
instance ti44 : Sep.TI Tryd.prog 44 .nilFunc 1 8 := ⟨by kernel_rfl⟩
instance flat44 : Sep.Flat Tryd.prog 44 := ⟨by kernel_rfl⟩
instance ti45 : Sep.TI Tryd.prog 45 .nilFunc 1 8 := ⟨by kernel_rfl⟩
instance flat45 : Sep.Flat Tryd.prog 45 := ⟨by kernel_rfl⟩
instance ti46 : Sep.TI Tryd.prog 46 .nilFunc 1 8 := ⟨by kernel_rfl⟩
instance flat46 : Sep.Flat Tryd.prog 46 := ⟨by kernel_rfl⟩
instance ti47 : Sep.TI Tryd.prog 47 (.agg #[(.int .i64 0), (.int .i64 0), (.int .i64 0)]) 3 24 := ⟨by kernel_rfl⟩
instance agg47 : Sep.Agg Tryd.prog 47 := ⟨by kernel_rfl⟩
instance ti48 : Sep.TI Tryd.prog 48 .nilFunc 1 8 := ⟨by kernel_rfl⟩
instance flat48 : Sep.Flat Tryd.prog 48 := ⟨by kernel_rfl⟩
instance ti49 : Sep.TI Tryd.prog 49 .nilFunc 1 8 := ⟨by kernel_rfl⟩
instance flat49 : Sep.Flat Tryd.prog 49 := ⟨by kernel_rfl⟩
instance ti50 : Sep.TI Tryd.prog 50 .nilFunc 1 8 := ⟨by kernel_rfl⟩
instance flat50 : Sep.Flat Tryd.prog 50 := ⟨by kernel_rfl⟩
instance ti51 : Sep.TI Tryd.prog 51 .nilFunc 1 8 := ⟨by kernel_rfl⟩
instance flat51 : Sep.Flat Tryd.prog 51 := ⟨by kernel_rfl⟩
instance ti52 : Sep.TI Tryd.prog 52 .nilFunc 1 8 := ⟨by kernel_rfl⟩
instance flat52 : Sep.Flat Tryd.prog 52 := ⟨by kernel_rfl⟩
instance ti53 : Sep.TI Tryd.prog 53 .nilFunc 1 8 := ⟨by kernel_rfl⟩
instance flat53 : Sep.Flat Tryd.prog 53 := ⟨by kernel_rfl⟩
instance ti54 : Sep.TI Tryd.prog 54 .nilFunc 1 8 := ⟨by kernel_rfl⟩
instance flat54 : Sep.Flat Tryd.prog 54 := ⟨by kernel_rfl⟩
instance ti55 : Sep.TI Tryd.prog 55 (.agg #[(.int .i64 0), (.int .i64 0), (.int .i64 0), (.int .i64 0)]) 4 32 := ⟨by kernel_rfl⟩
instance agg55 : Sep.Agg Tryd.prog 55 := ⟨by kernel_rfl⟩
instance ti56 : Sep.TI Tryd.prog 56 (.agg #[(.int .i64 0), (.int .i64 0), (.int .i64 0), (.int .i64 0)]) 4 32 := ⟨by kernel_rfl⟩
instance agg56 : Sep.Agg Tryd.prog 56 := ⟨by kernel_rfl⟩
instance ti57 : Sep.TI Tryd.prog 57 (.slice none 0 0) 1 24 := ⟨by kernel_rfl⟩
instance flat57 : Sep.Flat Tryd.prog 57 := ⟨by kernel_rfl⟩
instance sl57 : Sep.SlT Tryd.prog 57 56 := ⟨by kernel_rfl⟩
instance ti58 : Sep.TI Tryd.prog 58 .nilFunc 1 8 := ⟨by kernel_rfl⟩
instance flat58 : Sep.Flat Tryd.prog 58 := ⟨by kernel_rfl⟩
instance ti59 : Sep.TI Tryd.prog 59 .nilFunc 1 8 := ⟨by kernel_rfl⟩
instance flat59 : Sep.Flat Tryd.prog 59 := ⟨by kernel_rfl⟩
instance ti60 : Sep.TI Tryd.prog 60 .nilFunc 1 8 := ⟨by kernel_rfl⟩
instance flat60 : Sep.Flat Tryd.prog 60 := ⟨by kernel_rfl⟩
instance ti61 : Sep.TI Tryd.prog 61 .nilFunc 1 8 := ⟨by kernel_rfl⟩
instance flat61 : Sep.Flat Tryd.prog 61 := ⟨by kernel_rfl⟩
instance ti62 : Sep.TI Tryd.prog 62 (.slice none 0 0) 1 24 := ⟨by kernel_rfl⟩
instance flat62 : Sep.Flat Tryd.prog 62 := ⟨by kernel_rfl⟩
instance sl62 : Sep.SlT Tryd.prog 62 82 := ⟨by kernel_rfl⟩
instance ti63 : Sep.TI Tryd.prog 63 .nilFunc 1 8 := ⟨by kernel_rfl⟩
instance flat63 : Sep.Flat Tryd.prog 63 := ⟨by kernel_rfl⟩
instance ti64 : Sep.TI Tryd.prog 64 .nilFunc 1 8 := ⟨by kernel_rfl⟩
instance flat64 : Sep.Flat Tryd.prog 64 := ⟨by kernel_rfl⟩
instance ti66 : Sep.TI Tryd.prog 66 .nilFunc 1 8 := ⟨by kernel_rfl⟩
instance flat66 : Sep.Flat Tryd.prog 66 := ⟨by kernel_rfl⟩
instance ti68 : Sep.TI Tryd.prog 68 .nilFunc 1 8 := ⟨by kernel_rfl⟩
instance flat68 : Sep.Flat Tryd.prog 68 := ⟨by kernel_rfl⟩
instance ti70 : Sep.TI Tryd.prog 70 .nilFunc 1 8 := ⟨by kernel_rfl⟩
instance flat70 : Sep.Flat Tryd.prog 70 := ⟨by kernel_rfl⟩
instance ti71 : Sep.TI Tryd.prog 71 .nilFunc 1 8 := ⟨by kernel_rfl⟩
instance flat71 : Sep.Flat Tryd.prog 71 := ⟨by kernel_rfl⟩
instance ti72 : Sep.TI Tryd.prog 72 .nilFunc 1 8 := ⟨by kernel_rfl⟩
instance flat72 : Sep.Flat Tryd.prog 72 := ⟨by kernel_rfl⟩
instance ti73 : Sep.TI Tryd.prog 73 .nilFunc 1 8 := ⟨by kernel_rfl⟩
instance flat73 : Sep.Flat Tryd.prog 73 := ⟨by kernel_rfl⟩
instance ti74 : Sep.TI Tryd.prog 74 .nilFunc 1 8 := ⟨by kernel_rfl⟩
instance flat74 : Sep.Flat Tryd.prog 74 := ⟨by kernel_rfl⟩
instance ti75 : Sep.TI Tryd.prog 75 .nilFunc 1 8 := ⟨by kernel_rfl⟩
instance flat75 : Sep.Flat Tryd.prog 75 := ⟨by kernel_rfl⟩
instance ti76 : Sep.TI Tryd.prog 76 .nilFunc 1 8 := ⟨by kernel_rfl⟩
instance flat76 : Sep.Flat Tryd.prog 76 := ⟨by kernel_rfl⟩
instance ti77 : Sep.TI Tryd.prog 77 .nilFunc 1 8 := ⟨by kernel_rfl⟩
instance flat77 : Sep.Flat Tryd.prog 77 := ⟨by kernel_rfl⟩
instance ti78 : Sep.TI Tryd.prog 78 .nilFunc 1 8 := ⟨by kernel_rfl⟩
instance flat78 : Sep.Flat Tryd.prog 78 := ⟨by kernel_rfl⟩
instance ti79 : Sep.TI Tryd.prog 79 .nilFunc 1 8 := ⟨by kernel_rfl⟩
instance flat79 : Sep.Flat Tryd.prog 79 := ⟨by kernel_rfl⟩
instance ti80 : Sep.TI Tryd.prog 80 (.int .u64 0) 1 8 := ⟨by kernel_rfl⟩
instance flat80 : Sep.Flat Tryd.prog 80 := ⟨by kernel_rfl⟩
instance ti81 : Sep.TI Tryd.prog 81 .nilFunc 1 8 := ⟨by kernel_rfl⟩
instance flat81 : Sep.Flat Tryd.prog 81 := ⟨by kernel_rfl⟩
instance ti82 : Sep.TI Tryd.prog 82 (.agg #[(.int .i64 0), (.int .i64 0), (.int .i64 0), (.int .i64 0)]) 4 32 := ⟨by kernel_rfl⟩
instance agg82 : Sep.Agg Tryd.prog 82 := ⟨by kernel_rfl⟩
instance ti83 : Sep.TI Tryd.prog 83 (.int .u64 0) 1 8 := ⟨by kernel_rfl⟩
instance flat83 : Sep.Flat Tryd.prog 83 := ⟨by kernel_rfl⟩
instance ti84 : Sep.TI Tryd.prog 84 .nilFunc 1 8 := ⟨by kernel_rfl⟩
instance flat84 : Sep.Flat Tryd.prog 84 := ⟨by kernel_rfl⟩
instance ti85 : Sep.TI Tryd.prog 85 .nilFunc 1 8 := ⟨by kernel_rfl⟩
instance flat85 : Sep.Flat Tryd.prog 85 := ⟨by kernel_rfl⟩
instance ti86 : Sep.TI Tryd.prog 86 .nilFunc 1 8 := ⟨by kernel_rfl⟩
instance flat86 : Sep.Flat Tryd.prog 86 := ⟨by kernel_rfl⟩
instance ti87 : Sep.TI Tryd.prog 87 .nilFunc 1 8 := ⟨by kernel_rfl⟩
instance flat87 : Sep.Flat Tryd.prog 87 := ⟨by kernel_rfl⟩
instance ti88 : Sep.TI Tryd.prog 88 .nilFunc 1 8 := ⟨by kernel_rfl⟩
instance flat88 : Sep.Flat Tryd.prog 88 := ⟨by kernel_rfl⟩
instance ti89 : Sep.TI Tryd.prog 89 .nilFunc 1 8 := ⟨by kernel_rfl⟩
instance flat89 : Sep.Flat Tryd.prog 89 := ⟨by kernel_rfl⟩
instance ti90 : Sep.TI Tryd.prog 90 .nilFunc 1 8 := ⟨by kernel_rfl⟩
instance flat90 : Sep.Flat Tryd.prog 90 := ⟨by kernel_rfl⟩
instance ti91 : Sep.TI Tryd.prog 91 .nilFunc 1 8 := ⟨by kernel_rfl⟩
instance flat91 : Sep.Flat Tryd.prog 91 := ⟨by kernel_rfl⟩
instance ti92 : Sep.TI Tryd.prog 92 .nilFunc 1 8 := ⟨by kernel_rfl⟩
instance flat92 : Sep.Flat Tryd.prog 92 := ⟨by kernel_rfl⟩
instance ti93 : Sep.TI Tryd.prog 93 .nilFunc 1 8 := ⟨by kernel_rfl⟩
instance flat93 : Sep.Flat Tryd.prog 93 := ⟨by kernel_rfl⟩
instance ti94 : Sep.TI Tryd.prog 94 .nilFunc 1 8 := ⟨by kernel_rfl⟩
instance flat94 : Sep.Flat Tryd.prog 94 := ⟨by kernel_rfl⟩
instance ti95 : Sep.TI Tryd.prog 95 .nilFunc 1 8 := ⟨by kernel_rfl⟩
instance flat95 : Sep.Flat Tryd.prog 95 := ⟨by kernel_rfl⟩
instance ti96 : Sep.TI Tryd.prog 96 .nilFunc 1 8 := ⟨by kernel_rfl⟩
instance flat96 : Sep.Flat Tryd.prog 96 := ⟨by kernel_rfl⟩
instance ti97 : Sep.TI Tryd.prog 97 (.agg #[(.int .i64 0), (.int .i64 0), (.int .i64 0)]) 3 24 := ⟨by kernel_rfl⟩
instance agg97 : Sep.Agg Tryd.prog 97 := ⟨by kernel_rfl⟩
instance ti98 : Sep.TI Tryd.prog 98 .nilFunc 1 8 := ⟨by kernel_rfl⟩
instance flat98 : Sep.Flat Tryd.prog 98 := ⟨by kernel_rfl⟩
instance ti99 : Sep.TI Tryd.prog 99 .nilFunc 1 8 := ⟨by kernel_rfl⟩
instance flat99 : Sep.Flat Tryd.prog 99 := ⟨by kernel_rfl⟩
instance ti100 : Sep.TI Tryd.prog 100 (.agg #[(.int .i64 0), (.int .i64 0), (.int .i64 0)]) 3 24 := ⟨by kernel_rfl⟩
instance agg100 : Sep.Agg Tryd.prog 100 := ⟨by kernel_rfl⟩
instance ti101 : Sep.TI Tryd.prog 101 .nilFunc 1 8 := ⟨by kernel_rfl⟩
instance flat101 : Sep.Flat Tryd.prog 101 := ⟨by kernel_rfl⟩
instance ti102 : Sep.TI Tryd.prog 102 (.agg #[(.pointer none), (.pointer none), (.pointer none), (.string .empty)]) 4 40 := ⟨by kernel_rfl⟩
instance agg102 : Sep.Agg Tryd.prog 102 := ⟨by kernel_rfl⟩
instance ti103 : Sep.TI Tryd.prog 103 (.agg #[(.pointer none), (.pointer none), (.pointer none), (.string .empty)]) 4 40 := ⟨by kernel_rfl⟩
instance agg103 : Sep.Agg Tryd.prog 103 := ⟨by kernel_rfl⟩
instance ti104 : Sep.TI Tryd.prog 104 (.agg #[]) 0 0 := ⟨by kernel_rfl⟩
instance agg104 : Sep.Agg Tryd.prog 104 := ⟨by kernel_rfl⟩
instance ti105 : Sep.TI Tryd.prog 105 (.agg #[]) 0 0 := ⟨by kernel_rfl⟩
instance agg105 : Sep.Agg Tryd.prog 105 := ⟨by kernel_rfl⟩
instance ti106 : Sep.TI Tryd.prog 106 (.agg #[]) 0 0 := ⟨by kernel_rfl⟩
instance agg106 : Sep.Agg Tryd.prog 106 := ⟨by kernel_rfl⟩
instance ti107 : Sep.TI Tryd.prog 107 .nilFunc 1 8 := ⟨by kernel_rfl⟩
instance flat107 : Sep.Flat Tryd.prog 107 := ⟨by kernel_rfl⟩
instance ti108 : Sep.TI Tryd.prog 108 (.int .u32 0) 1 4 := ⟨by kernel_rfl⟩
instance flat108 : Sep.Flat Tryd.prog 108 := ⟨by kernel_rfl⟩
instance ti109 : Sep.TI Tryd.prog 109 (.int .u8 0) 1 1 := ⟨by kernel_rfl⟩
instance flat109 : Sep.Flat Tryd.prog 109 := ⟨by kernel_rfl⟩
instance ti110 : Sep.TI Tryd.prog 110 (.int .u8 0) 1 1 := ⟨by kernel_rfl⟩
instance flat110 : Sep.Flat Tryd.prog 110 := ⟨by kernel_rfl⟩
instance ti111 : Sep.TI Tryd.prog 111 .nilFunc 1 8 := ⟨by kernel_rfl⟩
instance flat111 : Sep.Flat Tryd.prog 111 := ⟨by kernel_rfl⟩
instance ti112 : Sep.TI Tryd.prog 112 (.pointer none) 1 8 := ⟨by kernel_rfl⟩
instance flat112 : Sep.Flat Tryd.prog 112 := ⟨by kernel_rfl⟩
instance ti113 : Sep.TI Tryd.prog 113 (.int .i32 0) 1 4 := ⟨by kernel_rfl⟩
instance flat113 : Sep.Flat Tryd.prog 113 := ⟨by kernel_rfl⟩
instance ti114 : Sep.TI Tryd.prog 114 (.int .i32 0) 1 4 := ⟨by kernel_rfl⟩
instance flat114 : Sep.Flat Tryd.prog 114 := ⟨by kernel_rfl⟩
instance ti115 : Sep.TI Tryd.prog 115 (.agg #[(.int .u64 0), (.int .u64 0), (.int .u32 0), (.int .u8 0), (.int .u8 0), (.int .u8 0), (.int .u8 0), .nilFunc, (.pointer none), (.int .i32 0), (.int .i32 0)]) 11 48 := ⟨by kernel_rfl⟩
instance agg115 : Sep.Agg Tryd.prog 115 := ⟨by kernel_rfl⟩
instance ti116 : Sep.TI Tryd.prog 116 (.agg #[(.int .u64 0), (.int .u64 0), (.int .u32 0), (.int .u8 0), (.int .u8 0), (.int .u8 0), (.int .u8 0), .nilFunc, (.pointer none), (.int .i32 0), (.int .i32 0)]) 11 48 := ⟨by kernel_rfl⟩
instance agg116 : Sep.Agg Tryd.prog 116 := ⟨by kernel_rfl⟩
instance ti117 : Sep.TI Tryd.prog 117 (.pointer none) 1 8 := ⟨by kernel_rfl⟩
instance flat117 : Sep.Flat Tryd.prog 117 := ⟨by kernel_rfl⟩
end Go.Proofs.YteinbojpmhblkaaDoor
/-
  An act, as plain data.
-/
namespace Go.Proofs.YteinbojpmhblkaaDoor
set_option linter.unusedSimpArgs false
set_option linter.unusedVariables false
structure Deed where
  f0 : Int
  f1 : Int
  f2 : Int
  f3 : Int
  deriving DecidableEq
end Go.Proofs.YteinbojpmhblkaaDoor
/-
  Instructions and programs, as plain data: what is asked of them.
-/
namespace Go.Proofs.YteinbojpmhblkaaDoor
set_option linter.unusedSimpArgs false
set_option linter.unusedVariables false
open Go.RowKit Go.Sep

def formT : List (List Nat) := [[48, 48, 48], [114, 48, 110], [114, 114, 48], [114, 114, 48], [114, 48, 106], [114, 114, 106], [48, 48, 48], [114, 112, 48], [114, 48, 48], [114, 48, 48], [114, 114, 48], [114, 114, 110], [114, 114, 110], [114, 114, 48], [114, 48, 110], [114, 114, 48], [114, 114, 48], [114, 114, 110], [114, 48, 48], [114, 114, 112], [114, 48, 48], [48, 48, 111], [114, 48, 111], [114, 48, 111], [48, 48, 111], [48, 48, 111], [48, 48, 111], [48, 48, 111], [48, 111, 111], [114, 111, 111], [48, 48, 111], [48, 48, 111], [114, 48, 111], [48, 48, 111], [114, 48, 111], [48, 48, 111], [114, 114, 111], [114, 114, 111], [114, 48, 111], [114, 112, 111], [114, 112, 111], [114, 48, 111], [114, 48, 111], [114, 114, 111], [114, 48, 111], [114, 48, 111], [114, 48, 48]]
/-- The letters of an Op. -/
def formP (op : Int) : List Nat := if 0 ≤ op then formT.getD op.toNat [] else []
def strOf (l : List Nat) : ByteArray := ⟨(l.map UInt8.ofNat).toArray⟩
def letters : List Nat := [48, 106, 110, 111, 112, 114]
theorem form_cases (op : Int) : (formP op = [] ∧ (op < 0 ∨ 46 < op)) ∨ ∃ c0 c1 c2, formP op = [c0, c1, c2] ∧ c0 ∈ letters ∧ c1 ∈ letters ∧ c2 ∈ letters := by
  unfold formP
  by_cases h : 0 ≤ op
  · rw [if_pos h]
    by_cases h2 : op.toNat < 47
    · have : ∀ q, q < 47 → ∃ c0 c1 c2, formT.getD q [] = [c0, c1, c2] ∧ c0 ∈ letters ∧ c1 ∈ letters ∧ c2 ∈ letters := by
        intro q hq
        have hall : ∀ l ∈ formT, ∃ c0 c1 c2, l = [c0, c1, c2] ∧ c0 ∈ letters ∧ c1 ∈ letters ∧ c2 ∈ letters := by
          intro l hl
          simp only [formT, List.mem_cons, List.not_mem_nil, or_false] at hl
          rcases hl with rfl | rfl | rfl | rfl | rfl | rfl | rfl | rfl | rfl | rfl | rfl | rfl | rfl | rfl | rfl | rfl | rfl | rfl | rfl | rfl | rfl | rfl | rfl | rfl | rfl | rfl | rfl | rfl | rfl | rfl | rfl | rfl | rfl | rfl | rfl | rfl | rfl | rfl | rfl | rfl | rfl | rfl | rfl | rfl | rfl | rfl | rfl <;> exact ⟨_, _, _, rfl, by decide, by decide, by decide⟩
        have hlt : q < formT.length := hq
        rw [List.getD_eq_getElem?_getD, List.getElem?_eq_getElem hlt]
        exact hall _ (List.getElem_mem hlt)
      exact .inr (this _ h2)
    · left
      refine ⟨?_, by omega⟩
      have hl : formT.length = 47 := rfl
      rw [List.getD_eq_getElem?_getD, List.getElem?_eq_none (by rw [hl]; omega)]; rfl
  · rw [if_neg h]; exact .inl ⟨rfl, by omega⟩
def fitsP (c : Nat) (n long : Int) : Bool :=
  if c = 114 then decide (0 ≤ n ∧ n < 6) else if c = 111 then decide (0 ≤ n ∧ n < 4) else if c = 112 then decide (0 ≤ n ∧ n < 8)
  else if c = 106 then decide (0 ≤ n ∧ n ≤ long) else if c = 110 then true else decide (n = 0)
def rightP (x : Deed) (long : Int) : Bool := match formP x.f0 with
  | [c0, c1, c2] => fitsP c0 x.f1 long && (fitsP c1 x.f2 long && fitsP c2 x.f3 long)
  | _ => false
def mayP (l : List Deed) : Bool := decide (1 ≤ l.length ∧ l.length ≤ 24) && l.all (fun x => rightP x l.length)
theorem size_strOf (l : List Nat) : (strOf l).size = l.length := by simp [strOf, ByteArray.size]
theorem decode_strOf (l : List Nat) (k c : Nat) (hc : l[k]? = some c) (h : c < 128) : Utf8.decode (strOf l) k = (c, 1) := by
  obtain ⟨hk, rfl⟩ := List.getElem?_eq_some_iff.1 hc
  have e1 : ((strOf l).get! (k + 0)).toNat = l[k] := by
    have : (strOf l).get! (k + 0) = UInt8.ofNat l[k] := by
      simp [strOf, ByteArray.get!, hk]
    rw [this]
    simp [UInt8.toNat_ofNat]; omega
  unfold Utf8.decode
  simp only [e1]
  rw [if_pos (by omega)]
end Go.Proofs.YteinbojpmhblkaaDoor
/-
  More laws of single operations: a zero value built; loads and comparisons as runs.
-/
namespace Go.Sep
set_option linter.unusedSimpArgs false
set_option linter.unusedVariables false
open Go.RowKit
section
variable {P : Program} {ops : Array Oper} {Q : Exit → Act → World → Prop} {K : Act → World → Prop} {a : Act} {e w : World} {rest : List Oper} {o : Oper} {L : List HProp}

theorem wp_build0 {T E : TypeId} {m : Nat} {cs0 : Array Value} {z2 : Value} {n k n2 k2 : Nat} [ti : TI P T (.agg cs0) n k] [te : TI P E z2 n2 k2] (ht : P.underlying T = some (.array m E)) (ho : o.op = .build T #[])
    (h : K (a.put o.dst (.agg cs0)) w) : o.wp P a w K Q := by
  unfold Oper.wp execOp
  simp only [ho, Instr.build, Sem.run_bind, ti.zero_run, run_underlying ht, te.sizeOf_run, Result.andThen_ok, Array.map_empty, Instr.fill, Sem.run_pure, Value.cells]
  exact h

theorem run_loadN {T : TypeId} {x : Operand} {z : Value} {n k b off i : Nat} {cs vs : List Value} {t : TypeId} [ti : TI P T z n k] [ag : Agg P T] (ho : o.op = .load T x) (hx : a.eval x = .pointer (some ⟨b, off, none⟩))
    (hw : Holds e w L) (hi : L[i]? = some (pt b cs t)) (hl : vs.length = n) (hv : ∀ j v, vs[j]? = some v → cs[off + j]? = some v) :
    (execOp a.eval o).run P w = .ok (.value (.agg vs.toArray)) w := by
  have hc := fun k => hw.cells hi k
  have hrun : (loadCells ⟨b, off, none⟩ vs.length).run P w = .ok vs.toArray w :=
    run_loadCells_list (P := P) w ⟨b, off, none⟩ vs (fun j v hj => by
      have hadd : (⟨b, off, none⟩ : Addr).add j = ⟨b, off + j, none⟩ := by unfold Addr.add; split <;> simp_all
      rw [hadd, hc]; exact hv j v hj)
  rw [hl] at hrun
  unfold execOp
  simp only [ho, hx, Instr.loadAt, Instr.sureAddr, loadVar, Sem.run_bind, Sem.run_pure, Result.andThen_ok, ag.run, if_true, ti.sizeOf_run, hrun]

/-- Two parts at once. -/
theorem Holds.focus2 {A B : HProp} (i j : Nat) (hi : L[i]? = some A) (hj : L[j]? = some B) (hij : i ≠ j) (H : Holds e w L) : Holds e w [sepL ((L.set i emp).set j emp), A, B] := by
  have h1 := H.focus1 i hi
  have h2 := h1.imp (i := 0) (sepL [sepL ((L.set i emp).set j emp), B]) rfl (fun h hh => sepL.focus (by rw [List.getElem?_set_ne hij]; exact hj) hh)
  have h3 : Holds e w ([sepL ((L.set i emp).set j emp), B] ++ [A]) := Holds.ungroup _ _ h2
  exact h3.sel [0, 2, 1] (by decide)
theorem sepL.unfocus2 {A B : HProp} {h : Heap} (i j : Nat) (hil : i < L.length) (hjl : j < L.length) (hij : i ≠ j) (H : sepL [sepL ((L.set i emp).set j emp), A, B] h) : sepL ((L.set i A).set j B) h := by
  have h1 : sepL [sepL ((L.set i emp).set j emp), B, A] h := H.sel [0, 2, 1] (by decide)
  have h2 := sepL.unfocus (L := L.set i emp) (N := [A]) (by simpa using hjl) h1
  have h3 := sepL.swapIn (i := i) (by simpa using hil) h2
  have e1 : ((L.set i emp).set j B).set i A = (L.set i A).set j B := by
    rw [List.set_comm _ _ hij.symm, List.set_set]
  rwa [e1] at h3
theorem Holds.unfocus2 {A B : HProp} {N : List HProp} (i j : Nat) (hil : i < L.length) (hjl : j < L.length) (hij : i ≠ j) (H : Holds e w (sepL ((L.set i emp).set j emp) :: A :: B :: N)) : Holds e w ((L.set i A).set j B ++ N) := by
  have h1 : Holds e w (sepL [sepL ((L.set i emp).set j emp), A, B] :: N) := Holds.group [sepL ((L.set i emp).set j emp), A, B] N H
  have h2 := h1.imp (i := 0) (sepL ((L.set i A).set j B)) rfl (fun h hh => sepL.unfocus2 i j hil hjl hij hh)
  exact Holds.ungroup _ _ h2

/-- A part that says a fact of no memory. -/
def fct (p : Prop) : HProp := fun _ => p
/-- Parts of which something is hidden. -/
def exL {α : Type} (f : α → List HProp) : HProp := fun h => ∃ x, sepL (f x) h
theorem sepL.tail {A : HProp} {M : List HProp} {h : Heap} (H : sepL (A :: M) h) : sepL M h := by
  obtain ⟨f, h1, h2, h3⟩ := H
  exact ⟨fun i => f (i + 1), fun i P hi => h1 (i + 1) P (by simpa using hi), fun i j b hij hb => h2 _ _ b (by omega) hb, fun i b o hb => h3 _ b o hb⟩
theorem sepL.two {A : HProp} {M : List HProp} {h : Heap} (H : sepL (A :: M) h) : sepL [A, sepL M] h := by
  have h1 := sepL.focus (L := A :: M) (i := 0) rfl H
  have h2 : sepL [A, sepL (emp :: M)] h := h1.sel [1, 0] (by decide)
  exact h2.imp (i := 1) (Q := sepL M) rfl (fun _ hh => hh.tail)
theorem Holds.open' {α : Type} {f : α → List HProp} {i : Nat} (hi : L[i]? = some (exL f)) (H : Holds e w L) : ∃ x, Holds e w (L.set i (sepL (f x))) :=
  H.elim (i := i) (Q := fun x => sepL (f x)) hi (fun _ hh => hh)
theorem exL.open_ {α : Type} {f : α → List HProp} {X : HProp} (H : Holds e w [X, exL f]) : ∃ x, Holds e w [X, sepL (f x)] := H.open' (i := 1) rfl
theorem exL.mk {α : Type} {f : α → List HProp} {X : HProp} (x : α) (H : Holds e w (X :: f x)) : Holds e w [X, exL f] :=
  ⟨H.1, (sepL.two H.2).imp (i := 1) (Q := exL f) rfl (fun _ hh => ⟨x, hh⟩)⟩
theorem Holds.fct {i : Nat} {p : Prop} (hi : L[i]? = some (Sep.fct p)) (H : Holds e w L) : p := H.fact hi (fun _ h => h)
theorem Holds.addFct {p : Prop} (hp : p) (H : Holds e w L) : Holds e w (L ++ [Sep.fct p]) := H.addEmp hp

/-- 'make([]T, n)' of elements of one cell each. -/
theorem wp_make1 {t E : TypeId} {z : Value} {k n : Nat} {x y : Operand} [st : SlT P t E] [ti : TI P E z 1 k] (hz : z.cells = #[z]) (ho : o.op = .makeSlice t x y) (hx : a.eval x = .int .i64 (n : Int)) (hy : a.eval y = .int .i64 (n : Int))
    (hn : n ≤ 1000000) (hk : k ≤ 1000) (hw : Holds e w L)
    (h : ∀ b w', Holds e w' (L ++ [pt b (List.replicate n z) E]) → K (a.put o.dst (.slice (some ⟨b, 0, none⟩) n n)) w') : o.wp P a w K Q := by
  obtain ⟨i, hi, h1, h2, h3⟩ := ti.info
  have hb : (i.bytes : Int) * (n : Int) ≤ 281474976710656 := by
    rw [h3]
    have : k * n ≤ 1000 * 1000000 := Nat.mul_le_mul hk hn
    have h' : ((k * n : Nat) : Int) ≤ 1000 * 1000000 := by omega
    rw [Int.natCast_mul] at h'
    omega
  have hr := run_make (P := P) w t E i z st.out hi h1 .i64 .i64 n n (by omega) (Int.le_refl _) hb (by omega)
  simp only [Int.toNat_natCast, h2, Nat.mul_one] at hr
  have hm : madeCells z.cells n = (List.replicate n z).toArray := by
    unfold madeCells
    rw [hz]
    apply Array.ext
    · simp
    · intro j h1 h2
      simp [Nat.mod_one]
  rw [hm] at hr
  unfold Oper.wp execOp
  simp only [ho, hx, hy, Sem.run_bind, Sem.run_pure, hr, Result.andThen_ok]
  exact h _ _ (hw.allocCells _ _)
/-- Four results. -/
theorem ret4 {fn : Func} {R : Ending → World → Prop} {a : Act} {w : World} {p q r s : Tmp} {x y z u : Value} (h : fn.results = #[.tmp p, .tmp q, .tmp r, .tmp s])
    (hp : a.tmps.getD p undef = x) (hq : a.tmps.getD q undef = y) (hr : a.tmps.getD r undef = z) (hs : a.tmps.getD s undef = u) (hd : a.defers = []) (hR : R (.returned (.tuple #[x, y, z, u])) w) : bodyPost P fn R .ret a w := by
  refine bodyPost_ret (v := .tuple #[x, y, z, u]) ?_ hd hR
  subst hp; subst hq; subst hr; subst hs
  simp [results, h]
/-- append of what a slice holds, of any length. -/
theorem wp_appendSl {t E T' : TypeId} {z : Value} {sz k : Nat} {s x : Operand} [st : SlT P t E] [ti : TI P E z sz k]
    (ho : o.op = .call { callee := .builtin .append, args := #[s, x], argTypes := #[t, t] }) {i j n m : Nat} {v u : Value} {cs news : List Value} (hs : a.eval s = v) (hw : Holds e w L) (hi : L[i]? = some (Sl E sz v n cs))
    (hx : a.eval x = u) (hj : L[j]? = some (Sl T' sz u m news)) (h1 : ∀ y ∈ news, y.oneCell' = true) (hzs : z.cells.size = sz)
    (h63 : n + m ≤ maxLen) (hbytes : (n + m) * k ≤ 140737488355328)
    (h : ∀ a' cap' w', Holds e w' (L.set i (Sl E sz (.slice a' (n + m) cap') (n + m) (cs ++ news))) → K (a.put o.dst (.slice a' (n + m) cap')) w') : o.wp P a w K Q := by
  have hln : news.length = m * sz := hw.fact hj (fun _ h => h.1)
  have hset : L.set i (Sl E sz v n cs) = L := by
    apply List.ext_getElem?
    intro q
    rw [List.getElem?_set]
    split
    · rename_i e; subst e
      rw [hi]
      have := (List.getElem?_eq_some_iff.1 hi).1
      simp [this]
    · rfl
  by_cases hm : 0 < m
  · rcases hw.openSl hj with ⟨_, h2, _⟩ | ⟨b, cap, pre, post, rfl, _, _, _, hw'⟩
    · omega
    · have hjl : j < L.length := (List.getElem?_eq_some_iff.1 hj).1
      exact wp_append ho hs hw hi ⟨b, pre.length, none⟩ hx hln (fun q y hq => by
        have hadd : (⟨b, pre.length, none⟩ : Addr).add q = ⟨b, pre.length + q, none⟩ := by unfold Addr.add; split <;> simp_all
        rw [hadd, hw'.cells (List.getElem?_set_self hjl), Sep.mid, List.append_assoc, List.getElem?_append_right (by omega), Nat.add_sub_cancel_left, List.getElem?_append_left (List.getElem?_eq_some_iff.1 hq).1]
        exact hq) h1 hm hzs h63 hbytes (fun b cap off w' _ hw' => h _ _ w' hw')
  · have hm0 : m = 0 := by omega
    subst hm0
    have hn0 : news = [] := List.eq_nil_of_length_eq_zero (by simpa using hln)
    subst hn0
    obtain ⟨ii, hii, hz0, hz1, hz2⟩ := ti.info
    have hu : ∃ ao c, u = .slice ao 0 c := by
      rcases hw.openSl hj with ⟨h1, _, _⟩ | ⟨b, cap, pre, post, h1, _⟩
      · exact ⟨_, _, h1⟩
      · exact ⟨_, _, h1⟩
    obtain ⟨ao, c, rfl⟩ := hu
    have hf : (Builtin.firstCells ii.size 0 (.slice ao 0 c)).run P w = .ok #[] w := by
      cases ao with
      | none => rfl
      | some ad => simp [Builtin.firstCells, loadCells, loadCellsFrom]
    have key : ∀ ao' cap', v = .slice ao' n cap' → n ≤ cap' → (Builtin.append_ #[t, t] o.type #[v, .slice ao 0 c]).run P w = .ok (.slice ao' n cap') w := by
      rintro ao' cap' rfl hle
      cases ao' with
      | none => simp [Builtin.append_, run_underlying st.out, sizeOf, typeInfo, hii, Builtin.lenOf, hle, hf]
      | some ad => simp [Builtin.append_, run_underlying st.out, sizeOf, typeInfo, hii, Builtin.lenOf, hle, hf, storeCells]
    have fin : ∀ ao' cap', v = .slice ao' n cap' → n ≤ cap' → o.wp P a w K Q := by
      intro ao' cap' hv hle
      have hr := key ao' cap' hv hle
      unfold Oper.wp execOp
      simp only [ho, resolve, invoke, builtin, Sem.run_bind, Sem.run_pure, Result.andThen_ok, List.map_toArray, List.map_cons, List.map_nil, hs, hx, hr]
      have hh := h ao' cap' w
      simp only [Nat.add_zero, List.append_nil] at hh
      refine hh ?_
      rw [← hv, hset]; exact hw
    rcases hw.openSl hi with ⟨h1, h2, _⟩ | ⟨b, cap, pre, post, h1, h2, _⟩
    · exact fin none 0 (by rw [h1, h2]) (by omega)
    · exact fin _ _ h1 h2
end
end Go.Sep
/-
  A function's results, three of them; numbers that wrap.
-/
namespace Go.Sep
set_option linter.unusedSimpArgs false
set_option linter.unusedVariables false
theorem ret3 {P : Program} {fn : Func} {R : Ending → World → Prop} {a : Act} {w : World} {p q r : Tmp} {x y z : Value} (h : fn.results = #[.tmp p, .tmp q, .tmp r])
    (hp : a.tmps.getD p undef = x) (hq : a.tmps.getD q undef = y) (hr : a.tmps.getD r undef = z) (hd : a.defers = []) (hR : R (.returned (.tuple #[x, y, z])) w) : bodyPost P fn R .ret a w := by
  refine bodyPost_ret (v := .tuple #[x, y, z]) ?_ hd hR
  subst hp; subst hq; subst hr
  simp [results, h]
theorem i64_over (n : Int) (h : 9223372036854775807 < n ∧ n ≤ 18446744073709551614) : IntKind.i64.wrap n = n - 18446744073709551616 := by
  rw [IntKind.wrap_i64]; (try unfold wrap64); omega
theorem res_cell_tmp2 {P : Program} {e w : World} {L : List HProp} {fn : Func} {p q q2 : Tmp} {ty : TypeId} {z v v2 : Value} {n k b i : Nat} {cs : List Value} {t : TypeId} {tmps : Array Value} [ti : TI P ty z n k] [ag : Agg P ty] (h : fn.results = #[.cell p ty, .tmp q, .tmp q2])
    (hp : tmps.getD p undef = .pointer (some ⟨b, 0, none⟩)) (hq : tmps.getD q undef = v) (hq2 : tmps.getD q2 undef = v2) (hw : Holds e w L) (hi : L[i]? = some (pt b cs t)) (hl : cs.length = n) :
    (results fn tmps).run P w = .ok (.tuple #[.agg cs.toArray, v, v2]) w := by
  have hr := run_loadVar_block (P := P) (ty := ty) hw hi hl
  have hp' : tmps[p]?.getD undef = .pointer (some ⟨b, 0, none⟩) := by simpa using hp
  have hq' : tmps[q]?.getD undef = v := by simpa using hq
  have hq2' : tmps[q2]?.getD undef = v2 := by simpa using hq2
  simp [results, h, hp', hq', hq2', asAddr, hr]
section
open Go.RowKit
variable {P : Program} {ops : Array Oper} {Q : Exit → Act → World → Prop} {K : Act → World → Prop} {a : Act} {e w : World} {rest : List Oper} {o : Oper} {L : List HProp}
theorem wp_mv {x : Operand} (ho : o.op = .move x) (h : K (a.put o.dst (a.eval x)) w) : o.wp P a w K Q := by
  unfold Oper.wp execOp
  simp only [ho, Sem.run_pure]
  exact h
/-- 'xs[l:]' of a slice that is held. -/
theorem wp_sliceFrom {t E : TypeId} {z : Value} {sz k : Nat} {x lo : Operand} [st : SlT P t E] [ti : TI P E z sz k] {i n l : Nat} {v : Value} {cs : List Value}
    (ho : o.op = .slice t x (some lo) none none) (hx : a.eval x = v) (hlo : a.eval lo = .int .i64 (l : Int)) (hw : Holds e w L) (hi : L[i]? = some (Sl E sz v n cs)) (hl : l ≤ n)
    (h : ∀ a' c', Holds e w (L.set i (Sl E sz (.slice a' (n - l) c') (n - l) (cs.drop (l * sz)))) → K (a.put o.dst (.slice a' (n - l) c')) w) : o.wp P a w K Q := by
  have hel : P.elem t = E := by simp [Program.elem, st.out]
  have hcs : cs.length = n * sz := hw.fact hi fun h hp => hp.1
  have hil : i < L.length := (List.getElem?_eq_some_iff.1 hi).1
  have run : ∀ ao cap, v = .slice ao n cap → (Instr.sliceAt t v (some (.int .i64 (l : Int))) none none).run P w = .ok (sliced ao l n cap sz) w := by
    rintro ao cap rfl
    rw [run_sliceAt_slice (P := P) w t _ _ _ _ (by rw [hel]; exact st.out), run_slice_l (P := P) w t ao n cap (by rw [hel]; exact st.out) .i64 l (by omega) (by omega), hel, ti.sizeOf_run]
    simp
  have fin : ∀ ao cap, v = .slice ao n cap → (∃ a' c', sliced ao l n cap sz = .slice a' (n - l) c' ∧ Holds e w (L.set i (Sl E sz (.slice a' (n - l) c') (n - l) (cs.drop (l * sz))))) → o.wp P a w K Q := by
    rintro ao cap hv ⟨a', c', hs, hH⟩
    have hr := run ao cap hv
    unfold Oper.wp execOp
    simp only [ho, hx, hlo, Option.map_some, Option.map_none, Sem.run_bind, Sem.run_pure, hr, Result.andThen_ok, hs]
    exact h a' c' hH
  rcases hw.openSl hi with ⟨rfl, rfl, rfl⟩ | ⟨b, cap, pre, post, rfl, hnc, hcm, hpost, hH⟩
  · obtain rfl : l = 0 := by omega
    refine fin none 0 rfl ⟨none, 0, by simp [sliced], ?_⟩
    have hset : L.set i (Sl E sz (.slice none 0 0) 0 []) = L := by
      apply List.ext_getElem?
      intro q
      rw [List.getElem?_set]
      split
      · rename_i e; subst e; rw [hi]; try simp [hil]
      · rfl
    simpa [hset] using hw
  · have hii : (L.set i (pt b (mid pre cs post) E))[i]? = some (pt b (mid pre cs post) E) := List.getElem?_set_self hil
    by_cases hcl : cap = l
    · have hnl : n = l := by omega
      refine fin _ cap rfl ⟨some ⟨b, pre.length, none⟩, 0, by simp [sliced, hcl], ?_⟩
      have hd : cs.drop (l * sz) = [] := List.drop_eq_nil_of_le (by rw [hcs, hnl]; exact Nat.le_refl _)
      have hm : mid pre cs post = mid pre [] (cs ++ post) := by simp [mid]
      have h1 : Holds e w (L.set i (pt b (mid pre [] (cs ++ post)) E)) := by rw [← hm]; exact hH
      have h2 := h1.closeSl (i := i) (sz := sz) (n := 0) (cap := 0) (List.getElem?_set_self hil) (by simp) (Nat.le_refl _) (Nat.zero_le _) (by simp)
      rw [List.set_set] at h2
      rw [hd, show n - l = 0 by omega]
      exact h2
    · refine fin _ cap rfl ⟨some ⟨b, pre.length + l * sz, none⟩, cap - l, ?_, ?_⟩
      · have hadd : (⟨b, pre.length, none⟩ : Addr).add (l * sz) = ⟨b, pre.length + l * sz, none⟩ := by unfold Addr.add; split <;> simp_all
        simp [sliced, hcl, hadd]
      · have hle : l * sz ≤ cs.length := by rw [hcs]; exact Nat.mul_le_mul_right _ hl
        have hm : mid pre cs post = mid (pre ++ cs.take (l * sz)) (cs.drop (l * sz)) post := by simp [mid]
        have hlen : (pre ++ cs.take (l * sz)).length = pre.length + l * sz := by simp; omega
        have h1 : Holds e w (L.set i (pt b (mid (pre ++ cs.take (l * sz)) (cs.drop (l * sz)) post) E)) := by rw [← hm]; exact hH
        have h2 := h1.closeSl (i := i) (sz := sz) (n := n - l) (cap := cap - l) (List.getElem?_set_self hil) (by rw [List.length_drop, hcs, ← Nat.sub_mul]) (by omega) (by omega) (by rw [show cap - l - (n - l) = cap - n by omega]; exact hpost)
        rw [List.set_set, hlen] at h2
        exact h2
end
end Go.Sep
/-
  Maps from whole numbers that are held.
-/
namespace Go.Sep
set_option linter.unusedSimpArgs false
set_option linter.unusedVariables false
open Go.RowKit

/-- How a map's entries stand for a function. -/
structure Rep (es : Array MapEntry) (clock : Nat) (k : IntKind) (f : Int → Option Value) : Prop where
  keys : ∀ e ∈ es.toList, ∃ x, e.key = .int k x
  nodup : es.toList.Pairwise (fun a b => a.key ≠ b.key)
  born : es.toList.Pairwise (fun a b => a.born ≠ b.born)
  old : ∀ e ∈ es.toList, e.born < clock
  get : ∀ x v, f x = some v ↔ ∃ e ∈ es.toList, e.key = .int k x ∧ e.val = v
def IsMap (r : Nat) (k : IntKind) (f : Int → Option Value) : HProp := fun h => ∃ es clock, Rep es clock k f ∧ h r = some (.map es clock)
def setF (f : Int → Option Value) (x : Int) (v : Option Value) : Int → Option Value := fun y => if y = x then v else f y

class MpT (P : Program) (t : TypeId) (kt el : outParam TypeId) : Prop where
  out : P.underlying t = some (.map kt el)
class IntT (P : Program) (t : TypeId) (kd : outParam TypeDesc) : Prop where
  out : P.underlying t = some kd
  isInt : ∃ k, kd = .int k

theorem Rep.nil (k : IntKind) (c : Nat) : Rep #[] c k (fun _ => none) :=
  ⟨by simp, by simp, by simp, by simp, by simp⟩

theorem findNow_spec {kd : IntKind} {k : IntKind} {x : Int} : ∀ (es : List MapEntry) (i : Nat), (∀ e ∈ es, ∃ y, e.key = .int k y) →
    ((∀ e ∈ es, e.key ≠ .int k x) ∧ Instr.findNow (.int kd) (.int k x) es i = some none) ∨
    ∃ l1 e l2, es = l1 ++ e :: l2 ∧ e.key = .int k x ∧ (∀ e' ∈ l1, e'.key ≠ .int k x) ∧ Instr.findNow (.int kd) (.int k x) es i = some (some (i + l1.length, e.val))
  | [], i, _ => .inl ⟨by simp, rfl⟩
  | e :: es, i, h => by
    obtain ⟨y, hy⟩ := h e (by simp)
    by_cases hxy : x = y
    · refine .inr ⟨[], e, es, rfl, by rw [hy, hxy], by simp, ?_⟩
      simp [Instr.findNow, Instr.sameNow, hy, hxy]
    · have hs : Instr.sameNow (.int kd) (.int k x) e.key = some false := by simp [Instr.sameNow, hy, hxy]
      have hne : e.key ≠ .int k x := by rw [hy]; intro hh; injection hh with _ h2; exact hxy h2.symm
      rcases findNow_spec (kd := kd) es (i + 1) (fun e' he => h e' (by simp [he])) with ⟨h1, h2⟩ | ⟨l1, e', l2, h1, h2, h3, h4⟩
      · refine .inl ⟨?_, ?_⟩
        · intro e' he
          rcases List.mem_cons.1 he with rfl | he
          · exact hne
          · exact h1 e' he
        · simp only [Instr.findNow, hs, h2]
      · refine .inr ⟨e :: l1, e', l2, by rw [h1]; rfl, h2, ?_, ?_⟩
        · intro e'' he
          rcases List.mem_cons.1 he with rfl | he
          · exact hne
          · exact h3 e'' he
        · simp only [Instr.findNow, hs, h4, List.length_cons]
          congr 3; omega
section
variable {P : Program} {ops : Array Oper} {Q : Exit → Act → World → Prop} {K : Act → World → Prop} {a : Act} {e w : World} {rest : List Oper} {o : Oper} {L : List HProp}

theorem run_findKey {kt : TypeId} {kd : TypeDesc} [it : IntT P kt kd] {es : Array MapEntry} {clock : Nat} {k : IntKind} {f : Int → Option Value} (R : Rep es clock k f) (x : Int) (w : World) :
    (f x = none ∧ (∀ e ∈ es.toList, e.key ≠ .int k x) ∧ (Instr.findKey kt (.int k x) es.toList).run P w = .ok none w) ∨
    ∃ l1 e l2, es.toList = l1 ++ e :: l2 ∧ e.key = .int k x ∧ (∀ e' ∈ l1, e'.key ≠ .int k x) ∧ f x = some e.val ∧ (Instr.findKey kt (.int k x) es.toList).run P w = .ok (some (l1.length, e.val)) w := by
  obtain ⟨kk, rfl⟩ := it.isInt
  rcases findNow_spec (kd := kk) (x := x) es.toList 0 R.keys with ⟨h1, h2⟩ | ⟨l1, e', l2, h1, h2, h3, h4⟩
  · refine .inl ⟨?_, h1, ?_⟩
    · cases hf : f x with
      | none => rfl
      | some v => obtain ⟨e', he, hk, _⟩ := (R.get x v).1 hf; exact absurd hk (h1 e' he)
    · simp only [Instr.findKey, Sem.run_bind, run_underlying it.out, Result.andThen_ok, h2, Sem.run_pure]
  · refine .inr ⟨l1, e', l2, h1, h2, h3, (R.get x _).2 ⟨e', by rw [h1]; simp, h2, rfl⟩, ?_⟩
    simp only [Instr.findKey, Sem.run_bind, run_underlying it.out, Result.andThen_ok, h4, Sem.run_pure, Nat.zero_add]
theorem run_checkKey {kt : TypeId} {kd : TypeDesc} [it : IntT P kt kd] (b : Bool) (k : IntKind) (x : Int) (w : World) : (Instr.checkKey b 10000 kt (.int k x)).run P w = .ok () w := by
  obtain ⟨kk, rfl⟩ := it.isInt
  show (Instr.checkKey b (9999 + 1) kt (.int k x)).run P w = .ok () w
  unfold Instr.checkKey
  simp only [Sem.run_bind, run_underlying it.out, Result.andThen_ok, Sem.run_pure]

theorem run_getMap {r : Nat} {es : Array MapEntry} {clock : Nat} (hb : w.heap[r]? = some (.map es clock)) : (getObj r).run P w = .ok (.map es clock) w := by
  simp [getObj, Sem.run, hb]
theorem run_setMap {r : Nat} {es : Array MapEntry} {clock : Nat} (o : Obj) (hb : w.heap[r]? = some (.map es clock)) : (setObj r o).run P w = .ok () { w with heap := w.heap.set! r o } := by
  simp [setObj, Sem.run, hb, Array.set!_eq_setIfInBounds]
theorem Holds.mapAt {i r : Nat} {k : IntKind} {f : Int → Option Value} (hw : Holds e w L) (hi : L[i]? = some (IsMap r k f)) : ∃ es clock, Rep es clock k f ∧ w.heap[r]? = some (.map es clock) := by
  obtain ⟨E, g, g1, g2, g3⟩ := hw
  obtain ⟨es, clock, R, h⟩ := g1 i _ hi
  exact ⟨es, clock, R, g3 i r _ h⟩
theorem Holds.mapSet {i r : Nat} {k : IntKind} {f f' : Int → Option Value} (hw : Holds e w L) (hi : L[i]? = some (IsMap r k f)) {es' : Array MapEntry} {clock' : Nat} (R' : Rep es' clock' k f') :
    Holds e { w with heap := w.heap.set! r (.map es' clock') } (L.set i (IsMap r k f')) := by
  obtain ⟨es, clock, R, hb⟩ := hw.mapAt hi
  have hr : r < w.heap.size := (Array.getElem?_eq_some_iff.1 hb).1
  have h1 : Holds e w (L.set i (pto r (.map es clock))) := by
    obtain ⟨E, g, g1, g2, g3⟩ := hw
    obtain ⟨es2, clock2, _, h⟩ := g1 i _ hi
    have := g3 i r _ h
    have hsame : (w.heap[r]?) = some (.map es2 clock2) := this
    rw [hb] at hsame
    injection hsame with hs
    injection hs with h1 h2
    subst h1; subst h2
    refine ⟨E, g, ?_, g2, g3⟩
    intro j X hj
    rw [List.getElem?_set] at hj
    split at hj
    · rename_i e; subst e
      split at hj
      · cases hj; exact h
      · cases hj
    · exact g1 j X hj
  have hil : i < L.length := (List.getElem?_eq_some_iff.1 hi).1
  have h2 := h1.update (i := i) (b := r) (w' := { w with heap := w.heap.set! r (.map es' clock') }) (P' := IsMap r k f') (o' := .map es' clock') (List.getElem?_set_self hil) (fun _ h => h)
    (fun h _ => ⟨es', clock', R', by simp⟩) (by simp [Array.set!_eq_setIfInBounds, hr]) (fun c hc => by simp [Array.set!_eq_setIfInBounds, Array.getElem?_setIfInBounds, Ne.symm hc]) rfl rfl rfl (by simp [Array.set!_eq_setIfInBounds])
  rwa [List.set_set] at h2

theorem wp_makeMap {t : TypeId} (ho : o.op = .makeMap t none) (hw : Holds e w L) (k : IntKind)
    (h : ∀ r w', Holds e w' (L ++ [IsMap r k (fun _ => none)]) → K (a.put o.dst (.map (some r))) w') : o.wp P a w K Q := by
  unfold Oper.wp execOp
  simp only [ho, Option.map_none, Instr.makeMap, Sem.run_bind, Sem.run_pure, run_newObj, Result.andThen_ok]
  refine h w.heap.size _ ?_
  have h1 := hw.alloc (.map #[] 0)
  have h2 := h1.imp (i := L.length) (P := pto w.heap.size (.map #[] 0)) (IsMap w.heap.size k (fun _ => none)) (by rw [List.getElem?_append_right (Nat.le_refl _), Nat.sub_self]; rfl) (fun _ hp => ⟨#[], 0, Rep.nil k 0, hp⟩)
  have h3 : (L ++ [pto w.heap.size (.map #[] 0)]).set L.length (IsMap w.heap.size k (fun _ => none)) = L ++ [IsMap w.heap.size k (fun _ => none)] := by
    rw [List.set_append_right _ _ (Nat.le_refl _), Nat.sub_self]; rfl
  rw [h3] at h2
  exact h2
theorem wp_lookup {t kt el : TypeId} {kd : TypeDesc} {z : Value} {n b : Nat} [mt : MpT P t kt el] [it : IntT P kt kd] [ti : TI P el z n b] {x y : Operand} {c : Bool} {i r : Nat} {k : IntKind} {f : Int → Option Value} {q : Int}
    (ho : o.op = .lookup t x y c) (hx : a.eval x = .map (some r)) (hy : a.eval y = .int k q) (hw : Holds e w L) (hi : L[i]? = some (IsMap r k f))
    (h : K (a.put o.dst (if c then .tuple #[(f q).getD z, .bool (f q).isSome] else (f q).getD z)) w) : o.wp P a w K Q := by
  obtain ⟨es, clock, R, hb⟩ := hw.mapAt hi
  have hr : (Instr.lookup t (.map (some r)) (.int k q) c).run P w = .ok (if c then .tuple #[(f q).getD z, .bool (f q).isSome] else (f q).getD z) w := by
    unfold Instr.lookup
    simp only [Sem.run_bind, run_underlying mt.out, Result.andThen_ok, Sem.run_pure, run_getMap hb, run_checkKey]
    rcases run_findKey (P := P) (kt := kt) R q w with ⟨hf, _, hr⟩ | ⟨l1, e', l2, _, _, _, hf, hr⟩
    · simp only [hr, Result.andThen_ok, Sem.run_bind, ti.zero_run, Sem.run_pure, hf]
      cases c <;> rfl
    · simp only [hr, Result.andThen_ok, Sem.run_bind, Sem.run_pure, hf]
      cases c <;> rfl
  unfold Oper.wp execOp
  simp only [ho, hx, hy, Sem.run_bind, Sem.run_pure, hr, Result.andThen_ok]
  exact h

theorem modify_mid {α : Type} (f : α → α) (a : α) (l2 : List α) : ∀ l1 : List α, (l1 ++ a :: l2).modify l1.length f = l1 ++ f a :: l2
  | [] => by simp
  | b :: l1 => by simp [modify_mid f a l2 l1]
theorem Rep.upd {es : Array MapEntry} {clock : Nat} {k : IntKind} {f : Int → Option Value} (R : Rep es clock k f) {x : Int} {v : Value} {l1 l2 : List MapEntry} {e0 : MapEntry} (he : es.toList = l1 ++ e0 :: l2) (hk : e0.key = .int k x) :
    Rep (es.modify l1.length fun e => { e with key := .int k x, val := v }) clock k (setF f x (some v)) := by
  have hl : (es.modify l1.length fun e => { e with key := .int k x, val := v }).toList = l1 ++ { e0 with key := .int k x, val := v } :: l2 := by
    rw [Array.toList_modify, he, modify_mid]
  have hno : ∀ e' ∈ l1 ++ l2, e'.key ≠ .int k x := by
    have h := R.nodup
    rw [he, List.pairwise_append] at h
    obtain ⟨_, h2, h3⟩ := h
    intro e' he'
    rcases List.mem_append.1 he' with h' | h'
    · rw [← hk]; exact h3 e' h' e0 (by simp)
    · rw [← hk]; exact fun hh => (List.pairwise_cons.1 h2).1 e' h' hh.symm
  refine ⟨?_, ?_, ?_, ?_, ?_⟩
  · rw [hl]
    intro e' he'
    rcases List.mem_append.1 he' with h | h
    · exact R.keys e' (by rw [he]; simp [h])
    · rcases List.mem_cons.1 h with rfl | h
      · exact ⟨x, rfl⟩
      · exact R.keys e' (by rw [he]; simp [h])
  · have h := R.nodup
    rw [he, List.pairwise_append, List.pairwise_cons] at h
    rw [hl, List.pairwise_append, List.pairwise_cons]
    refine ⟨h.1, ⟨fun b hb => ?_, h.2.1.2⟩, fun a ha b hb => ?_⟩
    · have := h.2.1.1 b hb; rw [hk] at this; exact this
    · rcases List.mem_cons.1 hb with rfl | hb
      · have := h.2.2 a ha e0 (by simp); rw [hk] at this; exact this
      · exact h.2.2 a ha b (by simp [hb])
  · have h := R.born
    rw [he, List.pairwise_append, List.pairwise_cons] at h
    rw [hl, List.pairwise_append, List.pairwise_cons]
    refine ⟨h.1, ⟨fun b hb => h.2.1.1 b hb, h.2.1.2⟩, fun a ha b hb => ?_⟩
    rcases List.mem_cons.1 hb with rfl | hb
    · exact h.2.2 a ha e0 (by simp)
    · exact h.2.2 a ha b (by simp [hb])
  · rw [hl]
    intro e' he'
    rcases List.mem_append.1 he' with h | h
    · exact R.old e' (by rw [he]; simp [h])
    · rcases List.mem_cons.1 h with rfl | h
      · exact R.old e0 (by rw [he]; simp)
      · exact R.old e' (by rw [he]; simp [h])
  · intro y u
    rw [hl]
    unfold setF
    by_cases hy : y = x
    · subst hy
      rw [if_pos rfl]
      constructor
      · intro h; injection h with h; subst h
        exact ⟨{ e0 with key := .int k y, val := v }, by simp, rfl, rfl⟩
      · rintro ⟨e', he', hk', hv'⟩
        rcases List.mem_append.1 he' with h | h
        · exact absurd hk' (hno e' (by simp [h]))
        · rcases List.mem_cons.1 h with rfl | h
          · rw [← hv']
          · exact absurd hk' (hno e' (by simp [h]))
    · rw [if_neg hy, R.get y u]
      constructor
      · rintro ⟨e', he', hk', hv'⟩
        rw [he] at he'
        refine ⟨e', ?_, hk', hv'⟩
        rcases List.mem_append.1 he' with h | h
        · simp [h]
        · rcases List.mem_cons.1 h with rfl | h
          · rw [hk] at hk'; injection hk' with _ h2; exact absurd h2.symm hy
          · simp [h]
      · rintro ⟨e', he', hk', hv'⟩
        refine ⟨e', ?_, hk', hv'⟩
        rw [he]
        rcases List.mem_append.1 he' with h | h
        · simp [h]
        · rcases List.mem_cons.1 h with rfl | h
          · injection hk' with _ h2; exact absurd h2.symm hy
          · simp [h]
theorem Rep.push {es : Array MapEntry} {clock : Nat} {k : IntKind} {f : Int → Option Value} (R : Rep es clock k f) {x : Int} {v : Value} (hno : ∀ e ∈ es.toList, e.key ≠ .int k x) :
    Rep (es.push { key := .int k x, val := v, born := clock }) (clock + 1) k (setF f x (some v)) := by
  have hl : (es.push { key := .int k x, val := v, born := clock }).toList = es.toList ++ [{ key := .int k x, val := v, born := clock }] := by simp
  refine ⟨?_, ?_, ?_, ?_, ?_⟩
  · rw [hl]
    intro e' he'
    rcases List.mem_append.1 he' with h | h
    · exact R.keys e' h
    · rw [List.mem_singleton.1 h]; exact ⟨x, rfl⟩
  · rw [hl, List.pairwise_append]
    refine ⟨R.nodup, by simp, fun a ha b hb => ?_⟩
    rw [List.mem_singleton.1 hb]; exact hno a ha
  · rw [hl, List.pairwise_append]
    refine ⟨R.born, by simp, fun a ha b hb => ?_⟩
    rw [List.mem_singleton.1 hb]
    have := R.old a ha
    exact Nat.ne_of_lt this
  · rw [hl]
    intro e' he'
    rcases List.mem_append.1 he' with h | h
    · have := R.old e' h; omega
    · rw [List.mem_singleton.1 h]; exact Nat.lt_succ_self _
  · intro y u
    rw [hl]
    unfold setF
    by_cases hy : y = x
    · subst hy
      rw [if_pos rfl]
      constructor
      · intro h; injection h with h; subst h
        exact ⟨{ key := .int k y, val := v, born := clock }, by simp, rfl, rfl⟩
      · rintro ⟨e', he', hk', hv'⟩
        rcases List.mem_append.1 he' with h | h
        · exact absurd hk' (hno e' h)
        · rw [List.mem_singleton.1 h] at hv'; rw [← hv']
    · rw [if_neg hy, R.get y u]
      constructor
      · rintro ⟨e', he', hk', hv'⟩; exact ⟨e', by simp [he'], hk', hv'⟩
      · rintro ⟨e', he', hk', hv'⟩
        rcases List.mem_append.1 he' with h | h
        · exact ⟨e', h, hk', hv'⟩
        · rw [List.mem_singleton.1 h] at hk'; injection hk' with _ h2; exact absurd h2.symm hy
theorem Rep.del {es : Array MapEntry} {clock : Nat} {k : IntKind} {f : Int → Option Value} (R : Rep es clock k f) {x : Int} {l1 l2 : List MapEntry} {e0 : MapEntry} (he : es.toList = l1 ++ e0 :: l2) (hk : e0.key = .int k x) :
    Rep (es.eraseIdxIfInBounds l1.length) clock k (setF f x none) := by
  have hl : (es.eraseIdxIfInBounds l1.length).toList = l1 ++ l2 := by
    have hlt : l1.length < es.size := by rw [← Array.length_toList, he]; simp
    rw [Array.eraseIdxIfInBounds, dif_pos hlt, Array.toList_eraseIdx, he, List.eraseIdx_append_of_length_le (Nat.le_refl _), Nat.sub_self]
    rfl
  have hsub : (l1 ++ l2).Sublist es.toList := by
    rw [he]; exact List.Sublist.append (List.Sublist.refl _) (List.sublist_cons_self _ _)
  have hno : ∀ e' ∈ l1 ++ l2, e'.key ≠ .int k x := by
    have h := R.nodup
    rw [he, List.pairwise_append] at h
    obtain ⟨_, h2, h3⟩ := h
    intro e' he'
    rcases List.mem_append.1 he' with h' | h'
    · rw [← hk]; exact h3 e' h' e0 (by simp)
    · rw [← hk]; exact fun hh => (List.pairwise_cons.1 h2).1 e' h' hh.symm
  refine ⟨?_, ?_, ?_, ?_, ?_⟩
  · rw [hl]; exact fun e' he' => R.keys e' (hsub.subset he')
  · rw [hl]; exact R.nodup.sublist hsub
  · rw [hl]; exact R.born.sublist hsub
  · rw [hl]; exact fun e' he' => R.old e' (hsub.subset he')
  · intro y u
    rw [hl]
    unfold setF
    by_cases hy : y = x
    · subst hy
      rw [if_pos rfl]
      constructor
      · intro h; cases h
      · rintro ⟨e', he', hk', _⟩; exact absurd hk' (hno e' he')
    · rw [if_neg hy, R.get y u]
      constructor
      · rintro ⟨e', he', hk', hv'⟩
        rw [he] at he'
        refine ⟨e', ?_, hk', hv'⟩
        rcases List.mem_append.1 he' with h | h
        · simp [h]
        · rcases List.mem_cons.1 h with rfl | h
          · rw [hk] at hk'; injection hk' with _ h2; exact absurd h2.symm hy
          · simp [h]
      · rintro ⟨e', he', hk', hv'⟩; exact ⟨e', hsub.subset he', hk', hv'⟩

theorem sameBits_int (k : IntKind) (x : Int) : Instr.sameBits 10000 (.int k x) (.int k x) = true := by
  show Instr.sameBits (9999 + 1) (.int k x) (.int k x) = true
  unfold Instr.sameBits
  simp
theorem wp_mapUpdate {t kt el : TypeId} {kd : TypeDesc} [mt : MpT P t kt el] [it : IntT P kt kd] {x y z : Operand} {i r : Nat} {k : IntKind} {f : Int → Option Value} {q : Int} {v : Value}
    (ho : o.op = .mapUpdate t x y z) (hx : a.eval x = .map (some r)) (hy : a.eval y = .int k q) (hz : a.eval z = v) (hw : Holds e w L) (hi : L[i]? = some (IsMap r k f))
    (h : ∀ w', Holds e w' (L.set i (IsMap r k (setF f q (some v)))) → K (a.put o.dst undef) w') : o.wp P a w K Q := by
  obtain ⟨es, clock, R, hb⟩ := hw.mapAt hi
  have hr : ∃ w', (Instr.mapUpdate t (.map (some r)) (.int k q) v).run P w = .ok () w' ∧ Holds e w' (L.set i (IsMap r k (setF f q (some v)))) := by
    unfold Instr.mapUpdate
    simp only [Sem.run_bind, run_underlying mt.out, Result.andThen_ok, Sem.run_pure, run_getMap hb, run_checkKey]
    rcases run_findKey (P := P) (kt := kt) R q w with ⟨hf, hno, hr⟩ | ⟨l1, e', l2, he, hk, _, hf, hr⟩
    · simp only [hr, Result.andThen_ok, Sem.run_bind, run_setMap _ hb]
      exact ⟨_, rfl, hw.mapSet hi (R.push hno)⟩
    · have hget : ((es[l1.length]?).map (·.key)).getD (.int k q) = .int k q := by
        rw [← Array.getElem?_toList, he, List.getElem?_append_right (Nat.le_refl _), Nat.sub_self]; simp [hk]
      simp only [hr, Result.andThen_ok, Sem.run_bind, hget, Instr.keyThatStays, sameBits_int, if_true, Sem.run_pure, run_setMap _ hb]
      exact ⟨_, rfl, hw.mapSet hi (R.upd he hk)⟩
  obtain ⟨w', hr, hH⟩ := hr
  unfold Oper.wp execOp
  simp only [ho, hx, hy, hz, Sem.run_bind, Sem.run_pure, hr, Result.andThen_ok]
  exact h w' hH
theorem wp_mapDelete {t kt el t2 : TypeId} {kd : TypeDesc} [mt : MpT P t kt el] [it : IntT P kt kd] {x y : Operand} {i r : Nat} {k : IntKind} {f : Int → Option Value} {q : Int}
    (ho : o.op = .call { callee := .builtin .delete, args := #[x, y], argTypes := #[t, t2] }) (hx : a.eval x = .map (some r)) (hy : a.eval y = .int k q) (hw : Holds e w L) (hi : L[i]? = some (IsMap r k f))
    (h : ∀ w', Holds e w' (L.set i (IsMap r k (setF f q none))) → K (a.put o.dst (.tuple #[])) w') : o.wp P a w K Q := by
  obtain ⟨es, clock, R, hb⟩ := hw.mapAt hi
  have hr : ∃ w', (Builtin.delete_ #[t, t2] o.type #[.map (some r), .int k q]).run P w = .ok (.tuple #[]) w' ∧ Holds e w' (L.set i (IsMap r k (setF f q none))) := by
    unfold Builtin.delete_
    simp only [List.getElem?_toArray, List.getElem?_cons_zero, List.getElem?_cons_succ, Sem.run_bind, run_underlying mt.out, Result.andThen_ok, Sem.run_pure, run_getMap hb, run_checkKey]
    rcases run_findKey (P := P) (kt := kt) R q w with ⟨hf, hno, hr⟩ | ⟨l1, e', l2, he, hk, _, hf, hr⟩
    · simp only [hr, Result.andThen_ok, Sem.run_bind, run_setMap _ hb, Sem.run_pure]
      refine ⟨_, rfl, ?_⟩
      have : setF f q none = f := by
        funext y; unfold setF; split
        · rename_i hy; rw [hy, hf]
        · rfl
      rw [this]
      exact hw.mapSet hi R
    · simp only [hr, Result.andThen_ok, Sem.run_bind, run_setMap _ hb, Sem.run_pure]
      exact ⟨_, rfl, hw.mapSet hi (R.del he hk)⟩
  obtain ⟨w', hr, hH⟩ := hr
  unfold Oper.wp execOp
  simp only [ho, resolve, invoke, builtin, Sem.run_bind, Sem.run_pure, Result.andThen_ok, List.map_toArray, List.map_cons, List.map_nil, hx, hy, hr]
  exact h w' hH
end
end Go.Sep
/-
  'for k, v := range m' over a map that is held, and that the round leaves alone.
-/
namespace Go.Sep
set_option linter.unusedSimpArgs false
set_option linter.unusedVariables false
open Go.RowKit Go.ChangeMaps Go.MapKept
/-- How many entries are still to come: for a loop's measure. -/
def iterLeft (es : Array MapEntry) (r : Nat) (w : World) : Nat := match w.heap[r]? with | some (.mapIter _ _ seen _) => (leftOf es seen).size | _ => 0
section
variable {P : Program} {ops : Array Oper} {Q : Exit → Act → World → Prop} {K : Act → World → Prop} {a : Act} {e w : World} {rest : List Oper} {o : Oper} {L : List HProp}

/-- The entries of a map that is held, by name. -/
theorem Holds.mapName {i b : Nat} {k : IntKind} {f : Int → Option Value} (hw : Holds e w L) (hi : L[i]? = some (IsMap b k f)) : ∃ es clock, Rep es clock k f ∧ Holds e w (L.set i (pto b (.map es clock))) := by
  obtain ⟨E, g, g1, g2, g3⟩ := hw
  obtain ⟨es, clock, R, h⟩ := g1 i _ hi
  refine ⟨es, clock, R, E, g, ?_, g2, g3⟩
  intro j X hj
  rw [List.getElem?_set] at hj
  split at hj
  · rename_i e; subst e
    split at hj
    · cases hj; exact h
    · cases hj
  · exact g1 j X hj
theorem Holds.mapBack {i b : Nat} {k : IntKind} {f : Int → Option Value} {es : Array MapEntry} {clock : Nat} (R : Rep es clock k f) (hw : Holds e w L) (hi : L[i]? = some (pto b (.map es clock))) : Holds e w (L.set i (IsMap b k f)) :=
  hw.imp _ hi fun _ hp => ⟨es, clock, R, hp⟩
theorem Holds.obj {i b : Nat} {x : Obj} (hw : Holds e w L) (hi : L[i]? = some (pto b x)) : w.heap[b]? = some x := hw.read hi fun _ h => h

theorem Holds.iterLeft {es : Array MapEntry} {j r c0 c1 : Nat} {m : Option Nat} {seen : Array Nat} (hw : Holds e w L) (hj : L[j]? = some (pto r (.mapIter m c1 seen c0))) : iterLeft es r w = (leftOf es seen).size := by
  unfold Go.Sep.iterLeft; rw [hw.obj hj]
/-- 'range m': the iterator comes at the end of the list. -/
theorem wp_range {t kt el : TypeId} [mt : MpT P t kt el] {x : Operand} {i b : Nat} {es : Array MapEntry} {clock : Nat} (ho : o.op = .range t x) (hx : a.eval x = .map (some b)) (hw : Holds e w L) (hi : L[i]? = some (pto b (.map es clock)))
    (h : ∀ r w', Holds e w' (L ++ [pto r (.mapIter (some b) clock #[] clock)]) → K (a.put o.dst (.pointer (some ⟨r, 0, none⟩))) w') : o.wp P a w K Q := by
  have hr := run_range_map w t kt el b es clock mt.out (hw.obj hi)
  unfold Oper.wp execOp
  simp only [ho, hx, Sem.run_bind, Sem.run_pure, Result.andThen_ok, hr]
  exact h _ _ (hw.alloc _)
/-- The entry that an iterator handed out last. -/
def Cur (es : Array MapEntry) (bn : Nat) (k : IntKind) (q : Int) (v : Value) : Prop := ∃ en ∈ es.toList, en.born = bn ∧ en.key = .int k q ∧ en.val = v
/-- The step. -/
theorem wp_next {x : Operand} {i j b r c0 : Nat} {k : IntKind} {f : Int → Option Value} {es : Array MapEntry} {clock : Nat} {seen : Array Nat} (ho : o.op = .next x false) (hx : a.eval x = .pointer (some ⟨r, 0, none⟩)) (R : Rep es clock k f) (hc0 : clock ≤ c0)
    (hw : Holds e w L) (hi : L[i]? = some (pto b (.map es clock))) (hj : L[j]? = some (pto r (.mapIter (some b) clock seen c0)))
    (hdone : (leftOf es seen).size = 0 → K (a.put o.dst (.tuple #[.bool false])) w)
    (hmore : ∀ q v bn w', f q = some v → Cur es bn k q v → (leftOf es (seen.push bn)).size < (leftOf es seen).size → Holds e w' (L.set j (pto r (.mapIter (some b) clock (seen.push bn) clock))) → K (a.put o.dst (.tuple #[.bool true, .int k q, v])) w') : o.wp P a w K Q := by
  rcases run_next_at (P := P) w o.type r b clock c0 seen es clock (hw.obj hj) (hw.obj hi) R.old hc0 with ⟨h0, hrun⟩ | ⟨en, he, w1, hal, hrun⟩
  · unfold Oper.wp execOp
    simp only [ho, hx, Sem.run_bind, Sem.run_pure, Result.andThen_ok, hrun]
    exact hdone h0
  · obtain ⟨hem, _⟩ := mem_left he
    obtain ⟨q, hq⟩ := R.keys en hem
    have hv : f q = some en.val := (R.get q _).2 ⟨en, hem, hq, rfl⟩
    have hw1 : Holds e w1 L := by rcases hal with rfl | rfl; exact hw; exact hw.drew
    have hset := heap_set (o' := .mapIter (some b) clock (seen.push en.born) clock) (hw1.obj hj)
    have hH : Holds e (setBlock w1 r (.mapIter (some b) clock (seen.push en.born) clock)) (L.set j (pto r (.mapIter (some b) clock (seen.push en.born) clock))) :=
      hw1.update hj (fun _ h => h) (P' := pto r (.mapIter (some b) clock (seen.push en.born) clock)) (fun h _ => by simp [pto]) (o' := .mapIter (some b) clock (seen.push en.born) clock) hset.1 (fun c hc => hset.2 c hc) rfl rfl rfl (by simp [setBlock])
    have hm := hmore q en.val en.born _ hv ⟨en, hem, rfl, hq, rfl⟩ (left_shrinks es seen en he) hH
    unfold Oper.wp execOp
    simp only [ho, hx, Sem.run_bind, Sem.run_pure, Result.andThen_ok, hrun, hq]
    exact hm
/-- What it handed out. -/
theorem wp_entry {x : Operand} {i j b r bn : Nat} {k : IntKind} {f : Int → Option Value} {es : Array MapEntry} {clock : Nat} {seen : Array Nat} {q : Int} {v : Value} (ho : o.op = .entry x) (hx : a.eval x = .pointer (some ⟨r, 0, none⟩)) (R : Rep es clock k f)
    (hw : Holds e w L) (hi : L[i]? = some (pto b (.map es clock))) (hj : L[j]? = some (pto r (.mapIter (some b) clock (seen.push bn) clock))) (hcur : Cur es bn k q v)
    (h : K (a.put o.dst (.tuple #[.int k q, v])) w) : o.wp P a w K Q := by
  obtain ⟨en, hem, rfl, hq, rfl⟩ := hcur
  have hrun := run_entry_at (P := P) w r b clock seen es clock en (hw.obj hj) (hw.obj hi) hem (by
    have := R.born
    unfold List.Nodup
    rw [List.pairwise_map]
    exact this)
  unfold Oper.wp execOp
  simp only [ho, hx, Sem.run_bind, Sem.run_pure, Result.andThen_ok, hrun, hq]
  exact h
theorem upon_next {t : TypeId} {i j b r c0 : Nat} {k : IntKind} {f : Int → Option Value} {es : Array MapEntry} {clock : Nat} {seen : Array Nat} (R : Rep es clock k f) (hc0 : clock ≤ c0)
    (hw : Holds e w L) (hi : L[i]? = some (pto b (.map es clock))) (hj : L[j]? = some (pto r (.mapIter (some b) clock seen c0)))
    (hdone : (leftOf es seen).size = 0 → K (a.put o.dst (.tuple #[.bool false])) w)
    (hmore : ∀ q v bn w', f q = some v → Cur es bn k q v → (leftOf es (seen.push bn)).size < (leftOf es seen).size → Holds e w' (L.set j (pto r (.mapIter (some b) clock (seen.push bn) clock))) → K (a.put o.dst (.tuple #[.bool true, .int k q, v])) w') :
    o.upon P a K Q ((Sem.run P (Instr.next (.pointer (some ⟨r, 0, none⟩)) false t) w).andThen fun a w' => .ok (.value a) w') := by
  rcases run_next_at (P := P) w t r b clock c0 seen es clock (hw.obj hj) (hw.obj hi) R.old hc0 with ⟨h0, hrun⟩ | ⟨en, he, w1, hal, hrun⟩
  · simp only [hrun, Result.andThen_ok]
    exact hdone h0
  · obtain ⟨hem, _⟩ := mem_left he
    obtain ⟨q, hq⟩ := R.keys en hem
    have hv : f q = some en.val := (R.get q _).2 ⟨en, hem, hq, rfl⟩
    have hw1 : Holds e w1 L := by rcases hal with rfl | rfl; exact hw; exact hw.drew
    have hset := heap_set (o' := .mapIter (some b) clock (seen.push en.born) clock) (hw1.obj hj)
    have hH : Holds e (setBlock w1 r (.mapIter (some b) clock (seen.push en.born) clock)) (L.set j (pto r (.mapIter (some b) clock (seen.push en.born) clock))) :=
      hw1.update hj (fun _ h => h) (P' := pto r (.mapIter (some b) clock (seen.push en.born) clock)) (fun h _ => by simp [pto]) (o' := .mapIter (some b) clock (seen.push en.born) clock) hset.1 (fun c hc => hset.2 c hc) rfl rfl rfl (by simp [setBlock])
    have hm := hmore q en.val en.born _ hv ⟨en, hem, rfl, hq, rfl⟩ (left_shrinks es seen en he) hH
    simp only [hrun, Result.andThen_ok, hq]
    exact hm
theorem upon_entry {i j b r bn : Nat} {k : IntKind} {f : Int → Option Value} {es : Array MapEntry} {clock : Nat} {seen : Array Nat} {q : Int} {v : Value} (R : Rep es clock k f)
    (hw : Holds e w L) (hi : L[i]? = some (pto b (.map es clock))) (hj : L[j]? = some (pto r (.mapIter (some b) clock (seen.push bn) clock))) (hcur : Cur es bn k q v)
    (h : K (a.put o.dst (.tuple #[.int k q, v])) w) : o.upon P a K Q ((Sem.run P (Instr.entry (.pointer (some ⟨r, 0, none⟩))) w).andThen fun a w' => .ok (.value a) w') := by
  obtain ⟨en, hem, rfl, hq, rfl⟩ := hcur
  have hrun := run_entry_at (P := P) w r b clock seen es clock en (hw.obj hj) (hw.obj hi) hem (by
    have := R.born
    unfold List.Nodup
    rw [List.pairwise_map]
    exact this)
  simp only [hrun, Result.andThen_ok, hq]
  exact h
/-- An element of an array that is a value. -/
theorem upon_index {t el : TypeId} {z v : Value} {n kb : Nat} {i : Int} {k : IntKind} {cs : Array Value} [ti : TI P el z 1 kb] [fl : Flat P el] (ht : P.underlying t = some (.array n el)) (hi : 0 ≤ i ∧ i < (n : Int)) (hv : cs[i.toNat]? = some v)
    (h : K (a.put o.dst v) w) : o.upon P a K Q ((Sem.run P (Instr.index t (.agg cs) (.int k i)) w).andThen fun a w' => .ok (.value a) w') := by
  have hrun : (Instr.index t (.agg cs) (.int k i)).run P w = .ok v w := by
    simp only [Instr.index, asIntOf, Sem.run_bind, Sem.run_pure, Result.andThen_ok, run_underlying ht, hi, and_self, if_true, ti.sizeOf_run, Nat.mul_one, part, fl.run, Bool.false_eq_true, if_false, hv]
  simp only [hrun, Result.andThen_ok]
  exact h
end
end Go.Sep
/-
  A range over a function, over what a world holds: the statement, one round, the call of yield, and how the function that holds the loop is left.
-/
namespace Go.Sep
set_option linter.unusedSimpArgs false
set_option linter.unusedVariables false
open Go.RowKit

/-- A fence that asks nothing (whatever the round). -/
structure Wide (F : Fence) : Prop where
  fn : ∀ f, F.fn f
  depth : F.depth = none
  calls : ∀ {n : Nat} {P : Program} {f : FuncId} {args : Array Value} {w : World} {R : Ending → World → Prop}, Calls P f args w R → CallsIn F n P f args w R
  rows : ∀ {n : Nat} {P : Program} {row : String} {args : Array Value} {w : World} {R : Value → World → Prop}, Rows P row args w R → RowsIn F n P row args w R

theorem rowsIn_wide {n : Nat} {P : Program} {row : String} {args : Array Value} {w : World} {R : Value → World → Prop} (h : Rows P row args w R) : RowsIn Fence.wide n P row args w R :=
  fun c cs _ => let ⟨v, w', r, s⟩ := h c cs; ⟨v, w', r, stepsIn_wide.2 s⟩
theorem Wide.wide : Wide Fence.wide := ⟨fun _ => trivial, rfl, fun h => callsIn_wide.2 h, fun h => rowsIn_wide h⟩
theorem Wide.round (r : Nat) : Wide (Fence.wide.inRound r) := ⟨fun _ => trivial, rfl, fun h => callsIn_wide.2 h, fun h => rowsIn_wide h⟩

def noDefer : Oper → Bool
  | { op := .defer _, .. } => false
  | _ => true
theorem noDefer.ne {o : Oper} (h : noDefer o = true) : ∀ c, o.op ≠ .defer c := by
  intro c hc
  obtain ⟨d, op, p, g⟩ := o
  simp only at hc
  subst hc
  simp [noDefer] at h

section
variable {P : Program} {ops : Array Oper} {Q : Exit → Act → World → Prop} {K : Act → World → Prop} {a : Act} {e w : World} {rest : List Oper} {o : Oper} {L : List HProp} {F : Fence} {n : Nat}

theorem uponIn_of {x : Result Next} (hF : Wide F) (h : o.upon P a K Q x) : o.uponIn F n P a K Q x := by
  unfold Oper.upon at h
  unfold Oper.uponIn
  have hd : F.depth.isSome = true → 1 ≤ n := by rw [hF.depth]; intro h; cases h
  split at h
  · exact h
  · exact h
  · exact h
  · exact ⟨hd, hF.calls h⟩
  · exact ⟨hd, hF.rows h⟩
  · exact h
  · exact h.elim
theorem wpIn_ofwp (hF : Wide F) (hd : noDefer o = true) (h : o.wp P a w K Q) : o.wpIn F n P a w K Q := by
  refine ⟨fun _ _ => hF.fn _, ?_⟩
  have e1 : o.semAt F.round a.eval = execOp a.eval o := by
    cases hr : F.round with
    | none => exact Oper.semAt_none _ _
    | some r => exact Oper.semAt_some r _ _ (noDefer.ne hd)
  rw [e1]
  exact uponIn_of hF h
theorem wpListIn_on (hF : Wide F) (hd : noDefer o = true) (hwant : Region.wanted o (yielded ops a.tmps) = true) (h : o.wp P a w (wpListIn F n P ops Q rest) Q) : wpListIn F n P ops Q (o :: rest) a w := by
  simp only [wpListIn, hwant, if_true]
  exact wpIn_ofwp hF hd h
/-- A row of operations, walked as everywhere. -/
theorem wpListIn_of (hF : Wide F) (hQ : ∀ a w, ¬ Q .outgrown a w) : ∀ {l : List Oper} {a : Act} {w : World}, l.all noDefer = true → wpList P ops Q l a w → wpListIn F n P ops Q l a w
  | [], _, _, _, h => h
  | o :: l, a, w, hd, h => by
    simp only [List.all_cons, Bool.and_eq_true] at hd
    simp only [wpList] at h
    simp only [wpListIn]
    split
    · rename_i hw
      rw [if_pos hw] at h
      rcases h with h | ⟨_, a', w', h⟩
      · refine wpIn_ofwp hF hd.1 ?_
        refine Oper.wp_mono ?_ h
        intro a w h
        exact wpListIn_of hF hQ hd.2 h
      · exact (hQ _ _ h).elim
    · rename_i hw
      rw [if_neg hw] at h
      exact ⟨fun _ _ => hF.fn _, wpListIn_of hF hQ hd.2 h⟩
end

/-- The loop's record. -/
abbrev recOf (fn : FuncId) (tmps : Array Value) (ps : Array Tmp) (assign body : Code) (D : Nat) (st : LoopState) (pe : Option Code) : Loop :=
  { state := st, pending := pe, fn, tmps, params := ps, assign, body, defers := D }
abbrev markOf (D : Nat) : Deferred := { target := .collected D, args := #[] }

section
variable {P : Program} {ops : Array Oper} {Q : Exit → Act → World → Prop} {K : Act → World → Prop} {a : Act} {e w : World} {rest : List Oper} {o : Oper} {L : List HProp} {F : Fence} {n : Nat}

theorem Holds.putObj {i b : Nat} {x : Obj} (hw : Holds e w L) (hi : L[i]? = some (pto b x)) (y : Obj) : Holds e (w.putObj b y) (L.set i (pto b y)) := by
  have hb : w.heap[b]? = some x := hw.read hi fun _ h => h
  have hlt := (Array.getElem?_eq_some_iff.1 hb).1
  exact hw.update hi (fun _ h => h) (fun h _ => by simp [pto]) (World.putObj_heap_same hlt) (fun c hc => World.putObj_heap_other hc) rfl rfl rfl World.putObj_size
theorem Holds.putEmp {i b : Nat} {x : Obj} (hw : Holds e w L) (hi : L[i]? = some (pto b x)) (y : Obj) : Holds e (w.putObj b y) (L.set i emp) := by
  have hil : i < L.length := (List.getElem?_eq_some_iff.1 hi).1
  have h := (hw.putObj hi y).imp (i := i) emp (List.getElem?_set_self hil) (fun _ _ => trivial)
  rwa [List.set_set] at h
theorem Holds.getObj {i b : Nat} {x : Obj} (hw : Holds e w L) (hi : L[i]? = some (pto b x)) : w.heap[b]? = some x := hw.read hi fun _ h => h

/-- The statement. -/
theorem wp_rangeFunc {g : Operand} {ps : Array Tmp} {assign body : Code} {gf : Nat} {lb : Array Value} (hg : a.eval g = .func (.func gf) #[] lb) (eg : ∀ args w, (callFunc gf args).run P w = .ok (.enter gf args) w) (hw : Holds e w L)
    (h : ∀ (fn l D : Nat) (rec : LoopState → Option Code → Loop) (w1 : World), rec = recOf fn a.tmps ps assign body D → Holds e w1 (L ++ [pto D (.deferred (some [])), pto l (.loop (rec .ready none))]) →
      CallsIn Fence.wide 9 P gf (#[.func (.yield l) #[] #[]] ++ lb) w1 fun en w3 => (∃ v, en = .returned v) ∧ ∃ (L' : List HProp) (i : Nat) (st : LoopState) (pe : Option Code),
        Holds e w3 L' ∧ L'[i]? = some (pto l (.loop (rec st pe))) ∧ st ≠ .busy ∧
        ∀ w4, Holds e w4 (L'.set i emp) → (match pe with | none => Q .normal { a with defers := markOf D :: a.defers } w4 | some c => c.wp P Q { a with defers := markOf D :: a.defers } w4)) :
    (Code.rangeFunc g ps assign body).wp P Q a w := by
  refine wpIn_wide (n := 10).1 (wpIn_rangeFunc ?_)
  intro fn _
  have h1 := (hw.alloc (.deferred (some []))).alloc (.loop (recOf fn a.tmps ps assign body w.heap.size .ready none))
  rw [World.size_alloc, List.append_assoc] at h1
  have he := run_enterLoop_outer (P := P) (w := w) fn a.tmps ps assign body
  obtain ⟨W1, hW1⟩ : ∃ W1, (w.alloc (.deferred (some []))).alloc (.loop (recOf fn a.tmps ps assign body w.heap.size .ready none)) = W1 := ⟨_, rfl⟩
  rw [hW1] at h1 he
  refine ⟨w.heap.size + 1, [markOf w.heap.size], W1, { target := .fn (.func gf) lb, args := #[.func (.yield (w.heap.size + 1)) #[] #[]] }, W1, gf, #[.func (.yield (w.heap.size + 1)) #[] #[]] ++ lb, W1, he, ?_, fun _ _ => trivial, ?_, fun h => (by cases h), ?_⟩
  · simp only [resolve, hg]
    simp [go_sem]
  · simp [invoke, go_sem, eg]
  · refine (h fn (w.heap.size + 1) w.heap.size _ _ rfl h1).mono ?_
    rintro en w3 ⟨⟨v, rfl⟩, L', i, st, pe, hw3, hi, hb, hk⟩
    refine ⟨pe, _, run_endLoop (hw3.getObj hi) hb, ?_⟩
    have h4 := hk _ (hw3.putEmp hi (.loop { recOf fn a.tmps ps assign body w.heap.size st pe with state := .exhausted }))
    cases pe with
    | none => exact h4
    | some c => exact wpIn_wide.2 h4

/-- How a round's body may be left. -/
def roundSep (e : World) (l : Nat) (rec : LoopState → Option Code → Loop) (R : Ending → World → Prop) : Exit → Act → World → Prop
  | .normal, _, w => ∃ (L : List HProp) (j : Nat), Holds e w L ∧ L[j]? = some (pto l (.loop (rec .busy none))) ∧ ∀ w', Holds e w' (L.set j (pto l (.loop (rec .ready none)))) → R (.returned (.bool true)) w'
  | .ret, _, w => ∃ (L : List HProp) (j : Nat), Holds e w L ∧ L[j]? = some (pto l (.loop (rec .busy none))) ∧ ∀ w', Holds e w' (L.set j (pto l (.loop (rec .done (some .ret))))) → R (.returned (.bool false)) w'
  | .exit x, _, w => ∃ (L : List HProp) (j : Nat), Holds e w L ∧ L[j]? = some (pto l (.loop (rec .busy none))) ∧ ∀ w', Holds e w' (L.set j (pto l (.loop (rec .done (some (.exit x)))))) → R (.returned (.bool false)) w'
  | .goto t, _, w => ∃ (L : List HProp) (j : Nat), Holds e w L ∧ L[j]? = some (pto l (.loop (rec .busy none))) ∧ ∀ w', Holds e w' (L.set j (pto l (.loop (rec .done (some (.goto t)))))) → R (.returned (.bool false)) w'
  | .panic _, _, _ => False
  | .outgrown, _, _ => False

/-- How the assignments to the loop's left sides end: with the round's body ahead. -/
def assignSep (e : World) (l : Nat) (rec : LoopState → Option Code → Loop) (body : Code) (P : Program) (n : Nat) (R : Ending → World → Prop) (a1 : Act) (w1 : World) : Prop :=
  ∃ (L1 : List HProp) (j : Nat), Holds e w1 L1 ∧ L1[j]? = some (pto l (.loop (rec .ready none))) ∧
    ∀ w2, Holds e w2 (L1.set j (pto l (.loop (rec .busy none)))) → body.wpIn (Fence.wide.inRound l) n P (roundSep e l rec R) a1 w2

/-- One call of yield. -/
theorem yield_at {i l fn D : Nat} {tmps args : Array Value} {ps : Array Tmp} {assign body : Code} {rec : LoopState → Option Code → Loop} {R : Ending → World → Prop} (hrec : rec = recOf fn tmps ps assign body D) (hw : Holds e w L) (hi : L[i]? = some (pto l (.loop (rec .ready none)))) (hs : args.size = ps.size)
    (h : assign.wpIn (Fence.wide.inRound l) n P (Exit.then (assignSep e l rec body P n R) (fun _ _ _ => False)) { tmps := (ps.zip args).foldl (fun t (p, v) => t.setIfInBounds p v) tmps, defers := [] } w) :
    YieldAt Fence.wide n P l args w R := by
  subst hrec
  have hy := run_yield (P := P) (args := args) (hw.getObj hi) hs
  refine ⟨fn, _, assign, body, hy, roundIn_of_wpIn trivial (wpIn_mono h ?_)⟩
  intro ex a1 w1 hq
  cases ex with
  | normal =>
    obtain ⟨L1, j, hw1, hj, hk⟩ := hq
    refine ⟨_, run_beginRound (hw1.getObj hj) rfl, wpIn_mono (hk _ (hw1.putObj hj _)) ?_⟩
    intro ex a3 w3 hp
    cases ex with
    | normal =>
      obtain ⟨L3, q, hw3, hq, hk3⟩ := hp
      exact ⟨_, _, run_endRound none (hw3.getObj hq), hk3 _ (hw3.putObj hq _)⟩
    | ret =>
      obtain ⟨L3, q, hw3, hq, hk3⟩ := hp
      exact ⟨_, _, run_endRound (some .ret) (hw3.getObj hq), hk3 _ (hw3.putObj hq _)⟩
    | exit id =>
      obtain ⟨L3, q, hw3, hq, hk3⟩ := hp
      exact ⟨_, _, run_endRound (some (.exit id)) (hw3.getObj hq), hk3 _ (hw3.putObj hq _)⟩
    | goto t =>
      obtain ⟨L3, q, hw3, hq, hk3⟩ := hp
      exact ⟨_, _, run_endRound (some (.goto t)) (hw3.getObj hq), hk3 _ (hw3.putObj hq _)⟩
    | panic _ => exact hp
    | outgrown => exact hp
  | _ => exact hq.elim

/-- The operation that calls yield. -/
theorem wpListIn_yield {f : Operand} {args : Array Operand} {ts : Array TypeId} {l : Nat} {vs : Array Value} {R : Ending → World → Prop} (hF : F = Fence.wide) (ho : o.op = .call { callee := .value f, args := args, argTypes := ts }) (hf : a.eval f = .func (.yield l) #[] #[])
    (hv : args.map a.eval = vs) (hwant : Region.wanted o (yielded ops a.tmps) = true) (hY : YieldAt Fence.wide (n - 1) P l vs w R) (h : ∀ en w', R en w' → ∃ v, en = .returned v ∧ wpListIn F n P ops Q rest (a.put o.dst v) w') :
    wpListIn F n P ops Q (o :: rest) a w := by
  subst hF
  simp only [wpListIn, hwant, if_true]
  refine ⟨fun _ _ => trivial, ?_⟩
  obtain ⟨fn, tmps, assign, body, hy, hR⟩ := hY
  have e1 : o.semAt Fence.wide.round a.eval = execOp a.eval o := Oper.semAt_none _ _
  rw [e1]
  unfold execOp
  subst hv
  have hr : (Sem.run P (do let d ← resolve a.eval { callee := .value f, args := args, argTypes := ts } o.type; invoke d.target d.args) w) = .ok (.round l fn tmps assign body) w := by
    simp only [resolve, hf, Deferred.ofValue, invoke, Sem.run_bind, Sem.run_pure, Result.andThen_ok]
    simpa using hy
  rw [ho]
  simp only [resolve, hf, Deferred.ofValue, invoke, Sem.run_bind, Sem.run_pure, Result.andThen_ok] at hr ⊢
  rw [hr]
  refine ⟨fun h => (by cases h), hR.mono ?_⟩
  intro en w' hen
  obtain ⟨v, rfl, hk⟩ := h en w' hen
  exact hk

/-- A function that holds a loop over a function: entered .. -/
theorem calls_of_wp_marks {f : FuncId} {fn : Func} {c : Code} {args : Array Value} {R : Ending → World → Prop} (hf : P.funcs[f]? = some fn) (hb : fn.body = some c)
    (h : c.wp P (bodyPostM Fence.wide 9 P fn R) { tmps := args ++ Array.replicate (fn.ntmps - args.size) undef, defers := [] } w) : Calls P f args w R :=
  callsIn_wide.1 (callsIn_of_wp_marks (n := 9) hf hb trivial (wpIn_wide.2 h))
/-- .. and left. -/
theorem leaves_mark {fn : Func} {tmps : Array Value} {R : Ending → World → Prop} {D i : Nat} (hw : Holds e w L) (hi : L[i]? = some (pto D (.deferred (some []))))
    (h : ∀ w', Holds e w' (L.set i emp) → ∃ v, (results fn tmps).run P w' = .ok v w' ∧ R (.returned v) w') : LeavesInM Fence.wide n P fn tmps R [markOf D] .returning w := by
  refine ⟨by simp, .inl ⟨D, _, rfl, run_takeDeferred (hw.getObj hi), ?_⟩⟩
  exact h _ (hw.putEmp hi _)
end

theorem callsIn_post {F : Fence} {n : Nat} {P : Program} {f : FuncId} {args : Array Value} {w : World} {Φ : Ending → World → Prop} (h : ∀ Post : Ending → World → Prop, (∀ en w', Φ en w' → Post en w') → CallsIn F n P f args w Post) : CallsIn F n P f args w Φ :=
  h Φ fun _ _ h => h

theorem res_cell1 {P : Program} {e w : World} {L : List HProp} {fn : Func} {p : Tmp} {ty : TypeId} {b i : Nat} {v : Value} {t : TypeId} {tmps : Array Value} [fl : Flat P ty] (h : fn.results = #[.cell p ty])
    (hp : tmps.getD p undef = .pointer (some ⟨b, 0, none⟩)) (hw : Holds e w L) (hi : L[i]? = some (pt b [v] t)) :
    (results fn tmps).run P w = .ok v w := by
  have hc : w.cell? ⟨b, 0, none⟩ = some v := by rw [hw.cells hi]; rfl
  have hf := Flat.run fl w
  have hp' : tmps[p]?.getD undef = .pointer (some ⟨b, 0, none⟩) := by simpa using hp
  have hr : (loadVar ty ⟨b, 0, none⟩).run P w = .ok v w := by
    simp [loadVar, Sem.run_bind, hf, Result.andThen, hc, Sem.run]
  simp [results, h, hp', asAddr, hr]
theorem callFunc_run {P : Program} {f : FuncId} (hb : HasBody P f) : ∀ args w, (callFunc f args).run P w = .ok (.enter f args) w := by
  obtain ⟨fn, hfn, hbody, hname⟩ := hb
  intro args w
  have h1 : fn.name ≠ "runtime.NumGoroutine" := by simpa using hname
  have h2 : fn.body ≠ none := by intro h0; simp [h0] at hbody
  simp [callFunc, hfn, h1, h2]

/-! A measure of which no cell tells: the least of those that fit. -/
theorem exists_min {G : Nat → Prop} (h : ∃ k, G k) : ∃ k, G k ∧ ∀ j, j < k → ¬ G j := by
  obtain ⟨k, hk⟩ := h
  induction k using Nat.strongRecOn with
  | _ k ih =>
    by_cases hj : ∃ j, j < k ∧ G j
    · obtain ⟨j, hjk, hj⟩ := hj; exact ih j hjk hj
    · exact ⟨k, hk, fun j hjk hj' => hj ⟨j, hjk, hj'⟩⟩
open Classical in
noncomputable def ghost (G : Nat → World → Prop) (w : World) : Nat := if h : ∃ k, G k w then (exists_min h).choose else 0
theorem ghost_spec {G : Nat → World → Prop} {w : World} {k : Nat} (h : G k w) : G (ghost G w) w := by
  have hx : ∃ k, G k w := ⟨k, h⟩
  unfold ghost
  rw [dif_pos hx]
  exact (exists_min hx).choose_spec.1
theorem ghost_le {G : Nat → World → Prop} {w : World} {k : Nat} (h : G k w) : ghost G w ≤ k := by
  have hx : ∃ k, G k w := ⟨k, h⟩
  unfold ghost
  rw [dif_pos hx]
  exact Nat.le_of_not_lt fun hlt => (exists_min hx).choose_spec.2 k hlt h
end Go.Sep
/-
  A range over a string of ASCII letters, among held blocks.
-/
namespace Go.Sep
set_option linter.unusedSimpArgs false
set_option linter.unusedVariables false
/-- How many letters are left, by what the world holds. -/
def strLeft (r : Nat) (w : World) : Nat := match w.heap[r]? with | some (.stringIter s pos) => s.size - pos | _ => 0
section
variable {P : Program} {ops : Array Oper} {Q : Exit → Act → World → Prop} {K : Act → World → Prop} {a : Act} {e w : World} {rest : List Oper} {o : Oper} {L : List HProp}
theorem Holds.strLeft {i r pos : Nat} {s : ByteArray} (hw : Holds e w L) (hi : L[i]? = some (pto r (.stringIter s pos))) : strLeft r w = s.size - pos := by
  unfold Go.Sep.strLeft; rw [hw.obj hi]
theorem wp_rangeStr {t : TypeId} {x : Operand} {s : ByteArray} (ht : P.underlying t = some .string) (ho : o.op = .range t x) (hx : a.eval x = .string s) (hw : Holds e w L)
    (h : ∀ b w', Holds e w' (L ++ [pto b (.stringIter s 0)]) → K (a.put o.dst (.pointer (some ⟨b, 0, none⟩))) w') : o.wp P a w K Q := by
  have hr : (Instr.range t (.string s)).run P w = .ok (.pointer (some ⟨w.heap.size, 0, none⟩)) (w.alloc (.stringIter s 0)) := by
    simp [Instr.range, Sem.run_bind, run_underlying ht, Result.andThen, run_newObj_alloc]
  unfold Oper.wp execOp
  simp only [ho, hx, Sem.run_bind, Sem.run_pure, hr, Result.andThen_ok]
  exact h _ _ (hw.alloc _)
theorem wp_nextStr {x : Operand} {r pos i c : Nat} {s : ByteArray} (ho : o.op = .next x true) (hx : a.eval x = .pointer (some ⟨r, 0, none⟩)) (hw : Holds e w L) (hi : L[i]? = some (pto r (.stringIter s pos)))
    (hlt : pos < s.size) (hd : Utf8.decode s pos = (c, 1)) (h : ∀ w', Holds e w' (L.set i (pto r (.stringIter s (pos + 1)))) → K (a.put o.dst (.tuple #[.bool true, .int .i64 (pos : Int), .int .i32 (c : Int)])) w') : o.wp P a w K Q := by
  have hb := hw.obj hi
  have hlt' := (Array.getElem?_eq_some_iff.1 hb).1
  have hr : ∀ ty, (Instr.next (.pointer (some ⟨r, 0, none⟩)) true ty).run P w = .ok (.tuple #[.bool true, .int .i64 (pos : Int), .int .i32 (c : Int)]) { w with heap := w.heap.setIfInBounds r (.stringIter s (pos + 1)) } := by
    intro ty
    simp [Instr.next, Sem.run_bind, getObj, setObj, Sem.run, hb, Result.andThen, hlt, hd, goInt]
  unfold Oper.wp execOp
  simp only [ho, hx, Sem.run_bind, Sem.run_pure, hr, Result.andThen_ok]
  exact h _ (hw.putObj hi _)
theorem wp_nextEnd {x : Operand} {r pos i : Nat} {s : ByteArray} (ho : o.op = .next x true) (hx : a.eval x = .pointer (some ⟨r, 0, none⟩)) (hw : Holds e w L) (hi : L[i]? = some (pto r (.stringIter s pos)))
    (hlt : ¬ pos < s.size) (h : K (a.put o.dst (.tuple #[.bool false])) w) : o.wp P a w K Q := by
  have hb := hw.obj hi
  have hr : ∀ ty, (Instr.next (.pointer (some ⟨r, 0, none⟩)) true ty).run P w = .ok (.tuple #[.bool false]) w := by
    intro ty
    simp [Instr.next, Sem.run_bind, getObj, setObj, Sem.run, hb, Result.andThen, hlt]
  unfold Oper.wp execOp
  simp only [ho, hx, Sem.run_bind, Sem.run_pure, hr, Result.andThen_ok]
  exact h
theorem run_indexStr {t : TypeId} {x y : Operand} {s : ByteArray} {k : Nat} {b : UInt8} (ht : P.underlying t = some .string) (ho : o.op = .index t x y) (hx : a.eval x = .string s) (hy : a.eval y = .int .i64 (k : Int)) (hk : s[k]? = some b) :
    (execOp a.eval o).run P w = .ok (.value (.int .u8 (b.toNat : Int))) w := by
  have hr : (Instr.index t (.string s) (.int .i64 (k : Int))).run P w = .ok (.int .u8 (b.toNat : Int)) w := by
    simp [Instr.index, asIntOf, Sem.run_bind, run_underlying ht, Result.andThen, hk]
  unfold execOp
  simp only [ho, hx, hy, Sem.run_bind, Sem.run_pure, hr, Result.andThen_ok]
end
end Go.Sep
/-
  Lists whose elements are laid one behind the other, so many cells each; a piece in the middle of a row.
-/
namespace Go.Sep
set_option linter.unusedSimpArgs false
set_option linter.unusedVariables false
theorem calls_post {P : Program} {f : FuncId} {args : Array Value} {w : World} {Φ : Ending → World → Prop} (h : ∀ Post : Ending → World → Prop, (∀ en w', Φ en w' → Post en w') → Calls P f args w Post) : Calls P f args w Φ :=
  h Φ fun _ _ h => h
theorem hid {p : Prop} (h : p) : RowKit.Hid p := h
section
variable {α β : Type}

theorem flat_len {f : α → List β} {k : Nat} (hf : ∀ a, (f a).length = k) (l : List α) : (l.flatMap f).length = l.length * k := by
  induction l with
  | nil => simp
  | cons a l ih => simp [ih, hf, Nat.add_mul]; omega

theorem flat_split (f : α → List β) {l : List α} {i : Nat} {a : α} (hi : l[i]? = some a) : l.flatMap f = (l.take i).flatMap f ++ f a ++ (l.drop (i + 1)).flatMap f := by
  obtain ⟨h, rfl⟩ := List.getElem?_eq_some_iff.1 hi
  have e : l.flatMap f = (l.take i ++ l[i] :: l.drop (i + 1)).flatMap f := by rw [← List.drop_eq_getElem_cons h, List.take_append_drop]
  rw [e, List.flatMap_append, List.flatMap_cons, List.append_assoc]

theorem flat_set (f : α → List β) {l : List α} {i : Nat} (b : α) (hi : i < l.length) : (l.set i b).flatMap f = (l.take i).flatMap f ++ f b ++ (l.drop (i + 1)).flatMap f := by
  have h1 : (l.set i b)[i]? = some b := by simp [hi]
  rw [flat_split f h1, List.take_set_of_le (Nat.le_refl _), List.drop_set_of_lt (by omega)]

theorem flat_take_len {f : α → List β} {k : Nat} (hf : ∀ a, (f a).length = k) {l : List α} {i : Nat} (hi : i ≤ l.length) : ((l.take i).flatMap f).length = i * k := by
  rw [flat_len hf, List.length_take, Nat.min_eq_left hi]

theorem flat_get {f : α → List β} {k : Nat} (hf : ∀ a, (f a).length = k) {l : List α} {i j : Nat} {a : α} (hi : l[i]? = some a) (hj : j < k) : (l.flatMap f)[i * k + j]? = (f a)[j]? := by
  have hlt : i < l.length := (List.getElem?_eq_some_iff.1 hi).1
  rw [flat_split f hi, List.append_assoc, List.getElem?_append_right (by rw [flat_take_len hf (by omega)]; omega), flat_take_len hf (by omega), Nat.add_sub_cancel_left, List.getElem?_append_left (by rw [hf]; exact hj)]

end
section
theorem mid_length (pre cs post : List Value) : (mid pre cs post).length = pre.length + cs.length + post.length := by simp [mid]; omega
theorem mid_get (pre cs post : List Value) (j : Nat) (h : j < cs.length) : (mid pre cs post)[pre.length + j]? = cs[j]? := by
  unfold mid
  rw [List.append_assoc, List.getElem?_append_right (by omega), Nat.add_sub_cancel_left, List.getElem?_append_left h]
theorem mid_get0 (pre cs post : List Value) (h : 0 < cs.length) : (mid pre cs post)[pre.length]? = cs[0]? := mid_get pre cs post 0 h
theorem mid_set (pre cs post : List Value) (j : Nat) (v : Value) (h : j < cs.length) : (mid pre cs post).set (pre.length + j) v = mid pre (cs.set j v) post := by
  unfold mid
  rw [List.append_assoc, List.set_append_right (pre.length + j) v (by omega), Nat.add_sub_cancel_left, List.set_append_left j v (by omega), List.append_assoc]
theorem mid_set2 (pre cs post : List Value) (j k : Nat) (v : Value) (h : j + k < cs.length) : (mid pre cs post).set (pre.length + j + k) v = mid pre (cs.set (j + k) v) post := by rw [Nat.add_assoc]; exact mid_set pre cs post _ v h
theorem mid_get2 (pre cs post : List Value) (j k : Nat) (h : j + k < cs.length) : (mid pre cs post)[pre.length + j + k]? = cs[j + k]? := by rw [Nat.add_assoc]; exact mid_get pre cs post _ h
theorem mid_set0 (pre cs post : List Value) (v : Value) (h : 0 < cs.length) : (mid pre cs post).set pre.length v = mid pre (cs.set 0 v) post := mid_set pre cs post 0 v h

theorem splice_length (cs : List Value) (o : Nat) (vs : List Value) (h : o + vs.length ≤ cs.length) : (splice cs o vs).length = cs.length := by
  simp [splice]; omega
theorem mid_splice (pre cs post : List Value) (j : Nat) (vs : List Value) (h : j + vs.length ≤ cs.length) : splice (mid pre cs post) (pre.length + j) vs = mid pre (splice cs j vs) post := by
  unfold splice mid
  have e1 : (pre ++ cs ++ post).take (pre.length + j) = pre ++ cs.take j := by
    rw [List.append_assoc, List.take_append, List.take_of_length_le (by omega), Nat.add_sub_cancel_left, List.take_append_of_le_length (by omega)]
  have e2 : (pre ++ cs ++ post).drop (pre.length + j + vs.length) = cs.drop (j + vs.length) ++ post := by
    rw [List.append_assoc, List.drop_append, List.drop_eq_nil_of_le (by omega), show pre.length + j + vs.length - pre.length = j + vs.length by omega, List.drop_append_of_le_length (by omega), List.nil_append]
  rw [e1, e2]
  simp
theorem mid_splice0 (pre cs post : List Value) (vs : List Value) (h : vs.length ≤ cs.length) : splice (mid pre cs post) pre.length vs = mid pre (splice cs 0 vs) post := mid_splice pre cs post 0 vs (by omega)
theorem splice_all (cs vs : List Value) (h : cs.length = vs.length) : splice cs 0 vs = vs := by
  unfold splice
  rw [Nat.zero_add, ← h, List.drop_length]; simp
/-- The element i of what lies in the middle. -/
theorem mid_elem {α : Type} {f : α → List Value} {l : List α} {i : Nat} {a : α} (hi : l[i]? = some a) (pre post : List Value) :
    mid pre (l.flatMap f) post = mid (pre ++ (l.take i).flatMap f) (f a) ((l.drop (i + 1)).flatMap f ++ post) := by
  unfold mid
  rw [flat_split f hi]
  simp
theorem mid_elem_set {α : Type} (f : α → List Value) {l : List α} {i : Nat} (a : α) (hi : i < l.length) (pre post : List Value) :
    mid pre ((l.set i a).flatMap f) post = mid (pre ++ (l.take i).flatMap f) (f a) ((l.drop (i + 1)).flatMap f ++ post) := by
  unfold mid
  rw [flat_set f a hi]
  simp
end
end Go.Sep
namespace Go.Sep
theorem ifok {c : Prop} [Decidable c] {b : Bool} {X : Result Bool} {w : World} (h : X = .ok b w) : (if c then X else .ok false w) = .ok (decide c && b) w := by
  by_cases hc : c <;> simp [hc, h]
theorem ifok1 {c : Prop} [Decidable c] {w : World} : (if c then .ok true w else .ok false w) = Result.ok (decide c) w := by
  by_cases hc : c <;> simp [hc]
theorem ifokV {c : Prop} [Decidable c] {b : Bool} {X : Result Value} {w : World} (h : X = .ok (.bool b) w) : (if c then X else .ok (.bool false) w) = .ok (.bool (decide c && b)) w := by
  by_cases hc : c <;> simp [hc, h]
theorem ifokV1 {c : Prop} [Decidable c] {w : World} : (if c then .ok (.bool true) w else .ok (.bool false) w) = Result.ok (Value.bool (decide c)) w := by
  by_cases hc : c <;> simp [hc]
end Go.Sep
/-
  The walks of Form and fits, the program's and the document's.
-/
namespace Go.Proofs.YteinbojpmhblkaaDoor
set_option linter.unusedSimpArgs false
set_option linter.unusedVariables false
open Go.RowKit Go.Sep

def FormSays (f : Nat) (op : Int) : Prop := ∀ w : World, Calls Tryd.prog f #[.int .i64 op] w fun en w' => en = .returned (.string (strOf (formP op))) ∧ w' = w
set_option maxRecDepth 20000 in
set_option maxHeartbeats 40000000 in
theorem oForm_at : ∀ q : Nat, q < 47 → FormSays 53 (q : Int)
  | 0, _ => show FormSays _ 0 from
    by
      intro w
      refine Sep.calls_post ?_
      intro Post_ hPost_
      have HP := Sep.hid hPost_
      clear hPost_
      go_enter Tryd.func53, Tryd.ntmps53
      go_wp2_with fail
      exact HP.out _ _ ⟨rfl, rfl⟩
  | 1, _ => show FormSays _ 1 from
    by
      intro w
      refine Sep.calls_post ?_
      intro Post_ hPost_
      have HP := Sep.hid hPost_
      clear hPost_
      go_enter Tryd.func53, Tryd.ntmps53
      go_wp2_with fail
      exact HP.out _ _ ⟨rfl, rfl⟩
  | 2, _ => show FormSays _ 2 from
    by
      intro w
      refine Sep.calls_post ?_
      intro Post_ hPost_
      have HP := Sep.hid hPost_
      clear hPost_
      go_enter Tryd.func53, Tryd.ntmps53
      go_wp2_with fail
      exact HP.out _ _ ⟨rfl, rfl⟩
  | 3, _ => show FormSays _ 3 from
    by
      intro w
      refine Sep.calls_post ?_
      intro Post_ hPost_
      have HP := Sep.hid hPost_
      clear hPost_
      go_enter Tryd.func53, Tryd.ntmps53
      go_wp2_with fail
      exact HP.out _ _ ⟨rfl, rfl⟩
  | 4, _ => show FormSays _ 4 from
    by
      intro w
      refine Sep.calls_post ?_
      intro Post_ hPost_
      have HP := Sep.hid hPost_
      clear hPost_
      go_enter Tryd.func53, Tryd.ntmps53
      go_wp2_with fail
      exact HP.out _ _ ⟨rfl, rfl⟩
  | 5, _ => show FormSays _ 5 from
    by
      intro w
      refine Sep.calls_post ?_
      intro Post_ hPost_
      have HP := Sep.hid hPost_
      clear hPost_
      go_enter Tryd.func53, Tryd.ntmps53
      go_wp2_with fail
      exact HP.out _ _ ⟨rfl, rfl⟩
  | 6, _ => show FormSays _ 6 from
    by
      intro w
      refine Sep.calls_post ?_
      intro Post_ hPost_
      have HP := Sep.hid hPost_
      clear hPost_
      go_enter Tryd.func53, Tryd.ntmps53
      go_wp2_with fail
      exact HP.out _ _ ⟨rfl, rfl⟩
  | 7, _ => show FormSays _ 7 from
    by
      intro w
      refine Sep.calls_post ?_
      intro Post_ hPost_
      have HP := Sep.hid hPost_
      clear hPost_
      go_enter Tryd.func53, Tryd.ntmps53
      go_wp2_with fail
      exact HP.out _ _ ⟨rfl, rfl⟩
  | 8, _ => show FormSays _ 8 from
    by
      intro w
      refine Sep.calls_post ?_
      intro Post_ hPost_
      have HP := Sep.hid hPost_
      clear hPost_
      go_enter Tryd.func53, Tryd.ntmps53
      go_wp2_with fail
      exact HP.out _ _ ⟨rfl, rfl⟩
  | 9, _ => show FormSays _ 9 from
    by
      intro w
      refine Sep.calls_post ?_
      intro Post_ hPost_
      have HP := Sep.hid hPost_
      clear hPost_
      go_enter Tryd.func53, Tryd.ntmps53
      go_wp2_with fail
      exact HP.out _ _ ⟨rfl, rfl⟩
  | 10, _ => show FormSays _ 10 from
    by
      intro w
      refine Sep.calls_post ?_
      intro Post_ hPost_
      have HP := Sep.hid hPost_
      clear hPost_
      go_enter Tryd.func53, Tryd.ntmps53
      go_wp2_with fail
      exact HP.out _ _ ⟨rfl, rfl⟩
  | 11, _ => show FormSays _ 11 from
    by
      intro w
      refine Sep.calls_post ?_
      intro Post_ hPost_
      have HP := Sep.hid hPost_
      clear hPost_
      go_enter Tryd.func53, Tryd.ntmps53
      go_wp2_with fail
      exact HP.out _ _ ⟨rfl, rfl⟩
  | 12, _ => show FormSays _ 12 from
    by
      intro w
      refine Sep.calls_post ?_
      intro Post_ hPost_
      have HP := Sep.hid hPost_
      clear hPost_
      go_enter Tryd.func53, Tryd.ntmps53
      go_wp2_with fail
      exact HP.out _ _ ⟨rfl, rfl⟩
  | 13, _ => show FormSays _ 13 from
    by
      intro w
      refine Sep.calls_post ?_
      intro Post_ hPost_
      have HP := Sep.hid hPost_
      clear hPost_
      go_enter Tryd.func53, Tryd.ntmps53
      go_wp2_with fail
      exact HP.out _ _ ⟨rfl, rfl⟩
  | 14, _ => show FormSays _ 14 from
    by
      intro w
      refine Sep.calls_post ?_
      intro Post_ hPost_
      have HP := Sep.hid hPost_
      clear hPost_
      go_enter Tryd.func53, Tryd.ntmps53
      go_wp2_with fail
      exact HP.out _ _ ⟨rfl, rfl⟩
  | 15, _ => show FormSays _ 15 from
    by
      intro w
      refine Sep.calls_post ?_
      intro Post_ hPost_
      have HP := Sep.hid hPost_
      clear hPost_
      go_enter Tryd.func53, Tryd.ntmps53
      go_wp2_with fail
      exact HP.out _ _ ⟨rfl, rfl⟩
  | 16, _ => show FormSays _ 16 from
    by
      intro w
      refine Sep.calls_post ?_
      intro Post_ hPost_
      have HP := Sep.hid hPost_
      clear hPost_
      go_enter Tryd.func53, Tryd.ntmps53
      go_wp2_with fail
      exact HP.out _ _ ⟨rfl, rfl⟩
  | 17, _ => show FormSays _ 17 from
    by
      intro w
      refine Sep.calls_post ?_
      intro Post_ hPost_
      have HP := Sep.hid hPost_
      clear hPost_
      go_enter Tryd.func53, Tryd.ntmps53
      go_wp2_with fail
      exact HP.out _ _ ⟨rfl, rfl⟩
  | 18, _ => show FormSays _ 18 from
    by
      intro w
      refine Sep.calls_post ?_
      intro Post_ hPost_
      have HP := Sep.hid hPost_
      clear hPost_
      go_enter Tryd.func53, Tryd.ntmps53
      go_wp2_with fail
      exact HP.out _ _ ⟨rfl, rfl⟩
  | 19, _ => show FormSays _ 19 from
    by
      intro w
      refine Sep.calls_post ?_
      intro Post_ hPost_
      have HP := Sep.hid hPost_
      clear hPost_
      go_enter Tryd.func53, Tryd.ntmps53
      go_wp2_with fail
      exact HP.out _ _ ⟨rfl, rfl⟩
  | 20, _ => show FormSays _ 20 from
    by
      intro w
      refine Sep.calls_post ?_
      intro Post_ hPost_
      have HP := Sep.hid hPost_
      clear hPost_
      go_enter Tryd.func53, Tryd.ntmps53
      go_wp2_with fail
      exact HP.out _ _ ⟨rfl, rfl⟩
  | 21, _ => show FormSays _ 21 from
    by
      intro w
      refine Sep.calls_post ?_
      intro Post_ hPost_
      have HP := Sep.hid hPost_
      clear hPost_
      go_enter Tryd.func53, Tryd.ntmps53
      go_wp2_with fail
      exact HP.out _ _ ⟨rfl, rfl⟩
  | 22, _ => show FormSays _ 22 from
    by
      intro w
      refine Sep.calls_post ?_
      intro Post_ hPost_
      have HP := Sep.hid hPost_
      clear hPost_
      go_enter Tryd.func53, Tryd.ntmps53
      go_wp2_with fail
      exact HP.out _ _ ⟨rfl, rfl⟩
  | 23, _ => show FormSays _ 23 from
    by
      intro w
      refine Sep.calls_post ?_
      intro Post_ hPost_
      have HP := Sep.hid hPost_
      clear hPost_
      go_enter Tryd.func53, Tryd.ntmps53
      go_wp2_with fail
      exact HP.out _ _ ⟨rfl, rfl⟩
  | 24, _ => show FormSays _ 24 from
    by
      intro w
      refine Sep.calls_post ?_
      intro Post_ hPost_
      have HP := Sep.hid hPost_
      clear hPost_
      go_enter Tryd.func53, Tryd.ntmps53
      go_wp2_with fail
      exact HP.out _ _ ⟨rfl, rfl⟩
  | 25, _ => show FormSays _ 25 from
    by
      intro w
      refine Sep.calls_post ?_
      intro Post_ hPost_
      have HP := Sep.hid hPost_
      clear hPost_
      go_enter Tryd.func53, Tryd.ntmps53
      go_wp2_with fail
      exact HP.out _ _ ⟨rfl, rfl⟩
  | 26, _ => show FormSays _ 26 from
    by
      intro w
      refine Sep.calls_post ?_
      intro Post_ hPost_
      have HP := Sep.hid hPost_
      clear hPost_
      go_enter Tryd.func53, Tryd.ntmps53
      go_wp2_with fail
      exact HP.out _ _ ⟨rfl, rfl⟩
  | 27, _ => show FormSays _ 27 from
    by
      intro w
      refine Sep.calls_post ?_
      intro Post_ hPost_
      have HP := Sep.hid hPost_
      clear hPost_
      go_enter Tryd.func53, Tryd.ntmps53
      go_wp2_with fail
      exact HP.out _ _ ⟨rfl, rfl⟩
  | 28, _ => show FormSays _ 28 from
    by
      intro w
      refine Sep.calls_post ?_
      intro Post_ hPost_
      have HP := Sep.hid hPost_
      clear hPost_
      go_enter Tryd.func53, Tryd.ntmps53
      go_wp2_with fail
      exact HP.out _ _ ⟨rfl, rfl⟩
  | 29, _ => show FormSays _ 29 from
    by
      intro w
      refine Sep.calls_post ?_
      intro Post_ hPost_
      have HP := Sep.hid hPost_
      clear hPost_
      go_enter Tryd.func53, Tryd.ntmps53
      go_wp2_with fail
      exact HP.out _ _ ⟨rfl, rfl⟩
  | 30, _ => show FormSays _ 30 from
    by
      intro w
      refine Sep.calls_post ?_
      intro Post_ hPost_
      have HP := Sep.hid hPost_
      clear hPost_
      go_enter Tryd.func53, Tryd.ntmps53
      go_wp2_with fail
      exact HP.out _ _ ⟨rfl, rfl⟩
  | 31, _ => show FormSays _ 31 from
    by
      intro w
      refine Sep.calls_post ?_
      intro Post_ hPost_
      have HP := Sep.hid hPost_
      clear hPost_
      go_enter Tryd.func53, Tryd.ntmps53
      go_wp2_with fail
      exact HP.out _ _ ⟨rfl, rfl⟩
  | 32, _ => show FormSays _ 32 from
    by
      intro w
      refine Sep.calls_post ?_
      intro Post_ hPost_
      have HP := Sep.hid hPost_
      clear hPost_
      go_enter Tryd.func53, Tryd.ntmps53
      go_wp2_with fail
      exact HP.out _ _ ⟨rfl, rfl⟩
  | 33, _ => show FormSays _ 33 from
    by
      intro w
      refine Sep.calls_post ?_
      intro Post_ hPost_
      have HP := Sep.hid hPost_
      clear hPost_
      go_enter Tryd.func53, Tryd.ntmps53
      go_wp2_with fail
      exact HP.out _ _ ⟨rfl, rfl⟩
  | 34, _ => show FormSays _ 34 from
    by
      intro w
      refine Sep.calls_post ?_
      intro Post_ hPost_
      have HP := Sep.hid hPost_
      clear hPost_
      go_enter Tryd.func53, Tryd.ntmps53
      go_wp2_with fail
      exact HP.out _ _ ⟨rfl, rfl⟩
  | 35, _ => show FormSays _ 35 from
    by
      intro w
      refine Sep.calls_post ?_
      intro Post_ hPost_
      have HP := Sep.hid hPost_
      clear hPost_
      go_enter Tryd.func53, Tryd.ntmps53
      go_wp2_with fail
      exact HP.out _ _ ⟨rfl, rfl⟩
  | 36, _ => show FormSays _ 36 from
    by
      intro w
      refine Sep.calls_post ?_
      intro Post_ hPost_
      have HP := Sep.hid hPost_
      clear hPost_
      go_enter Tryd.func53, Tryd.ntmps53
      go_wp2_with fail
      exact HP.out _ _ ⟨rfl, rfl⟩
  | 37, _ => show FormSays _ 37 from
    by
      intro w
      refine Sep.calls_post ?_
      intro Post_ hPost_
      have HP := Sep.hid hPost_
      clear hPost_
      go_enter Tryd.func53, Tryd.ntmps53
      go_wp2_with fail
      exact HP.out _ _ ⟨rfl, rfl⟩
  | 38, _ => show FormSays _ 38 from
    by
      intro w
      refine Sep.calls_post ?_
      intro Post_ hPost_
      have HP := Sep.hid hPost_
      clear hPost_
      go_enter Tryd.func53, Tryd.ntmps53
      go_wp2_with fail
      exact HP.out _ _ ⟨rfl, rfl⟩
  | 39, _ => show FormSays _ 39 from
    by
      intro w
      refine Sep.calls_post ?_
      intro Post_ hPost_
      have HP := Sep.hid hPost_
      clear hPost_
      go_enter Tryd.func53, Tryd.ntmps53
      go_wp2_with fail
      exact HP.out _ _ ⟨rfl, rfl⟩
  | 40, _ => show FormSays _ 40 from
    by
      intro w
      refine Sep.calls_post ?_
      intro Post_ hPost_
      have HP := Sep.hid hPost_
      clear hPost_
      go_enter Tryd.func53, Tryd.ntmps53
      go_wp2_with fail
      exact HP.out _ _ ⟨rfl, rfl⟩
  | 41, _ => show FormSays _ 41 from
    by
      intro w
      refine Sep.calls_post ?_
      intro Post_ hPost_
      have HP := Sep.hid hPost_
      clear hPost_
      go_enter Tryd.func53, Tryd.ntmps53
      go_wp2_with fail
      exact HP.out _ _ ⟨rfl, rfl⟩
  | 42, _ => show FormSays _ 42 from
    by
      intro w
      refine Sep.calls_post ?_
      intro Post_ hPost_
      have HP := Sep.hid hPost_
      clear hPost_
      go_enter Tryd.func53, Tryd.ntmps53
      go_wp2_with fail
      exact HP.out _ _ ⟨rfl, rfl⟩
  | 43, _ => show FormSays _ 43 from
    by
      intro w
      refine Sep.calls_post ?_
      intro Post_ hPost_
      have HP := Sep.hid hPost_
      clear hPost_
      go_enter Tryd.func53, Tryd.ntmps53
      go_wp2_with fail
      exact HP.out _ _ ⟨rfl, rfl⟩
  | 44, _ => show FormSays _ 44 from
    by
      intro w
      refine Sep.calls_post ?_
      intro Post_ hPost_
      have HP := Sep.hid hPost_
      clear hPost_
      go_enter Tryd.func53, Tryd.ntmps53
      go_wp2_with fail
      exact HP.out _ _ ⟨rfl, rfl⟩
  | 45, _ => show FormSays _ 45 from
    by
      intro w
      refine Sep.calls_post ?_
      intro Post_ hPost_
      have HP := Sep.hid hPost_
      clear hPost_
      go_enter Tryd.func53, Tryd.ntmps53
      go_wp2_with fail
      exact HP.out _ _ ⟨rfl, rfl⟩
  | 46, _ => show FormSays _ 46 from
    by
      intro w
      refine Sep.calls_post ?_
      intro Post_ hPost_
      have HP := Sep.hid hPost_
      clear hPost_
      go_enter Tryd.func53, Tryd.ntmps53
      go_wp2_with fail
      exact HP.out _ _ ⟨rfl, rfl⟩
  | q + 47, h => absurd h (by omega)
theorem form_range {op : Int} (hx : ∃ c0 c1 c2, formP op = [c0, c1, c2] ∧ c0 ∈ letters ∧ c1 ∈ letters ∧ c2 ∈ letters) : 0 ≤ op ∧ op.toNat < 47 := by
  obtain ⟨c0, c1, c2, hf, _⟩ := hx
  unfold formP at hf
  split at hf
  · rename_i h0
    refine ⟨h0, ?_⟩
    have hl : formT.length = 47 := rfl
    refine Nat.lt_of_not_le fun hle => ?_
    rw [List.getD_eq_getElem?_getD, List.getElem?_eq_none (by rw [hl]; omega)] at hf
    cases hf
  · cases hf
theorem oForm (op : Int) : FormSays 53 op := by
  rcases form_cases op with ⟨hf, h⟩ | hx
  · intro w
    rw [hf]
    clear hf
    rcases h with h | h
    · refine Sep.calls_post ?_
      intro Post_ hPost_
      have HP := Sep.hid hPost_
      clear hPost_
      go_enter Tryd.func53, Tryd.ntmps53
      go_wp2_with fail
      exact HP.out _ _ ⟨rfl, rfl⟩
    · by_cases h0 : op < 0
      · omega
      · refine Sep.calls_post ?_
        intro Post_ hPost_
        have HP := Sep.hid hPost_
        clear hPost_
        go_enter Tryd.func53, Tryd.ntmps53
        go_wp2_with fail
        exact HP.out _ _ ⟨rfl, rfl⟩
  · have h0 := form_range hx
    have h1 := oForm_at op.toNat h0.2
    rwa [show ((op.toNat : Nat) : Int) = op by omega] at h1
set_option maxRecDepth 20000 in
set_option maxHeartbeats 40000000 in
theorem rForm_at : ∀ q : Nat, q < 47 → FormSays 55 (q : Int)
  | 0, _ => show FormSays _ 0 from
    by
      intro w
      refine Sep.calls_post ?_
      intro Post_ hPost_
      have HP := Sep.hid hPost_
      clear hPost_
      go_enter Tryd.func55, Tryd.ntmps55
      go_wp2_with fail
      exact HP.out _ _ ⟨rfl, rfl⟩
  | 1, _ => show FormSays _ 1 from
    by
      intro w
      refine Sep.calls_post ?_
      intro Post_ hPost_
      have HP := Sep.hid hPost_
      clear hPost_
      go_enter Tryd.func55, Tryd.ntmps55
      go_wp2_with fail
      exact HP.out _ _ ⟨rfl, rfl⟩
  | 2, _ => show FormSays _ 2 from
    by
      intro w
      refine Sep.calls_post ?_
      intro Post_ hPost_
      have HP := Sep.hid hPost_
      clear hPost_
      go_enter Tryd.func55, Tryd.ntmps55
      go_wp2_with fail
      exact HP.out _ _ ⟨rfl, rfl⟩
  | 3, _ => show FormSays _ 3 from
    by
      intro w
      refine Sep.calls_post ?_
      intro Post_ hPost_
      have HP := Sep.hid hPost_
      clear hPost_
      go_enter Tryd.func55, Tryd.ntmps55
      go_wp2_with fail
      exact HP.out _ _ ⟨rfl, rfl⟩
  | 4, _ => show FormSays _ 4 from
    by
      intro w
      refine Sep.calls_post ?_
      intro Post_ hPost_
      have HP := Sep.hid hPost_
      clear hPost_
      go_enter Tryd.func55, Tryd.ntmps55
      go_wp2_with fail
      exact HP.out _ _ ⟨rfl, rfl⟩
  | 5, _ => show FormSays _ 5 from
    by
      intro w
      refine Sep.calls_post ?_
      intro Post_ hPost_
      have HP := Sep.hid hPost_
      clear hPost_
      go_enter Tryd.func55, Tryd.ntmps55
      go_wp2_with fail
      exact HP.out _ _ ⟨rfl, rfl⟩
  | 6, _ => show FormSays _ 6 from
    by
      intro w
      refine Sep.calls_post ?_
      intro Post_ hPost_
      have HP := Sep.hid hPost_
      clear hPost_
      go_enter Tryd.func55, Tryd.ntmps55
      go_wp2_with fail
      exact HP.out _ _ ⟨rfl, rfl⟩
  | 7, _ => show FormSays _ 7 from
    by
      intro w
      refine Sep.calls_post ?_
      intro Post_ hPost_
      have HP := Sep.hid hPost_
      clear hPost_
      go_enter Tryd.func55, Tryd.ntmps55
      go_wp2_with fail
      exact HP.out _ _ ⟨rfl, rfl⟩
  | 8, _ => show FormSays _ 8 from
    by
      intro w
      refine Sep.calls_post ?_
      intro Post_ hPost_
      have HP := Sep.hid hPost_
      clear hPost_
      go_enter Tryd.func55, Tryd.ntmps55
      go_wp2_with fail
      exact HP.out _ _ ⟨rfl, rfl⟩
  | 9, _ => show FormSays _ 9 from
    by
      intro w
      refine Sep.calls_post ?_
      intro Post_ hPost_
      have HP := Sep.hid hPost_
      clear hPost_
      go_enter Tryd.func55, Tryd.ntmps55
      go_wp2_with fail
      exact HP.out _ _ ⟨rfl, rfl⟩
  | 10, _ => show FormSays _ 10 from
    by
      intro w
      refine Sep.calls_post ?_
      intro Post_ hPost_
      have HP := Sep.hid hPost_
      clear hPost_
      go_enter Tryd.func55, Tryd.ntmps55
      go_wp2_with fail
      exact HP.out _ _ ⟨rfl, rfl⟩
  | 11, _ => show FormSays _ 11 from
    by
      intro w
      refine Sep.calls_post ?_
      intro Post_ hPost_
      have HP := Sep.hid hPost_
      clear hPost_
      go_enter Tryd.func55, Tryd.ntmps55
      go_wp2_with fail
      exact HP.out _ _ ⟨rfl, rfl⟩
  | 12, _ => show FormSays _ 12 from
    by
      intro w
      refine Sep.calls_post ?_
      intro Post_ hPost_
      have HP := Sep.hid hPost_
      clear hPost_
      go_enter Tryd.func55, Tryd.ntmps55
      go_wp2_with fail
      exact HP.out _ _ ⟨rfl, rfl⟩
  | 13, _ => show FormSays _ 13 from
    by
      intro w
      refine Sep.calls_post ?_
      intro Post_ hPost_
      have HP := Sep.hid hPost_
      clear hPost_
      go_enter Tryd.func55, Tryd.ntmps55
      go_wp2_with fail
      exact HP.out _ _ ⟨rfl, rfl⟩
  | 14, _ => show FormSays _ 14 from
    by
      intro w
      refine Sep.calls_post ?_
      intro Post_ hPost_
      have HP := Sep.hid hPost_
      clear hPost_
      go_enter Tryd.func55, Tryd.ntmps55
      go_wp2_with fail
      exact HP.out _ _ ⟨rfl, rfl⟩
  | 15, _ => show FormSays _ 15 from
    by
      intro w
      refine Sep.calls_post ?_
      intro Post_ hPost_
      have HP := Sep.hid hPost_
      clear hPost_
      go_enter Tryd.func55, Tryd.ntmps55
      go_wp2_with fail
      exact HP.out _ _ ⟨rfl, rfl⟩
  | 16, _ => show FormSays _ 16 from
    by
      intro w
      refine Sep.calls_post ?_
      intro Post_ hPost_
      have HP := Sep.hid hPost_
      clear hPost_
      go_enter Tryd.func55, Tryd.ntmps55
      go_wp2_with fail
      exact HP.out _ _ ⟨rfl, rfl⟩
  | 17, _ => show FormSays _ 17 from
    by
      intro w
      refine Sep.calls_post ?_
      intro Post_ hPost_
      have HP := Sep.hid hPost_
      clear hPost_
      go_enter Tryd.func55, Tryd.ntmps55
      go_wp2_with fail
      exact HP.out _ _ ⟨rfl, rfl⟩
  | 18, _ => show FormSays _ 18 from
    by
      intro w
      refine Sep.calls_post ?_
      intro Post_ hPost_
      have HP := Sep.hid hPost_
      clear hPost_
      go_enter Tryd.func55, Tryd.ntmps55
      go_wp2_with fail
      exact HP.out _ _ ⟨rfl, rfl⟩
  | 19, _ => show FormSays _ 19 from
    by
      intro w
      refine Sep.calls_post ?_
      intro Post_ hPost_
      have HP := Sep.hid hPost_
      clear hPost_
      go_enter Tryd.func55, Tryd.ntmps55
      go_wp2_with fail
      exact HP.out _ _ ⟨rfl, rfl⟩
  | 20, _ => show FormSays _ 20 from
    by
      intro w
      refine Sep.calls_post ?_
      intro Post_ hPost_
      have HP := Sep.hid hPost_
      clear hPost_
      go_enter Tryd.func55, Tryd.ntmps55
      go_wp2_with fail
      exact HP.out _ _ ⟨rfl, rfl⟩
  | 21, _ => show FormSays _ 21 from
    by
      intro w
      refine Sep.calls_post ?_
      intro Post_ hPost_
      have HP := Sep.hid hPost_
      clear hPost_
      go_enter Tryd.func55, Tryd.ntmps55
      go_wp2_with fail
      exact HP.out _ _ ⟨rfl, rfl⟩
  | 22, _ => show FormSays _ 22 from
    by
      intro w
      refine Sep.calls_post ?_
      intro Post_ hPost_
      have HP := Sep.hid hPost_
      clear hPost_
      go_enter Tryd.func55, Tryd.ntmps55
      go_wp2_with fail
      exact HP.out _ _ ⟨rfl, rfl⟩
  | 23, _ => show FormSays _ 23 from
    by
      intro w
      refine Sep.calls_post ?_
      intro Post_ hPost_
      have HP := Sep.hid hPost_
      clear hPost_
      go_enter Tryd.func55, Tryd.ntmps55
      go_wp2_with fail
      exact HP.out _ _ ⟨rfl, rfl⟩
  | 24, _ => show FormSays _ 24 from
    by
      intro w
      refine Sep.calls_post ?_
      intro Post_ hPost_
      have HP := Sep.hid hPost_
      clear hPost_
      go_enter Tryd.func55, Tryd.ntmps55
      go_wp2_with fail
      exact HP.out _ _ ⟨rfl, rfl⟩
  | 25, _ => show FormSays _ 25 from
    by
      intro w
      refine Sep.calls_post ?_
      intro Post_ hPost_
      have HP := Sep.hid hPost_
      clear hPost_
      go_enter Tryd.func55, Tryd.ntmps55
      go_wp2_with fail
      exact HP.out _ _ ⟨rfl, rfl⟩
  | 26, _ => show FormSays _ 26 from
    by
      intro w
      refine Sep.calls_post ?_
      intro Post_ hPost_
      have HP := Sep.hid hPost_
      clear hPost_
      go_enter Tryd.func55, Tryd.ntmps55
      go_wp2_with fail
      exact HP.out _ _ ⟨rfl, rfl⟩
  | 27, _ => show FormSays _ 27 from
    by
      intro w
      refine Sep.calls_post ?_
      intro Post_ hPost_
      have HP := Sep.hid hPost_
      clear hPost_
      go_enter Tryd.func55, Tryd.ntmps55
      go_wp2_with fail
      exact HP.out _ _ ⟨rfl, rfl⟩
  | 28, _ => show FormSays _ 28 from
    by
      intro w
      refine Sep.calls_post ?_
      intro Post_ hPost_
      have HP := Sep.hid hPost_
      clear hPost_
      go_enter Tryd.func55, Tryd.ntmps55
      go_wp2_with fail
      exact HP.out _ _ ⟨rfl, rfl⟩
  | 29, _ => show FormSays _ 29 from
    by
      intro w
      refine Sep.calls_post ?_
      intro Post_ hPost_
      have HP := Sep.hid hPost_
      clear hPost_
      go_enter Tryd.func55, Tryd.ntmps55
      go_wp2_with fail
      exact HP.out _ _ ⟨rfl, rfl⟩
  | 30, _ => show FormSays _ 30 from
    by
      intro w
      refine Sep.calls_post ?_
      intro Post_ hPost_
      have HP := Sep.hid hPost_
      clear hPost_
      go_enter Tryd.func55, Tryd.ntmps55
      go_wp2_with fail
      exact HP.out _ _ ⟨rfl, rfl⟩
  | 31, _ => show FormSays _ 31 from
    by
      intro w
      refine Sep.calls_post ?_
      intro Post_ hPost_
      have HP := Sep.hid hPost_
      clear hPost_
      go_enter Tryd.func55, Tryd.ntmps55
      go_wp2_with fail
      exact HP.out _ _ ⟨rfl, rfl⟩
  | 32, _ => show FormSays _ 32 from
    by
      intro w
      refine Sep.calls_post ?_
      intro Post_ hPost_
      have HP := Sep.hid hPost_
      clear hPost_
      go_enter Tryd.func55, Tryd.ntmps55
      go_wp2_with fail
      exact HP.out _ _ ⟨rfl, rfl⟩
  | 33, _ => show FormSays _ 33 from
    by
      intro w
      refine Sep.calls_post ?_
      intro Post_ hPost_
      have HP := Sep.hid hPost_
      clear hPost_
      go_enter Tryd.func55, Tryd.ntmps55
      go_wp2_with fail
      exact HP.out _ _ ⟨rfl, rfl⟩
  | 34, _ => show FormSays _ 34 from
    by
      intro w
      refine Sep.calls_post ?_
      intro Post_ hPost_
      have HP := Sep.hid hPost_
      clear hPost_
      go_enter Tryd.func55, Tryd.ntmps55
      go_wp2_with fail
      exact HP.out _ _ ⟨rfl, rfl⟩
  | 35, _ => show FormSays _ 35 from
    by
      intro w
      refine Sep.calls_post ?_
      intro Post_ hPost_
      have HP := Sep.hid hPost_
      clear hPost_
      go_enter Tryd.func55, Tryd.ntmps55
      go_wp2_with fail
      exact HP.out _ _ ⟨rfl, rfl⟩
  | 36, _ => show FormSays _ 36 from
    by
      intro w
      refine Sep.calls_post ?_
      intro Post_ hPost_
      have HP := Sep.hid hPost_
      clear hPost_
      go_enter Tryd.func55, Tryd.ntmps55
      go_wp2_with fail
      exact HP.out _ _ ⟨rfl, rfl⟩
  | 37, _ => show FormSays _ 37 from
    by
      intro w
      refine Sep.calls_post ?_
      intro Post_ hPost_
      have HP := Sep.hid hPost_
      clear hPost_
      go_enter Tryd.func55, Tryd.ntmps55
      go_wp2_with fail
      exact HP.out _ _ ⟨rfl, rfl⟩
  | 38, _ => show FormSays _ 38 from
    by
      intro w
      refine Sep.calls_post ?_
      intro Post_ hPost_
      have HP := Sep.hid hPost_
      clear hPost_
      go_enter Tryd.func55, Tryd.ntmps55
      go_wp2_with fail
      exact HP.out _ _ ⟨rfl, rfl⟩
  | 39, _ => show FormSays _ 39 from
    by
      intro w
      refine Sep.calls_post ?_
      intro Post_ hPost_
      have HP := Sep.hid hPost_
      clear hPost_
      go_enter Tryd.func55, Tryd.ntmps55
      go_wp2_with fail
      exact HP.out _ _ ⟨rfl, rfl⟩
  | 40, _ => show FormSays _ 40 from
    by
      intro w
      refine Sep.calls_post ?_
      intro Post_ hPost_
      have HP := Sep.hid hPost_
      clear hPost_
      go_enter Tryd.func55, Tryd.ntmps55
      go_wp2_with fail
      exact HP.out _ _ ⟨rfl, rfl⟩
  | 41, _ => show FormSays _ 41 from
    by
      intro w
      refine Sep.calls_post ?_
      intro Post_ hPost_
      have HP := Sep.hid hPost_
      clear hPost_
      go_enter Tryd.func55, Tryd.ntmps55
      go_wp2_with fail
      exact HP.out _ _ ⟨rfl, rfl⟩
  | 42, _ => show FormSays _ 42 from
    by
      intro w
      refine Sep.calls_post ?_
      intro Post_ hPost_
      have HP := Sep.hid hPost_
      clear hPost_
      go_enter Tryd.func55, Tryd.ntmps55
      go_wp2_with fail
      exact HP.out _ _ ⟨rfl, rfl⟩
  | 43, _ => show FormSays _ 43 from
    by
      intro w
      refine Sep.calls_post ?_
      intro Post_ hPost_
      have HP := Sep.hid hPost_
      clear hPost_
      go_enter Tryd.func55, Tryd.ntmps55
      go_wp2_with fail
      exact HP.out _ _ ⟨rfl, rfl⟩
  | 44, _ => show FormSays _ 44 from
    by
      intro w
      refine Sep.calls_post ?_
      intro Post_ hPost_
      have HP := Sep.hid hPost_
      clear hPost_
      go_enter Tryd.func55, Tryd.ntmps55
      go_wp2_with fail
      exact HP.out _ _ ⟨rfl, rfl⟩
  | 45, _ => show FormSays _ 45 from
    by
      intro w
      refine Sep.calls_post ?_
      intro Post_ hPost_
      have HP := Sep.hid hPost_
      clear hPost_
      go_enter Tryd.func55, Tryd.ntmps55
      go_wp2_with fail
      exact HP.out _ _ ⟨rfl, rfl⟩
  | 46, _ => show FormSays _ 46 from
    by
      intro w
      refine Sep.calls_post ?_
      intro Post_ hPost_
      have HP := Sep.hid hPost_
      clear hPost_
      go_enter Tryd.func55, Tryd.ntmps55
      go_wp2_with fail
      exact HP.out _ _ ⟨rfl, rfl⟩
  | q + 47, h => absurd h (by omega)
set_option maxRecDepth 20000 in
set_option maxHeartbeats 40000000 in
theorem rForm (op : Int) : FormSays 55 op := by
  rcases form_cases op with ⟨hf, h⟩ | hx
  · intro w
    rw [hf]
    clear hf
    have H := Sep.hid h
    clear h
    refine Sep.calls_post ?_
    intro Post_ hPost_
    have HP := Sep.hid hPost_
    clear hPost_
    go_enter Tryd.func55, Tryd.ntmps55
    go_wp2_with fail
    all_goals first
      | exact HP.out _ _ ⟨rfl, rfl⟩
      | (rename_i h; rw [beq_iff_eq] at h; exact absurd H.out (by omega))
  · have h0 := form_range hx
    have h1 := rForm_at op.toNat h0.2
    rwa [show ((op.toNat : Nat) : Int) = op by omega] at h1
end Go.Proofs.YteinbojpmhblkaaDoor
/-
  The walks of fits and Right, the program's and the document's.
-/
namespace Go.Proofs.YteinbojpmhblkaaDoor
set_option linter.unusedSimpArgs false
set_option linter.unusedVariables false
open Go.RowKit Go.Sep

theorem letters_lt {c : Nat} (h : c ∈ letters) : c < 128 := by
  simp only [letters, List.mem_cons, List.not_mem_nil, or_false] at h; omega
/-- The variable of the package, as the program lays it. -/
def TopsAt (w : World) : Prop := w.cell? ⟨0, 0, none⟩ = some (.int .i64 6) ∧ w.cell? ⟨0, 1, none⟩ = some (.int .i64 4) ∧ w.cell? ⟨0, 2, none⟩ = some (.int .i64 8)
set_option maxHeartbeats 4000000 in
theorem oFits (c : Nat) (hc : c ∈ letters) (n long : Int) (w : World) (ht : TopsAt w) :
    Calls Tryd.prog 54 #[.int .i32 (c : Int), .int .i64 n, .int .i64 long] w fun en w' => en = .returned (.bool (fitsP c n long)) ∧ w' = w := by
  obtain ⟨t0, t1, t2⟩ := ht
  simp only [letters, List.mem_cons, List.not_mem_nil, or_false] at hc
  rcases hc with rfl | rfl | rfl | rfl | rfl | rfl
  all_goals simp only [fitsP, reduceIte, Nat.reduceEqDiff]
  · by_cases h0 : 0 ≤ n
    · have h1 : decide (n = 0) = decide (n < 1) := by by_cases h : n = 0 <;> simp [h]; omega
      rw [h1]; clear h1
      refine Sep.calls_post ?_
      intro Post_ hPost_
      have HP := Sep.hid hPost_
      clear hPost_
      go_enter Tryd.func54, Tryd.ntmps54
      go_wp2_with fail
      exact HP.out _ _ ⟨rfl, rfl⟩
    · have h1 : decide (n = 0) = false := by simp; omega
      rw [h1]; clear h1
      refine Sep.calls_post ?_
      intro Post_ hPost_
      have HP := Sep.hid hPost_
      clear hPost_
      go_enter Tryd.func54, Tryd.ntmps54
      go_wp2_with fail
      exact HP.out _ _ ⟨rfl, rfl⟩
  · by_cases h0 : 0 ≤ n
    · have h1 : decide (0 ≤ n ∧ n ≤ long) = decide (n ≤ long) := by simp [h0]
      rw [h1]; clear h1
      refine Sep.calls_post ?_
      intro Post_ hPost_
      have HP := Sep.hid hPost_
      clear hPost_
      go_enter Tryd.func54, Tryd.ntmps54
      go_wp2_with fail
      exact HP.out _ _ ⟨rfl, rfl⟩
    · have h1 : decide (0 ≤ n ∧ n ≤ long) = false := by simp [h0]
      rw [h1]; clear h1
      refine Sep.calls_post ?_
      intro Post_ hPost_
      have HP := Sep.hid hPost_
      clear hPost_
      go_enter Tryd.func54, Tryd.ntmps54
      go_wp2_with fail
      exact HP.out _ _ ⟨rfl, rfl⟩
  · refine Sep.calls_post ?_
    intro Post_ hPost_
    have HP := Sep.hid hPost_
    clear hPost_
    go_enter Tryd.func54, Tryd.ntmps54
    go_wp2_with fail
    exact HP.out _ _ ⟨rfl, rfl⟩
  · by_cases h0 : 0 ≤ n
    · have h1 : decide (0 ≤ n ∧ n < 4) = decide (n < 4) := by simp [h0]
      rw [h1]; clear h1
      refine Sep.calls_post ?_
      intro Post_ hPost_
      have HP := Sep.hid hPost_
      clear hPost_
      go_enter Tryd.func54, Tryd.ntmps54
      go_wp2_with fail
      exact HP.out _ _ ⟨rfl, rfl⟩
    · have h1 : decide (0 ≤ n ∧ n < 4) = false := by simp [h0]
      rw [h1]; clear h1
      refine Sep.calls_post ?_
      intro Post_ hPost_
      have HP := Sep.hid hPost_
      clear hPost_
      go_enter Tryd.func54, Tryd.ntmps54
      go_wp2_with fail
      exact HP.out _ _ ⟨rfl, rfl⟩
  · by_cases h0 : 0 ≤ n
    · have h1 : decide (0 ≤ n ∧ n < 8) = decide (n < 8) := by simp [h0]
      rw [h1]; clear h1
      refine Sep.calls_post ?_
      intro Post_ hPost_
      have HP := Sep.hid hPost_
      clear hPost_
      go_enter Tryd.func54, Tryd.ntmps54
      go_wp2_with fail
      exact HP.out _ _ ⟨rfl, rfl⟩
    · have h1 : decide (0 ≤ n ∧ n < 8) = false := by simp [h0]
      rw [h1]; clear h1
      refine Sep.calls_post ?_
      intro Post_ hPost_
      have HP := Sep.hid hPost_
      clear hPost_
      go_enter Tryd.func54, Tryd.ntmps54
      go_wp2_with fail
      exact HP.out _ _ ⟨rfl, rfl⟩
  · by_cases h0 : 0 ≤ n
    · have h1 : decide (0 ≤ n ∧ n < 6) = decide (n < 6) := by simp [h0]
      rw [h1]; clear h1
      refine Sep.calls_post ?_
      intro Post_ hPost_
      have HP := Sep.hid hPost_
      clear hPost_
      go_enter Tryd.func54, Tryd.ntmps54
      go_wp2_with fail
      exact HP.out _ _ ⟨rfl, rfl⟩
    · have h1 : decide (0 ≤ n ∧ n < 6) = false := by simp [h0]
      rw [h1]; clear h1
      refine Sep.calls_post ?_
      intro Post_ hPost_
      have HP := Sep.hid hPost_
      clear hPost_
      go_enter Tryd.func54, Tryd.ntmps54
      go_wp2_with fail
      exact HP.out _ _ ⟨rfl, rfl⟩
set_option maxHeartbeats 4000000 in
theorem rFits (c : Nat) (hc : c ∈ letters) (n long : Int) (w : World) :
    Calls Tryd.prog 56 #[.int .u8 (c : Int), .int .i64 n, .int .i64 long] w fun en w' => en = .returned (.bool (fitsP c n long)) ∧ w' = w := by
  simp only [letters, List.mem_cons, List.not_mem_nil, or_false] at hc
  rcases hc with rfl | rfl | rfl | rfl | rfl | rfl
  all_goals simp only [fitsP, reduceIte, Nat.reduceEqDiff]
  · have h1 : decide (n = 0) = (n == 0) := by by_cases h : n = 0 <;> simp [h]
    rw [h1]; clear h1
    refine Sep.calls_post ?_
    intro Post_ hPost_
    have HP := Sep.hid hPost_
    clear hPost_
    go_enter Tryd.func56, Tryd.ntmps56
    go_wp2_with fail
    exact HP.out _ _ ⟨rfl, rfl⟩
  · by_cases h0 : 0 ≤ n
    · have h1 : decide (0 ≤ n ∧ n ≤ long) = decide (n ≤ long) := by simp [h0]
      rw [h1]; clear h1
      refine Sep.calls_post ?_
      intro Post_ hPost_
      have HP := Sep.hid hPost_
      clear hPost_
      go_enter Tryd.func56, Tryd.ntmps56
      go_wp2_with fail
      exact HP.out _ _ ⟨rfl, rfl⟩
    · have h1 : decide (0 ≤ n ∧ n ≤ long) = false := by simp [h0]
      rw [h1]; clear h1
      refine Sep.calls_post ?_
      intro Post_ hPost_
      have HP := Sep.hid hPost_
      clear hPost_
      go_enter Tryd.func56, Tryd.ntmps56
      go_wp2_with fail
      exact HP.out _ _ ⟨rfl, rfl⟩
  · refine Sep.calls_post ?_
    intro Post_ hPost_
    have HP := Sep.hid hPost_
    clear hPost_
    go_enter Tryd.func56, Tryd.ntmps56
    go_wp2_with fail
    exact HP.out _ _ ⟨rfl, rfl⟩
  · by_cases h0 : 0 ≤ n
    · have h1 : decide (0 ≤ n ∧ n < 4) = decide (n < 4) := by simp [h0]
      rw [h1]; clear h1
      refine Sep.calls_post ?_
      intro Post_ hPost_
      have HP := Sep.hid hPost_
      clear hPost_
      go_enter Tryd.func56, Tryd.ntmps56
      go_wp2_with fail
      exact HP.out _ _ ⟨rfl, rfl⟩
    · have h1 : decide (0 ≤ n ∧ n < 4) = false := by simp [h0]
      rw [h1]; clear h1
      refine Sep.calls_post ?_
      intro Post_ hPost_
      have HP := Sep.hid hPost_
      clear hPost_
      go_enter Tryd.func56, Tryd.ntmps56
      go_wp2_with fail
      exact HP.out _ _ ⟨rfl, rfl⟩
  · by_cases h0 : 0 ≤ n
    · have h1 : decide (0 ≤ n ∧ n < 8) = decide (n < 8) := by simp [h0]
      rw [h1]; clear h1
      refine Sep.calls_post ?_
      intro Post_ hPost_
      have HP := Sep.hid hPost_
      clear hPost_
      go_enter Tryd.func56, Tryd.ntmps56
      go_wp2_with fail
      exact HP.out _ _ ⟨rfl, rfl⟩
    · have h1 : decide (0 ≤ n ∧ n < 8) = false := by simp [h0]
      rw [h1]; clear h1
      refine Sep.calls_post ?_
      intro Post_ hPost_
      have HP := Sep.hid hPost_
      clear hPost_
      go_enter Tryd.func56, Tryd.ntmps56
      go_wp2_with fail
      exact HP.out _ _ ⟨rfl, rfl⟩
  · by_cases h0 : 0 ≤ n
    · have h1 : decide (0 ≤ n ∧ n < 6) = decide (n < 6) := by simp [h0]
      rw [h1]; clear h1
      refine Sep.calls_post ?_
      intro Post_ hPost_
      have HP := Sep.hid hPost_
      clear hPost_
      go_enter Tryd.func56, Tryd.ntmps56
      go_wp2_with fail
      exact HP.out _ _ ⟨rfl, rfl⟩
    · have h1 : decide (0 ≤ n ∧ n < 6) = false := by simp [h0]
      rw [h1]; clear h1
      refine Sep.calls_post ?_
      intro Post_ hPost_
      have HP := Sep.hid hPost_
      clear hPost_
      go_enter Tryd.func56, Tryd.ntmps56
      go_wp2_with fail
      exact HP.out _ _ ⟨rfl, rfl⟩
end Go.Proofs.YteinbojpmhblkaaDoor
/-
  A region that draws its order, walked in one order: an operation that only looks at memory may be taken as soon as it is ready, if what it looks at holds till an operation that waits for it has come.
-/
namespace Go.Sep
set_option linter.unusedSimpArgs false
set_option linter.unusedVariables false

/-- Who waits for operation i, directly or through others (i itself among them). -/
def descGo (i : Nat) : List Oper → Array Bool → Array Bool
  | [], acc => acc
  | o :: r, acc => descGo i r (acc.push (acc.size == i || o.after.any fun e => Region.binds .any e && acc.getD e.on false))
def desc (ops : Array Oper) (i : Nat) : Array Bool := descGo i ops.toList #[]

def Closed (ops : Array Oper) (listed : Array Bool) : Prop :=
  ∀ (j : Nat) (o : Oper), ops[j]? = some o → listed.getD j true = true → ∀ e ∈ o.after, Region.binds .any e = true → listed.getD e.on false = true

theorem descGo_spec (ops : Array Oper) (i : Nat) : ∀ (l : List Oper) (acc : Array Bool), (∀ k, l[k]? = ops[acc.size + k]?) →
    (∀ j, acc.getD j false = true → j = i ∨ ∃ o, ops[j]? = some o ∧ ∃ e ∈ o.after, Region.binds .any e = true ∧ e.on < j ∧ acc.getD e.on false = true) →
    ∀ j, (descGo i l acc).getD j false = true → j = i ∨ ∃ o, ops[j]? = some o ∧ ∃ e ∈ o.after, Region.binds .any e = true ∧ e.on < j ∧ (descGo i l acc).getD e.on false = true := by
  intro l
  induction l with
  | nil => intro acc _ h; exact h
  | cons o r ih =>
    intro acc hl h
    refine ih _ (fun k => ?_) (fun j hj => ?_)
    · have := hl (k + 1)
      simp only [List.getElem?_cons_succ] at this
      rw [this, Array.size_push]
      congr 1
      omega
    · have keep : ∀ q, acc.getD q false = true → (acc.push (acc.size == i || o.after.any fun e => Region.binds .any e && acc.getD e.on false)).getD q false = true := by
        intro q hq
        simp only [Array.getD_eq_getD_getElem?] at hq ⊢
        have hlt : q < acc.size := by
          rcases Nat.lt_or_ge q acc.size with h' | h'
          · exact h'
          · simp [Array.getElem?_eq_none h'] at hq
        rw [Array.getElem?_push, if_neg (by omega)]
        exact hq
      by_cases hjs : j = acc.size
      · subst hjs
        simp only [Array.getD_eq_getD_getElem?, Array.getElem?_push, if_true, Option.getD_some, Bool.or_eq_true, beq_iff_eq, Array.any_eq_true] at hj
        rcases hj with hj | ⟨q, hq, hb⟩
        · exact .inl hj
        · right
          simp only [Bool.and_eq_true] at hb
          have hlt : (o.after[q]).on < acc.size := by
            rcases Nat.lt_or_ge (o.after[q]).on acc.size with h' | h'
            · exact h'
            · have h0 := hb.2; simp [Array.getElem?_eq_none h'] at h0
          refine ⟨o, ?_, o.after[q], Array.getElem_mem hq, hb.1, hlt, keep _ (by simpa [Array.getD_eq_getD_getElem?] using hb.2)⟩
          have := hl 0
          simpa using this.symm
      · have hj' : acc.getD j false = true := by
          simp only [Array.getD_eq_getD_getElem?, Array.getElem?_push] at hj ⊢
          rwa [if_neg hjs] at hj
        rcases h j hj' with h1 | ⟨o', ho', e, he, hb, hlt, hacc⟩
        · exact .inl h1
        · exact .inr ⟨o', ho', e, he, hb, hlt, keep _ hacc⟩

theorem desc_spec (ops : Array Oper) (i j : Nat) (h : (desc ops i).getD j false = true) :
    j = i ∨ ∃ o, ops[j]? = some o ∧ ∃ e ∈ o.after, Region.binds .any e = true ∧ e.on < j ∧ (desc ops i).getD e.on false = true :=
  descGo_spec ops i ops.toList #[] (fun k => by simp) (fun j hj => by simp at hj) j h

/-- Who waits for i has not come while i has not. -/
theorem not_listed {ops : Array Oper} {listed : Array Bool} (hc : Closed ops listed) {i : Nat} (hi : listed.getD i true = false) :
    ∀ j, (desc ops i).getD j false = true → listed.getD j true = false := by
  intro j
  induction j using Nat.strongRecOn with
  | _ j ih =>
    intro hj
    rcases desc_spec ops i j hj with rfl | ⟨o, ho, e, he, hb, hlt, hd⟩
    · exact hi
    · have h1 := ih e.on hlt hd
      cases hl : listed.getD j true with
      | false => rfl
      | true =>
        have h2 := hc j o ho hl e he hb
        simp only [Array.getD_eq_getD_getElem?] at h1 h2
        cases hx : listed[e.on]? with
        | none => simp [hx] at h1
        | some b => simp only [hx, Option.getD_some] at h1 h2; rw [h1] at h2; cases h2

/-- What holds for the operations that look at memory, each as long as nobody who waits for it and who acts has come. -/
def Conds := List (Nat × (World → Prop))
def SL (ops : Array Oper) (loud : List Nat) (conds : Conds) (listed : Array Bool) (w : World) : Prop :=
  ∀ c ∈ (show List (Nat × (World → Prop)) from conds), (∀ j ∈ loud, (desc ops c.1).getD j false = true → listed.getD j true = false) → c.2 w

section
variable {P : Program} {ops : Array Oper} {Q : Exit → Act → World → Prop} {loud : List Nat} {conds : Conds}

def wpAnyL (P : Program) (ops : Array Oper) (Q : Exit → Act → World → Prop) (loud : List Nat) (conds : Conds) : Nat → Array Bool → Act → World → Prop
  | 0, listed, a, w => Region.ready .any ops listed = [] ∧ Q .normal a w
  | fuel + 1, listed, a, w =>
    (Region.ready .any ops listed = [] → Q .normal a w) ∧
    ∀ i ∈ Region.ready .any ops listed, wpOp P ops Q i (fun a' w' => SL ops loud conds (listed.setIfInBounds i true) w' ∧ wpAnyL P ops Q loud conds fuel (listed.setIfInBounds i true) a' w') a w

theorem wpAny_of_L : ∀ (fuel : Nat) (listed : Array Bool) (a : Act) (w : World), wpAnyL P ops Q loud conds fuel listed a w → wpAny P .any ops Q fuel listed a w
  | 0, _, _, _, h => h
  | fuel + 1, _, _, _, h => ⟨h.1, fun i hi => wpOp_mono (fun a' w' h' => wpAny_of_L fuel _ a' w' h'.2) (h.2 i hi)⟩

theorem Closed.set {listed : Array Bool} (hc : Closed ops listed) {i : Nat} (hr : i ∈ Region.ready .any ops listed) : Closed ops (listed.setIfInBounds i true) := by
  intro j o ho hj e he hb
  obtain ⟨hjun, oi, hoi, hall⟩ := mem_ready.1 hr
  have up : ∀ q, listed.getD q false = true → (listed.setIfInBounds i true).getD q false = true := by
    intro q hq
    simp only [Array.getD_eq_getD_getElem?, Array.getElem?_setIfInBounds] at hq ⊢
    split
    · split
      · rfl
      · rename_i e1 h1; subst e1; simp [Array.getElem?_eq_none (Nat.le_of_not_lt h1)] at hq
    · exact hq
  by_cases hji : j = i
  · subst hji
    rw [hoi] at ho; cases ho
    exact up _ (hall e he hb)
  · have hj' : listed.getD j true = true := by
      rwa [getD_set_ne true (Ne.symm hji)] at hj
    exact up _ (hc j o ho hj' e he hb)

theorem SL.same {listed : Array Bool} {i : Nat} {w : World} (hi : loud.contains i = false) (h : SL ops loud conds (listed.setIfInBounds i true) w) : SL ops loud conds listed w := by
  intro c hc hl
  refine h c hc (fun j hj hd => ?_)
  have hne : i ≠ j := fun e => by subst e; simp at hi; exact hi hj
  rw [getD_set_ne true hne]
  exact hl j hj hd
theorem SL.same' {listed : Array Bool} {i : Nat} {w : World} (hi : loud.contains i = false) (h : SL ops loud conds listed w) : SL ops loud conds (listed.setIfInBounds i true) w := by
  intro c hc hl
  refine h c hc (fun j hj hd => ?_)
  have hne : i ≠ j := fun e => by subst e; simp at hi; exact hi hj
  have := hl j hj hd
  rwa [getD_set_ne true hne] at this

theorem wpAnyL_first {i : Nat} {oi : Oper} {v : Value} {C : World → Prop} (hi : ops[i]? = some oi) (hq : loud.contains i = false) (hsel : ∀ (j : Nat) (o : Oper) cs b, ops[j]? = some o → o.op ≠ .select cs b)
    (hQ : ∀ c a w, Q (.panic c) (a.put oi.dst v) w → Q (.panic c) a w) (hC : (∀ w, C w) ∨ (i, C) ∈ (show List (Nat × (World → Prop)) from conds)) :
    ∀ (fuel : Nat) (listed : Array Bool) (a : Act) (w : World),
      (∀ j oj, ops[j]? = some oj → j ≠ i → listed.getD j true = false → (∀ e ∈ oj.after, Region.binds .any e = true → e.on ≠ i) → oi.apart ops oj = true) →
      i ∈ Region.ready .any ops listed → Closed ops listed → YieldsIf P ops C oi v a → SL ops loud conds listed w →
      wpAnyL P ops Q loud conds fuel (listed.setIfInBounds i true) (a.put oi.dst v) w → wpAnyL P ops Q loud conds (fuel + 1) listed a w := by
  have hCw : ∀ (listed : Array Bool) (w : World), i ∈ Region.ready .any ops listed → Closed ops listed → SL ops loud conds listed w → C w := by
    intro listed w hr hc hS
    rcases hC with h | h
    · exact h w
    · exact hS _ h (fun j _ hd => not_listed hc (mem_ready.1 hr).1 j hd)
  intro fuel
  induction fuel with
  | zero =>
    intro listed a w _ hr hc hy hS H
    refine ⟨fun h => (by rw [h] at hr; cases hr), fun j hj => ?_⟩
    by_cases hji : j = i
    · subst hji; exact hy.wpOp hi (hCw _ _ hr hc hS) ⟨hS.same' hq, H⟩
    · have := ready_mono hj hji
      rw [H.1] at this
      cases this
  | succ fuel ih =>
    intro listed a w hfree hr hc hy hS H
    refine ⟨fun h => (by rw [h] at hr; cases hr), fun j hj => ?_⟩
    by_cases hji : j = i
    · subst hji; exact hy.wpOp hi (hCw _ _ hr hc hS) ⟨hS.same' hq, H⟩
    · have h1 := H.2 j (ready_mono hj hji)
      obtain ⟨hjun, oj, hoj, hall⟩ := mem_ready.1 hj
      have hnot : ∀ e ∈ oj.after, Region.binds .any e = true → e.on ≠ i := fun e he hb heq => by
        have h1 := hall e he hb
        have h0 := (mem_ready.1 hr).1
        rw [heq] at h1
        rcases Nat.lt_or_ge i listed.size with h' | h'
        · simp [h'] at h0 h1; rw [h0] at h1; cases h1
        · simp [Array.getElem?_eq_none h'] at h1
      have h2 := wpOp_putIf hoj (hfree j oj hoj hji hjun hnot) (fun cs b => hsel i oi cs b hi) (fun cs b => hsel j oj cs b hoj) hQ hy h1
      have hfree' : ∀ k ok, ops[k]? = some ok → k ≠ i → (listed.setIfInBounds j true).getD k true = false →
          (∀ e ∈ ok.after, Region.binds .any e = true → e.on ≠ i) → oi.apart ops ok = true := fun k ok hk hki hun hno => by
        refine hfree k ok hk hki ?_ hno
        by_cases hjk : j = k
        · subst hjk; exact hjun
        · rw [getD_set_ne true hjk] at hun; exact hun
      refine wpOp_mono (fun a' w' h3 => ?_) h2
      have hS' : SL ops loud conds (listed.setIfInBounds j true) w' := by
        have := h3.2.1
        rw [Array.setIfInBounds_comm _ _ (Ne.symm hji)] at this
        exact this.same hq
      refine ⟨hS', ih (listed.setIfInBounds j true) a' w' hfree' (ready_mono hr (Ne.symm hji)) (hc.set hj) h3.1 hS' ?_⟩
      rw [Array.setIfInBounds_comm _ _ hji]
      exact h3.2.2

theorem drop_get {i : Nat} {oi : Oper} {r : List Oper} (h : ops.toList.drop i = oi :: r) : ops[i]? = some oi := by
  have := congrArg (fun l => l[0]?) h
  simpa using this

/-! ### The moves of a walk: the state carries that 'listed' is closed and what holds. -/
def wpL (P : Program) (ops : Array Oper) (Q : Exit → Act → World → Prop) (loud : List Nat) (conds : Conds) (fuel : Nat) (listed : Array Bool) (a : Act) (w : World) : Prop :=
  Closed ops listed → SL ops loud conds listed w → wpAnyL P ops Q loud conds fuel listed a w

theorem wpL_take (i : Nat) {oi : Oper} {v : Value} {C : World → Prop} {fuel : Nat} {listed listed' : Array Bool} {a : Act} {w : World} {r_ : List Oper} (hi : ops.toList.drop i = oi :: r_)
    (hs : Region.noSelect ops = true) (hf : Region.free .any ops listed i = true) (hr : (Region.ready .any ops listed).contains i = true) (hq : loud.contains i = false)
    (hQ : ∀ c a w, Q (.panic c) (a.put oi.dst v) w → Q (.panic c) a w) (hC : (∀ w, C w) ∨ (i, C) ∈ (show List (Nat × (World → Prop)) from conds)) (hy : YieldsIf P ops C oi v a) (hl : listed.setIfInBounds i true = listed')
    (h : wpL P ops Q loud conds fuel listed' (a.put oi.dst v) w) : wpL P ops Q loud conds (fuel + 1) listed a w := fun hc hS =>
  have hr' : i ∈ Region.ready .any ops listed := by simpa using hr
  wpAnyL_first (drop_get hi) hq (Region.noSelect_spec hs) hQ hC fuel listed a w (Region.free_spec (drop_get hi) hf) hr' hc hy hS (by subst hl; exact h (hc.set hr') (hS.same' hq))

/-- A test: it parts. -/
theorem wpL_takeB (i : Nat) {oi : Oper} {b : Bool} {C : World → Prop} {fuel : Nat} {listed listed' : Array Bool} {a : Act} {w : World} {r_ : List Oper} (hi : ops.toList.drop i = oi :: r_)
    (hs : Region.noSelect ops = true) (hf : Region.free .any ops listed i = true) (hr : (Region.ready .any ops listed).contains i = true) (hq : loud.contains i = false)
    (hQ : ∀ c a w, Q (.panic c) (a.put oi.dst (.bool b)) w → Q (.panic c) a w) (hC : (∀ w, C w) ∨ (i, C) ∈ (show List (Nat × (World → Prop)) from conds)) (hy : YieldsIf P ops C oi (.bool b) a) (hl : listed.setIfInBounds i true = listed')
    (ht : b = true → wpL P ops Q loud conds fuel listed' (a.put oi.dst (.bool true)) w) (hfa : b = false → wpL P ops Q loud conds fuel listed' (a.put oi.dst (.bool false)) w) : wpL P ops Q loud conds (fuel + 1) listed a w := by
  refine wpL_take i hi hs hf hr hq hQ hC hy hl ?_
  cases b with
  | true => exact ht rfl
  | false => exact hfa rfl

/-- One operation alone can come next. -/
theorem wpL_one (i : Nat) {oi : Oper} {fuel : Nat} {listed listed' : Array Bool} {a : Act} {w : World} {r_ : List Oper} (hi : ops.toList.drop i = oi :: r_) (hr : Region.ready .any ops listed = [i]) (hwant : Region.wanted oi (yielded ops a.tmps) = true) (hl : listed.setIfInBounds i true = listed')
    (h : oi.wp P a w (fun a' w' => SL ops loud conds listed' w' ∧ wpL P ops Q loud conds fuel listed' a' w') Q) : wpL P ops Q loud conds (fuel + 1) listed a w := fun hc hS => by
  refine ⟨fun h0 => (by rw [hr] at h0; cases h0), fun j hj => ?_⟩
  have hj' := hj
  rw [hr] at hj
  obtain rfl : j = i := by simpa using hj
  unfold wpOp
  simp only [drop_get hi, hwant, if_true]
  refine .inl (Oper.wp_mono ?_ h)
  intro a' w' ⟨h1, h2⟩
  subst hl
  exact ⟨h1, h2 (hc.set hj') h1⟩
/-- One operation alone can come next, and its guard says no. -/
theorem SL.more {listed : Array Bool} {i : Nat} {w : World} (h : SL ops loud conds listed w) : SL ops loud conds (listed.setIfInBounds i true) w := fun c hc hl => h c hc fun j hj hd => by
  have := hl j hj hd
  by_cases hij : i = j
  · subst hij
    rcases Nat.lt_or_ge i listed.size with h' | h'
    · simp [h'] at this
    · simp [Array.getElem?_eq_none h'] at this
  · rwa [getD_set_ne true hij] at this
theorem wpL_skip (i : Nat) {oi : Oper} {fuel : Nat} {listed listed' : Array Bool} {a : Act} {w : World} {r_ : List Oper} (hi : ops.toList.drop i = oi :: r_) (hr : Region.ready .any ops listed = [i]) (hwant : Region.wanted oi (yielded ops a.tmps) = false) (hl : listed.setIfInBounds i true = listed')
    (h : wpL P ops Q loud conds fuel listed' (a.put oi.dst undef) w) : wpL P ops Q loud conds (fuel + 1) listed a w := fun hc hS => by
  refine ⟨fun h0 => (by rw [hr] at h0; cases h0), fun j hj => ?_⟩
  have hj' := hj
  rw [hr] at hj
  obtain rfl : j = i := by simpa using hj
  unfold wpOp
  simp only [drop_get hi, hwant, Bool.false_eq_true, if_false]
  subst hl
  exact ⟨hS.more, h (hc.set hj') hS.more⟩
/-- Of those that can come next whichever comes. -/
theorem wpL_all {rs : List Nat} {fuel : Nat} {listed : Array Bool} {a : Act} {w : World} (hr : Region.ready .any ops listed = rs) (hne : rs ≠ [])
    (h : ∀ i ∈ rs, ∃ oi r_, ops.toList.drop i = oi :: r_ ∧ Region.wanted oi (yielded ops a.tmps) = true ∧ oi.wp P a w (fun a' w' => SL ops loud conds (listed.setIfInBounds i true) w' ∧ wpL P ops Q loud conds fuel (listed.setIfInBounds i true) a' w') Q) :
    wpL P ops Q loud conds (fuel + 1) listed a w := fun hc hS => by
  refine ⟨fun h0 => absurd (hr ▸ h0) hne, fun j hj => ?_⟩
  obtain ⟨oi, r_, hi, hwant, hh⟩ := h j (hr ▸ hj)
  unfold wpOp
  simp only [drop_get hi, hwant, if_true]
  refine .inl (Oper.wp_mono ?_ hh)
  intro a' w' ⟨h1, h2⟩
  exact ⟨h1, h2 (hc.set hj) h1⟩
theorem wpL_done {listed : Array Bool} {a : Act} {w : World} (hr : Region.ready .any ops listed = []) (h : Q .normal a w) : ∀ fuel, wpL P ops Q loud conds fuel listed a w
  | 0 => fun _ _ => ⟨hr, h⟩
  | _ + 1 => fun _ _ => ⟨fun _ => h, by rw [hr]; simp⟩
theorem wp_region_L (loud : List Nat) (conds : Conds) {id : Nat} {a : Act} {w : World} {listed : Array Bool} {n : Nat} (hm : P.follows .mixedOrders = true) (hn : ops.size = n) (hl : Array.replicate n false = listed)
    (h0 : ∀ c ∈ (show List (Nat × (World → Prop)) from conds), c.2 w.drew)
    (h : wpL P ops Q loud conds n listed a w.drew) : (Code.region id ops true).wp P Q a w := by
  subst hn
  subst hl
  refine wp_region_any hm (wpAny_of_L _ _ _ _ (h ?_ ?_))
  · intro j o ho hj
    have hlt : j < ops.size := by
      rcases Nat.lt_or_ge j ops.size with h' | h'
      · exact h'
      · simp [Array.getElem?_eq_none h'] at ho
    simp [hlt] at hj
  · exact fun c hc _ => h0 c hc

theorem SL.nil {listed : Array Bool} {w : World} : SL ops loud [] listed w := fun c hc => by cases hc
theorem SL.keep {c : Nat × (World → Prop)} {listed : Array Bool} {w : World} (h : c.2 w) (hr : SL ops loud conds listed w) : SL ops loud (List.cons c conds) listed w := fun d hd hl => by
  rcases List.mem_cons.1 hd with rfl | hd
  · exact h
  · exact hr d hd hl
/-- Operation j, who acts, waits for c's, and has come. -/
theorem SL.drop (j : Nat) {c : Nat × (World → Prop)} {listed : Array Bool} {w : World} (h : (loud.contains j && (desc ops c.1).getD j false && listed.getD j true) = true) (hr : SL ops loud conds listed w) : SL ops loud (List.cons c conds) listed w := fun d hd hl => by
  rcases List.mem_cons.1 hd with rfl | hd
  · simp only [Bool.and_eq_true] at h
    have := hl j (by simpa using h.1.1) h.1.2
    rw [this] at h
    exact absurd h.2 (by simp)
  · exact hr d hd hl
end
end Go.Sep
/-
  What a value of a type made of whole numbers and bools alone looks like in cells; and the frame of a law's proof: what the call must be shown to do, once for all shapes of arguments.
-/
namespace Go.Sep
set_option linter.unusedSimpArgs false
set_option linter.unusedVariables false
open Go.RowKit Go.ChangeShapes Go.WideShapes

def fieldsK (P : Program) (g : TypeId → Option (List (Option IntKind))) : Nat → List Field → Option (List (Option IntKind))
  | _, [] => some []
  | off, f :: fs =>
    if f.offset = off then
      match g f.type with
      | some ks => if P.cellsOf f.type = ks.length then (fieldsK P g (off + ks.length) fs).map (ks ++ ·) else none
      | none => none
    else none
def flatK (P : Program) : Nat → TypeId → Option (List (Option IntKind))
  | 0, _ => none
  | n + 1, t => match P.underlying t with
    | some (.int k) => some [some k]
    | some .bool => some [none]
    | some (.struct fs) => fieldsK P (flatK P n) 0 fs.toList
    | some (.array m e) => match flatK P n e with
      | some ks => if P.cellsOf e = ks.length then some (List.replicate m ks).flatten else none
      | none => none
    | _ => none

def fitsK : List Value → List (Option IntKind) → Prop
  | [], [] => True
  | c :: cs, some k :: ks => (∃ z, c = .int k z ∧ (Lit.int k z).wf = true) ∧ fitsK cs ks
  | c :: cs, none :: ks => (∃ b, c = .bool b) ∧ fitsK cs ks
  | _, _ => False

theorem fitsK.length : ∀ {cs : List Value} {ks : List (Option IntKind)}, fitsK cs ks → cs.length = ks.length
  | [], [], _ => rfl
  | c :: cs, some k :: ks, h => by simp [h.2.length]
  | c :: cs, none :: ks, h => by simp [h.2.length]
  | [], _ :: _, h => h.elim
  | _ :: _, [], h => h.elim
theorem fitsK.append : ∀ {a : List Value} {ks : List (Option IntKind)} {b : List Value} {ls : List (Option IntKind)}, fitsK a ks → fitsK b ls → fitsK (a ++ b) (ks ++ ls)
  | [], [], _, _, _, h => h
  | c :: cs, some k :: ks, _, _, h, h' => ⟨h.1, h.2.append h'⟩
  | c :: cs, none :: ks, _, _, h, h' => ⟨h.1, h.2.append h'⟩
  | [], _ :: _, _, _, h, _ => h.elim
  | _ :: _, [], _, _, h, _ => h.elim

theorem take_add' {α : Type} (l : List α) (i j : Nat) : l.take (i + j) = l.take i ++ (l.drop i).take j := List.take_add

theorem fieldsK_fits {P : Program} {g : TypeId → Option (List (Option IntKind))} {cs : List Value} : ∀ (fs : List Field) (off : Nat) (ks : List (Option IntKind)), fieldsK P g off fs = some ks →
    (∀ (i : Nat) (f : Field), fs[i]? = some f → ∀ fk, g f.type = some fk → fitsK ((cs.drop f.offset).take (P.cellsOf f.type)) fk) → fitsK ((cs.drop off).take ks.length) ks
  | [], off, ks, h, _ => by simp [fieldsK] at h; subst h; simp [fitsK]
  | f :: fs, off, ks, h, hf => by
    unfold fieldsK at h
    split at h
    · rename_i hoff
      cases hg : g f.type with
      | none => simp [hg] at h
      | some k1 =>
        simp only [hg] at h
        split at h
        · rename_i hc
          cases hr : fieldsK P g (off + k1.length) fs with
          | none => simp [hr] at h
          | some k2 =>
            simp [hr] at h
            subst h
            have h1 := hf 0 f rfl k1 hg
            have h2 := fieldsK_fits fs (off + k1.length) k2 hr (fun i f' hi => hf (i + 1) f' (by simpa using hi))
            rw [hoff, hc] at h1
            have := h1.append h2
            rw [List.length_append, take_add', List.drop_drop]
            exact this
        · cases h
    · cases h

theorem array_fits {P : Program} {e : TypeId} {ks : List (Option IntKind)} {cs : List Value} (m : Nat) (hc : P.cellsOf e = ks.length) (h : ∀ i, i < m → fitsK ((cs.drop (i * P.cellsOf e)).take (P.cellsOf e)) ks) :
    fitsK (cs.take (m * ks.length)) (List.replicate m ks).flatten := by
  induction m with
  | zero => simp [fitsK]
  | succ m ih =>
    have h1 := ih (fun i hi => h i (by omega))
    have h2 := h m (by omega)
    rw [hc] at h2
    rw [List.replicate_succ', List.flatten_append, Nat.add_mul, Nat.one_mul, take_add']
    simpa using h1.append h2

section
variable {H : Type} {enc : TypeId × Value → H} {P : Program} {w : World} {base : Nat} {spare : Nat → Bool} {held : Bool}

theorem trod_fits : ∀ (n : Nat) (fuel : Nat) (t : TypeId) (cs : List Value) (x : DataW H × List MemPlace) (ks : List (Option IntKind)), flatK P n t = some ks → DataW.trod enc P w base spare held fuel t cs = some x → P.cellsOf t = ks.length → fitsK cs ks
  | 0, _, _, _, _, _, h, _, _ => by simp [flatK] at h
  | n + 1, fuel, t, cs, x, ks, h, hx, hct => by
    unfold flatK at h
    cases hu : P.underlying t with
    | none => simp [hu] at h
    | some d =>
      simp only [hu] at h
      cases d with
      | int k =>
        simp only [Option.some.injEq] at h
        subst h
        obtain ⟨z, rfl, _, hw⟩ := DataW.trod_int hu hx
        exact ⟨⟨z, rfl, hw⟩, trivial⟩
      | bool =>
        simp only [Option.some.injEq] at h
        subst h
        obtain ⟨b, rfl, _⟩ := DataW.trod_bool hu hx
        exact ⟨⟨b, rfl⟩, trivial⟩
      | struct fs =>
        obtain ⟨xs, m, _, _, hlen, hxl, hf⟩ := DataW.trod_struct hu hx
        have := fieldsK_fits (cs := cs) fs.toList 0 ks h (fun i f hi fk hg => by
          have hi' : fs[i]? = some f := by simpa using hi
          have h1 := hf i f hi'
          have hil : i < fs.size := (Array.getElem?_eq_some_iff.1 hi').1
          have hxi : xs[i]? = some (xs[i]'(by omega)) := List.getElem?_eq_getElem (by omega)
          by_cases hcf : P.cellsOf f.type = fk.length
          · exact trod_fits n m f.type _ _ fk hg (h1.trans hxi) hcf
          · exfalso
            -- the check has looked at the lengths
            have key : ∀ (l : List Field) (off : Nat) (q : List (Option IntKind)), fieldsK P (flatK P n) off l = some q → ∀ f' ∈ l, ∀ k', flatK P n f'.type = some k' → P.cellsOf f'.type = k'.length := by
              intro l
              induction l with
              | nil => intro _ _ _ f' hf'; cases hf'
              | cons a l ih =>
                intro off q hq f' hf' k' hk'
                unfold fieldsK at hq
                split at hq
                · cases hg' : flatK P n a.type with
                  | none => simp [hg'] at hq
                  | some k1 =>
                    simp only [hg'] at hq
                    split at hq
                    · rename_i hc1
                      rcases List.mem_cons.1 hf' with rfl | hm
                      · rw [hg'] at hk'; cases hk'; exact hc1
                      · cases hr : fieldsK P (flatK P n) (off + k1.length) l with
                        | none => simp [hr] at hq
                        | some k2 => exact ih _ _ hr f' hm k' hk'
                    · cases hq
                · cases hq
            exact hcf (key fs.toList 0 ks h f (List.mem_of_getElem? hi) fk hg))
        simp only [List.drop_zero] at this
        rwa [List.take_of_length_le (by omega)] at this
      | array m e =>
        obtain ⟨xs, q, _, _, hlen, hxl, hf⟩ := DataW.trod_array hu hx
        cases hg : flatK P n e with
        | none => simp [hg] at h
        | some k1 =>
          simp only [hg] at h
          split at h
          · rename_i hc
            simp only [Option.some.injEq] at h
            subst h
            have hl2 : (List.replicate m k1).flatten.length = m * k1.length := by simp
            have := array_fits (P := P) (e := e) (cs := cs) m hc (fun i hi => by
              have h1 := hf i hi
              have hxi : xs[i]? = some (xs[i]'(by omega)) := List.getElem?_eq_getElem (by omega)
              exact trod_fits n q e _ _ k1 hg (h1.trans hxi) hc)
            rwa [List.take_of_length_le (by omega)] at this
          · cases h
      | _ => simp at h
end

/-- An argument that is a slice of such values: its cells, one element behind the other. -/
theorem open_slice_flat {H : Type} {enc : TypeId × Value → H} {P : Program} {w : World} {t e : TypeId} {v : Value} {d : DataW H} {ps : List MemPlace} {ks : List (Option IntKind)} (n : Nat)
    (ht : P.underlying t = some (.slice e)) (hk : flatK P n e = some ks) (hc : P.cellsOf e = ks.length) {b0 : Nat} (hv : Value.okWide P w .any b0 t v) (h : DataW.Trod enc P w 0 (fun _ => true) true t v d ps) :
    ∃ (a : Option Addr) (len cap : Nat), v = .slice a len cap ∧ len ≤ maxLen ∧ (a = none → len = 0) ∧
      ∀ i, i < len → ∃ (p : Addr) (cs : List Value), a = some p ∧ fitsK cs ks ∧ ∀ j c, cs[j]? = some c → w.cell? (p.add (i * ks.length + j)) = some c := by
  obtain ⟨a, len, cap, rfl⟩ := okWide_slice ht hv
  obtain ⟨fuel, hf⟩ := h
  rcases Go.Deep.open_slice ht hf with ⟨h0, _⟩ | ⟨p, len', cap', m, q, D, Pl, hcs, hb, hl, hm, hmm, hx, hi⟩
  · simp [Value.cells] at h0
    obtain ⟨rfl, rfl, rfl⟩ := h0
    exact ⟨none, 0, 0, rfl, by simp, fun _ => rfl, fun i hi => by omega⟩
  · simp [Value.cells] at hcs
    obtain ⟨rfl, rfl, rfl⟩ := hcs
    refine ⟨some p, len, cap, rfl, by omega, fun h => by (cases h), fun i hil => ?_⟩
    obtain ⟨cs', hc', ht'⟩ := hi i (by simp at hmm; omega)
    obtain ⟨_, hcl, hat⟩ := World.cells?_some hc'
    have hfit := trod_fits n q e cs' _ ks hk ht' hc
    refine ⟨p, cs', rfl, hfit, fun j c hj => ?_⟩
    have hjl : j < P.cellsOf e := by rw [hc, ← hfit.length]; exact (List.getElem?_eq_some_iff.1 hj).1
    have := hat j hjl
    rw [Go.Deep.add_add, hc] at this
    rw [this]; exact hj
end Go.Sep
/-
  The frame of a law's proof: the arguments read behind the call as they read before it.
-/
namespace Go.Sep
set_option linter.unusedSimpArgs false
set_option linter.unusedVariables false
open Go.RowKit Go.ChangeShapes Go.WideShapes

theorem trodAll_below {H : Type} {enc : TypeId × Value → H} {P : Program} (hl : laidOutB P = true) {W W' : World} (hb : Below W.heap.size W W') : ∀ (ts : List TypeId) (vs : List Value) (ds : List (DataW H)) (ps : List MemPlace),
    (∀ t ∈ ts, P.readableRec t = true ∧ t < P.types.size) → DataW.TrodAll enc P W 0 (fun _ => true) true ts vs ds ps → (∀ x ∈ ps, x.block < W.heap.size) →
    DataW.TrodAll enc P W' 0 (fun b => decide (b < W.heap.size)) true ts vs ds ps
  | [], vs, ds, ps, _, h, _ => by
    obtain ⟨rfl, rfl, rfl⟩ := trodAll_nil h
    exact trodAll_mk0
  | t :: ts, vs, ds, ps, hr, h, hp => by
    obtain ⟨v, vs', d, ds', p, q, rfl, rfl, rfl, h0, h1⟩ := trodAll_cons h
    exact trodAll_cons_mk (Below.trod hl (hr t (by simp)).1 (hr t (by simp)).2 h0 hb (fun x hx => hp x (by simp [hx])))
      (trodAll_below hl hb ts vs' ds' q (fun t' ht' => hr t' (by simp [ht'])) h1 (fun x hx => hp x (by simp [hx])))

section
variable {P : Program} {ops : Array Oper} {Q : Exit → Act → World → Prop} {K : Act → World → Prop} {a : Act} {e w : World} {rest : List Oper} {o : Oper} {L : List HProp}
/-- A struct is read out of what was there when the law began. -/
theorem wp_loadOld {T : TypeId} {x : Operand} {z : Value} {n k i : Nat} {ad : Addr} {vs : List Value} [ti : TI P T z n k] [ag : Agg P T] (ho : o.op = .load T x) (hx : a.eval x = .pointer (some ad))
    (hw : Holds e w L) (hi : L[i]? = some (Old e)) (hl : vs.length = n) (hv : ∀ j v, vs[j]? = some v → e.cell? (ad.add j) = some v)
    (h : K (a.put o.dst (.agg vs.toArray)) w) : o.wp P a w K Q := by
  have hrun : (loadCells ad vs.length).run P w = .ok vs.toArray w :=
    run_loadCells_list (P := P) w ad vs (fun j v hj => by
      have h1 := hv j v hj
      rw [(hw.below hi).cell (World.block_lt_of_cell? e _ h1)]; exact h1)
  rw [hl] at hrun
  unfold Oper.wp execOp
  simp only [ho, hx, Instr.loadAt, Instr.sureAddr, loadVar, Sem.run_bind, Sem.run_pure, Result.andThen_ok, ag.run, if_true, ti.sizeOf_run, hrun]
  exact h
/-- The region in which an act is read into a variable of its own. -/
theorem wpList_act {t T : TypeId} {o0 o1 o2 o3 : Oper} {z : Value} {n k i len cap q : Nat} {ad : Addr} {vs : List Value} {x y x1 x3 y3 : Operand} (ti : TI P T z n k) (ag : Agg P T) (st : SlT P t T)
    (hx : a.eval x = .slice (some ad) len cap) (hy : a.eval y = .int .i64 (q : Int)) (hq : q < len)
    (hw : Holds e w L) (hi : L[i]? = some (Old e)) (hl : vs.length = n) (hz : z.cells.toList.length = n) (hone : ∀ v ∈ vs, v.oneCell' = true)
    (hv : ∀ j v, vs[j]? = some v → e.cell? ((ad.add (q * n)).add j) = some v)
    (h0 : o0.op = .indexAddr t x y) (g0 : Region.wanted o0 (yielded ops a.tmps) = true)
    (h1 : o1.op = .load T x1) (g1 : Region.wanted o1 (yielded ops (a.put o0.dst (.pointer (some (ad.add (q * n))))).tmps) = true)
    (e1 : (a.put o0.dst (.pointer (some (ad.add (q * n))))).eval x1 = .pointer (some (ad.add (q * n))))
    (h2 : o2.op = .alloc T) (g2 : Region.wanted o2 (yielded ops ((a.put o0.dst (.pointer (some (ad.add (q * n))))).put o1.dst (.agg vs.toArray)).tmps) = true)
    (h3 : o3.op = .store T x3 y3) (g3 : ∀ b, Region.wanted o3 (yielded ops (((a.put o0.dst (.pointer (some (ad.add (q * n))))).put o1.dst (.agg vs.toArray)).put o2.dst (.pointer (some ⟨b, 0, none⟩))).tmps) = true)
    (hx3 : ∀ b, (((a.put o0.dst (.pointer (some (ad.add (q * n))))).put o1.dst (.agg vs.toArray)).put o2.dst (.pointer (some ⟨b, 0, none⟩))).eval x3 = .pointer (some ⟨b, 0, none⟩))
    (hy3 : ∀ b, (((a.put o0.dst (.pointer (some (ad.add (q * n))))).put o1.dst (.agg vs.toArray)).put o2.dst (.pointer (some ⟨b, 0, none⟩))).eval y3 = .agg vs.toArray)
    (h : ∀ b w', Holds e w' (L ++ [pt b vs T]) → Q .normal ((((a.put o0.dst (.pointer (some (ad.add (q * n))))).put o1.dst (.agg vs.toArray)).put o2.dst (.pointer (some ⟨b, 0, none⟩))).put o3.dst undef) w') :
    wpList P ops Q [o0, o1, o2, o3] a w := by
  have hel : P.elem t = T := by simp [Program.elem, st.out]
  refine wpList_on g0 ?_
  unfold Oper.wp execOp
  have hr : (Instr.indexAt t (.slice (some ad) len cap) (.int .i64 (q : Int))).run P w = .ok (.pointer (some (ad.add (q * n)))) w := by
    rw [run_indexAt_slice (P := P) w t ad len cap .i64 q (by rw [hel]; exact st.out), if_pos (by omega), hel, ti.sizeOf_run]
    simp
  simp only [h0, hx, hy, Sem.run_bind, Sem.run_pure, hr, Result.andThen_ok]
  refine wpList_on g1 (wp_loadOld h1 e1 hw hi hl hv ?_)
  refine wpList_on g2 (wp_alloc h2 hw ?_)
  intro b w1 hw1
  refine wpList_on (g3 b) (wp_storeAll (vs := vs) (t := T) (ti := ti) h3 (hx3 b) (by rw [hy3 b]; rfl) hw1 (i := L.length) (by simp) hl hz hone ?_)
  intro w2 hw2
  unfold wpList
  refine h b w2 ?_
  simpa using hw2
end

theorem fitsK_nil {cs : List Value} (h : fitsK cs []) : cs = [] := by
  cases cs with
  | nil => rfl
  | cons c cs => exact h.elim
theorem fitsK_cons {cs : List Value} {k : IntKind} {ks : List (Option IntKind)} (h : fitsK cs (some k :: ks)) : ∃ z cs', cs = .int k z :: cs' ∧ (Lit.int k z).wf = true ∧ fitsK cs' ks := by
  cases cs with
  | nil => exact h.elim
  | cons c cs => obtain ⟨⟨z, rfl, hz⟩, h⟩ := h; exact ⟨z, cs, rfl, hz, h⟩
theorem fitsK_consB {cs : List Value} {ks : List (Option IntKind)} (h : fitsK cs (none :: ks)) : ∃ z cs', cs = .bool z :: cs' ∧ fitsK cs' ks := by
  cases cs with
  | nil => exact h.elim
  | cons c cs => obtain ⟨⟨z, rfl⟩, h⟩ := h; exact ⟨z, cs, rfl, h⟩
theorem exists_list {α : Type} {R : Nat → α → Prop} (len : Nat) (h : ∀ i, i < len → ∃ d, R i d) : ∃ l : List α, l.length = len ∧ ∀ i d, l[i]? = some d → R i d := by
  induction len with
  | zero => exact ⟨[], rfl, fun i d hd => by simp at hd⟩
  | succ n ih =>
    obtain ⟨l, hl, hR⟩ := ih (fun i hi => h i (by omega))
    obtain ⟨d, hd⟩ := h n (by omega)
    refine ⟨l ++ [d], by simp [hl], fun i x hx => ?_⟩
    by_cases hi : i < n
    · rw [List.getElem?_append_left (by omega)] at hx; exact hR i x hx
    · rw [List.getElem?_append_right (by omega)] at hx
      have : i = n := by
        have h1 := (List.getElem?_eq_some_iff.1 hx).1
        simp at h1; omega
      subst this
      rw [hl] at hx; simp at hx; subst hx; exact hd

/-- A law that answers true and has left what was there as it was. -/
theorem law_true {H : Type} {enc : TypeId × Value → H} {P : Program} {f : Func} {s : ChangeSpec} {W W' : World} {args : Array Value} {ds gs : List (DataW H)} {before : List MemPlace} {tb : TypeId}
    (hl : laidOutB P = true) (hts : ∀ t ∈ f.params.toList, P.readableRec t = true ∧ t < P.types.size) (hvars : s.vars = []) (hres : f.resultTypes = #[tb]) (htb : P.underlying tb = some .bool)
    (hfn : s.fn H (ds ++ gs) = { results := [.lit (.bool true)], args := ds }) (hW : DataW.Whole enc P f.params.toList s.vars false W args.toList ds gs before) (hb : Below W.heap.size W W') :
    s.post enc P f false true false false W args (.bool true) W' := by
  have hW' := hW
  obtain ⟨p, q, hA, hV, rfl, _, _⟩ := hW
  rw [hvars] at hV
  obtain ⟨rfl, rfl⟩ := trodVars_none hV
  refine ⟨ds, [], _, [], p, [], hW', ?_, ?_, ?_, hb.frame _, fun h => by cases h⟩
  · rw [hres, hfn]; exact trodAll_mk1 (shut_bool htb _)
  · rw [hfn]; exact trodAll_below hl hb _ _ _ _ hts hA (fun x hx => hW'.lt x (by simp [hx]))
  · rw [hfn, hvars]; rfl
end Go.Sep
/-
  What comes in as slices of whole numbers and of truths, for every law; two facts of the program.
-/
namespace Go.Proofs.YteinbojpmhblkaaDoor
set_option linter.unusedSimpArgs false
set_option linter.unusedVariables false
open Go.ChangeShapes Go.WideShapes Go.ChangeAt Go.RowKit Go.Sep

/-- Whole numbers that came in: as they lie in the world in which the law began. -/
def IntsAt (e : World) (a : Option Addr) (l : List Int) : Prop := ∀ (i : Nat) (n : Int), l[i]? = some n → ∃ p : Addr, a = some p ∧ e.cell? (p.add i) = some (.int .i64 n)
def BoolsAt (e : World) (a : Option Addr) (l : List Bool) : Prop := ∀ (i : Nat) (n : Bool), l[i]? = some n → ∃ p : Addr, a = some p ∧ e.cell? (p.add i) = some (.bool n)
theorem old_cell {e w : World} {L : List HProp} {i : Nat} (hw : Holds e w L) (hi : L[i]? = some (Old e)) {p : Addr} {v : Value} (h : e.cell? p = some v) : w.cell? p = some v := by
  rw [(hw.below hi).cell (World.block_lt_of_cell? e _ h)]; exact h
theorem own : ownKnob Tryd.prog.godebug = none := by kernel_rfl
theorem laidOut : laidOutB Tryd.prog = true := by kernel_rfl
theorem wf_i64 {z : Int} (h : (Lit.int .i64 z).wf = true) : -9223372036854775808 ≤ z ∧ z ≤ 9223372036854775807 := by
  have e1 : IntKind.i64.min = -9223372036854775808 := rfl
  have e2 : IntKind.i64.max = 9223372036854775807 := rfl
  simp only [Lit.wf, Bool.and_eq_true, decide_eq_true_eq] at h
  omega
theorem wf_u8 {z : Int} (h : (Lit.int .u8 z).wf = true) : 0 ≤ z ∧ z ≤ 255 := by
  have e1 : IntKind.u8.min = 0 := rfl
  have e2 : IntKind.u8.max = 255 := rfl
  simp only [Lit.wf, Bool.and_eq_true, decide_eq_true_eq] at h
  omega
theorem flatI : flatK Tryd.prog 2 3 = some [some .i64] := by kernel_rfl
theorem flatB : flatK Tryd.prog 2 4 = some [none] := by kernel_rfl
theorem cellsI : Tryd.prog.cellsOf 3 = 1 := by kernel_rfl
theorem cellsB : Tryd.prog.cellsOf 4 = 1 := by kernel_rfl
end Go.Proofs.YteinbojpmhblkaaDoor
/-
  The acts that come in: how they lie in the world in which the law begins. (Printed by gen_law.py.)
-/
namespace Go.Proofs.YteinbojpmhblkaaDoor
set_option linter.unusedSimpArgs false
set_option linter.unusedVariables false
open Go.ChangeShapes Go.WideShapes Go.ChangeAt Go.RowKit Go.Sep

def encA (d : Deed) : List Value := [.int .i64 d.f0, .int .i64 d.f1, .int .i64 d.f2, .int .i64 d.f3]
def Deed.ok (d : Deed) : Prop := (-9223372036854775808 ≤ d.f0 ∧ d.f0 ≤ 9223372036854775807) ∧ (-9223372036854775808 ≤ d.f1 ∧ d.f1 ≤ 9223372036854775807) ∧ (-9223372036854775808 ≤ d.f2 ∧ d.f2 ≤ 9223372036854775807) ∧ (-9223372036854775808 ≤ d.f3 ∧ d.f3 ≤ 9223372036854775807)
theorem encA_one (d : Deed) : ∀ v ∈ encA d, v.oneCell' = true := by simp [encA, Value.oneCell']
/-- The acts that came in: as they lie in the world in which the law began. -/
def ActsAt (e : World) (a : Option Addr) (l : List Deed) : Prop := ∀ (i : Nat) (d : Deed), l[i]? = some d → d.ok ∧ ∃ p : Addr, a = some p ∧ ∀ j c, (encA d)[j]? = some c → e.cell? ((p.add (i * 4)).add j) = some c
theorem flatA : flatK Tryd.prog 5 56 = some [some .i64, some .i64, some .i64, some .i64] := by kernel_rfl
theorem cellsA : Tryd.prog.cellsOf 56 = 4 := by kernel_rfl
theorem fitsA {cs : List Value} (h : fitsK cs [some .i64, some .i64, some .i64, some .i64]) : ∃ d : Deed, d.ok ∧ cs = encA d := by
  obtain ⟨z0, cs0, rfl, w0, hh0⟩ := fitsK_cons h
  obtain ⟨z1, cs1, rfl, w1, hh1⟩ := fitsK_cons hh0
  obtain ⟨z2, cs2, rfl, w2, hh2⟩ := fitsK_cons hh1
  obtain ⟨z3, cs3, rfl, w3, hh3⟩ := fitsK_cons hh2
  obtain rfl := fitsK_nil hh3
  exact ⟨⟨z0, z1, z2, z3⟩, ⟨wf_i64 w0, wf_i64 w1, wf_i64 w2, wf_i64 w3⟩, rfl⟩
theorem open_acts {H : Type} {enc : TypeId × Value → H} {W : World} {v : Value} {d : DataW H} {ps : List MemPlace} {b0 : Nat} (hv : Value.okWide Tryd.prog W .any b0 57 v) (h : DataW.Trod enc Tryd.prog W 0 (fun _ => true) true 57 v d ps) :
    ∃ (a : Option Addr) (cap : Nat) (l : List Deed), v = .slice a l.length cap ∧ l.length ≤ maxLen ∧ ActsAt W a l := by
  obtain ⟨a, len, cap, rfl, hlen, _, hR⟩ := open_slice_flat 5 Tryd.underlying57 flatA (by rw [cellsA]; rfl) hv h
  obtain ⟨l, hl, hA⟩ := exists_list (R := fun i (d : Deed) => d.ok ∧ ∃ p : Addr, a = some p ∧ ∀ j c, (encA d)[j]? = some c → W.cell? ((p.add (i * 4)).add j) = some c) len (fun i hi => by
    obtain ⟨p, cs, hp, hf, hc⟩ := hR i hi
    obtain ⟨d, hd, rfl⟩ := fitsA hf
    exact ⟨d, hd, p, hp, fun j c hj => by rw [Go.Deep.add_add]; exact hc j c hj⟩)
  subst hl
  exact ⟨a, cap, l, rfl, hlen, hA⟩
theorem open_act {H : Type} {enc : TypeId × Value → H} {W : World} {v : Value} {d : DataW H} {ps : List MemPlace} {b0 : Nat} (hv : Value.okWide Tryd.prog W .any b0 56 v) (h : DataW.Trod enc Tryd.prog W 0 (fun _ => true) true 56 v d ps) :
    ∃ k : Deed, k.ok ∧ v = .agg (encA k).toArray := by
  obtain ⟨cs, rfl, _⟩ := okWide_struct Tryd.underlying56 hv
  obtain ⟨fuel, hf⟩ := h
  obtain ⟨k, hok, hk⟩ := fitsA (trod_fits 5 fuel 56 _ _ _ flatA hf (by rw [cellsA]; rfl))
  have : cs = (encA k).toArray := by
    apply Array.toList_inj.1
    simpa [Value.cells] using hk
  exact ⟨k, hok, by rw [this]⟩
/-- An act is read. -/
theorem wp_loadAct {ops : Array Oper} {Q : Exit → Go.Act → World → Prop} {K : Go.Act → World → Prop} {a : Go.Act} {e w : World} {o : Oper} {L : List HProp} {i : Nat} {ad : Addr} {d : Deed} {x : Operand} (ho : o.op = .load 56 x) (hx : a.eval x = .pointer (some ad))
    (hw : Holds e w L) (hi : L[i]? = some (Old e)) (hv : ∀ j c, (encA d)[j]? = some c → e.cell? (ad.add j) = some c)
    (h : K (a.put o.dst (.agg (encA d).toArray)) w) : o.wp Tryd.prog a w K Q :=
  wp_loadOld ho hx hw hi rfl hv h
end Go.Proofs.YteinbojpmhblkaaDoor
/-
  '==' and '!=' of structs, and a load of several cells that are known one by one.
-/
namespace Go.Sep
set_option linter.unusedSimpArgs false
set_option linter.unusedVariables false
section
variable {P : Program} {a : Act} {w : World} {o : Oper}
theorem run_loadRd {T : TypeId} {x : Operand} {z : Value} {n k b off : Nat} {vs : List Value} [ti : TI P T z n k] [ag : Agg P T] (ho : o.op = .load T x) (hx : a.eval x = .pointer (some ⟨b, off, none⟩))
    (hl : vs.length = n) (hv : ∀ (j : Nat) (v : Value), vs[j]? = some v → w.cell? ⟨b, off + j, none⟩ = some v) : (execOp a.eval o).run P w = .ok (.value (.agg vs.toArray)) w := by
  have hrun : (loadCells ⟨b, off, none⟩ vs.length).run P w = .ok vs.toArray w :=
    run_loadCells_list (P := P) w ⟨b, off, none⟩ vs (fun j v hj => by
      have hadd : (⟨b, off, none⟩ : Addr).add j = ⟨b, off + j, none⟩ := by unfold Addr.add; split <;> simp_all
      rw [hadd]; exact hv j v hj)
  rw [hl] at hrun
  unfold execOp
  simp only [ho, hx, Instr.loadAt, Instr.sureAddr, loadVar, Sem.run_bind, Sem.run_pure, Result.andThen_ok, ag.run, if_true, ti.sizeOf_run, hrun]
theorem run_loadAd {T : TypeId} {x : Operand} {z : Value} {n k : Nat} {ad : Addr} {vs : List Value} [ti : TI P T z n k] [ag : Agg P T] (ho : o.op = .load T x) (hx : a.eval x = .pointer (some ad))
    (hl : vs.length = n) (hv : ∀ (j : Nat) (v : Value), vs[j]? = some v → w.cell? (ad.add j) = some v) : (execOp a.eval o).run P w = .ok (.value (.agg vs.toArray)) w := by
  have hrun : (loadCells ad vs.length).run P w = .ok vs.toArray w := run_loadCells_list (P := P) w ad vs hv
  rw [hl] at hrun
  unfold execOp
  simp only [ho, hx, Instr.loadAt, Instr.sureAddr, loadVar, Sem.run_bind, Sem.run_pure, Result.andThen_ok, ag.run, if_true, ti.sizeOf_run, hrun]
theorem wp_of_run {K : Act → World → Prop} {Q : Exit → Act → World → Prop} {v : Value} (h : (execOp a.eval o).run P w = .ok (.value v) w) (hk : K (a.put o.dst v) w) : o.wp P a w K Q := by
  unfold Oper.wp; rw [h]; exact hk
theorem equal_of {T : TypeId} {cs ds : Array Value} {b : Bool} (h : (binOp .eql T (.agg cs) (.agg ds)).run P w = .ok (.bool b) w) : (Op.equal T (.agg cs) (.agg ds)).run P w = .ok b w := by
  have h0 : binOp .eql T (.agg cs) (.agg ds) = (do pure (.bool (← Op.equal T (.agg cs) (.agg ds)))) := rfl
  rw [h0, Sem.run_bind] at h
  cases hE : (Op.equal T (.agg cs) (.agg ds)).run P w with
  | ok b' w' =>
    rw [hE, Result.andThen_ok, Sem.run_pure] at h
    simp only [Result.ok.injEq, Value.bool.injEq] at h
    obtain ⟨rfl, rfl⟩ := h
    rfl
  | halt x w' => rw [hE] at h; cases h
theorem neq_of {T : TypeId} {cs ds : Array Value} {b : Bool} (h : (binOp .eql T (.agg cs) (.agg ds)).run P w = .ok (.bool b) w) : (binOp .neq T (.agg cs) (.agg ds)).run P w = .ok (.bool (!b)) w := by
  have h0 : binOp .neq T (.agg cs) (.agg ds) = (do pure (.bool (!(← Op.equal T (.agg cs) (.agg ds))))) := rfl
  rw [h0, Sem.run_bind, equal_of h, Result.andThen_ok, Sem.run_pure]
theorem run_ne {x y : Operand} {T yt : TypeId} {cs ds : Array Value} {b : Bool} (ho : o.op = .binOp .neq T x y yt) (hx : a.eval x = .agg cs) (hy : a.eval y = .agg ds) (hg : P.eqGuardType P.depth T = false) (h : (binOp .eql T (.agg cs) (.agg ds)).run P w = .ok (.bool b) w) :
    (execOp a.eval o).run P w = .ok (.value (.bool (!b))) w := by
  have h' := neq_of h
  unfold execOp
  simp only [ho, hx, hy, eqGuard, Sem.run_bind, Sem.run_pure, run_program, Result.andThen_ok, hg, h']
  simp only [Bool.not_false, if_true, Bool.not_eq_true', Bool.false_eq_true, if_false, ite_self, Sem.run_ite, Sem.run_pure, Result.andThen_ok, h']
  simp [h', hg]
theorem run_eq {x y : Operand} {T yt : TypeId} {cs ds : Array Value} {b : Bool} (ho : o.op = .binOp .eql T x y yt) (hx : a.eval x = .agg cs) (hy : a.eval y = .agg ds) (hg : P.eqGuardType P.depth T = false) (h : (binOp .eql T (.agg cs) (.agg ds)).run P w = .ok (.bool b) w) :
    (execOp a.eval o).run P w = .ok (.value (.bool b)) w := by
  unfold execOp
  simp only [ho, hx, hy, eqGuard, Sem.run_bind, Sem.run_pure, run_program, Result.andThen_ok, hg, h]
  simp only [Bool.not_false, if_true, Bool.not_eq_true', Bool.false_eq_true, if_false, ite_self, Sem.run_ite, Sem.run_pure, Result.andThen_ok, h]
  simp [h, hg]
end
end Go.Sep
/-
  The walks of Right, the program's and the document's.
-/
namespace Go.Proofs.YteinbojpmhblkaaDoor
set_option linter.unusedSimpArgs false
set_option linter.unusedVariables false
open Go.RowKit Go.Sep

/-- What a part of memory tells of the package's variable. -/
def Tops (e : World) (X : HProp) : Prop := ∀ (w : World) (L : List HProp) (i : Nat), Holds e w L → L[i]? = some X → TopsAt w
theorem toList3 (c0 c1 c2 : Nat) : (strOf [c0, c1, c2]).toList.isEmpty = false := by
  unfold ByteArray.toList
  rw [ByteArray.toList.loop, if_pos (by rw [size_strOf]; simp), ByteArray.toList.loop, if_pos (by rw [size_strOf]; simp), ByteArray.toList.loop, if_pos (by rw [size_strOf]; simp), ByteArray.toList.loop, if_neg (by rw [size_strOf]; simp)]
  simp
theorem toList0 : (strOf []).toList.isEmpty = true := by
  unfold ByteArray.toList
  rw [ByteArray.toList.loop, if_neg (by rw [size_strOf]; simp)]; rfl
def fl3 (c0 c1 c2 : Nat) (x : Deed) (long : Int) : List Bool := [fitsP c0 x.f1 long, fitsP c1 x.f2 long, fitsP c2 x.f3 long]
theorem right3 {c0 c1 c2 : Nat} {x : Deed} {long : Int} (h : formP x.f0 = [c0, c1, c2]) : rightP x long = (fl3 c0 c1 c2 x long).all id := by
  unfold rightP; rw [h]; simp [fl3]
set_option maxRecDepth 20000 in
set_option maxHeartbeats 8000000 in
theorem oRight (x : Deed) (long : Int) (e w : World) (X : HProp) (hT : Tops e X) (hw : Holds e w [X]) :
    Calls Tryd.prog 47 #[.agg (encA x).toArray, .int .i64 long] w fun en w' => en = .returned (.bool (rightP x long)) ∧ Holds e w' [X] := by
  have hA : encA x = [.int .i64 x.f0, .int .i64 x.f1, .int .i64 x.f2, .int .i64 x.f3] := rfl
  have HT := Sep.hid hT; clear hT
  rcases form_cases x.f0 with ⟨hf, _⟩ | ⟨c0, c1, c2, hf, m0, m1, m2⟩
  · have hb : rightP x long = false := by unfold rightP; rw [hf]
    have Hf := Sep.hid hf; clear hf
    rw [hb, hA]; clear hb hA
    refine Sep.calls_post ?_
    intro Post_ hPost_
    have HP := Sep.hid hPost_
    clear hPost_
    go_enter Tryd.func47, Tryd.ntmps47
    go_wp2_with (first | (refine wpList_on rfl (wp_box rfl hw ?_); intro bx_ w_ hw_; clear hw; have hw := hw_; clear hw_; (try simp only [List.map_cons, List.map_nil, List.getD_cons_zero, List.getD_cons_succ, List.getD_nil, List.set_cons_zero, List.set_cons_succ, List.cons_append, List.nil_append, Act.eval, Array.getD_eq_getD_getElem?, List.getElem?_toArray, List.getElem?_cons_succ, List.getElem?_cons_zero, Option.getD_some, Value.cells] at hw); (try simp (disch := first | (simp; done) | (simp; omega)) only [Sep.mid_set, Sep.mid_set2, Sep.mid_set0, Sep.mid_splice, Sep.mid_splice0, List.set_cons_zero, List.set_cons_succ] at hw); (try simp only [Sep.splice, List.take_succ_cons, List.take_zero, List.drop_succ_cons, List.drop_zero, List.length_cons, List.length_nil, Nat.reduceAdd, List.cons_append, List.nil_append] at hw); (try replace hc0 := Sep.Holds.cells hw (i := 0) rfl); (try replace hc1 := Sep.Holds.cells hw (i := 1) rfl); (try replace hc2 := Sep.Holds.cells hw (i := 2) rfl); (try replace hc3 := Sep.Holds.cells hw (i := 3) rfl); (try replace hc4 := Sep.Holds.cells hw (i := 4) rfl); (try replace hc5 := Sep.Holds.cells hw (i := 5) rfl); (try replace hc6 := Sep.Holds.cells hw (i := 6) rfl)))
    refine (oForm x.f0 _).mono ?_
    rintro _ _ ⟨rfl, rfl⟩
    rw [Hf.out]
    go_wp2_with (first | (refine wpList_on rfl (wp_alloc rfl hw ?_); intro b6_ w_ hw_; clear hw; have hw := hw_; clear hw_; (try simp only [List.map_cons, List.map_nil, List.getD_cons_zero, List.getD_cons_succ, List.getD_nil, List.set_cons_zero, List.set_cons_succ, List.cons_append, List.nil_append, Act.eval, Array.getD_eq_getD_getElem?, List.getElem?_toArray, List.getElem?_cons_succ, List.getElem?_cons_zero, Option.getD_some, Value.cells] at hw); (try simp (disch := first | (simp; done) | (simp; omega)) only [Sep.mid_set, Sep.mid_set2, Sep.mid_set0, Sep.mid_splice, Sep.mid_splice0, List.set_cons_zero, List.set_cons_succ] at hw); (try simp only [Sep.splice, List.take_succ_cons, List.take_zero, List.drop_succ_cons, List.drop_zero, List.length_cons, List.length_nil, Nat.reduceAdd, List.cons_append, List.nil_append] at hw); (try replace hc0 := Sep.Holds.cells hw (i := 0) rfl); (try replace hc1 := Sep.Holds.cells hw (i := 1) rfl); (try replace hc2 := Sep.Holds.cells hw (i := 2) rfl); (try replace hc3 := Sep.Holds.cells hw (i := 3) rfl); (try replace hc4 := Sep.Holds.cells hw (i := 4) rfl); (try replace hc5 := Sep.Holds.cells hw (i := 5) rfl); (try replace hc6 := Sep.Holds.cells hw (i := 6) rfl)) | (refine wpList_on rfl (wp_storeAll (vs := [.int .i64 x.f1, .int .i64 x.f2, .int .i64 x.f3]) rfl rfl (by rfl) hw (i := 2) rfl rfl rfl (by simp [Value.oneCell']) ?_); intro w_ hw_; clear hw; have hw := hw_; clear hw_; (try simp only [List.map_cons, List.map_nil, List.getD_cons_zero, List.getD_cons_succ, List.getD_nil, List.set_cons_zero, List.set_cons_succ, List.cons_append, List.nil_append, Act.eval, Array.getD_eq_getD_getElem?, List.getElem?_toArray, List.getElem?_cons_succ, List.getElem?_cons_zero, Option.getD_some, Value.cells] at hw); (try simp (disch := first | (simp; done) | (simp; omega)) only [Sep.mid_set, Sep.mid_set2, Sep.mid_set0, Sep.mid_splice, Sep.mid_splice0, List.set_cons_zero, List.set_cons_succ] at hw); (try simp only [Sep.splice, List.take_succ_cons, List.take_zero, List.drop_succ_cons, List.drop_zero, List.length_cons, List.length_nil, Nat.reduceAdd, List.cons_append, List.nil_append] at hw); (try replace hc0 := Sep.Holds.cells hw (i := 0) rfl); (try replace hc1 := Sep.Holds.cells hw (i := 1) rfl); (try replace hc2 := Sep.Holds.cells hw (i := 2) rfl); (try replace hc3 := Sep.Holds.cells hw (i := 3) rfl); (try replace hc4 := Sep.Holds.cells hw (i := 4) rfl); (try replace hc5 := Sep.Holds.cells hw (i := 5) rfl); (try replace hc6 := Sep.Holds.cells hw (i := 6) rfl)) | (refine wpList_on rfl (wp_rangeStr Tryd.underlying9 rfl rfl hw ?_); intro it_ w_ hw_; clear hw; have hw := hw_; clear hw_; (try simp only [List.map_cons, List.map_nil, List.getD_cons_zero, List.getD_cons_succ, List.getD_nil, List.set_cons_zero, List.set_cons_succ, List.cons_append, List.nil_append, Act.eval, Array.getD_eq_getD_getElem?, List.getElem?_toArray, List.getElem?_cons_succ, List.getElem?_cons_zero, Option.getD_some, Value.cells] at hw); (try simp (disch := first | (simp; done) | (simp; omega)) only [Sep.mid_set, Sep.mid_set2, Sep.mid_set0, Sep.mid_splice, Sep.mid_splice0, List.set_cons_zero, List.set_cons_succ] at hw); (try simp only [Sep.splice, List.take_succ_cons, List.take_zero, List.drop_succ_cons, List.drop_zero, List.length_cons, List.length_nil, Nat.reduceAdd, List.cons_append, List.nil_append] at hw); (try replace hc0 := Sep.Holds.cells hw (i := 0) rfl); (try replace hc1 := Sep.Holds.cells hw (i := 1) rfl); (try replace hc2 := Sep.Holds.cells hw (i := 2) rfl); (try replace hc3 := Sep.Holds.cells hw (i := 3) rfl); (try replace hc4 := Sep.Holds.cells hw (i := 4) rfl); (try replace hc5 := Sep.Holds.cells hw (i := 5) rfl); (try replace hc6 := Sep.Holds.cells hw (i := 6) rfl); (try simp only [Act.put, List.setIfInBounds_toArray, List.set_cons_zero, List.set_cons_succ])))
    have Hw0 := Sep.hid hw; clear hw; (try clear hc0); (try clear hc1); (try clear hc2); (try clear hc3); (try clear hc4); (try clear hc5); (try clear hc6)
    go_loopw [21] (fun u wr => Holds e wr [X, pt bx_ [.int .i64 x.f0, .int .i64 x.f1, .int .i64 x.f2, .int .i64 x.f3] 56, pt b6_ [.int .i64 x.f1, .int .i64 x.f2, .int .i64 x.f3] 97, pto it_ (.stringIter (strOf []) 0)]) (fun _ wr => strLeft it_ wr)
    case atStart => exact Hw0.out
    case round =>
      clear Hw0
      have hw := hrel; clear hrel
      go_wp2_with (first | (refine wpList_on rfl (wp_nextEnd rfl rfl hw (i := 3) rfl (by decide) ?_); (try simp only [Act.put, List.setIfInBounds_toArray, List.set_cons_zero, List.set_cons_succ])))
      exact HP.out _ _ ⟨by rw [toList0]; rfl, hw.sel [0] (by decide)⟩
  · rw [right3 hf, hA]; clear hA
    have Hf := Sep.hid hf; clear hf
    have M0 := Sep.hid m0; have M1 := Sep.hid m1; have M2 := Sep.hid m2
    clear m0 m1 m2
    refine Sep.calls_post ?_
    intro Post_ hPost_
    have HP := Sep.hid hPost_
    clear hPost_
    go_enter Tryd.func47, Tryd.ntmps47
    go_wp2_with (first | (refine wpList_on rfl (wp_box rfl hw ?_); intro bx_ w_ hw_; clear hw; have hw := hw_; clear hw_; (try simp only [List.map_cons, List.map_nil, List.getD_cons_zero, List.getD_cons_succ, List.getD_nil, List.set_cons_zero, List.set_cons_succ, List.cons_append, List.nil_append, Act.eval, Array.getD_eq_getD_getElem?, List.getElem?_toArray, List.getElem?_cons_succ, List.getElem?_cons_zero, Option.getD_some, Value.cells] at hw); (try simp (disch := first | (simp; done) | (simp; omega)) only [Sep.mid_set, Sep.mid_set2, Sep.mid_set0, Sep.mid_splice, Sep.mid_splice0, List.set_cons_zero, List.set_cons_succ] at hw); (try simp only [Sep.splice, List.take_succ_cons, List.take_zero, List.drop_succ_cons, List.drop_zero, List.length_cons, List.length_nil, Nat.reduceAdd, List.cons_append, List.nil_append] at hw); (try replace hc0 := Sep.Holds.cells hw (i := 0) rfl); (try replace hc1 := Sep.Holds.cells hw (i := 1) rfl); (try replace hc2 := Sep.Holds.cells hw (i := 2) rfl); (try replace hc3 := Sep.Holds.cells hw (i := 3) rfl); (try replace hc4 := Sep.Holds.cells hw (i := 4) rfl); (try replace hc5 := Sep.Holds.cells hw (i := 5) rfl); (try replace hc6 := Sep.Holds.cells hw (i := 6) rfl)))
    refine (oForm x.f0 _).mono ?_
    rintro _ _ ⟨rfl, rfl⟩
    rw [Hf.out]
    go_wp2_with (first | (refine wpList_on rfl (wp_alloc rfl hw ?_); intro b6_ w_ hw_; clear hw; have hw := hw_; clear hw_; (try simp only [List.map_cons, List.map_nil, List.getD_cons_zero, List.getD_cons_succ, List.getD_nil, List.set_cons_zero, List.set_cons_succ, List.cons_append, List.nil_append, Act.eval, Array.getD_eq_getD_getElem?, List.getElem?_toArray, List.getElem?_cons_succ, List.getElem?_cons_zero, Option.getD_some, Value.cells] at hw); (try simp (disch := first | (simp; done) | (simp; omega)) only [Sep.mid_set, Sep.mid_set2, Sep.mid_set0, Sep.mid_splice, Sep.mid_splice0, List.set_cons_zero, List.set_cons_succ] at hw); (try simp only [Sep.splice, List.take_succ_cons, List.take_zero, List.drop_succ_cons, List.drop_zero, List.length_cons, List.length_nil, Nat.reduceAdd, List.cons_append, List.nil_append] at hw); (try replace hc0 := Sep.Holds.cells hw (i := 0) rfl); (try replace hc1 := Sep.Holds.cells hw (i := 1) rfl); (try replace hc2 := Sep.Holds.cells hw (i := 2) rfl); (try replace hc3 := Sep.Holds.cells hw (i := 3) rfl); (try replace hc4 := Sep.Holds.cells hw (i := 4) rfl); (try replace hc5 := Sep.Holds.cells hw (i := 5) rfl); (try replace hc6 := Sep.Holds.cells hw (i := 6) rfl)) | (refine wpList_on rfl (wp_storeAll (vs := [.int .i64 x.f1, .int .i64 x.f2, .int .i64 x.f3]) rfl rfl (by rfl) hw (i := 2) rfl rfl rfl (by simp [Value.oneCell']) ?_); intro w_ hw_; clear hw; have hw := hw_; clear hw_; (try simp only [List.map_cons, List.map_nil, List.getD_cons_zero, List.getD_cons_succ, List.getD_nil, List.set_cons_zero, List.set_cons_succ, List.cons_append, List.nil_append, Act.eval, Array.getD_eq_getD_getElem?, List.getElem?_toArray, List.getElem?_cons_succ, List.getElem?_cons_zero, Option.getD_some, Value.cells] at hw); (try simp (disch := first | (simp; done) | (simp; omega)) only [Sep.mid_set, Sep.mid_set2, Sep.mid_set0, Sep.mid_splice, Sep.mid_splice0, List.set_cons_zero, List.set_cons_succ] at hw); (try simp only [Sep.splice, List.take_succ_cons, List.take_zero, List.drop_succ_cons, List.drop_zero, List.length_cons, List.length_nil, Nat.reduceAdd, List.cons_append, List.nil_append] at hw); (try replace hc0 := Sep.Holds.cells hw (i := 0) rfl); (try replace hc1 := Sep.Holds.cells hw (i := 1) rfl); (try replace hc2 := Sep.Holds.cells hw (i := 2) rfl); (try replace hc3 := Sep.Holds.cells hw (i := 3) rfl); (try replace hc4 := Sep.Holds.cells hw (i := 4) rfl); (try replace hc5 := Sep.Holds.cells hw (i := 5) rfl); (try replace hc6 := Sep.Holds.cells hw (i := 6) rfl)) | (refine wpList_on rfl (wp_rangeStr Tryd.underlying9 rfl rfl hw ?_); intro it_ w_ hw_; clear hw; have hw := hw_; clear hw_; (try simp only [List.map_cons, List.map_nil, List.getD_cons_zero, List.getD_cons_succ, List.getD_nil, List.set_cons_zero, List.set_cons_succ, List.cons_append, List.nil_append, Act.eval, Array.getD_eq_getD_getElem?, List.getElem?_toArray, List.getElem?_cons_succ, List.getElem?_cons_zero, Option.getD_some, Value.cells] at hw); (try simp (disch := first | (simp; done) | (simp; omega)) only [Sep.mid_set, Sep.mid_set2, Sep.mid_set0, Sep.mid_splice, Sep.mid_splice0, List.set_cons_zero, List.set_cons_succ] at hw); (try simp only [Sep.splice, List.take_succ_cons, List.take_zero, List.drop_succ_cons, List.drop_zero, List.length_cons, List.length_nil, Nat.reduceAdd, List.cons_append, List.nil_append] at hw); (try replace hc0 := Sep.Holds.cells hw (i := 0) rfl); (try replace hc1 := Sep.Holds.cells hw (i := 1) rfl); (try replace hc2 := Sep.Holds.cells hw (i := 2) rfl); (try replace hc3 := Sep.Holds.cells hw (i := 3) rfl); (try replace hc4 := Sep.Holds.cells hw (i := 4) rfl); (try replace hc5 := Sep.Holds.cells hw (i := 5) rfl); (try replace hc6 := Sep.Holds.cells hw (i := 6) rfl); (try simp only [Act.put, List.setIfInBounds_toArray, List.set_cons_zero, List.set_cons_succ])))
    have Hw0 := Sep.hid hw; clear hw; (try clear hc0); (try clear hc1); (try clear hc2); (try clear hc3); (try clear hc4); (try clear hc5); (try clear hc6)
    go_loopw [21] (fun u wr => ∃ k : Nat, k ≤ 3 ∧ Hid (((fl3 c0 c1 c2 x long).take k).all id = true) ∧ Holds e wr [X, pt bx_ [.int .i64 x.f0, .int .i64 x.f1, .int .i64 x.f2, .int .i64 x.f3] 56, pt b6_ [.int .i64 x.f1, .int .i64 x.f2, .int .i64 x.f3] 97, pto it_ (.stringIter (strOf [c0, c1, c2]) k)]) (fun _ wr => strLeft it_ wr)
    case atStart => exact ⟨0, by decide, Sep.hid rfl, Hw0.out⟩
    case round =>
      clear Hw0
      obtain ⟨k, hk, Hp, hw⟩ := hrel
      have Hm := Sep.hid (Holds.strLeft hw (i := 3) rfl)
      match k, hk with
      | 0, _ =>
        (try replace hc0 := Sep.Holds.cells hw (i := 0) rfl); (try replace hc1 := Sep.Holds.cells hw (i := 1) rfl); (try replace hc2 := Sep.Holds.cells hw (i := 2) rfl); (try replace hc3 := Sep.Holds.cells hw (i := 3) rfl); (try replace hc4 := Sep.Holds.cells hw (i := 4) rfl); (try replace hc5 := Sep.Holds.cells hw (i := 5) rfl); (try replace hc6 := Sep.Holds.cells hw (i := 6) rfl)
        go_wp2_with (first | (refine wpList_on rfl (wp_nextStr rfl rfl hw (i := 3) rfl (by rw [size_strOf]; simp) (decode_strOf _ _ c0 rfl (letters_lt M0.out)) ?_); intro w_ hw_; clear hw; have hw := hw_; clear hw_; (try simp only [List.map_cons, List.map_nil, List.getD_cons_zero, List.getD_cons_succ, List.getD_nil, List.set_cons_zero, List.set_cons_succ, List.cons_append, List.nil_append, Act.eval, Array.getD_eq_getD_getElem?, List.getElem?_toArray, List.getElem?_cons_succ, List.getElem?_cons_zero, Option.getD_some, Value.cells] at hw); (try simp (disch := first | (simp; done) | (simp; omega)) only [Sep.mid_set, Sep.mid_set2, Sep.mid_set0, Sep.mid_splice, Sep.mid_splice0, List.set_cons_zero, List.set_cons_succ] at hw); (try simp only [Sep.splice, List.take_succ_cons, List.take_zero, List.drop_succ_cons, List.drop_zero, List.length_cons, List.length_nil, Nat.reduceAdd, List.cons_append, List.nil_append] at hw); (try replace hc0 := Sep.Holds.cells hw (i := 0) rfl); (try replace hc1 := Sep.Holds.cells hw (i := 1) rfl); (try replace hc2 := Sep.Holds.cells hw (i := 2) rfl); (try replace hc3 := Sep.Holds.cells hw (i := 3) rfl); (try replace hc4 := Sep.Holds.cells hw (i := 4) rfl); (try replace hc5 := Sep.Holds.cells hw (i := 5) rfl); (try replace hc6 := Sep.Holds.cells hw (i := 6) rfl); (try simp only [Act.put, List.setIfInBounds_toArray, List.set_cons_zero, List.set_cons_succ])))
        refine (oFits c0 M0.out x.f1 long _ (HT.out _ _ 0 hw rfl)).mono ?_
        rintro _ _ ⟨rfl, rfl⟩
        cases hb : fitsP c0 x.f1 long with
        | true =>
          have Hb := Sep.hid hb; clear hb
          go_wp2_with fail
          go_roundw
          case rel => exact ⟨0 + 1, by decide, Sep.hid (by simp only [fl3, List.take_succ_cons, List.take_zero, List.all_cons, List.all_nil, id]; simp [Hb.out]), hw⟩
          case measure => rw [Holds.strLeft hw (i := 3) rfl, Hm.out, size_strOf]; simp
        | false =>
          have Hb := Sep.hid hb; clear hb
          go_wp2_with fail
          exact HP.out _ _ ⟨by simp [fl3, Hb.out], hw.sel [0] (by decide)⟩
      | 1, _ =>
        (try replace hc0 := Sep.Holds.cells hw (i := 0) rfl); (try replace hc1 := Sep.Holds.cells hw (i := 1) rfl); (try replace hc2 := Sep.Holds.cells hw (i := 2) rfl); (try replace hc3 := Sep.Holds.cells hw (i := 3) rfl); (try replace hc4 := Sep.Holds.cells hw (i := 4) rfl); (try replace hc5 := Sep.Holds.cells hw (i := 5) rfl); (try replace hc6 := Sep.Holds.cells hw (i := 6) rfl)
        go_wp2_with (first | (refine wpList_on rfl (wp_nextStr rfl rfl hw (i := 3) rfl (by rw [size_strOf]; simp) (decode_strOf _ _ c1 rfl (letters_lt M1.out)) ?_); intro w_ hw_; clear hw; have hw := hw_; clear hw_; (try simp only [List.map_cons, List.map_nil, List.getD_cons_zero, List.getD_cons_succ, List.getD_nil, List.set_cons_zero, List.set_cons_succ, List.cons_append, List.nil_append, Act.eval, Array.getD_eq_getD_getElem?, List.getElem?_toArray, List.getElem?_cons_succ, List.getElem?_cons_zero, Option.getD_some, Value.cells] at hw); (try simp (disch := first | (simp; done) | (simp; omega)) only [Sep.mid_set, Sep.mid_set2, Sep.mid_set0, Sep.mid_splice, Sep.mid_splice0, List.set_cons_zero, List.set_cons_succ] at hw); (try simp only [Sep.splice, List.take_succ_cons, List.take_zero, List.drop_succ_cons, List.drop_zero, List.length_cons, List.length_nil, Nat.reduceAdd, List.cons_append, List.nil_append] at hw); (try replace hc0 := Sep.Holds.cells hw (i := 0) rfl); (try replace hc1 := Sep.Holds.cells hw (i := 1) rfl); (try replace hc2 := Sep.Holds.cells hw (i := 2) rfl); (try replace hc3 := Sep.Holds.cells hw (i := 3) rfl); (try replace hc4 := Sep.Holds.cells hw (i := 4) rfl); (try replace hc5 := Sep.Holds.cells hw (i := 5) rfl); (try replace hc6 := Sep.Holds.cells hw (i := 6) rfl); (try simp only [Act.put, List.setIfInBounds_toArray, List.set_cons_zero, List.set_cons_succ])))
        refine (oFits c1 M1.out x.f2 long _ (HT.out _ _ 0 hw rfl)).mono ?_
        rintro _ _ ⟨rfl, rfl⟩
        cases hb : fitsP c1 x.f2 long with
        | true =>
          have Hb := Sep.hid hb; clear hb
          go_wp2_with fail
          go_roundw
          case rel => exact ⟨1 + 1, by decide, Sep.hid (by simp only [fl3, List.take_succ_cons, List.take_zero, List.all_cons, List.all_nil, id]; have h := Hp.out; simp only [fl3, List.take_succ_cons, List.take_zero, List.all_cons, List.all_nil, id] at h; simp_all [Hb.out]), hw⟩
          case measure => rw [Holds.strLeft hw (i := 3) rfl, Hm.out, size_strOf]; simp
        | false =>
          have Hb := Sep.hid hb; clear hb
          go_wp2_with fail
          exact HP.out _ _ ⟨by simp [fl3, Hb.out], hw.sel [0] (by decide)⟩
      | 2, _ =>
        (try replace hc0 := Sep.Holds.cells hw (i := 0) rfl); (try replace hc1 := Sep.Holds.cells hw (i := 1) rfl); (try replace hc2 := Sep.Holds.cells hw (i := 2) rfl); (try replace hc3 := Sep.Holds.cells hw (i := 3) rfl); (try replace hc4 := Sep.Holds.cells hw (i := 4) rfl); (try replace hc5 := Sep.Holds.cells hw (i := 5) rfl); (try replace hc6 := Sep.Holds.cells hw (i := 6) rfl)
        go_wp2_with (first | (refine wpList_on rfl (wp_nextStr rfl rfl hw (i := 3) rfl (by rw [size_strOf]; simp) (decode_strOf _ _ c2 rfl (letters_lt M2.out)) ?_); intro w_ hw_; clear hw; have hw := hw_; clear hw_; (try simp only [List.map_cons, List.map_nil, List.getD_cons_zero, List.getD_cons_succ, List.getD_nil, List.set_cons_zero, List.set_cons_succ, List.cons_append, List.nil_append, Act.eval, Array.getD_eq_getD_getElem?, List.getElem?_toArray, List.getElem?_cons_succ, List.getElem?_cons_zero, Option.getD_some, Value.cells] at hw); (try simp (disch := first | (simp; done) | (simp; omega)) only [Sep.mid_set, Sep.mid_set2, Sep.mid_set0, Sep.mid_splice, Sep.mid_splice0, List.set_cons_zero, List.set_cons_succ] at hw); (try simp only [Sep.splice, List.take_succ_cons, List.take_zero, List.drop_succ_cons, List.drop_zero, List.length_cons, List.length_nil, Nat.reduceAdd, List.cons_append, List.nil_append] at hw); (try replace hc0 := Sep.Holds.cells hw (i := 0) rfl); (try replace hc1 := Sep.Holds.cells hw (i := 1) rfl); (try replace hc2 := Sep.Holds.cells hw (i := 2) rfl); (try replace hc3 := Sep.Holds.cells hw (i := 3) rfl); (try replace hc4 := Sep.Holds.cells hw (i := 4) rfl); (try replace hc5 := Sep.Holds.cells hw (i := 5) rfl); (try replace hc6 := Sep.Holds.cells hw (i := 6) rfl); (try simp only [Act.put, List.setIfInBounds_toArray, List.set_cons_zero, List.set_cons_succ])))
        refine (oFits c2 M2.out x.f3 long _ (HT.out _ _ 0 hw rfl)).mono ?_
        rintro _ _ ⟨rfl, rfl⟩
        cases hb : fitsP c2 x.f3 long with
        | true =>
          have Hb := Sep.hid hb; clear hb
          go_wp2_with fail
          go_roundw
          case rel => exact ⟨2 + 1, by decide, Sep.hid (by simp only [fl3, List.take_succ_cons, List.take_zero, List.all_cons, List.all_nil, id]; have h := Hp.out; simp only [fl3, List.take_succ_cons, List.take_zero, List.all_cons, List.all_nil, id] at h; simp_all [Hb.out]), hw⟩
          case measure => rw [Holds.strLeft hw (i := 3) rfl, Hm.out, size_strOf]; simp
        | false =>
          have Hb := Sep.hid hb; clear hb
          go_wp2_with fail
          exact HP.out _ _ ⟨by simp [fl3, Hb.out], hw.sel [0] (by decide)⟩
      | 3, _ =>
        have Hr : Hid ((fl3 c0 c1 c2 x long).all id = true) := Sep.hid (by have h := Hp.out; rwa [List.take_of_length_le (by simp [fl3])] at h)
        go_wp2_with (first | (refine wpList_on rfl (wp_nextEnd rfl rfl hw (i := 3) rfl (by rw [size_strOf]; simp) ?_); (try simp only [Act.put, List.setIfInBounds_toArray, List.set_cons_zero, List.set_cons_succ])))
        exact HP.out _ _ ⟨by rw [toList3, Hr.out]; rfl, hw.sel [0] (by decide)⟩
end Go.Proofs.YteinbojpmhblkaaDoor
/-
  Drawn regions: the same laws in shorter words, for texts that a program prints.
-/
namespace Go.Sep
set_option linter.unusedSimpArgs false
set_option linter.unusedVariables false
open Go.RowKit
/-- n marks, those of m's digits set. -/
def marks (n m : Nat) : Array Bool := ((List.range n).map (Nat.testBit m)).toArray
section
variable {P : Program} {ops : Array Oper} {Q : Exit → Act → World → Prop} {loud : List Nat} {conds : Conds}
theorem wpL_q (i : Nat) (v : Value) {oi : Oper} {fuel : Nat} {listed : Array Bool} {a : Act} {w : World} {r_ : List Oper} (hi : ops.toList.drop i = oi :: r_)
    (hy : YieldsIf P ops (fun _ => True) oi v a) (l : Array Bool) (h : wpL P ops Q loud conds fuel l (a.put oi.dst v) w)
    (hs : Region.noSelect ops = true := by kernel_rfl) (hf : Region.free .any ops listed i = true := by kernel_rfl) (hr : (Region.ready .any ops listed).contains i = true := by kernel_rfl) (hq : loud.contains i = false := by kernel_rfl)
    (hl : listed.setIfInBounds i true = l := by kernel_rfl) (hQ : ∀ c a w, Q (.panic c) (a.put oi.dst v) w → Q (.panic c) a w := by exact fun _ _ _ h => h) : wpL P ops Q loud conds (fuel + 1) listed a w :=
  wpL_take i hi hs hf hr hq hQ (.inl fun _ => trivial) hy hl h
theorem wpL_m (i : Nat) (v : Value) {oi : Oper} {C : World → Prop} {fuel : Nat} {listed : Array Bool} {a : Act} {w : World} {r_ : List Oper} (hi : ops.toList.drop i = oi :: r_) (hC : (i, C) ∈ (show List (Nat × (World → Prop)) from conds))
    (hy : YieldsIf P ops C oi v a) (l : Array Bool) (h : wpL P ops Q loud conds fuel l (a.put oi.dst v) w)
    (hs : Region.noSelect ops = true := by kernel_rfl) (hf : Region.free .any ops listed i = true := by kernel_rfl) (hr : (Region.ready .any ops listed).contains i = true := by kernel_rfl) (hq : loud.contains i = false := by kernel_rfl)
    (hl : listed.setIfInBounds i true = l := by kernel_rfl) (hQ : ∀ c a w, Q (.panic c) (a.put oi.dst v) w → Q (.panic c) a w := by exact fun _ _ _ h => h) : wpL P ops Q loud conds (fuel + 1) listed a w :=
  wpL_take i hi hs hf hr hq hQ (.inr hC) hy hl h
theorem wpL_b (i : Nat) (b : Bool) {oi : Oper} {fuel : Nat} {listed : Array Bool} {a : Act} {w : World} {r_ : List Oper} (hi : ops.toList.drop i = oi :: r_)
    (hy : YieldsIf P ops (fun _ => True) oi (.bool b) a) (l : Array Bool) (h : ∀ bb : Bool, b = bb → wpL P ops Q loud conds fuel l (a.put oi.dst (.bool bb)) w)
    (hs : Region.noSelect ops = true := by kernel_rfl) (hf : Region.free .any ops listed i = true := by kernel_rfl) (hr : (Region.ready .any ops listed).contains i = true := by kernel_rfl) (hq : loud.contains i = false := by kernel_rfl)
    (hl : listed.setIfInBounds i true = l := by kernel_rfl) (hQ : ∀ c a w, Q (.panic c) (a.put oi.dst (.bool b)) w → Q (.panic c) a w := by exact fun _ _ _ h => h) : wpL P ops Q loud conds (fuel + 1) listed a w :=
  wpL_take i hi hs hf hr hq hQ (.inl fun _ => trivial) hy hl (h b rfl)
theorem wpL_bm (i : Nat) (b : Bool) {oi : Oper} {C : World → Prop} {fuel : Nat} {listed : Array Bool} {a : Act} {w : World} {r_ : List Oper} (hi : ops.toList.drop i = oi :: r_) (hC : (i, C) ∈ (show List (Nat × (World → Prop)) from conds))
    (hy : YieldsIf P ops C oi (.bool b) a) (l : Array Bool) (h : ∀ bb : Bool, b = bb → wpL P ops Q loud conds fuel l (a.put oi.dst (.bool bb)) w)
    (hs : Region.noSelect ops = true := by kernel_rfl) (hf : Region.free .any ops listed i = true := by kernel_rfl) (hr : (Region.ready .any ops listed).contains i = true := by kernel_rfl) (hq : loud.contains i = false := by kernel_rfl)
    (hl : listed.setIfInBounds i true = l := by kernel_rfl) (hQ : ∀ c a w, Q (.panic c) (a.put oi.dst (.bool b)) w → Q (.panic c) a w := by exact fun _ _ _ h => h) : wpL P ops Q loud conds (fuel + 1) listed a w :=
  wpL_take i hi hs hf hr hq hQ (.inr hC) hy hl (h b rfl)
theorem wpL_s (i : Nat) {oi : Oper} {fuel : Nat} {listed : Array Bool} {a : Act} {w : World} {r_ : List Oper} (hi : ops.toList.drop i = oi :: r_)
    (hwant : Region.wanted oi (yielded ops a.tmps) = false) (l : Array Bool) (h : wpL P ops Q loud conds fuel l (a.put oi.dst undef) w)
    (hr : Region.ready .any ops listed = [i] := by kernel_rfl) (hl : listed.setIfInBounds i true = l := by kernel_rfl) : wpL P ops Q loud conds (fuel + 1) listed a w :=
  wpL_skip i hi hr hwant hl h
theorem wpL_o (i : Nat) {oi : Oper} {fuel : Nat} {listed : Array Bool} {a : Act} {w : World} {r_ : List Oper} (hi : ops.toList.drop i = oi :: r_)
    (hwant : Region.wanted oi (yielded ops a.tmps) = true) (l : Array Bool)
    (h : oi.wp P a w (fun a' w' => SL ops loud conds l w' ∧ wpL P ops Q loud conds fuel l a' w') Q)
    (hr : Region.ready .any ops listed = [i] := by kernel_rfl) (hl : listed.setIfInBounds i true = l := by kernel_rfl) : wpL P ops Q loud conds (fuel + 1) listed a w :=
  wpL_one i hi hr hwant hl h

/-- What a piece of code must leave, whichever way it went. -/
def Normal (F : Act → World → Prop) : Exit → Act → World → Prop
  | .normal, a, w => F a w
  | _, _, _ => False
theorem wp_cut {c : Code} {a : Act} {w : World} (F : Act → World → Prop) (h1 : c.wp P (Normal F) a w) (h2 : ∀ a' w', F a' w' → Q .normal a' w') : c.wp P Q a w :=
  Code.wp_mono (fun e a w h => by cases e <;> first | exact h2 _ _ h | exact h.elim) h1
end
end Go.Sep
/-
  Worlds that differ in what was drawn alone; 'xs[:k]'.
-/
namespace Go.Sep
set_option linter.unusedSimpArgs false
set_option linter.unusedVariables false
open Go.RowKit

/-- 'SL.drop' with the load's number said: the kernel then reckons over a closed term. -/
theorem SL.dropI {ops : Array Oper} {loud : List Nat} {conds : Conds} (j i : Nat) {C : World → Prop} {listed : Array Bool} {w : World} (h : (loud.contains j && (desc ops i).getD j false && listed.getD j true) = true) (hr : SL ops loud conds listed w) : SL ops loud (List.cons (i, C) conds) listed w :=
  SL.drop j h hr
/-- As the world was, but for what was drawn. -/
structure Drew (w w' : World) : Prop where
  heap : w'.heap = w.heap
  os : w'.os = w.os
  tape : w'.tape = w.tape
  output : w'.output = w.output
theorem Drew.refl (w : World) : Drew w w := ⟨rfl, rfl, rfl, rfl⟩
theorem Drew.drew {w w' : World} (h : Drew w w') : Drew w w'.drew := ⟨h.heap, h.os, h.tape, h.output⟩
theorem Drew.trans {w w' w2 : World} (h : Drew w w') (h2 : Drew w' w2) : Drew w w2 := ⟨h2.heap.trans h.heap, h2.os.trans h.os, h2.tape.trans h.tape, h2.output.trans h.output⟩
theorem Drew.cell {w w' : World} (h : Drew w w') (a : Addr) : w'.cell? a = w.cell? a := by
  unfold World.cell?; rw [h.heap]
theorem Holds.drewTo {e w w' : World} {L : List HProp} (hw : Holds e w L) (h : Drew w w') : Holds e w' L := hw.env h.heap h.os h.tape h.output
section
variable {P : Program} {ops : Array Oper} {Q : Exit → Act → World → Prop} {K : Act → World → Prop} {a : Act} {e w : World} {rest : List Oper} {o : Oper} {L : List HProp}
/-- 'xs[:k]'. -/
theorem wp_sliceTo {t E : TypeId} {z : Value} {sz kb : Nat} {x hi : Operand} [st : SlT P t E] [ti : TI P E z sz kb] {n k cap : Nat} {ao : Option Addr}
    (ho : o.op = .slice t x none (some hi) none) (hx : a.eval x = .slice ao n cap) (hh : a.eval hi = .int .i64 (k : Int)) (hk : k ≤ cap)
    (h : K (a.put o.dst (.slice ao k cap)) w) : o.wp P a w K Q := by
  have hel : P.elem t = E := by simp [Program.elem, st.out]
  have run : (Instr.sliceAt t (.slice ao n cap) none (some (.int .i64 (k : Int))) none).run P w = .ok (.slice ao k cap) w := by
    rw [run_sliceAt_slice (P := P) w t _ _ _ _ (by rw [hel]; exact st.out), run_slice_h (P := P) w t ao n cap (by rw [hel]; exact st.out) .i64 k (by omega) (by omega), hel, ti.sizeOf_run]
    simp only [Result.andThen_ok, Int.toNat_natCast]
    congr 1
    unfold sliced
    cases ao with
    | none => simp
    | some ad =>
      by_cases hc : cap = 0
      · subst hc; obtain rfl : k = 0 := by omega
        simp
      · have h0 : ad.add 0 = ad := by unfold Addr.add; split <;> simp_all
        simp [hc, h0]
  unfold Oper.wp execOp
  simp only [ho, hx, hh, Option.map_some, Option.map_none, Sem.run_bind, Sem.run_pure, run, Result.andThen_ok]
  exact h
end
end Go.Sep
