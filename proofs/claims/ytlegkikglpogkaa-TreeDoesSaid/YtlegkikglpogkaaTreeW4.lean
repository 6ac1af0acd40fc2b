/-
  The program's tree: Root, Add; Reach.
-/
import Derived.Test.YtlegkikglpogkaaTreeW3
namespace Go.Proofs.Ytlegkikglpogkaa
set_option linter.unusedSimpArgs false
set_option linter.unusedVariables false
open Go.RowKit Go.Sep Go.TreeM

set_option maxHeartbeats 800000 in
theorem tRoot (p : Nat) (T : Tree) (hT : T.Ok) (e w : World) (X : HProp) (hw : Holds e w [X, IsTree p T]) :
    Calls Try.prog 27 #[.pointer (some ⟨p, 0, none⟩)] w fun en w' => en = .returned (.tuple #[.int .i64 (T.put ⟨-1, false⟩).1.1, .int .i64 (T.put ⟨-1, false⟩).1.2]) ∧ Holds e w' [X, IsTree p (T.put ⟨-1, false⟩).2] := by
  refine Sep.calls_post ?_
  intro Post_ hPost_
  have HP := Sep.hid hPost_
  clear hPost_
  go_enter Try.func27, Try.ntmps27
  go_wp2_with fail
  refine (tPut p T hT ⟨-1, false⟩ (.inl rfl) e _ _ hw).mono ?_
  rintro _ w_ ⟨rfl, hw_⟩
  go_wp2_with fail
  exact HP.out _ _ ⟨rfl, hw_⟩
set_option maxHeartbeats 800000 in
theorem tAdd (p : Nat) (T : Tree) (hT : T.Ok) (over : Int) (cut : Bool) (e w : World) (X : HProp) (hw : Holds e w [X, IsTree p T]) :
    Calls Try.prog 28 #[.pointer (some ⟨p, 0, none⟩), .int .i64 over, .bool cut] w fun en w' => en = .returned (.tuple #[.int .i64 (T.add over cut).1.1, .int .i64 (T.add over cut).1.2]) ∧ Holds e w' [X, IsTree p (T.add over cut).2] := by
  have Hw0 := Sep.hid hw
  obtain ⟨⟨a, cap, vs⟩, hw⟩ := exL.open_ hw
  have hw := hw.open_ 1 rfl
  (try simp only [List.map_cons, List.map_nil, List.getD_cons_zero, List.getD_cons_succ, List.getD_nil, List.set_cons_zero, List.set_cons_succ, List.cons_append, List.nil_append, Act.eval, Array.getD_eq_getD_getElem?, List.getElem?_toArray, List.getElem?_cons_succ, List.getElem?_cons_zero, Option.getD_some, Value.cells] at hw); (try simp (disch := first | (simp; done) | (simp; omega)) only [Sep.mid_set, Sep.mid_set2, Sep.mid_set0, Sep.mid_splice, Sep.mid_splice0, List.set_cons_zero, List.set_cons_succ] at hw); (try simp only [Sep.splice, List.take_succ_cons, List.take_zero, List.drop_succ_cons, List.drop_zero, List.length_cons, List.length_nil, Nat.reduceAdd, List.cons_append, List.nil_append] at hw)
  (try replace hc0 := Sep.Holds.cells hw (i := 0) rfl); (try replace hc1 := Sep.Holds.cells hw (i := 1) rfl); (try replace hc2 := Sep.Holds.cells hw (i := 2) rfl); (try replace hc3 := Sep.Holds.cells hw (i := 3) rfl); (try replace hc4 := Sep.Holds.cells hw (i := 4) rfl); (try replace hc5 := Sep.Holds.cells hw (i := 5) rfl); (try replace hc6 := Sep.Holds.cells hw (i := 6) rfl)
  cases hb : there T.l over with
  | false =>
    have h1 : T.add over cut = ((-1, 3), T) := by unfold Tree.add; rw [hb]; rfl
    rw [h1]
    have Hb := Sep.hid hb; clear hb h1
    refine Sep.calls_post ?_
    intro Post_ hPost_
    have HP := Sep.hid hPost_
    clear hPost_
    go_enter Try.func28, Try.ntmps28
    go_wp2_with fail
    refine (tThere p T.l.length cap a T.l over (Sep.hid rfl) _ (hc1 0)).mono ?_
    rintro _ w_ ⟨rfl, rfl⟩
    rw [Hb.out]
    go_wp2_with fail
    exact HP.out _ _ ⟨rfl, Hw0.out⟩
  | true =>
    have h1 : T.add over cut = T.put ⟨over, cut⟩ := by unfold Tree.add; rw [hb]; rfl
    rw [h1]
    have Hb := Sep.hid hb; clear hb h1
    refine Sep.calls_post ?_
    intro Post_ hPost_
    have HP := Sep.hid hPost_
    clear hPost_
    go_enter Try.func28, Try.ntmps28
    go_wp2_with fail
    refine (tThere p T.l.length cap a T.l over (Sep.hid rfl) _ (hc1 0)).mono ?_
    rintro _ w_ ⟨rfl, rfl⟩
    rw [Hb.out]
    go_wp2_with fail
    refine (tPut p T hT ⟨over, cut⟩ (.inr Hb.out) e _ _ Hw0.out).mono ?_
    rintro _ w_ ⟨rfl, hw_⟩
    go_wp2_with fail
    exact HP.out _ _ ⟨rfl, hw_⟩
theorem nodup_le {n : Nat} {l : List Nat} (h : l.Nodup) (hl : ∀ x ∈ l, x < n) : l.length ≤ n := by
  induction n generalizing l with
  | zero =>
    cases l with
    | nil => simp
    | cons y l => exact absurd (hl y (by simp)) (by omega)
  | succ n ih =>
    by_cases hm : n ∈ l
    · have h1 := ih (l := l.erase n) (h.erase n) (fun x hx => by
        have := (h.mem_erase_iff).1 hx
        have := hl x this.2
        omega)
      rw [List.length_erase_of_mem hm] at h1
      omega
    · have := ih h (fun x hx => by
        have := hl x hx
        have : x ≠ n := fun e => hm (e ▸ hx)
        omega)
      omega

set_option maxHeartbeats 800000 in
theorem nodup_len {n : Nat} {l : List Int} (hnd : l.Nodup) (h : ∀ x ∈ l, 0 ≤ x ∧ x < n) : l.length ≤ n := by
  have h1 : (l.map Int.toNat).Nodup := by
    unfold List.Nodup
    rw [List.pairwise_map]
    refine hnd.imp_of_mem ?_
    intro a b ha hb hne e
    have h1 := h a ha
    have h2 := h b hb
    exact hne (by omega)
  have h2 := nodup_le (n := n) h1 (fun x hx => by
    obtain ⟨y, hy, rfl⟩ := List.mem_map.1 hx
    have := h y hy; omega)
  simpa using h2
theorem reach_len {l : List Nd} (hok : TreeM.Ok l) {n : Int} (hn : there l n = true) : (reach l n).length ≤ l.length :=
  nodup_len (reach_nodup hok _ n rfl hn) (fun x hx => there_iff.1 (reach_there hok hn hx))
theorem chain_len {l : List Nd} (hok : TreeM.Ok l) (n : Int) : (chain l n).length ≤ l.length :=
  nodup_len (chain_nodup hok _ n rfl) (fun x hx => there_iff.1 (chain_there hok hx))
theorem path_len {l : List Nd} (hok : TreeM.Ok l) (n : Int) : (path l n).length ≤ l.length :=
  nodup_len (path_nodup hok _ n rfl).2 (fun x hx => there_iff.1 ((path_nodup hok _ n rfl).1 x hx).1)
/-- What the first k of those below a node reach. -/
def kidsReach (l : List Nd) (n : Int) (k : Nat) : List Int := ((kidsRow l n).take k).flatMap fun j => if cutOf l j then [] else reach l j
theorem kidsReach_zero (l : List Nd) (n : Int) : kidsReach l n 0 = [] := rfl
theorem kidsReach_succ {l : List Nd} {n j : Int} {k : Nat} (h : (kidsRow l n)[k]? = some j) : kidsReach l n (k + 1) = kidsReach l n k ++ (if cutOf l j then [] else reach l j) := by
  unfold kidsReach
  rw [List.take_add_one, h, List.flatMap_append]
  simp
theorem kidsReach_end {l : List Nd} (hok : TreeM.Ok l) {n : Int} {k : Nat} (hn : there l n = true) (h : (kidsRow l n).length ≤ k) : n :: kidsReach l n k = reach l n := by
  rw [reach_yes hok hn]
  unfold kidsReach
  rw [List.take_of_length_le h]
theorem kidsReach_le (l : List Nd) (n : Int) (k : Nat) : (kidsReach l n k).length ≤ (kidsReach l n (kidsRow l n).length).length := by
  unfold kidsReach
  rw [List.take_length]
  conv => rhs; rw [← List.take_append_drop k (kidsRow l n)]
  rw [List.flatMap_append, List.length_append]
  omega
end Go.Proofs.Ytlegkikglpogkaa
