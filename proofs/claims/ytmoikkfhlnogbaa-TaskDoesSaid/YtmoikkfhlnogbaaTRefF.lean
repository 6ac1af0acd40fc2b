/-
  The document's own table: Get; a task told in the document's own kind.
-/
import Derived.Test.YtmoikkfhlnogbaaTRefE
import Derived.Test.YtmoikkfhlnogbaaTEqR
import Derived.Test.YtmoikkfhlnogbaaAwake
import Derived.Test.YtmoikkfhlnogbaaActs
namespace Go.Proofs.Ytmoikkfhlnogbaa
set_option linter.unusedSimpArgs false
set_option linter.unusedVariables false
open Go.RowKit Go.Sep Go.TaskM

set_option maxHeartbeats 4000000 in
theorem rGet (p len cap : Nat) (a : Option Addr) (T : Table) (n : Int) (hlen : Hid (T.l.length = len)) (e w : World) (X : HProp) (hw : Holds e w (rL X p len cap a T)) :
    Calls Try.prog 23 #[.pointer (some ⟨p, 0, none⟩), .int .i64 n] w fun en w' =>
      en = .returned (.tuple #[.agg (encT (T.getD n)).toArray, .bool (T.get n).isSome]) ∧ Holds e w' (rL X p len cap a T) := by
  unfold rL at hw
  (try replace hc0 := Sep.Holds.cells hw (i := 0) rfl); (try replace hc1 := Sep.Holds.cells hw (i := 1) rfl); (try replace hc2 := Sep.Holds.cells hw (i := 2) rfl); (try replace hc3 := Sep.Holds.cells hw (i := 3) rfl); (try replace hc4 := Sep.Holds.cells hw (i := 4) rfl); (try replace hc5 := Sep.Holds.cells hw (i := 5) rfl); (try replace hc6 := Sep.Holds.cells hw (i := 6) rfl)
  cases hget : T.get n with
  | none =>
    have hgd : T.getD n = noTask := by simp [Table.getD, hget]
    rw [hgd]
    have ho : n < 0 ∨ (¬ n < 0 ∧ (len : Int) ≤ n) := by
      unfold Table.get at hget
      by_cases h0 : 0 ≤ n
      · rw [if_pos h0] at hget
        have := List.getElem?_eq_none_iff.1 hget
        rw [hlen.out] at this
        omega
      · omega
    clear hget hgd
    rcases ho with ho | ⟨ho, ho2⟩
    all_goals
      refine Sep.calls_post ?_
      intro Post_ hPost_
      have HP := Sep.hid hPost_
      clear hPost_
      go_enter Try.func23, Try.ntmps23
      go_wp2_with (first | (refine wpList_on rfl (wp_alloc rfl hw ?_); intro b_ w_ hw_; clear hw; have hw := hw_; clear hw_; (try simp only [List.map_cons, List.map_nil, List.getD_cons_zero, List.getD_cons_succ, List.getD_nil, List.set_cons_zero, List.set_cons_succ, List.cons_append, List.nil_append, Act.eval, Array.getD_eq_getD_getElem?, List.getElem?_toArray, List.getElem?_cons_succ, List.getElem?_cons_zero, Option.getD_some, Value.cells] at hw); (try simp (disch := first | (simp; done) | (simp; omega)) only [Sep.mid_set, Sep.mid_set2, Sep.mid_set0, Sep.mid_splice, Sep.mid_splice0, List.set_cons_zero, List.set_cons_succ] at hw); (try simp only [Sep.splice, List.take_succ_cons, List.take_zero, List.drop_succ_cons, List.drop_zero, List.length_cons, List.length_nil, Nat.reduceAdd, List.cons_append, List.nil_append] at hw); (try replace hc0 := Sep.Holds.cells hw (i := 0) rfl); (try replace hc1 := Sep.Holds.cells hw (i := 1) rfl); (try replace hc2 := Sep.Holds.cells hw (i := 2) rfl); (try replace hc3 := Sep.Holds.cells hw (i := 3) rfl); (try replace hc4 := Sep.Holds.cells hw (i := 4) rfl); (try replace hc5 := Sep.Holds.cells hw (i := 5) rfl); (try replace hc6 := Sep.Holds.cells hw (i := 6) rfl)) | (refine wpList_on rfl (wp_storeAll (vs := encT noTask) rfl rfl (by rfl) hw (i := 3) rfl rfl rfl (encT_one _) ?_); intro w_ hw_; clear hw; have hw := hw_; clear hw_; (try simp only [List.map_cons, List.map_nil, List.getD_cons_zero, List.getD_cons_succ, List.getD_nil, List.set_cons_zero, List.set_cons_succ, List.cons_append, List.nil_append, Act.eval, Array.getD_eq_getD_getElem?, List.getElem?_toArray, List.getElem?_cons_succ, List.getElem?_cons_zero, Option.getD_some, Value.cells] at hw); (try simp (disch := first | (simp; done) | (simp; omega)) only [Sep.mid_set, Sep.mid_set2, Sep.mid_set0, Sep.mid_splice, Sep.mid_splice0, List.set_cons_zero, List.set_cons_succ] at hw); (try simp only [Sep.splice, List.take_succ_cons, List.take_zero, List.drop_succ_cons, List.drop_zero, List.length_cons, List.length_nil, Nat.reduceAdd, List.cons_append, List.nil_append] at hw); (try replace hc0 := Sep.Holds.cells hw (i := 0) rfl); (try replace hc1 := Sep.Holds.cells hw (i := 1) rfl); (try replace hc2 := Sep.Holds.cells hw (i := 2) rfl); (try replace hc3 := Sep.Holds.cells hw (i := 3) rfl); (try replace hc4 := Sep.Holds.cells hw (i := 4) rfl); (try replace hc5 := Sep.Holds.cells hw (i := 5) rfl); (try replace hc6 := Sep.Holds.cells hw (i := 6) rfl)))
      refine bodyPost_ret (v := .tuple #[.agg (encT noTask).toArray, .bool false]) (res_cell_tmp (ty := 57) rfl rfl rfl hw (i := 3) rfl rfl) rfl (HP.out _ _ ⟨rfl, hw.sel [0, 1, 2] (by decide)⟩)
  | some t =>
    have hgd : T.getD n = t := by simp [Table.getD, hget]
    rw [hgd]
    obtain ⟨k, rfl, ht⟩ : ∃ k : Nat, n = (k : Int) ∧ T.l[k]? = some t := by
      unfold Table.get at hget
      by_cases h0 : 0 ≤ n
      · rw [if_pos h0] at hget; exact ⟨n.toNat, by omega, hget⟩
      · rw [if_neg h0] at hget; cases hget
    obtain ⟨b, off, rfl, _⟩ := task_at (i := 2) hw rfl hlen.out ht
    have hk : k < len := by have := (List.getElem?_eq_some_iff.1 ht).1; rw [hlen.out] at this; exact this
    have Hrd : Hid (∀ (q : Nat) (v : Value), (encT t)[q]? = some v → (T.l.flatMap encT)[k * 17 + q]? = some v) := Sep.hid (fun q v hq => by
      rw [flat_get (f := encT) encT_length ht (by have := (List.getElem?_eq_some_iff.1 hq).1; rw [encT_length] at this; exact this)]; exact hq)
    clear hget hgd ht
    refine Sep.calls_post ?_
    intro Post_ hPost_
    have HP := Sep.hid hPost_
    clear hPost_
    go_enter Try.func23, Try.ntmps23
    go_wp2_with (first | (refine wpList_on rfl (wp_loadSlN (vs := encT t) (j := k * 17) (i := 2) rfl rfl hw rfl rfl Hrd.out ?_)) | (refine wpList_on rfl (wp_alloc rfl hw ?_); intro b_ w_ hw_; clear hw; have hw := hw_; clear hw_; (try simp only [List.map_cons, List.map_nil, List.getD_cons_zero, List.getD_cons_succ, List.getD_nil, List.set_cons_zero, List.set_cons_succ, List.cons_append, List.nil_append, Act.eval, Array.getD_eq_getD_getElem?, List.getElem?_toArray, List.getElem?_cons_succ, List.getElem?_cons_zero, Option.getD_some, Value.cells] at hw); (try simp (disch := first | (simp; done) | (simp; omega)) only [Sep.mid_set, Sep.mid_set2, Sep.mid_set0, Sep.mid_splice, Sep.mid_splice0, List.set_cons_zero, List.set_cons_succ] at hw); (try simp only [Sep.splice, List.take_succ_cons, List.take_zero, List.drop_succ_cons, List.drop_zero, List.length_cons, List.length_nil, Nat.reduceAdd, List.cons_append, List.nil_append] at hw); (try replace hc0 := Sep.Holds.cells hw (i := 0) rfl); (try replace hc1 := Sep.Holds.cells hw (i := 1) rfl); (try replace hc2 := Sep.Holds.cells hw (i := 2) rfl); (try replace hc3 := Sep.Holds.cells hw (i := 3) rfl); (try replace hc4 := Sep.Holds.cells hw (i := 4) rfl); (try replace hc5 := Sep.Holds.cells hw (i := 5) rfl); (try replace hc6 := Sep.Holds.cells hw (i := 6) rfl)) | (refine wpList_on rfl (wp_storeAll (vs := encT t) rfl rfl (by rfl) hw (i := 3) rfl rfl rfl (encT_one _) ?_); intro w_ hw_; clear hw; have hw := hw_; clear hw_; (try simp only [List.map_cons, List.map_nil, List.getD_cons_zero, List.getD_cons_succ, List.getD_nil, List.set_cons_zero, List.set_cons_succ, List.cons_append, List.nil_append, Act.eval, Array.getD_eq_getD_getElem?, List.getElem?_toArray, List.getElem?_cons_succ, List.getElem?_cons_zero, Option.getD_some, Value.cells] at hw); (try simp (disch := first | (simp; done) | (simp; omega)) only [Sep.mid_set, Sep.mid_set2, Sep.mid_set0, Sep.mid_splice, Sep.mid_splice0, List.set_cons_zero, List.set_cons_succ] at hw); (try simp only [Sep.splice, List.take_succ_cons, List.take_zero, List.drop_succ_cons, List.drop_zero, List.length_cons, List.length_nil, Nat.reduceAdd, List.cons_append, List.nil_append] at hw); (try replace hc0 := Sep.Holds.cells hw (i := 0) rfl); (try replace hc1 := Sep.Holds.cells hw (i := 1) rfl); (try replace hc2 := Sep.Holds.cells hw (i := 2) rfl); (try replace hc3 := Sep.Holds.cells hw (i := 3) rfl); (try replace hc4 := Sep.Holds.cells hw (i := 4) rfl); (try replace hc5 := Sep.Holds.cells hw (i := 5) rfl); (try replace hc6 := Sep.Holds.cells hw (i := 6) rfl)))
    refine bodyPost_ret (v := .tuple #[.agg (encT t).toArray, .bool true]) (res_cell_tmp (ty := 57) rfl rfl rfl hw (i := 3) rfl rfl) rfl (HP.out _ _ ⟨rfl, hw.sel [0, 1, 2] (by decide)⟩)
end Go.Proofs.Ytmoikkfhlnogbaa
