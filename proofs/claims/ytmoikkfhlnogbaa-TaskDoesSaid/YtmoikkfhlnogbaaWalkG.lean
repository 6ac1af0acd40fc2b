/-
  The walk of 'do'.
-/
import Derived.Test.YtmoikkfhlnogbaaWalkF
namespace Go.Proofs.Ytmoikkfhlnogbaa
set_option linter.unusedSimpArgs false
set_option linter.unusedVariables false
open Go.RowKit Go.Sep Go.TaskM

def encA (a : Deed) : List Value := [.int .i64 a.do_, .int .i64 a.t, .int .i64 a.a, .int .i64 a.b, .int .i64 a.x, .int .i64 a.p.kind, .int .i64 a.p.obj, .int .i64 a.p.ctx, .int .i64 a.p.reg, .int .i64 a.p.lock, .int .i64 a.p.n]

theorem tBegin_calls (p : Nat) (T : Table) (hT : T.ok) (pr tm : Int) (e w : World) (R : HProp) (hw : Holds e w [R, IsTable p T]) :
    Calls Try.prog 27 #[.pointer (some ⟨p, 0, none⟩), .int .i64 pr, .int .i64 tm] w fun en w' =>
      en = .returned (.tuple #[.int .i64 T.beginN, .int .i64 T.beginE]) ∧ Holds e w' [R, IsTable p (T.begin_ pr tm)] := by
  cases hf : T.full with
  | true =>
    have e1 : T.beginN = -1 := by simp [Table.beginN, hf]
    have e2 : T.beginE = 2 := by simp [Table.beginE, hf]
    have e3 : T.begin_ pr tm = T := by simp [Table.begin_, hf]
    rw [e1, e2, e3]
    exact tBegin_full p T pr tm hf e w R hw
  | false =>
    have e1 : T.beginN = T.l.length := by simp [Table.beginN, hf]
    have e2 : T.beginE = 0 := by simp [Table.beginE, hf]
    have e3 : T.begin_ pr tm = { T with l := T.l ++ [newTask pr tm] } := by simp [Table.begin_, hf, newTask]
    rw [e1, e2, e3]
    exact tBegin_ok p T pr tm (by have := hT.len; omega) hf e w R hw

set_option maxHeartbeats 1000000 in
theorem do_calls (p : Nat) (T : Table) (hT : T.ok) (a : Deed) (e w : World) (R : HProp) (hw : Holds e w [R, IsTable p T]) :
    Calls Try.prog 9 #[.pointer (some ⟨p, 0, none⟩), .agg (encA a).toArray] w fun en w' =>
      en = .returned (.tuple #[.int .i64 (actN T a), .bool (actB T a), .int .i64 (actE T a)]) ∧ Holds e w' [R, IsTable p (actT T a)] := by
  have HT := Sep.hid hT; clear hT
  obtain ⟨dd, dt, da, db, dx, dp⟩ := a
  simp only [encA]
  refine Sep.calls_post ?_
  intro Post_ hPost_
  have HP := Sep.hid hPost_
  clear hPost_
  go_enter Try.func9, Try.ntmps9
  go_wp2_with (first
    | (refine wpList_on rfl (wp_box rfl hw ?_); intro b_ w_ hw_; clear hw; have hw := hw_; clear hw_; (try simp only [List.map_cons, List.map_nil, List.getD_cons_zero, List.getD_cons_succ, List.getD_nil, List.set_cons_zero, List.set_cons_succ, List.cons_append, List.nil_append, Act.eval, Array.getD_eq_getD_getElem?, List.getElem?_toArray, List.getElem?_cons_succ, List.getElem?_cons_zero, Option.getD_some, Value.cells] at hw); (try simp (disch := first | (simp; done) | (simp; omega)) only [Sep.mid_set, Sep.mid_set2, Sep.mid_set0, Sep.mid_splice, Sep.mid_splice0, List.set_cons_zero, List.set_cons_succ] at hw); (try simp only [Sep.splice, List.take_succ_cons, List.take_zero, List.drop_succ_cons, List.drop_zero, List.length_cons, List.length_nil, Nat.reduceAdd, List.cons_append, List.nil_append] at hw); (try replace hc0 := Sep.Holds.cells hw (i := 0) rfl); (try replace hc1 := Sep.Holds.cells hw (i := 1) rfl); (try replace hc2 := Sep.Holds.cells hw (i := 2) rfl); (try replace hc3 := Sep.Holds.cells hw (i := 3) rfl); (try replace hc4 := Sep.Holds.cells hw (i := 4) rfl); (try replace hc5 := Sep.Holds.cells hw (i := 5) rfl); (try replace hc6 := Sep.Holds.cells hw (i := 6) rfl))
    | (go_at_call 27; refine (tBegin_calls p T HT.out da db e _ (sepL [R, emp, pt _ _ _]) (hw.focus1 1 rfl)).mono ?_; rintro _ w_ ⟨rfl, hw_⟩; clear hw; have hw := Holds.unfocus1 (L := [R, emp, pt _ _ _]) 1 (by simp) hw_; clear hw_; (try simp only [List.map_cons, List.map_nil, List.getD_cons_zero, List.getD_cons_succ, List.getD_nil, List.set_cons_zero, List.set_cons_succ, List.cons_append, List.nil_append, Act.eval, Array.getD_eq_getD_getElem?, List.getElem?_toArray, List.getElem?_cons_succ, List.getElem?_cons_zero, Option.getD_some, Value.cells] at hw); (try simp (disch := first | (simp; done) | (simp; omega)) only [Sep.mid_set, Sep.mid_set2, Sep.mid_set0, Sep.mid_splice, Sep.mid_splice0, List.set_cons_zero, List.set_cons_succ] at hw); (try simp only [Sep.splice, List.take_succ_cons, List.take_zero, List.drop_succ_cons, List.drop_zero, List.length_cons, List.length_nil, Nat.reduceAdd, List.cons_append, List.nil_append] at hw))
    | (go_at_call 28; refine (tGo_calls p T dt da e _ (sepL [R, emp, pt _ _ _]) (hw.focus1 1 rfl)).mono ?_; rintro _ w_ ⟨rfl, hw_⟩; clear hw; have hw := Holds.unfocus1 (L := [R, emp, pt _ _ _]) 1 (by simp) hw_; clear hw_; (try simp only [List.map_cons, List.map_nil, List.getD_cons_zero, List.getD_cons_succ, List.getD_nil, List.set_cons_zero, List.set_cons_succ, List.cons_append, List.nil_append, Act.eval, Array.getD_eq_getD_getElem?, List.getElem?_toArray, List.getElem?_cons_succ, List.getElem?_cons_zero, Option.getD_some, Value.cells] at hw); (try simp (disch := first | (simp; done) | (simp; omega)) only [Sep.mid_set, Sep.mid_set2, Sep.mid_set0, Sep.mid_splice, Sep.mid_splice0, List.set_cons_zero, List.set_cons_succ] at hw); (try simp only [Sep.splice, List.take_succ_cons, List.take_zero, List.drop_succ_cons, List.drop_zero, List.length_cons, List.length_nil, Nat.reduceAdd, List.cons_append, List.nil_append] at hw))
    | (go_at_call 29; refine (tSet_calls p T dt da dx e _ (sepL [R, emp, pt _ _ _]) (hw.focus1 1 rfl)).mono ?_; rintro _ w_ ⟨rfl, hw_⟩; clear hw; have hw := Holds.unfocus1 (L := [R, emp, pt _ _ _]) 1 (by simp) hw_; clear hw_; (try simp only [List.map_cons, List.map_nil, List.getD_cons_zero, List.getD_cons_succ, List.getD_nil, List.set_cons_zero, List.set_cons_succ, List.cons_append, List.nil_append, Act.eval, Array.getD_eq_getD_getElem?, List.getElem?_toArray, List.getElem?_cons_succ, List.getElem?_cons_zero, Option.getD_some, Value.cells] at hw); (try simp (disch := first | (simp; done) | (simp; omega)) only [Sep.mid_set, Sep.mid_set2, Sep.mid_set0, Sep.mid_splice, Sep.mid_splice0, List.set_cons_zero, List.set_cons_succ] at hw); (try simp only [Sep.splice, List.take_succ_cons, List.take_zero, List.drop_succ_cons, List.drop_zero, List.length_cons, List.length_nil, Nat.reduceAdd, List.cons_append, List.nil_append] at hw))
    | (go_at_call 30; refine (tPark_calls p T dt dp e _ (sepL [R, emp, pt _ _ _]) (hw.focus1 1 rfl)).mono ?_; rintro _ w_ ⟨rfl, hw_⟩; clear hw; have hw := Holds.unfocus1 (L := [R, emp, pt _ _ _]) 1 (by simp) hw_; clear hw_; (try simp only [List.map_cons, List.map_nil, List.getD_cons_zero, List.getD_cons_succ, List.getD_nil, List.set_cons_zero, List.set_cons_succ, List.cons_append, List.nil_append, Act.eval, Array.getD_eq_getD_getElem?, List.getElem?_toArray, List.getElem?_cons_succ, List.getElem?_cons_zero, Option.getD_some, Value.cells] at hw); (try simp (disch := first | (simp; done) | (simp; omega)) only [Sep.mid_set, Sep.mid_set2, Sep.mid_set0, Sep.mid_splice, Sep.mid_splice0, List.set_cons_zero, List.set_cons_succ] at hw); (try simp only [Sep.splice, List.take_succ_cons, List.take_zero, List.drop_succ_cons, List.drop_zero, List.length_cons, List.length_nil, Nat.reduceAdd, List.cons_append, List.nil_append] at hw))
    | (go_at_call 25; refine (tAgain_calls p T dt dp e _ (sepL [R, emp, pt _ _ _]) (hw.focus1 1 rfl)).mono ?_; rintro _ w_ ⟨rfl, hw_⟩; clear hw; have hw := Holds.unfocus1 (L := [R, emp, pt _ _ _]) 1 (by simp) hw_; clear hw_; (try simp only [List.map_cons, List.map_nil, List.getD_cons_zero, List.getD_cons_succ, List.getD_nil, List.set_cons_zero, List.set_cons_succ, List.cons_append, List.nil_append, Act.eval, Array.getD_eq_getD_getElem?, List.getElem?_toArray, List.getElem?_cons_succ, List.getElem?_cons_zero, Option.getD_some, Value.cells] at hw); (try simp (disch := first | (simp; done) | (simp; omega)) only [Sep.mid_set, Sep.mid_set2, Sep.mid_set0, Sep.mid_splice, Sep.mid_splice0, List.set_cons_zero, List.set_cons_succ] at hw); (try simp only [Sep.splice, List.take_succ_cons, List.take_zero, List.drop_succ_cons, List.drop_zero, List.length_cons, List.length_nil, Nat.reduceAdd, List.cons_append, List.nil_append] at hw))
    | (go_at_call 26; refine (tWake_calls p T dt dx e _ (sepL [R, emp, pt _ _ _]) (hw.focus1 1 rfl)).mono ?_; rintro _ w_ ⟨rfl, hw_⟩; clear hw; have hw := Holds.unfocus1 (L := [R, emp, pt _ _ _]) 1 (by simp) hw_; clear hw_; (try simp only [List.map_cons, List.map_nil, List.getD_cons_zero, List.getD_cons_succ, List.getD_nil, List.set_cons_zero, List.set_cons_succ, List.cons_append, List.nil_append, Act.eval, Array.getD_eq_getD_getElem?, List.getElem?_toArray, List.getElem?_cons_succ, List.getElem?_cons_zero, Option.getD_some, Value.cells] at hw); (try simp (disch := first | (simp; done) | (simp; omega)) only [Sep.mid_set, Sep.mid_set2, Sep.mid_set0, Sep.mid_splice, Sep.mid_splice0, List.set_cons_zero, List.set_cons_succ] at hw); (try simp only [Sep.splice, List.take_succ_cons, List.take_zero, List.drop_succ_cons, List.drop_zero, List.length_cons, List.length_nil, Nat.reduceAdd, List.cons_append, List.nil_append] at hw))
    | (go_at_call 31; refine (tEnd_calls p T dt dx e _ (sepL [R, emp, pt _ _ _]) (hw.focus1 1 rfl)).mono ?_; rintro _ w_ ⟨rfl, hw_⟩; clear hw; have hw := Holds.unfocus1 (L := [R, emp, pt _ _ _]) 1 (by simp) hw_; clear hw_; (try simp only [List.map_cons, List.map_nil, List.getD_cons_zero, List.getD_cons_succ, List.getD_nil, List.set_cons_zero, List.set_cons_succ, List.cons_append, List.nil_append, Act.eval, Array.getD_eq_getD_getElem?, List.getElem?_toArray, List.getElem?_cons_succ, List.getElem?_cons_zero, Option.getD_some, Value.cells] at hw); (try simp (disch := first | (simp; done) | (simp; omega)) only [Sep.mid_set, Sep.mid_set2, Sep.mid_set0, Sep.mid_splice, Sep.mid_splice0, List.set_cons_zero, List.set_cons_succ] at hw); (try simp only [Sep.splice, List.take_succ_cons, List.take_zero, List.drop_succ_cons, List.drop_zero, List.length_cons, List.length_nil, Nat.reduceAdd, List.cons_append, List.nil_append] at hw)))
  all_goals go_ret3
  all_goals have HW := Sep.hid (hw.sel [0, 1] (by decide))
  all_goals clear hw; (try clear hc0); (try clear hc1); (try clear hc2); (try clear hc3); (try clear hc4); (try clear hc5); (try clear hc6)
  all_goals (try simp only [beq_iff_eq, beq_eq_false_iff_ne, ne_eq, Bool.not_eq_true] at *)
  all_goals refine HP.out _ _ ⟨?_, ?_⟩
  all_goals first
    | (simp [actN, actB, actE, *]; done)
    | (have h := HW.out; simp [actT, *] at h ⊢; exact h)
end Go.Proofs.Ytmoikkfhlnogbaa
