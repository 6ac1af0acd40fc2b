/-
  The walks of what a law does with a flight: an act, and awake.
-/
import Derived.Test.YtecdkajhcglpdaaFlX
import Derived.Test.YtecdkajhcglpdaaActs
import Derived.Test.YtecdkajhcglpdaaLawArgs
namespace Go.Proofs.Ytecdkajhcglpdaa
set_option linter.unusedSimpArgs false
set_option linter.unusedVariables false
open Go.RowKit Go.Sep Go.RingM

set_option maxHeartbeats 4000000 in
theorem do_calls (p : Nat) (M : FM) (d : Deed) (e w : World) (X : HProp) (hw : Holds e w [X, IsFlight p M]) :
    Calls Try.prog 9 #[.pointer (some ⟨p, 0, none⟩), .agg (encA d).toArray] w fun en w' => ∃ v, en = .returned (.tuple #[.int .i64 (M.act d).1, .bool (M.act d).2.1, v, .int .i64 (M.act d).2.2.2.1]) ∧ Holds e w' [X, IsFlight p (M.act d).2.2.2.2, IsInts v (M.act d).2.2.1] := by
  have hA' : encA d = [.int .i64 d.f0, .int .i64 d.f1, .int .i64 d.f2] := rfl
  by_cases h0 : d.f0 = 0
  · have hb : M.act d = ((M.ask d.f1 d.f2).1, false, [], (M.ask d.f1 d.f2).2.1, (M.ask d.f1 d.f2).2.2) := by unfold FM.act; rw [if_pos h0]
    rw [hb, hA']; clear hb hA'
    refine Sep.calls_post ?_
    intro Post_ hPost_
    have HP := Sep.hid hPost_
    clear hPost_
    go_enter Try.func9, Try.ntmps9
    go_wp2_with (refine wpList_on rfl (wp_box rfl hw ?_); intro b_ w_ hw_; clear hw; have hw := hw_; clear hw_; (try simp only [List.map_cons, List.map_nil, List.getD_cons_zero, List.getD_cons_succ, List.getD_nil, List.set_cons_zero, List.set_cons_succ, List.cons_append, List.nil_append, Act.eval, Array.getD_eq_getD_getElem?, List.getElem?_toArray, List.getElem?_cons_succ, List.getElem?_cons_zero, Option.getD_some, Value.cells] at hw); (try simp (disch := first | (simp; done) | (simp; omega)) only [Sep.mid_set, Sep.mid_set2, Sep.mid_set0, Sep.mid_splice, Sep.mid_splice0, List.set_cons_zero, List.set_cons_succ] at hw); (try simp only [Sep.splice, List.take_succ_cons, List.take_zero, List.drop_succ_cons, List.drop_zero, List.length_cons, List.length_nil, Nat.reduceAdd, List.cons_append, List.nil_append] at hw); (try replace hc0 := Sep.Holds.cells hw (i := 0) rfl); (try replace hc1 := Sep.Holds.cells hw (i := 1) rfl); (try replace hc2 := Sep.Holds.cells hw (i := 2) rfl); (try replace hc3 := Sep.Holds.cells hw (i := 3) rfl); (try replace hc4 := Sep.Holds.cells hw (i := 4) rfl); (try replace hc5 := Sep.Holds.cells hw (i := 5) rfl); (try replace hc6 := Sep.Holds.cells hw (i := 6) rfl))
    refine (oDo p M d.f1 d.f2 e _ _ (hw.focus1 1 rfl)).mono ?_
    rintro en_ w_ ⟨rfl, hw_⟩
    clear hw; (try clear hc0); (try clear hc1); (try clear hc2); (try clear hc3); (try clear hc4); (try clear hc5); (try clear hc6); have hw := Holds.unfocus1 1 (by simp) hw_; clear hw_
    (try simp only [List.map_cons, List.map_nil, List.getD_cons_zero, List.getD_cons_succ, List.getD_nil, List.set_cons_zero, List.set_cons_succ, List.cons_append, List.nil_append, Act.eval, Array.getD_eq_getD_getElem?, List.getElem?_toArray, List.getElem?_cons_succ, List.getElem?_cons_zero, Option.getD_some, Value.cells] at hw); (try simp (disch := first | (simp; done) | (simp; omega)) only [Sep.mid_set, Sep.mid_set2, Sep.mid_set0, Sep.mid_splice, Sep.mid_splice0, List.set_cons_zero, List.set_cons_succ] at hw); (try simp only [Sep.splice, List.take_succ_cons, List.take_zero, List.drop_succ_cons, List.drop_zero, List.length_cons, List.length_nil, Nat.reduceAdd, List.cons_append, List.nil_append] at hw)
    go_wp2_with fail
    (try simp only [Exit.inBlock, Exit.then]); refine ret4 rfl rfl rfl rfl rfl rfl ?_
    exact HP.out _ _ ⟨_, rfl, (hw.sel [0, 1] (by decide)).addEmp (Sl.nil _ _ _)⟩
  by_cases h1 : d.f0 = 1
  · have hb : M.act d = (0, false, (M.fin d.f1).1, (M.fin d.f1).2.1, (M.fin d.f1).2.2) := by unfold FM.act; rw [if_neg h0, if_pos h1]
    clear h0
    rw [hb, hA']; clear hb hA'
    refine Sep.calls_post ?_
    intro Post_ hPost_
    have HP := Sep.hid hPost_
    clear hPost_
    go_enter Try.func9, Try.ntmps9
    go_wp2_with (refine wpList_on rfl (wp_box rfl hw ?_); intro b_ w_ hw_; clear hw; have hw := hw_; clear hw_; (try simp only [List.map_cons, List.map_nil, List.getD_cons_zero, List.getD_cons_succ, List.getD_nil, List.set_cons_zero, List.set_cons_succ, List.cons_append, List.nil_append, Act.eval, Array.getD_eq_getD_getElem?, List.getElem?_toArray, List.getElem?_cons_succ, List.getElem?_cons_zero, Option.getD_some, Value.cells] at hw); (try simp (disch := first | (simp; done) | (simp; omega)) only [Sep.mid_set, Sep.mid_set2, Sep.mid_set0, Sep.mid_splice, Sep.mid_splice0, List.set_cons_zero, List.set_cons_succ] at hw); (try simp only [Sep.splice, List.take_succ_cons, List.take_zero, List.drop_succ_cons, List.drop_zero, List.length_cons, List.length_nil, Nat.reduceAdd, List.cons_append, List.nil_append] at hw); (try replace hc0 := Sep.Holds.cells hw (i := 0) rfl); (try replace hc1 := Sep.Holds.cells hw (i := 1) rfl); (try replace hc2 := Sep.Holds.cells hw (i := 2) rfl); (try replace hc3 := Sep.Holds.cells hw (i := 3) rfl); (try replace hc4 := Sep.Holds.cells hw (i := 4) rfl); (try replace hc5 := Sep.Holds.cells hw (i := 5) rfl); (try replace hc6 := Sep.Holds.cells hw (i := 6) rfl))
    refine (oFin p M d.f1 e _ _ (hw.focus1 1 rfl)).mono ?_
    rintro en_ w_ ⟨v, rfl, hw_⟩
    clear hw; (try clear hc0); (try clear hc1); (try clear hc2); (try clear hc3); (try clear hc4); (try clear hc5); (try clear hc6); have hw := Holds.unfocus1 1 (by simp) hw_; clear hw_
    (try simp only [List.map_cons, List.map_nil, List.getD_cons_zero, List.getD_cons_succ, List.getD_nil, List.set_cons_zero, List.set_cons_succ, List.cons_append, List.nil_append, Act.eval, Array.getD_eq_getD_getElem?, List.getElem?_toArray, List.getElem?_cons_succ, List.getElem?_cons_zero, Option.getD_some, Value.cells] at hw); (try simp (disch := first | (simp; done) | (simp; omega)) only [Sep.mid_set, Sep.mid_set2, Sep.mid_set0, Sep.mid_splice, Sep.mid_splice0, List.set_cons_zero, List.set_cons_succ] at hw); (try simp only [Sep.splice, List.take_succ_cons, List.take_zero, List.drop_succ_cons, List.drop_zero, List.length_cons, List.length_nil, Nat.reduceAdd, List.cons_append, List.nil_append] at hw)
    go_wp2_with fail
    (try simp only [Exit.inBlock, Exit.then]); refine ret4 rfl rfl rfl rfl rfl rfl ?_
    exact HP.out _ _ ⟨_, rfl, hw.sel [0, 1, 3] (by decide)⟩
  by_cases h2 : d.f0 = 2
  · have hb : M.act d = (0, (M.forget d.f2).1, [], 0, (M.forget d.f2).2) := by unfold FM.act; rw [if_neg h0, if_neg h1, if_pos h2]
    clear h0 h1
    rw [hb, hA']; clear hb hA'
    refine Sep.calls_post ?_
    intro Post_ hPost_
    have HP := Sep.hid hPost_
    clear hPost_
    go_enter Try.func9, Try.ntmps9
    go_wp2_with (refine wpList_on rfl (wp_box rfl hw ?_); intro b_ w_ hw_; clear hw; have hw := hw_; clear hw_; (try simp only [List.map_cons, List.map_nil, List.getD_cons_zero, List.getD_cons_succ, List.getD_nil, List.set_cons_zero, List.set_cons_succ, List.cons_append, List.nil_append, Act.eval, Array.getD_eq_getD_getElem?, List.getElem?_toArray, List.getElem?_cons_succ, List.getElem?_cons_zero, Option.getD_some, Value.cells] at hw); (try simp (disch := first | (simp; done) | (simp; omega)) only [Sep.mid_set, Sep.mid_set2, Sep.mid_set0, Sep.mid_splice, Sep.mid_splice0, List.set_cons_zero, List.set_cons_succ] at hw); (try simp only [Sep.splice, List.take_succ_cons, List.take_zero, List.drop_succ_cons, List.drop_zero, List.length_cons, List.length_nil, Nat.reduceAdd, List.cons_append, List.nil_append] at hw); (try replace hc0 := Sep.Holds.cells hw (i := 0) rfl); (try replace hc1 := Sep.Holds.cells hw (i := 1) rfl); (try replace hc2 := Sep.Holds.cells hw (i := 2) rfl); (try replace hc3 := Sep.Holds.cells hw (i := 3) rfl); (try replace hc4 := Sep.Holds.cells hw (i := 4) rfl); (try replace hc5 := Sep.Holds.cells hw (i := 5) rfl); (try replace hc6 := Sep.Holds.cells hw (i := 6) rfl))
    refine (oForget p M d.f2 e _ _ (hw.focus1 1 rfl)).mono ?_
    rintro en_ w_ ⟨rfl, hw_⟩
    clear hw; (try clear hc0); (try clear hc1); (try clear hc2); (try clear hc3); (try clear hc4); (try clear hc5); (try clear hc6); have hw := Holds.unfocus1 1 (by simp) hw_; clear hw_
    (try simp only [List.map_cons, List.map_nil, List.getD_cons_zero, List.getD_cons_succ, List.getD_nil, List.set_cons_zero, List.set_cons_succ, List.cons_append, List.nil_append, Act.eval, Array.getD_eq_getD_getElem?, List.getElem?_toArray, List.getElem?_cons_succ, List.getElem?_cons_zero, Option.getD_some, Value.cells] at hw); (try simp (disch := first | (simp; done) | (simp; omega)) only [Sep.mid_set, Sep.mid_set2, Sep.mid_set0, Sep.mid_splice, Sep.mid_splice0, List.set_cons_zero, List.set_cons_succ] at hw); (try simp only [Sep.splice, List.take_succ_cons, List.take_zero, List.drop_succ_cons, List.drop_zero, List.length_cons, List.length_nil, Nat.reduceAdd, List.cons_append, List.nil_append] at hw)
    go_wp2_with fail
    (try simp only [Exit.inBlock, Exit.then]); refine ret4 rfl rfl rfl rfl rfl rfl ?_
    exact HP.out _ _ ⟨_, rfl, (hw.sel [0, 1] (by decide)).addEmp (Sl.nil _ _ _)⟩
  by_cases h3 : d.f0 = 3
  · have hb : M.act d = (0, (M.leave d.f1).1, [], 0, (M.leave d.f1).2) := by unfold FM.act; rw [if_neg h0, if_neg h1, if_neg h2, if_pos h3]
    clear h0 h1 h2
    rw [hb, hA']; clear hb hA'
    refine Sep.calls_post ?_
    intro Post_ hPost_
    have HP := Sep.hid hPost_
    clear hPost_
    go_enter Try.func9, Try.ntmps9
    go_wp2_with (refine wpList_on rfl (wp_box rfl hw ?_); intro b_ w_ hw_; clear hw; have hw := hw_; clear hw_; (try simp only [List.map_cons, List.map_nil, List.getD_cons_zero, List.getD_cons_succ, List.getD_nil, List.set_cons_zero, List.set_cons_succ, List.cons_append, List.nil_append, Act.eval, Array.getD_eq_getD_getElem?, List.getElem?_toArray, List.getElem?_cons_succ, List.getElem?_cons_zero, Option.getD_some, Value.cells] at hw); (try simp (disch := first | (simp; done) | (simp; omega)) only [Sep.mid_set, Sep.mid_set2, Sep.mid_set0, Sep.mid_splice, Sep.mid_splice0, List.set_cons_zero, List.set_cons_succ] at hw); (try simp only [Sep.splice, List.take_succ_cons, List.take_zero, List.drop_succ_cons, List.drop_zero, List.length_cons, List.length_nil, Nat.reduceAdd, List.cons_append, List.nil_append] at hw); (try replace hc0 := Sep.Holds.cells hw (i := 0) rfl); (try replace hc1 := Sep.Holds.cells hw (i := 1) rfl); (try replace hc2 := Sep.Holds.cells hw (i := 2) rfl); (try replace hc3 := Sep.Holds.cells hw (i := 3) rfl); (try replace hc4 := Sep.Holds.cells hw (i := 4) rfl); (try replace hc5 := Sep.Holds.cells hw (i := 5) rfl); (try replace hc6 := Sep.Holds.cells hw (i := 6) rfl))
    refine (oLeave p M d.f1 e _ _ (hw.focus1 1 rfl)).mono ?_
    rintro en_ w_ ⟨rfl, hw_⟩
    clear hw; (try clear hc0); (try clear hc1); (try clear hc2); (try clear hc3); (try clear hc4); (try clear hc5); (try clear hc6); have hw := Holds.unfocus1 1 (by simp) hw_; clear hw_
    (try simp only [List.map_cons, List.map_nil, List.getD_cons_zero, List.getD_cons_succ, List.getD_nil, List.set_cons_zero, List.set_cons_succ, List.cons_append, List.nil_append, Act.eval, Array.getD_eq_getD_getElem?, List.getElem?_toArray, List.getElem?_cons_succ, List.getElem?_cons_zero, Option.getD_some, Value.cells] at hw); (try simp (disch := first | (simp; done) | (simp; omega)) only [Sep.mid_set, Sep.mid_set2, Sep.mid_set0, Sep.mid_splice, Sep.mid_splice0, List.set_cons_zero, List.set_cons_succ] at hw); (try simp only [Sep.splice, List.take_succ_cons, List.take_zero, List.drop_succ_cons, List.drop_zero, List.length_cons, List.length_nil, Nat.reduceAdd, List.cons_append, List.nil_append] at hw)
    go_wp2_with fail
    (try simp only [Exit.inBlock, Exit.then]); refine ret4 rfl rfl rfl rfl rfl rfl ?_
    exact HP.out _ _ ⟨_, rfl, (hw.sel [0, 1] (by decide)).addEmp (Sl.nil _ _ _)⟩
  · have hb : M.act d = (0, false, [], 0, M) := by unfold FM.act; rw [if_neg h0, if_neg h1, if_neg h2, if_neg h3]
    rw [hb, hA']; clear hb hA'
    refine Sep.calls_post ?_
    intro Post_ hPost_
    have HP := Sep.hid hPost_
    clear hPost_
    go_enter Try.func9, Try.ntmps9
    go_wp2_with (refine wpList_on rfl (wp_box rfl hw ?_); intro b_ w_ hw_; clear hw; have hw := hw_; clear hw_; (try simp only [List.map_cons, List.map_nil, List.getD_cons_zero, List.getD_cons_succ, List.getD_nil, List.set_cons_zero, List.set_cons_succ, List.cons_append, List.nil_append, Act.eval, Array.getD_eq_getD_getElem?, List.getElem?_toArray, List.getElem?_cons_succ, List.getElem?_cons_zero, Option.getD_some, Value.cells] at hw); (try simp (disch := first | (simp; done) | (simp; omega)) only [Sep.mid_set, Sep.mid_set2, Sep.mid_set0, Sep.mid_splice, Sep.mid_splice0, List.set_cons_zero, List.set_cons_succ] at hw); (try simp only [Sep.splice, List.take_succ_cons, List.take_zero, List.drop_succ_cons, List.drop_zero, List.length_cons, List.length_nil, Nat.reduceAdd, List.cons_append, List.nil_append] at hw); (try replace hc0 := Sep.Holds.cells hw (i := 0) rfl); (try replace hc1 := Sep.Holds.cells hw (i := 1) rfl); (try replace hc2 := Sep.Holds.cells hw (i := 2) rfl); (try replace hc3 := Sep.Holds.cells hw (i := 3) rfl); (try replace hc4 := Sep.Holds.cells hw (i := 4) rfl); (try replace hc5 := Sep.Holds.cells hw (i := 5) rfl); (try replace hc6 := Sep.Holds.cells hw (i := 6) rfl))
    (try simp only [Exit.inBlock, Exit.then]); refine ret4 rfl rfl rfl rfl rfl rfl ?_
    exact HP.out _ _ ⟨_, rfl, (hw.sel [0, 1] (by decide)).addEmp (Sl.nil _ _ _)⟩
def g0 : Int → Option Int := fun _ => none
def g1 : Int → Option Int := setI g0 7 (some 1)
def g2 : Int → Option Int := setI g1 7 none
def g3 : Int → Option Int := setI g2 7 none
def g4 : Int → Option Int := setI g3 7 (some 3)
def g5 : Int → Option Int := setI g4 7 none
def j1 : Int → Option Int := setI g0 1 (some 7)
def j2 : Int → Option Int := setI j1 3 (some 7)
def j3 : Int → Option Int := setI j2 1 none
def j4 : Int → Option Int := setI j3 3 none
set_option maxRecDepth 100000 in
set_option maxHeartbeats 8000000 in
theorem awake_calls (e w : World) (X : HProp) (hw : Holds e w [X]) :
    Calls Try.prog 6 #[] w fun en w' => en = .returned (.bool true) ∧ Holds e w' [X] := by
  refine Sep.calls_post ?_
  intro Post_ hPost_
  have HP := Sep.hid hPost_
  clear hPost_
  go_enter Try.func6, Try.ntmps6
  go_wp2_with fail
  refine (oNew_ok 6 (by decide) (by decide) e _ X hw).mono ?_
  rintro en_ w_ ⟨p, rfl, hw_⟩
  clear hw
  have hw : Holds e w_ [X, IsFlight p ⟨6, [[], [], [], [], [], []], g0, g0⟩] := hw_
  clear hw_
  go_wp2_with fail
  refine (oNew_no 0 (by decide) _).mono ?_
  rintro en_ w_ ⟨rfl, rfl⟩
  go_wp2_with fail
  refine (oDo p ⟨6, [[], [], [], [], [], []], g0, g0⟩ 1 7 e _ _ (hw.focus1 1 rfl)).mono ?_
  rintro en_ w_ ⟨he_, hw_⟩
  obtain rfl : en_ = .returned (.tuple #[.int .i64 1, .int .i64 0]) := he_
  (try clear he_)
  clear hw; (try clear hc0); (try clear hc1); (try clear hc2); (try clear hc3); (try clear hc4); (try clear hc5); (try clear hc6); have hw := Holds.unfocus1 1 (by simp) hw_; clear hw_
  have hw : Holds e w_ [X, IsFlight p ⟨6, [[], [], [], [], [], []], g1, j1⟩] := hw
  go_wp2_with fail
  refine (oDo p ⟨6, [[], [], [], [], [], []], g1, j1⟩ 2 7 e _ _ (hw.focus1 1 rfl)).mono ?_
  rintro en_ w_ ⟨he_, hw_⟩
  obtain rfl : en_ = .returned (.tuple #[.int .i64 1, .int .i64 0]) := he_
  (try clear he_)
  clear hw; (try clear hc0); (try clear hc1); (try clear hc2); (try clear hc3); (try clear hc4); (try clear hc5); (try clear hc6); have hw := Holds.unfocus1 1 (by simp) hw_; clear hw_
  have hw : Holds e w_ [X, IsFlight p ⟨6, [[], [2], [], [], [], []], g1, j1⟩] := hw
  go_wp2_with fail
  refine (oDo p ⟨6, [[], [2], [], [], [], []], g1, j1⟩ 2 8 e _ _ (hw.focus1 1 rfl)).mono ?_
  rintro en_ w_ ⟨he_, hw_⟩
  obtain rfl : en_ = .returned (.tuple #[.int .i64 (-1), .int .i64 6]) := he_
  (try clear he_)
  clear hw; (try clear hc0); (try clear hc1); (try clear hc2); (try clear hc3); (try clear hc4); (try clear hc5); (try clear hc6); have hw := Holds.unfocus1 1 (by simp) hw_; clear hw_
  have hw : Holds e w_ [X, IsFlight p ⟨6, [[], [2], [], [], [], []], g1, j1⟩] := hw
  go_wp2_with fail
  refine (oDo p ⟨6, [[], [2], [], [], [], []], g1, j1⟩ 1 8 e _ _ (hw.focus1 1 rfl)).mono ?_
  rintro en_ w_ ⟨he_, hw_⟩
  obtain rfl : en_ = .returned (.tuple #[.int .i64 (-1), .int .i64 4]) := he_
  (try clear he_)
  clear hw; (try clear hc0); (try clear hc1); (try clear hc2); (try clear hc3); (try clear hc4); (try clear hc5); (try clear hc6); have hw := Holds.unfocus1 1 (by simp) hw_; clear hw_
  have hw : Holds e w_ [X, IsFlight p ⟨6, [[], [2], [], [], [], []], g1, j1⟩] := hw
  go_wp2_with fail
  refine (oForget p ⟨6, [[], [2], [], [], [], []], g1, j1⟩ 7 e _ _ (hw.focus1 1 rfl)).mono ?_
  rintro en_ w_ ⟨he_, hw_⟩
  obtain rfl : en_ = .returned (.bool true) := he_
  (try clear he_)
  clear hw; (try clear hc0); (try clear hc1); (try clear hc2); (try clear hc3); (try clear hc4); (try clear hc5); (try clear hc6); have hw := Holds.unfocus1 1 (by simp) hw_; clear hw_
  have hw : Holds e w_ [X, IsFlight p ⟨6, [[], [2], [], [], [], []], g2, j1⟩] := hw
  go_wp2_with fail
  refine (oForget p ⟨6, [[], [2], [], [], [], []], g2, j1⟩ 7 e _ _ (hw.focus1 1 rfl)).mono ?_
  rintro en_ w_ ⟨he_, hw_⟩
  obtain rfl : en_ = .returned (.bool false) := he_
  (try clear he_)
  clear hw; (try clear hc0); (try clear hc1); (try clear hc2); (try clear hc3); (try clear hc4); (try clear hc5); (try clear hc6); have hw := Holds.unfocus1 1 (by simp) hw_; clear hw_
  have hw : Holds e w_ [X, IsFlight p ⟨6, [[], [2], [], [], [], []], g3, j1⟩] := hw
  go_wp2_with fail
  refine (oDo p ⟨6, [[], [2], [], [], [], []], g3, j1⟩ 3 7 e _ _ (hw.focus1 1 rfl)).mono ?_
  rintro en_ w_ ⟨he_, hw_⟩
  obtain rfl : en_ = .returned (.tuple #[.int .i64 3, .int .i64 0]) := he_
  (try clear he_)
  clear hw; (try clear hc0); (try clear hc1); (try clear hc2); (try clear hc3); (try clear hc4); (try clear hc5); (try clear hc6); have hw := Holds.unfocus1 1 (by simp) hw_; clear hw_
  have hw : Holds e w_ [X, IsFlight p ⟨6, [[], [2], [], [], [], []], g4, j2⟩] := hw
  go_wp2_with fail
  refine (oDo p ⟨6, [[], [2], [], [], [], []], g4, j2⟩ 4 7 e _ _ (hw.focus1 1 rfl)).mono ?_
  rintro en_ w_ ⟨he_, hw_⟩
  obtain rfl : en_ = .returned (.tuple #[.int .i64 3, .int .i64 0]) := he_
  (try clear he_)
  clear hw; (try clear hc0); (try clear hc1); (try clear hc2); (try clear hc3); (try clear hc4); (try clear hc5); (try clear hc6); have hw := Holds.unfocus1 1 (by simp) hw_; clear hw_
  have hw : Holds e w_ [X, IsFlight p ⟨6, [[], [2], [], [4], [], []], g4, j2⟩] := hw
  go_wp2_with fail
  refine (oLeader p ⟨6, [[], [2], [], [4], [], []], g4, j2⟩ 7 e _ _ (hw.focus1 1 rfl)).mono ?_
  rintro en_ w_ ⟨he_, rfl⟩
  obtain rfl : en_ = .returned (.int .i64 3) := he_
  (try clear he_)
  go_wp2_with fail
  refine (oJoins p ⟨6, [[], [2], [], [4], [], []], g4, j2⟩ 2 e _ _ (hw.focus1 1 rfl)).mono ?_
  rintro en_ w_ ⟨he_, rfl⟩
  obtain rfl : en_ = .returned (.int .i64 1) := he_
  (try clear he_)
  go_wp2_with fail
  refine (oLeads p ⟨6, [[], [2], [], [4], [], []], g4, j2⟩ 1 e _ _ (hw.focus1 1 rfl)).mono ?_
  rintro en_ w_ ⟨he_, rfl⟩
  obtain rfl : en_ = .returned (.tuple #[.int .i64 7, .bool true]) := he_
  (try clear he_)
  go_wp2_with fail
  refine (oJoined p ⟨6, [[], [2], [], [4], [], []], g4, j2⟩ 1 e _ _ (hw.focus1 1 rfl)).mono ?_
  rintro en_ w_ ⟨u, he_, hw_⟩
  obtain rfl : en_ = .returned (u) := he_
  (try clear he_)
  clear hw; (try clear hc0); (try clear hc1); (try clear hc2); (try clear hc3); (try clear hc4); (try clear hc5); (try clear hc6); have hw := Holds.unfocus1 1 (by simp) hw_; clear hw_
  have hw : Holds e w_ [X, IsFlight p ⟨6, [[], [2], [], [4], [], []], g4, j2⟩, IsInts u [2]] := hw
  go_wp2_with fail
  refine (oFin p ⟨6, [[], [2], [], [4], [], []], g4, j2⟩ 1 e _ _ (hw.focus1 1 rfl)).mono ?_
  rintro en_ w_ ⟨x1, he_, hw_⟩
  obtain rfl : en_ = .returned (.tuple #[x1, .int .i64 0]) := he_
  (try clear he_)
  clear hw; (try clear hc0); (try clear hc1); (try clear hc2); (try clear hc3); (try clear hc4); (try clear hc5); (try clear hc6); have hw := Holds.unfocus1 1 (by simp) hw_; clear hw_
  have hw : Holds e w_ [X, IsFlight p ⟨6, [[], [], [], [4], [], []], g4, j3⟩, IsInts u [2], IsInts x1 [2]] := hw
  go_wp2_with fail
  refine (oFin p ⟨6, [[], [], [], [4], [], []], g4, j3⟩ 1 e _ _ (hw.focus1 1 rfl)).mono ?_
  rintro en_ w_ ⟨x2, he_, hw_⟩
  obtain rfl : en_ = .returned (.tuple #[x2, .int .i64 4]) := he_
  (try clear he_)
  clear hw; (try clear hc0); (try clear hc1); (try clear hc2); (try clear hc3); (try clear hc4); (try clear hc5); (try clear hc6); have hw := Holds.unfocus1 1 (by simp) hw_; clear hw_
  have hw : Holds e w_ [X, IsFlight p ⟨6, [[], [], [], [4], [], []], g4, j3⟩, IsInts u [2], IsInts x1 [2], IsInts x2 []] := hw
  go_wp2_with fail
  refine (oLeave p ⟨6, [[], [], [], [4], [], []], g4, j3⟩ 4 e _ _ (hw.focus1 1 rfl)).mono ?_
  rintro en_ w_ ⟨he_, hw_⟩
  obtain rfl : en_ = .returned (.bool true) := he_
  (try clear he_)
  clear hw; (try clear hc0); (try clear hc1); (try clear hc2); (try clear hc3); (try clear hc4); (try clear hc5); (try clear hc6); have hw := Holds.unfocus1 1 (by simp) hw_; clear hw_
  have hw : Holds e w_ [X, IsFlight p ⟨6, [[], [], [], [], [], []], g4, j3⟩, IsInts u [2], IsInts x1 [2], IsInts x2 []] := hw
  go_wp2_with fail
  refine (oFin p ⟨6, [[], [], [], [], [], []], g4, j3⟩ 3 e _ _ (hw.focus1 1 rfl)).mono ?_
  rintro en_ w_ ⟨x3, he_, hw_⟩
  obtain rfl : en_ = .returned (.tuple #[x3, .int .i64 0]) := he_
  (try clear he_)
  clear hw; (try clear hc0); (try clear hc1); (try clear hc2); (try clear hc3); (try clear hc4); (try clear hc5); (try clear hc6); have hw := Holds.unfocus1 1 (by simp) hw_; clear hw_
  have hw : Holds e w_ [X, IsFlight p ⟨6, [[], [], [], [], [], []], g5, j4⟩, IsInts u [2], IsInts x1 [2], IsInts x2 [], IsInts x3 []] := hw
  obtain ⟨za, zc, rfl⟩ := Sl.value (i := 5) rfl hw
  go_wp2_with fail
  refine (oDo p ⟨6, [[], [], [], [], [], []], g5, j4⟩ 6 1 e _ _ (hw.focus1 1 rfl)).mono ?_
  rintro en_ w_ ⟨he_, hw_⟩
  obtain rfl : en_ = .returned (.tuple #[.int .i64 (-1), .int .i64 3]) := he_
  (try clear he_)
  clear hw; (try clear hc0); (try clear hc1); (try clear hc2); (try clear hc3); (try clear hc4); (try clear hc5); (try clear hc6); have hw := Holds.unfocus1 1 (by simp) hw_; clear hw_
  have hw : Holds e w_ [X, IsFlight p ⟨6, [[], [], [], [], [], []], g5, j4⟩, IsInts u [2], IsInts x1 [2], IsInts x2 [], IsInts _ []] := hw
  (try simp only [List.map_cons, List.map_nil, List.getD_cons_zero, List.getD_cons_succ, List.getD_nil, List.set_cons_zero, List.set_cons_succ, List.cons_append, List.nil_append, Act.eval, Array.getD_eq_getD_getElem?, List.getElem?_toArray, List.getElem?_cons_succ, List.getElem?_cons_zero, Option.getD_some, Value.cells] at hw); (try simp (disch := first | (simp; done) | (simp; omega)) only [Sep.mid_set, Sep.mid_set2, Sep.mid_set0, Sep.mid_splice, Sep.mid_splice0, List.set_cons_zero, List.set_cons_succ] at hw); (try simp only [Sep.splice, List.take_succ_cons, List.take_zero, List.drop_succ_cons, List.drop_zero, List.length_cons, List.length_nil, Nat.reduceAdd, List.cons_append, List.nil_append] at hw)
  (try replace hc0 := Sep.Holds.cells hw (i := 0) rfl); (try replace hc1 := Sep.Holds.cells hw (i := 1) rfl); (try replace hc2 := Sep.Holds.cells hw (i := 2) rfl); (try replace hc3 := Sep.Holds.cells hw (i := 3) rfl); (try replace hc4 := Sep.Holds.cells hw (i := 4) rfl); (try replace hc5 := Sep.Holds.cells hw (i := 5) rfl); (try replace hc6 := Sep.Holds.cells hw (i := 6) rfl)
  (try go_wp2_with fail)
  replace hw := hw.allocCells [.int .i64 2] 3
  (try simp only [List.map_cons, List.map_nil, List.getD_cons_zero, List.getD_cons_succ, List.getD_nil, List.set_cons_zero, List.set_cons_succ, List.cons_append, List.nil_append, Act.eval, Array.getD_eq_getD_getElem?, List.getElem?_toArray, List.getElem?_cons_succ, List.getElem?_cons_zero, Option.getD_some, Value.cells] at hw); (try simp (disch := first | (simp; done) | (simp; omega)) only [Sep.mid_set, Sep.mid_set2, Sep.mid_set0, Sep.mid_splice, Sep.mid_splice0, List.set_cons_zero, List.set_cons_succ] at hw); (try simp only [Sep.splice, List.take_succ_cons, List.take_zero, List.drop_succ_cons, List.drop_zero, List.length_cons, List.length_nil, Nat.reduceAdd, List.cons_append, List.nil_append] at hw)
  replace hw := hw.newSl (i := 6) rfl 1 1 rfl (by decide)
  (try simp only [List.map_cons, List.map_nil, List.getD_cons_zero, List.getD_cons_succ, List.getD_nil, List.set_cons_zero, List.set_cons_succ, List.cons_append, List.nil_append, Act.eval, Array.getD_eq_getD_getElem?, List.getElem?_toArray, List.getElem?_cons_succ, List.getElem?_cons_zero, Option.getD_some, Value.cells] at hw); (try simp (disch := first | (simp; done) | (simp; omega)) only [Sep.mid_set, Sep.mid_set2, Sep.mid_set0, Sep.mid_splice, Sep.mid_splice0, List.set_cons_zero, List.set_cons_succ] at hw); (try simp only [Sep.splice, List.take_succ_cons, List.take_zero, List.drop_succ_cons, List.drop_zero, List.length_cons, List.length_nil, Nat.reduceAdd, List.cons_append, List.nil_append] at hw)
  (try clear hc0); (try clear hc1); (try clear hc2); (try clear hc3); (try clear hc4); (try clear hc5); (try clear hc6)
  refine (same_calls _ _ [2] [2] (by decide) e _ _ (hw.focus2 2 6 rfl rfl (by decide))).mono ?_
  rintro en_ w_ ⟨he_, hw_⟩
  obtain rfl : en_ = .returned (.bool true) := he_
  clear hw; have hw := Holds.unfocus2 2 6 (by simp) (by simp) (by decide) hw_; clear hw_
  (try simp only [List.map_cons, List.map_nil, List.getD_cons_zero, List.getD_cons_succ, List.getD_nil, List.set_cons_zero, List.set_cons_succ, List.cons_append, List.nil_append, Act.eval, Array.getD_eq_getD_getElem?, List.getElem?_toArray, List.getElem?_cons_succ, List.getElem?_cons_zero, Option.getD_some, Value.cells] at hw); (try simp (disch := first | (simp; done) | (simp; omega)) only [Sep.mid_set, Sep.mid_set2, Sep.mid_set0, Sep.mid_splice, Sep.mid_splice0, List.set_cons_zero, List.set_cons_succ] at hw); (try simp only [Sep.splice, List.take_succ_cons, List.take_zero, List.drop_succ_cons, List.drop_zero, List.length_cons, List.length_nil, Nat.reduceAdd, List.cons_append, List.nil_append] at hw)
  (try replace hc0 := Sep.Holds.cells hw (i := 0) rfl); (try replace hc1 := Sep.Holds.cells hw (i := 1) rfl); (try replace hc2 := Sep.Holds.cells hw (i := 2) rfl); (try replace hc3 := Sep.Holds.cells hw (i := 3) rfl); (try replace hc4 := Sep.Holds.cells hw (i := 4) rfl); (try replace hc5 := Sep.Holds.cells hw (i := 5) rfl); (try replace hc6 := Sep.Holds.cells hw (i := 6) rfl)
  (try go_wp2_with fail)
  replace hw := hw.allocCells [.int .i64 2] 3
  (try simp only [List.map_cons, List.map_nil, List.getD_cons_zero, List.getD_cons_succ, List.getD_nil, List.set_cons_zero, List.set_cons_succ, List.cons_append, List.nil_append, Act.eval, Array.getD_eq_getD_getElem?, List.getElem?_toArray, List.getElem?_cons_succ, List.getElem?_cons_zero, Option.getD_some, Value.cells] at hw); (try simp (disch := first | (simp; done) | (simp; omega)) only [Sep.mid_set, Sep.mid_set2, Sep.mid_set0, Sep.mid_splice, Sep.mid_splice0, List.set_cons_zero, List.set_cons_succ] at hw); (try simp only [Sep.splice, List.take_succ_cons, List.take_zero, List.drop_succ_cons, List.drop_zero, List.length_cons, List.length_nil, Nat.reduceAdd, List.cons_append, List.nil_append] at hw)
  replace hw := hw.newSl (i := 7) rfl 1 1 rfl (by decide)
  (try simp only [List.map_cons, List.map_nil, List.getD_cons_zero, List.getD_cons_succ, List.getD_nil, List.set_cons_zero, List.set_cons_succ, List.cons_append, List.nil_append, Act.eval, Array.getD_eq_getD_getElem?, List.getElem?_toArray, List.getElem?_cons_succ, List.getElem?_cons_zero, Option.getD_some, Value.cells] at hw); (try simp (disch := first | (simp; done) | (simp; omega)) only [Sep.mid_set, Sep.mid_set2, Sep.mid_set0, Sep.mid_splice, Sep.mid_splice0, List.set_cons_zero, List.set_cons_succ] at hw); (try simp only [Sep.splice, List.take_succ_cons, List.take_zero, List.drop_succ_cons, List.drop_zero, List.length_cons, List.length_nil, Nat.reduceAdd, List.cons_append, List.nil_append] at hw)
  (try clear hc0); (try clear hc1); (try clear hc2); (try clear hc3); (try clear hc4); (try clear hc5); (try clear hc6)
  refine (same_calls _ _ [2] [2] (by decide) e _ _ (hw.focus2 3 7 rfl rfl (by decide))).mono ?_
  rintro en_ w_ ⟨he_, hw_⟩
  obtain rfl : en_ = .returned (.bool true) := he_
  clear hw; have hw := Holds.unfocus2 3 7 (by simp) (by simp) (by decide) hw_; clear hw_
  (try simp only [List.map_cons, List.map_nil, List.getD_cons_zero, List.getD_cons_succ, List.getD_nil, List.set_cons_zero, List.set_cons_succ, List.cons_append, List.nil_append, Act.eval, Array.getD_eq_getD_getElem?, List.getElem?_toArray, List.getElem?_cons_succ, List.getElem?_cons_zero, Option.getD_some, Value.cells] at hw); (try simp (disch := first | (simp; done) | (simp; omega)) only [Sep.mid_set, Sep.mid_set2, Sep.mid_set0, Sep.mid_splice, Sep.mid_splice0, List.set_cons_zero, List.set_cons_succ] at hw); (try simp only [Sep.splice, List.take_succ_cons, List.take_zero, List.drop_succ_cons, List.drop_zero, List.length_cons, List.length_nil, Nat.reduceAdd, List.cons_append, List.nil_append] at hw)
  (try replace hc0 := Sep.Holds.cells hw (i := 0) rfl); (try replace hc1 := Sep.Holds.cells hw (i := 1) rfl); (try replace hc2 := Sep.Holds.cells hw (i := 2) rfl); (try replace hc3 := Sep.Holds.cells hw (i := 3) rfl); (try replace hc4 := Sep.Holds.cells hw (i := 4) rfl); (try replace hc5 := Sep.Holds.cells hw (i := 5) rfl); (try replace hc6 := Sep.Holds.cells hw (i := 6) rfl)
  go_wp2_with fail
  refine (oLeader p ⟨6, [[], [], [], [], [], []], g5, j4⟩ 7 e _ _ (hw.focus1 1 rfl)).mono ?_
  rintro en_ w_ ⟨he_, rfl⟩
  obtain rfl : en_ = .returned (.int .i64 (-1)) := he_
  (try clear he_)
  go_wp2_with fail
  refine (oJoins p ⟨6, [[], [], [], [], [], []], g5, j4⟩ 2 e _ _ (hw.focus1 1 rfl)).mono ?_
  rintro en_ w_ ⟨he_, rfl⟩
  obtain rfl : en_ = .returned (.int .i64 (-1)) := he_
  (try clear he_)
  go_wp2_with fail
  exact HP.out _ _ ⟨rfl, hw.sel [0] (by decide)⟩
end Go.Proofs.Ytecdkajhcglpdaa
