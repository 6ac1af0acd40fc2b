/-
  awake: the walk.
-/
import Derived.Test.YtcefnihhlbeebaaCondDo
namespace Go.Proofs.Ytcefnihhlbeebaa
set_option linter.unusedSimpArgs false
set_option linter.unusedVariables false
open Go.RowKit Go.Sep Go.RingM

set_option maxRecDepth 100000 in
set_option maxHeartbeats 8000000 in
theorem awake_calls (e w : World) (X : HProp) (hw : Holds e w [X]) :
    Calls Try.prog 6 #[] w fun en w' => en = .returned (.bool true) ∧ Holds e w' [X] := by
  refine Sep.calls_post ?_
  intro Post_ hPost_
  have HP := Sep.hid hPost_
  clear hPost_
  go_enter Try.func6, Try.ntmps6
  go_wp2_with fail
  refine (oNew_ok 5 (by decide) (by decide) e _ X hw).mono ?_
  rintro en_ w_ ⟨p, rfl, hw_⟩
  clear hw
  have hw := hw_
  clear hw_
  go_wp2_with fail
  refine (oNew_no 0 (by decide) _).mono ?_
  rintro en_ w_ ⟨rfl, rfl⟩
  go_wp2_with fail
  refine (oWait p ⟨5, []⟩ 3 0 e _ _ (hw.focus1 1 rfl)).mono ?_
  rintro en_ w_ ⟨he_, hw_⟩
  obtain rfl : en_ = .returned (.int .i64 0) := he_
  (try clear he_)
  clear hw; (try clear hc0); (try clear hc1); (try clear hc2); (try clear hc3); (try clear hc4); (try clear hc5); (try clear hc6); have hw := Holds.unfocus1 1 (by simp) hw_; clear hw_
  have hw : Holds e w_ [X, IsCond p ⟨5, [(3, 0)]⟩] := hw
  go_wp2_with fail
  refine (oWait p ⟨5, [(3, 0)]⟩ 1 2 e _ _ (hw.focus1 1 rfl)).mono ?_
  rintro en_ w_ ⟨he_, hw_⟩
  obtain rfl : en_ = .returned (.int .i64 0) := he_
  (try clear he_)
  clear hw; (try clear hc0); (try clear hc1); (try clear hc2); (try clear hc3); (try clear hc4); (try clear hc5); (try clear hc6); have hw := Holds.unfocus1 1 (by simp) hw_; clear hw_
  have hw : Holds e w_ [X, IsCond p ⟨5, [(3, 0), (1, 2)]⟩] := hw
  go_wp2_with fail
  refine (oWait p ⟨5, [(3, 0), (1, 2)]⟩ 3 9 e _ _ (hw.focus1 1 rfl)).mono ?_
  rintro en_ w_ ⟨he_, hw_⟩
  obtain rfl : en_ = .returned (.int .i64 6) := he_
  (try clear he_)
  clear hw; (try clear hc0); (try clear hc1); (try clear hc2); (try clear hc3); (try clear hc4); (try clear hc5); (try clear hc6); have hw := Holds.unfocus1 1 (by simp) hw_; clear hw_
  have hw : Holds e w_ [X, IsCond p ⟨5, [(3, 0), (1, 2)]⟩] := hw
  go_wp2_with fail
  refine (oWait p ⟨5, [(3, 0), (1, 2)]⟩ 5 0 e _ _ (hw.focus1 1 rfl)).mono ?_
  rintro en_ w_ ⟨he_, hw_⟩
  obtain rfl : en_ = .returned (.int .i64 3) := he_
  (try clear he_)
  clear hw; (try clear hc0); (try clear hc1); (try clear hc2); (try clear hc3); (try clear hc4); (try clear hc5); (try clear hc6); have hw := Holds.unfocus1 1 (by simp) hw_; clear hw_
  have hw : Holds e w_ [X, IsCond p ⟨5, [(3, 0), (1, 2)]⟩] := hw
  go_wp2_with fail
  refine (oWait p ⟨5, [(3, 0), (1, 2)]⟩ 2 7 e _ _ (hw.focus1 1 rfl)).mono ?_
  rintro en_ w_ ⟨he_, hw_⟩
  obtain rfl : en_ = .returned (.int .i64 0) := he_
  (try clear he_)
  clear hw; (try clear hc0); (try clear hc1); (try clear hc2); (try clear hc3); (try clear hc4); (try clear hc5); (try clear hc6); have hw := Holds.unfocus1 1 (by simp) hw_; clear hw_
  have hw : Holds e w_ [X, IsCond p ⟨5, [(3, 0), (1, 2), (2, 7)]⟩] := hw
  go_wp2_with fail
  refine (oLeave p ⟨5, [(3, 0), (1, 2), (2, 7)]⟩ 3 e _ _ (hw.focus1 1 rfl)).mono ?_
  rintro en_ w_ ⟨he_, hw_⟩
  obtain rfl : en_ = .returned (.tuple #[.agg #[.int .i64 3, .int .i64 0], .bool true]) := he_
  (try clear he_)
  clear hw; (try clear hc0); (try clear hc1); (try clear hc2); (try clear hc3); (try clear hc4); (try clear hc5); (try clear hc6); have hw := Holds.unfocus1 1 (by simp) hw_; clear hw_
  have hw : Holds e w_ [X, IsCond p ⟨5, [(1, 2), (2, 7)]⟩] := hw
  go_wp2_with (first | (refine wpList_on rfl (wp_alloc (L := [_, _]) rfl hw ?_); intro b4_ w_ hw_; clear hw; have hw := hw_; clear hw_; (try simp only [List.map_cons, List.map_nil, List.getD_cons_zero, List.getD_cons_succ, List.getD_nil, List.set_cons_zero, List.set_cons_succ, List.cons_append, List.nil_append, Act.eval, Array.getD_eq_getD_getElem?, List.getElem?_toArray, List.getElem?_cons_succ, List.getElem?_cons_zero, Option.getD_some, Value.cells] at hw); (try simp (disch := first | (simp; done) | (simp; omega)) only [Sep.mid_set, Sep.mid_set2, Sep.mid_set0, Sep.mid_splice, Sep.mid_splice0, List.set_cons_zero, List.set_cons_succ] at hw); (try simp only [Sep.splice, List.take_succ_cons, List.take_zero, List.drop_succ_cons, List.drop_zero, List.length_cons, List.length_nil, Nat.reduceAdd, List.cons_append, List.nil_append] at hw); (try replace hc0 := Sep.Holds.cells hw (i := 0) rfl); (try replace hc1 := Sep.Holds.cells hw (i := 1) rfl); (try replace hc2 := Sep.Holds.cells hw (i := 2) rfl); (try replace hc3 := Sep.Holds.cells hw (i := 3) rfl); (try replace hc4 := Sep.Holds.cells hw (i := 4) rfl); (try replace hc5 := Sep.Holds.cells hw (i := 5) rfl); (try replace hc6 := Sep.Holds.cells hw (i := 6) rfl)) | (refine wpList_on rfl (wp_storeAll (vs := [.int .i64 3, .int .i64 0]) rfl rfl (by rfl) hw (i := 2) rfl rfl rfl (by simp [Value.oneCell']) ?_); intro w_ hw_; clear hw; have hw := hw_; clear hw_; (try simp only [List.map_cons, List.map_nil, List.getD_cons_zero, List.getD_cons_succ, List.getD_nil, List.set_cons_zero, List.set_cons_succ, List.cons_append, List.nil_append, Act.eval, Array.getD_eq_getD_getElem?, List.getElem?_toArray, List.getElem?_cons_succ, List.getElem?_cons_zero, Option.getD_some, Value.cells] at hw); (try simp (disch := first | (simp; done) | (simp; omega)) only [Sep.mid_set, Sep.mid_set2, Sep.mid_set0, Sep.mid_splice, Sep.mid_splice0, List.set_cons_zero, List.set_cons_succ] at hw); (try simp only [Sep.splice, List.take_succ_cons, List.take_zero, List.drop_succ_cons, List.drop_zero, List.length_cons, List.length_nil, Nat.reduceAdd, List.cons_append, List.nil_append] at hw); (try replace hc0 := Sep.Holds.cells hw (i := 0) rfl); (try replace hc1 := Sep.Holds.cells hw (i := 1) rfl); (try replace hc2 := Sep.Holds.cells hw (i := 2) rfl); (try replace hc3 := Sep.Holds.cells hw (i := 3) rfl); (try replace hc4 := Sep.Holds.cells hw (i := 4) rfl); (try replace hc5 := Sep.Holds.cells hw (i := 5) rfl); (try replace hc6 := Sep.Holds.cells hw (i := 6) rfl)))
  refine (oLeave p ⟨5, [(1, 2), (2, 7)]⟩ 3 e _ _ (hw.focus1 1 rfl)).mono ?_
  rintro en_ w_ ⟨he_, hw_⟩
  obtain rfl : en_ = .returned (.tuple #[.agg #[.int .i64 0, .int .i64 0], .bool false]) := he_
  (try clear he_)
  clear hw; (try clear hc0); (try clear hc1); (try clear hc2); (try clear hc3); (try clear hc4); (try clear hc5); (try clear hc6); have hw := Holds.unfocus1 1 (by simp) hw_; clear hw_
  have hw : Holds e w_ [X, IsCond p ⟨5, [(1, 2), (2, 7)]⟩, pt b4_ [.int .i64 3, .int .i64 0] 50] := hw
  (try replace hc0 := Sep.Holds.cells hw (i := 0) rfl); (try replace hc1 := Sep.Holds.cells hw (i := 1) rfl); (try replace hc2 := Sep.Holds.cells hw (i := 2) rfl); (try replace hc3 := Sep.Holds.cells hw (i := 3) rfl); (try replace hc4 := Sep.Holds.cells hw (i := 4) rfl); (try replace hc5 := Sep.Holds.cells hw (i := 5) rfl); (try replace hc6 := Sep.Holds.cells hw (i := 6) rfl)
  go_wp2_with (first | (refine wpList_on rfl (wp_alloc rfl hw ?_); intro b5_ w_ hw_; clear hw; have hw := hw_; clear hw_; (try simp only [List.map_cons, List.map_nil, List.getD_cons_zero, List.getD_cons_succ, List.getD_nil, List.set_cons_zero, List.set_cons_succ, List.cons_append, List.nil_append, Act.eval, Array.getD_eq_getD_getElem?, List.getElem?_toArray, List.getElem?_cons_succ, List.getElem?_cons_zero, Option.getD_some, Value.cells] at hw); (try simp (disch := first | (simp; done) | (simp; omega)) only [Sep.mid_set, Sep.mid_set2, Sep.mid_set0, Sep.mid_splice, Sep.mid_splice0, List.set_cons_zero, List.set_cons_succ] at hw); (try simp only [Sep.splice, List.take_succ_cons, List.take_zero, List.drop_succ_cons, List.drop_zero, List.length_cons, List.length_nil, Nat.reduceAdd, List.cons_append, List.nil_append] at hw); (try replace hc0 := Sep.Holds.cells hw (i := 0) rfl); (try replace hc1 := Sep.Holds.cells hw (i := 1) rfl); (try replace hc2 := Sep.Holds.cells hw (i := 2) rfl); (try replace hc3 := Sep.Holds.cells hw (i := 3) rfl); (try replace hc4 := Sep.Holds.cells hw (i := 4) rfl); (try replace hc5 := Sep.Holds.cells hw (i := 5) rfl); (try replace hc6 := Sep.Holds.cells hw (i := 6) rfl)) | (refine wpList_on rfl (wp_storeAll (vs := [.int .i64 0, .int .i64 0]) rfl rfl (by rfl) hw (i := 3) rfl rfl rfl (by simp [Value.oneCell']) ?_); intro w_ hw_; clear hw; have hw := hw_; clear hw_; (try simp only [List.map_cons, List.map_nil, List.getD_cons_zero, List.getD_cons_succ, List.getD_nil, List.set_cons_zero, List.set_cons_succ, List.cons_append, List.nil_append, Act.eval, Array.getD_eq_getD_getElem?, List.getElem?_toArray, List.getElem?_cons_succ, List.getElem?_cons_zero, Option.getD_some, Value.cells] at hw); (try simp (disch := first | (simp; done) | (simp; omega)) only [Sep.mid_set, Sep.mid_set2, Sep.mid_set0, Sep.mid_splice, Sep.mid_splice0, List.set_cons_zero, List.set_cons_succ] at hw); (try simp only [Sep.splice, List.take_succ_cons, List.take_zero, List.drop_succ_cons, List.drop_zero, List.length_cons, List.length_nil, Nat.reduceAdd, List.cons_append, List.nil_append] at hw); (try replace hc0 := Sep.Holds.cells hw (i := 0) rfl); (try replace hc1 := Sep.Holds.cells hw (i := 1) rfl); (try replace hc2 := Sep.Holds.cells hw (i := 2) rfl); (try replace hc3 := Sep.Holds.cells hw (i := 3) rfl); (try replace hc4 := Sep.Holds.cells hw (i := 4) rfl); (try replace hc5 := Sep.Holds.cells hw (i := 5) rfl); (try replace hc6 := Sep.Holds.cells hw (i := 6) rfl)))
  refine (oSignal p ⟨5, [(1, 2), (2, 7)]⟩ e _ _ (hw.focus1 1 rfl)).mono ?_
  rintro en_ w_ ⟨v1, rfl, hw_⟩
  clear hw; (try clear hc0); (try clear hc1); (try clear hc2); (try clear hc3); (try clear hc4); (try clear hc5); (try clear hc6); have hw := Holds.unfocus1 1 (by simp) hw_; clear hw_
  have hw : Holds e w_ [X, IsCond p ⟨5, [(2, 7)]⟩, pt b4_ [.int .i64 3, .int .i64 0] 50, pt b5_ [.int .i64 0, .int .i64 0] 50, IsTolds 50 v1 [(1, 2)]] := hw
  go_wp2_with fail
  refine (oWaiting p ⟨5, [(2, 7)]⟩ e _ _ (hw.focus1 1 rfl)).mono ?_
  rintro en_ w_ ⟨v2, rfl, hw_⟩
  clear hw; have hw := Holds.unfocus1 1 (by simp) hw_; clear hw_
  have hw : Holds e w_ [X, IsCond p ⟨5, [(2, 7)]⟩, pt b4_ [.int .i64 3, .int .i64 0] 50, pt b5_ [.int .i64 0, .int .i64 0] 50, IsTolds 50 v1 [(1, 2)], IsTolds 50 v2 [(2, 7)]] := hw
  go_wp2_with fail
  refine (oBroadcast p ⟨5, [(2, 7)]⟩ e _ _ (hw.focus1 1 rfl)).mono ?_
  rintro en_ w_ ⟨v3, rfl, hw_⟩
  clear hw; have hw := Holds.unfocus1 1 (by simp) hw_; clear hw_
  have hw : Holds e w_ [X, IsCond p ⟨5, []⟩, pt b4_ [.int .i64 3, .int .i64 0] 50, pt b5_ [.int .i64 0, .int .i64 0] 50, IsTolds 50 v1 [(1, 2)], IsTolds 50 v2 [(2, 7)], IsTolds 50 v3 [(2, 7)]] := hw
  (try replace hc0 := Sep.Holds.cells hw (i := 0) rfl); (try replace hc1 := Sep.Holds.cells hw (i := 1) rfl); (try replace hc2 := Sep.Holds.cells hw (i := 2) rfl); (try replace hc3 := Sep.Holds.cells hw (i := 3) rfl); (try replace hc4 := Sep.Holds.cells hw (i := 4) rfl); (try replace hc5 := Sep.Holds.cells hw (i := 5) rfl); (try replace hc6 := Sep.Holds.cells hw (i := 6) rfl)
  go_wp2_with fail
  refine (own_calls v1 [(1, 2)] (by decide) e _ _ (hw.focus1 4 rfl)).mono ?_
  rintro en_ w_ ⟨u, rfl, hw_⟩
  clear hw; (try clear hc0); (try clear hc1); (try clear hc2); (try clear hc3); (try clear hc4); (try clear hc5); (try clear hc6); have hw := Holds.unfocus1 4 (by simp) hw_; clear hw_
  (try simp only [List.map_cons, List.map_nil, List.getD_cons_zero, List.getD_cons_succ, List.getD_nil, List.set_cons_zero, List.set_cons_succ, List.cons_append, List.nil_append, Act.eval, Array.getD_eq_getD_getElem?, List.getElem?_toArray, List.getElem?_cons_succ, List.getElem?_cons_zero, Option.getD_some, Value.cells] at hw); (try simp (disch := first | (simp; done) | (simp; omega)) only [Sep.mid_set, Sep.mid_set2, Sep.mid_set0, Sep.mid_splice, Sep.mid_splice0, List.set_cons_zero, List.set_cons_succ] at hw); (try simp only [Sep.splice, List.take_succ_cons, List.take_zero, List.drop_succ_cons, List.drop_zero, List.length_cons, List.length_nil, Nat.reduceAdd, List.cons_append, List.nil_append] at hw)
  go_wp2_with (refine wpList_on rfl (wp_bsl1 rfl rfl (by rfl) (by rfl) (by decide) hw ?_); intro b_ w_ hw_; replace hw_ := hw_.newSl (i := 8) rfl 2 1 rfl (by decide); clear hw; have hw := hw_; clear hw_; (try simp only [List.map_cons, List.map_nil, List.getD_cons_zero, List.getD_cons_succ, List.getD_nil, List.set_cons_zero, List.set_cons_succ, List.cons_append, List.nil_append, Act.eval, Array.getD_eq_getD_getElem?, List.getElem?_toArray, List.getElem?_cons_succ, List.getElem?_cons_zero, Option.getD_some, Value.cells] at hw); (try simp (disch := first | (simp; done) | (simp; omega)) only [Sep.mid_set, Sep.mid_set2, Sep.mid_set0, Sep.mid_splice, Sep.mid_splice0, List.set_cons_zero, List.set_cons_succ] at hw); (try simp only [Sep.splice, List.take_succ_cons, List.take_zero, List.drop_succ_cons, List.drop_zero, List.length_cons, List.length_nil, Nat.reduceAdd, List.cons_append, List.nil_append] at hw); (try replace hc0 := Sep.Holds.cells hw (i := 0) rfl); (try replace hc1 := Sep.Holds.cells hw (i := 1) rfl); (try replace hc2 := Sep.Holds.cells hw (i := 2) rfl); (try replace hc3 := Sep.Holds.cells hw (i := 3) rfl); (try replace hc4 := Sep.Holds.cells hw (i := 4) rfl); (try replace hc5 := Sep.Holds.cells hw (i := 5) rfl); (try replace hc6 := Sep.Holds.cells hw (i := 6) rfl))
  have hw : Holds e w_ [X, IsCond p ⟨5, []⟩, pt b4_ [.int .i64 3, .int .i64 0] 50, pt b5_ [.int .i64 0, .int .i64 0] 50, IsTolds 50 v1 [(1, 2)], IsTolds 50 v2 [(2, 7)], IsTolds 50 v3 [(2, 7)], IsTolds 40 u [(1, 2)], IsTolds 40 (.slice (some ⟨b_, 0, none⟩) 1 1) [(1, 2)]] := hw
  refine (same_tolds _ _ [(1, 2)] [(1, 2)] (by decide) e _ _ (hw.focus2 7 8 rfl rfl (by decide))).mono ?_
  rintro en_ w_ ⟨he_, hw_⟩
  obtain rfl : en_ = .returned (.bool true) := he_
  (try clear he_)
  clear hw; (try clear hc0); (try clear hc1); (try clear hc2); (try clear hc3); (try clear hc4); (try clear hc5); (try clear hc6); have hw := Holds.unfocus2 7 8 (by simp) (by simp) (by decide) hw_; clear hw_
  have hw : Holds e w_ [X, IsCond p ⟨5, []⟩, pt b4_ [.int .i64 3, .int .i64 0] 50, pt b5_ [.int .i64 0, .int .i64 0] 50, IsTolds 50 v1 [(1, 2)], IsTolds 50 v2 [(2, 7)], IsTolds 50 v3 [(2, 7)]] := hw.sel [0, 1, 2, 3, 4, 5, 6] (by decide)
  (try replace hc0 := Sep.Holds.cells hw (i := 0) rfl); (try replace hc1 := Sep.Holds.cells hw (i := 1) rfl); (try replace hc2 := Sep.Holds.cells hw (i := 2) rfl); (try replace hc3 := Sep.Holds.cells hw (i := 3) rfl); (try replace hc4 := Sep.Holds.cells hw (i := 4) rfl); (try replace hc5 := Sep.Holds.cells hw (i := 5) rfl); (try replace hc6 := Sep.Holds.cells hw (i := 6) rfl)
  go_wp2_with fail
  refine (own_calls v2 [(2, 7)] (by decide) e _ _ (hw.focus1 5 rfl)).mono ?_
  rintro en_ w_ ⟨u, rfl, hw_⟩
  clear hw; (try clear hc0); (try clear hc1); (try clear hc2); (try clear hc3); (try clear hc4); (try clear hc5); (try clear hc6); have hw := Holds.unfocus1 5 (by simp) hw_; clear hw_
  (try simp only [List.map_cons, List.map_nil, List.getD_cons_zero, List.getD_cons_succ, List.getD_nil, List.set_cons_zero, List.set_cons_succ, List.cons_append, List.nil_append, Act.eval, Array.getD_eq_getD_getElem?, List.getElem?_toArray, List.getElem?_cons_succ, List.getElem?_cons_zero, Option.getD_some, Value.cells] at hw); (try simp (disch := first | (simp; done) | (simp; omega)) only [Sep.mid_set, Sep.mid_set2, Sep.mid_set0, Sep.mid_splice, Sep.mid_splice0, List.set_cons_zero, List.set_cons_succ] at hw); (try simp only [Sep.splice, List.take_succ_cons, List.take_zero, List.drop_succ_cons, List.drop_zero, List.length_cons, List.length_nil, Nat.reduceAdd, List.cons_append, List.nil_append] at hw)
  go_wp2_with (refine wpList_on rfl (wp_bsl1 rfl rfl (by rfl) (by rfl) (by decide) hw ?_); intro b_ w_ hw_; replace hw_ := hw_.newSl (i := 8) rfl 2 1 rfl (by decide); clear hw; have hw := hw_; clear hw_; (try simp only [List.map_cons, List.map_nil, List.getD_cons_zero, List.getD_cons_succ, List.getD_nil, List.set_cons_zero, List.set_cons_succ, List.cons_append, List.nil_append, Act.eval, Array.getD_eq_getD_getElem?, List.getElem?_toArray, List.getElem?_cons_succ, List.getElem?_cons_zero, Option.getD_some, Value.cells] at hw); (try simp (disch := first | (simp; done) | (simp; omega)) only [Sep.mid_set, Sep.mid_set2, Sep.mid_set0, Sep.mid_splice, Sep.mid_splice0, List.set_cons_zero, List.set_cons_succ] at hw); (try simp only [Sep.splice, List.take_succ_cons, List.take_zero, List.drop_succ_cons, List.drop_zero, List.length_cons, List.length_nil, Nat.reduceAdd, List.cons_append, List.nil_append] at hw); (try replace hc0 := Sep.Holds.cells hw (i := 0) rfl); (try replace hc1 := Sep.Holds.cells hw (i := 1) rfl); (try replace hc2 := Sep.Holds.cells hw (i := 2) rfl); (try replace hc3 := Sep.Holds.cells hw (i := 3) rfl); (try replace hc4 := Sep.Holds.cells hw (i := 4) rfl); (try replace hc5 := Sep.Holds.cells hw (i := 5) rfl); (try replace hc6 := Sep.Holds.cells hw (i := 6) rfl))
  have hw : Holds e w_ [X, IsCond p ⟨5, []⟩, pt b4_ [.int .i64 3, .int .i64 0] 50, pt b5_ [.int .i64 0, .int .i64 0] 50, IsTolds 50 v1 [(1, 2)], IsTolds 50 v2 [(2, 7)], IsTolds 50 v3 [(2, 7)], IsTolds 40 u [(2, 7)], IsTolds 40 (.slice (some ⟨b_, 0, none⟩) 1 1) [(2, 7)]] := hw
  refine (same_tolds _ _ [(2, 7)] [(2, 7)] (by decide) e _ _ (hw.focus2 7 8 rfl rfl (by decide))).mono ?_
  rintro en_ w_ ⟨he_, hw_⟩
  obtain rfl : en_ = .returned (.bool true) := he_
  (try clear he_)
  clear hw; (try clear hc0); (try clear hc1); (try clear hc2); (try clear hc3); (try clear hc4); (try clear hc5); (try clear hc6); have hw := Holds.unfocus2 7 8 (by simp) (by simp) (by decide) hw_; clear hw_
  have hw : Holds e w_ [X, IsCond p ⟨5, []⟩, pt b4_ [.int .i64 3, .int .i64 0] 50, pt b5_ [.int .i64 0, .int .i64 0] 50, IsTolds 50 v1 [(1, 2)], IsTolds 50 v2 [(2, 7)], IsTolds 50 v3 [(2, 7)]] := hw.sel [0, 1, 2, 3, 4, 5, 6] (by decide)
  (try replace hc0 := Sep.Holds.cells hw (i := 0) rfl); (try replace hc1 := Sep.Holds.cells hw (i := 1) rfl); (try replace hc2 := Sep.Holds.cells hw (i := 2) rfl); (try replace hc3 := Sep.Holds.cells hw (i := 3) rfl); (try replace hc4 := Sep.Holds.cells hw (i := 4) rfl); (try replace hc5 := Sep.Holds.cells hw (i := 5) rfl); (try replace hc6 := Sep.Holds.cells hw (i := 6) rfl)
  go_wp2_with fail
  refine (own_calls v3 [(2, 7)] (by decide) e _ _ (hw.focus1 6 rfl)).mono ?_
  rintro en_ w_ ⟨u, rfl, hw_⟩
  clear hw; (try clear hc0); (try clear hc1); (try clear hc2); (try clear hc3); (try clear hc4); (try clear hc5); (try clear hc6); have hw := Holds.unfocus1 6 (by simp) hw_; clear hw_
  (try simp only [List.map_cons, List.map_nil, List.getD_cons_zero, List.getD_cons_succ, List.getD_nil, List.set_cons_zero, List.set_cons_succ, List.cons_append, List.nil_append, Act.eval, Array.getD_eq_getD_getElem?, List.getElem?_toArray, List.getElem?_cons_succ, List.getElem?_cons_zero, Option.getD_some, Value.cells] at hw); (try simp (disch := first | (simp; done) | (simp; omega)) only [Sep.mid_set, Sep.mid_set2, Sep.mid_set0, Sep.mid_splice, Sep.mid_splice0, List.set_cons_zero, List.set_cons_succ] at hw); (try simp only [Sep.splice, List.take_succ_cons, List.take_zero, List.drop_succ_cons, List.drop_zero, List.length_cons, List.length_nil, Nat.reduceAdd, List.cons_append, List.nil_append] at hw)
  go_wp2_with (refine wpList_on rfl (wp_bsl1 rfl rfl (by rfl) (by rfl) (by decide) hw ?_); intro b_ w_ hw_; replace hw_ := hw_.newSl (i := 8) rfl 2 1 rfl (by decide); clear hw; have hw := hw_; clear hw_; (try simp only [List.map_cons, List.map_nil, List.getD_cons_zero, List.getD_cons_succ, List.getD_nil, List.set_cons_zero, List.set_cons_succ, List.cons_append, List.nil_append, Act.eval, Array.getD_eq_getD_getElem?, List.getElem?_toArray, List.getElem?_cons_succ, List.getElem?_cons_zero, Option.getD_some, Value.cells] at hw); (try simp (disch := first | (simp; done) | (simp; omega)) only [Sep.mid_set, Sep.mid_set2, Sep.mid_set0, Sep.mid_splice, Sep.mid_splice0, List.set_cons_zero, List.set_cons_succ] at hw); (try simp only [Sep.splice, List.take_succ_cons, List.take_zero, List.drop_succ_cons, List.drop_zero, List.length_cons, List.length_nil, Nat.reduceAdd, List.cons_append, List.nil_append] at hw); (try replace hc0 := Sep.Holds.cells hw (i := 0) rfl); (try replace hc1 := Sep.Holds.cells hw (i := 1) rfl); (try replace hc2 := Sep.Holds.cells hw (i := 2) rfl); (try replace hc3 := Sep.Holds.cells hw (i := 3) rfl); (try replace hc4 := Sep.Holds.cells hw (i := 4) rfl); (try replace hc5 := Sep.Holds.cells hw (i := 5) rfl); (try replace hc6 := Sep.Holds.cells hw (i := 6) rfl))
  have hw : Holds e w_ [X, IsCond p ⟨5, []⟩, pt b4_ [.int .i64 3, .int .i64 0] 50, pt b5_ [.int .i64 0, .int .i64 0] 50, IsTolds 50 v1 [(1, 2)], IsTolds 50 v2 [(2, 7)], IsTolds 50 v3 [(2, 7)], IsTolds 40 u [(2, 7)], IsTolds 40 (.slice (some ⟨b_, 0, none⟩) 1 1) [(2, 7)]] := hw
  refine (same_tolds _ _ [(2, 7)] [(2, 7)] (by decide) e _ _ (hw.focus2 7 8 rfl rfl (by decide))).mono ?_
  rintro en_ w_ ⟨he_, hw_⟩
  obtain rfl : en_ = .returned (.bool true) := he_
  (try clear he_)
  clear hw; (try clear hc0); (try clear hc1); (try clear hc2); (try clear hc3); (try clear hc4); (try clear hc5); (try clear hc6); have hw := Holds.unfocus2 7 8 (by simp) (by simp) (by decide) hw_; clear hw_
  have hw : Holds e w_ [X, IsCond p ⟨5, []⟩, pt b4_ [.int .i64 3, .int .i64 0] 50, pt b5_ [.int .i64 0, .int .i64 0] 50, IsTolds 50 v1 [(1, 2)], IsTolds 50 v2 [(2, 7)], IsTolds 50 v3 [(2, 7)]] := hw.sel [0, 1, 2, 3, 4, 5, 6] (by decide)
  (try replace hc0 := Sep.Holds.cells hw (i := 0) rfl); (try replace hc1 := Sep.Holds.cells hw (i := 1) rfl); (try replace hc2 := Sep.Holds.cells hw (i := 2) rfl); (try replace hc3 := Sep.Holds.cells hw (i := 3) rfl); (try replace hc4 := Sep.Holds.cells hw (i := 4) rfl); (try replace hc5 := Sep.Holds.cells hw (i := 5) rfl); (try replace hc6 := Sep.Holds.cells hw (i := 6) rfl)
  go_wp2_with fail
  refine (oSignal p ⟨5, []⟩ e _ _ (hw.focus1 1 rfl)).mono ?_
  rintro en_ w_ ⟨v6, rfl, hw_⟩
  clear hw; (try clear hc0); (try clear hc1); (try clear hc2); (try clear hc3); (try clear hc4); (try clear hc5); (try clear hc6); have hw := Holds.unfocus1 1 (by simp) hw_; clear hw_
  have hw : Holds e w_ [X, IsCond p ⟨5, []⟩, _, _, _, _, _, Sl 50 2 v6 0 []] := hw
  obtain ⟨a6, c6, rfl⟩ := Sl.value (i := 7) rfl hw
  go_wp2_with fail
  exact HP.out _ _ ⟨rfl, hw.sel [0] (by decide)⟩
end Go.Proofs.Ytcefnihhlbeebaa
