/-
  The walks of what a law does with a condition: an act, and awake.
-/
import Derived.Test.YtcefnihhlbeebaaCondJ
import Derived.Test.YtcefnihhlbeebaaCondV
import Derived.Test.YtcefnihhlbeebaaActs
namespace Go.Proofs.Ytcefnihhlbeebaa
set_option linter.unusedSimpArgs false
set_option linter.unusedVariables false
open Go.RowKit Go.Sep Go.RingM

set_option maxHeartbeats 1600000 in
theorem do_calls (p : Nat) (M : CM) (d : Deed) (e w : World) (X : HProp) (hw : Holds e w [X, IsCond p M]) :
    Calls Try.prog 9 #[.pointer (some ⟨p, 0, none⟩), .agg (encA d).toArray] w fun en w' => ∃ v, en = .returned (.tuple #[.int .i64 (M.act d).1, .bool (M.act d).2.1, v]) ∧ Holds e w' [X, IsCond p (M.act d).2.2.2, IsTolds 50 v (M.act d).2.2.1] := by
  have hA : encA d = [.int .i64 d.f0, .int .i64 d.f1, .int .i64 d.f2] := rfl
  rcases act_cases M d with ⟨h0, hb⟩ | ⟨h0, h1, hb⟩ | ⟨h0, h1, h2, hb⟩ | ⟨h0, h1, h2, h3, ht, hb⟩ | ⟨h0, h1, h2, h3, ht, hb⟩ | ⟨h0, h1, h2, h3, hb⟩
  · rw [hb, hA]; clear hb hA
    refine Sep.calls_post ?_
    intro Post_ hPost_
    have HP := Sep.hid hPost_
    clear hPost_
    go_enter Try.func9, Try.ntmps9
    go_wp2_with (refine wpList_on rfl (wp_box rfl hw ?_); intro b_ w_ hw_; clear hw; have hw := hw_; clear hw_; (try simp only [List.map_cons, List.map_nil, List.getD_cons_zero, List.getD_cons_succ, List.getD_nil, List.set_cons_zero, List.set_cons_succ, List.cons_append, List.nil_append, Act.eval, Array.getD_eq_getD_getElem?, List.getElem?_toArray, List.getElem?_cons_succ, List.getElem?_cons_zero, Option.getD_some, Value.cells] at hw); (try simp (disch := first | (simp; done) | (simp; omega)) only [Sep.mid_set, Sep.mid_set2, Sep.mid_set0, Sep.mid_splice, Sep.mid_splice0, List.set_cons_zero, List.set_cons_succ] at hw); (try simp only [Sep.splice, List.take_succ_cons, List.take_zero, List.drop_succ_cons, List.drop_zero, List.length_cons, List.length_nil, Nat.reduceAdd, List.cons_append, List.nil_append] at hw); (try replace hc0 := Sep.Holds.cells hw (i := 0) rfl); (try replace hc1 := Sep.Holds.cells hw (i := 1) rfl); (try replace hc2 := Sep.Holds.cells hw (i := 2) rfl); (try replace hc3 := Sep.Holds.cells hw (i := 3) rfl); (try replace hc4 := Sep.Holds.cells hw (i := 4) rfl); (try replace hc5 := Sep.Holds.cells hw (i := 5) rfl); (try replace hc6 := Sep.Holds.cells hw (i := 6) rfl))
    refine (oWait p M d.f1 d.f2 e _ _ (hw.focus1 1 rfl)).mono ?_
    rintro en_ w_ ⟨rfl, hw_⟩
    clear hw; (try clear hc0); (try clear hc1); (try clear hc2); (try clear hc3); (try clear hc4); (try clear hc5); (try clear hc6); have hw := Holds.unfocus1 1 (by simp) hw_; clear hw_
    (try simp only [List.map_cons, List.map_nil, List.getD_cons_zero, List.getD_cons_succ, List.getD_nil, List.set_cons_zero, List.set_cons_succ, List.cons_append, List.nil_append, Act.eval, Array.getD_eq_getD_getElem?, List.getElem?_toArray, List.getElem?_cons_succ, List.getElem?_cons_zero, Option.getD_some, Value.cells] at hw); (try simp (disch := first | (simp; done) | (simp; omega)) only [Sep.mid_set, Sep.mid_set2, Sep.mid_set0, Sep.mid_splice, Sep.mid_splice0, List.set_cons_zero, List.set_cons_succ] at hw); (try simp only [Sep.splice, List.take_succ_cons, List.take_zero, List.drop_succ_cons, List.drop_zero, List.length_cons, List.length_nil, Nat.reduceAdd, List.cons_append, List.nil_append] at hw)
    go_wp2_with fail
    (try simp only [Exit.inBlock, Exit.then]); refine ret3 rfl rfl rfl rfl rfl ?_
    have hw := hw.addEmp (X := IsTolds 50 (.slice none 0 0) []) (Sl.nil _ _ _)
    exact HP.out _ _ ⟨_, rfl, hw.sel [0, 1, 3] (by decide)⟩
  · rw [hb, hA]; clear hb hA h0
    refine Sep.calls_post ?_
    intro Post_ hPost_
    have HP := Sep.hid hPost_
    clear hPost_
    go_enter Try.func9, Try.ntmps9
    go_wp2_with (refine wpList_on rfl (wp_box rfl hw ?_); intro b_ w_ hw_; clear hw; have hw := hw_; clear hw_; (try simp only [List.map_cons, List.map_nil, List.getD_cons_zero, List.getD_cons_succ, List.getD_nil, List.set_cons_zero, List.set_cons_succ, List.cons_append, List.nil_append, Act.eval, Array.getD_eq_getD_getElem?, List.getElem?_toArray, List.getElem?_cons_succ, List.getElem?_cons_zero, Option.getD_some, Value.cells] at hw); (try simp (disch := first | (simp; done) | (simp; omega)) only [Sep.mid_set, Sep.mid_set2, Sep.mid_set0, Sep.mid_splice, Sep.mid_splice0, List.set_cons_zero, List.set_cons_succ] at hw); (try simp only [Sep.splice, List.take_succ_cons, List.take_zero, List.drop_succ_cons, List.drop_zero, List.length_cons, List.length_nil, Nat.reduceAdd, List.cons_append, List.nil_append] at hw); (try replace hc0 := Sep.Holds.cells hw (i := 0) rfl); (try replace hc1 := Sep.Holds.cells hw (i := 1) rfl); (try replace hc2 := Sep.Holds.cells hw (i := 2) rfl); (try replace hc3 := Sep.Holds.cells hw (i := 3) rfl); (try replace hc4 := Sep.Holds.cells hw (i := 4) rfl); (try replace hc5 := Sep.Holds.cells hw (i := 5) rfl); (try replace hc6 := Sep.Holds.cells hw (i := 6) rfl))
    refine (oSignal p M e _ _ (hw.focus1 1 rfl)).mono ?_
    rintro en_ w_ ⟨v, rfl, hw_⟩
    clear hw; (try clear hc0); (try clear hc1); (try clear hc2); (try clear hc3); (try clear hc4); (try clear hc5); (try clear hc6); have hw := Holds.unfocus1 1 (by simp) hw_; clear hw_
    (try simp only [List.map_cons, List.map_nil, List.getD_cons_zero, List.getD_cons_succ, List.getD_nil, List.set_cons_zero, List.set_cons_succ, List.cons_append, List.nil_append, Act.eval, Array.getD_eq_getD_getElem?, List.getElem?_toArray, List.getElem?_cons_succ, List.getElem?_cons_zero, Option.getD_some, Value.cells] at hw); (try simp (disch := first | (simp; done) | (simp; omega)) only [Sep.mid_set, Sep.mid_set2, Sep.mid_set0, Sep.mid_splice, Sep.mid_splice0, List.set_cons_zero, List.set_cons_succ] at hw); (try simp only [Sep.splice, List.take_succ_cons, List.take_zero, List.drop_succ_cons, List.drop_zero, List.length_cons, List.length_nil, Nat.reduceAdd, List.cons_append, List.nil_append] at hw)
    go_wp2_with fail
    (try simp only [Exit.inBlock, Exit.then]); refine ret3 rfl rfl rfl rfl rfl ?_
    exact HP.out _ _ ⟨_, rfl, hw.sel [0, 1, 3] (by decide)⟩
  · rw [hb, hA]; clear hb hA h0 h1
    refine Sep.calls_post ?_
    intro Post_ hPost_
    have HP := Sep.hid hPost_
    clear hPost_
    go_enter Try.func9, Try.ntmps9
    go_wp2_with (refine wpList_on rfl (wp_box rfl hw ?_); intro b_ w_ hw_; clear hw; have hw := hw_; clear hw_; (try simp only [List.map_cons, List.map_nil, List.getD_cons_zero, List.getD_cons_succ, List.getD_nil, List.set_cons_zero, List.set_cons_succ, List.cons_append, List.nil_append, Act.eval, Array.getD_eq_getD_getElem?, List.getElem?_toArray, List.getElem?_cons_succ, List.getElem?_cons_zero, Option.getD_some, Value.cells] at hw); (try simp (disch := first | (simp; done) | (simp; omega)) only [Sep.mid_set, Sep.mid_set2, Sep.mid_set0, Sep.mid_splice, Sep.mid_splice0, List.set_cons_zero, List.set_cons_succ] at hw); (try simp only [Sep.splice, List.take_succ_cons, List.take_zero, List.drop_succ_cons, List.drop_zero, List.length_cons, List.length_nil, Nat.reduceAdd, List.cons_append, List.nil_append] at hw); (try replace hc0 := Sep.Holds.cells hw (i := 0) rfl); (try replace hc1 := Sep.Holds.cells hw (i := 1) rfl); (try replace hc2 := Sep.Holds.cells hw (i := 2) rfl); (try replace hc3 := Sep.Holds.cells hw (i := 3) rfl); (try replace hc4 := Sep.Holds.cells hw (i := 4) rfl); (try replace hc5 := Sep.Holds.cells hw (i := 5) rfl); (try replace hc6 := Sep.Holds.cells hw (i := 6) rfl))
    refine (oBroadcast p M e _ _ (hw.focus1 1 rfl)).mono ?_
    rintro en_ w_ ⟨v, rfl, hw_⟩
    clear hw; (try clear hc0); (try clear hc1); (try clear hc2); (try clear hc3); (try clear hc4); (try clear hc5); (try clear hc6); have hw := Holds.unfocus1 1 (by simp) hw_; clear hw_
    (try simp only [List.map_cons, List.map_nil, List.getD_cons_zero, List.getD_cons_succ, List.getD_nil, List.set_cons_zero, List.set_cons_succ, List.cons_append, List.nil_append, Act.eval, Array.getD_eq_getD_getElem?, List.getElem?_toArray, List.getElem?_cons_succ, List.getElem?_cons_zero, Option.getD_some, Value.cells] at hw); (try simp (disch := first | (simp; done) | (simp; omega)) only [Sep.mid_set, Sep.mid_set2, Sep.mid_set0, Sep.mid_splice, Sep.mid_splice0, List.set_cons_zero, List.set_cons_succ] at hw); (try simp only [Sep.splice, List.take_succ_cons, List.take_zero, List.drop_succ_cons, List.drop_zero, List.length_cons, List.length_nil, Nat.reduceAdd, List.cons_append, List.nil_append] at hw)
    go_wp2_with fail
    (try simp only [Exit.inBlock, Exit.then]); refine ret3 rfl rfl rfl rfl rfl ?_
    exact HP.out _ _ ⟨_, rfl, hw.sel [0, 1, 3] (by decide)⟩
  · have hlb : M.leave d.f1 = (true, (d.f1, lockOf M.w d.f1), { M with w := outT M.w d.f1 }) := by unfold CM.leave; rw [if_pos ht]
    rw [hb, hA]; clear hb hA h0 h1 h2 ht
    have hlv := fun w X hw => oLeave p M d.f1 e w X hw
    simp only [hlb] at hlv
    refine Sep.calls_post ?_
    intro Post_ hPost_
    have HP := Sep.hid hPost_
    clear hPost_
    go_enter Try.func9, Try.ntmps9
    go_wp2_with (refine wpList_on rfl (wp_box rfl hw ?_); intro b_ w_ hw_; clear hw; have hw := hw_; clear hw_; (try simp only [List.map_cons, List.map_nil, List.getD_cons_zero, List.getD_cons_succ, List.getD_nil, List.set_cons_zero, List.set_cons_succ, List.cons_append, List.nil_append, Act.eval, Array.getD_eq_getD_getElem?, List.getElem?_toArray, List.getElem?_cons_succ, List.getElem?_cons_zero, Option.getD_some, Value.cells] at hw); (try simp (disch := first | (simp; done) | (simp; omega)) only [Sep.mid_set, Sep.mid_set2, Sep.mid_set0, Sep.mid_splice, Sep.mid_splice0, List.set_cons_zero, List.set_cons_succ] at hw); (try simp only [Sep.splice, List.take_succ_cons, List.take_zero, List.drop_succ_cons, List.drop_zero, List.length_cons, List.length_nil, Nat.reduceAdd, List.cons_append, List.nil_append] at hw); (try replace hc0 := Sep.Holds.cells hw (i := 0) rfl); (try replace hc1 := Sep.Holds.cells hw (i := 1) rfl); (try replace hc2 := Sep.Holds.cells hw (i := 2) rfl); (try replace hc3 := Sep.Holds.cells hw (i := 3) rfl); (try replace hc4 := Sep.Holds.cells hw (i := 4) rfl); (try replace hc5 := Sep.Holds.cells hw (i := 5) rfl); (try replace hc6 := Sep.Holds.cells hw (i := 6) rfl))
    refine (hlv _ _ (hw.focus1 1 rfl)).mono ?_
    rintro en_ w_ ⟨rfl, hw_⟩
    clear hw hlv; (try clear hc0); (try clear hc1); (try clear hc2); (try clear hc3); (try clear hc4); (try clear hc5); (try clear hc6); have hw := Holds.unfocus1 1 (by simp) hw_; clear hw_
    (try simp only [List.map_cons, List.map_nil, List.getD_cons_zero, List.getD_cons_succ, List.getD_nil, List.set_cons_zero, List.set_cons_succ, List.cons_append, List.nil_append, Act.eval, Array.getD_eq_getD_getElem?, List.getElem?_toArray, List.getElem?_cons_succ, List.getElem?_cons_zero, Option.getD_some, Value.cells] at hw); (try simp (disch := first | (simp; done) | (simp; omega)) only [Sep.mid_set, Sep.mid_set2, Sep.mid_set0, Sep.mid_splice, Sep.mid_splice0, List.set_cons_zero, List.set_cons_succ] at hw); (try simp only [Sep.splice, List.take_succ_cons, List.take_zero, List.drop_succ_cons, List.drop_zero, List.length_cons, List.length_nil, Nat.reduceAdd, List.cons_append, List.nil_append] at hw)
    go_wp2_with (first | (refine wpList_on rfl (wp_alloc rfl hw ?_); intro b_ w_ hw_; clear hw; have hw := hw_; clear hw_; (try simp only [List.map_cons, List.map_nil, List.getD_cons_zero, List.getD_cons_succ, List.getD_nil, List.set_cons_zero, List.set_cons_succ, List.cons_append, List.nil_append, Act.eval, Array.getD_eq_getD_getElem?, List.getElem?_toArray, List.getElem?_cons_succ, List.getElem?_cons_zero, Option.getD_some, Value.cells] at hw); (try simp (disch := first | (simp; done) | (simp; omega)) only [Sep.mid_set, Sep.mid_set2, Sep.mid_set0, Sep.mid_splice, Sep.mid_splice0, List.set_cons_zero, List.set_cons_succ] at hw); (try simp only [Sep.splice, List.take_succ_cons, List.take_zero, List.drop_succ_cons, List.drop_zero, List.length_cons, List.length_nil, Nat.reduceAdd, List.cons_append, List.nil_append] at hw); (try replace hc0 := Sep.Holds.cells hw (i := 0) rfl); (try replace hc1 := Sep.Holds.cells hw (i := 1) rfl); (try replace hc2 := Sep.Holds.cells hw (i := 2) rfl); (try replace hc3 := Sep.Holds.cells hw (i := 3) rfl); (try replace hc4 := Sep.Holds.cells hw (i := 4) rfl); (try replace hc5 := Sep.Holds.cells hw (i := 5) rfl); (try replace hc6 := Sep.Holds.cells hw (i := 6) rfl)) | (refine wpList_on rfl (wp_storeAll (vs := [.int .i64 d.f1, .int .i64 (lockOf M.w d.f1)]) rfl rfl (by rfl) hw (i := 3) rfl rfl rfl (by simp [Value.oneCell']) ?_); intro w_ hw_; clear hw; have hw := hw_; clear hw_; (try simp only [List.map_cons, List.map_nil, List.getD_cons_zero, List.getD_cons_succ, List.getD_nil, List.set_cons_zero, List.set_cons_succ, List.cons_append, List.nil_append, Act.eval, Array.getD_eq_getD_getElem?, List.getElem?_toArray, List.getElem?_cons_succ, List.getElem?_cons_zero, Option.getD_some, Value.cells] at hw); (try simp (disch := first | (simp; done) | (simp; omega)) only [Sep.mid_set, Sep.mid_set2, Sep.mid_set0, Sep.mid_splice, Sep.mid_splice0, List.set_cons_zero, List.set_cons_succ] at hw); (try simp only [Sep.splice, List.take_succ_cons, List.take_zero, List.drop_succ_cons, List.drop_zero, List.length_cons, List.length_nil, Nat.reduceAdd, List.cons_append, List.nil_append] at hw); (try replace hc0 := Sep.Holds.cells hw (i := 0) rfl); (try replace hc1 := Sep.Holds.cells hw (i := 1) rfl); (try replace hc2 := Sep.Holds.cells hw (i := 2) rfl); (try replace hc3 := Sep.Holds.cells hw (i := 3) rfl); (try replace hc4 := Sep.Holds.cells hw (i := 4) rfl); (try replace hc5 := Sep.Holds.cells hw (i := 5) rfl); (try replace hc6 := Sep.Holds.cells hw (i := 6) rfl)))
    refine wp_region_L [1] [(0, (fun w' => w' = w_.drew))] (n := 5) (listed := (marks 5 0)) (by kernel_rfl) rfl (by kernel_rfl) ?conds1 ?_
    case conds1 =>
     intro c hc
     simp only [List.mem_cons, List.not_mem_nil, or_false] at hc
     rcases hc with rfl
     · rfl
    replace hw := hw.drew
    (try replace hc0 := Sep.Holds.cells hw (i := 0) rfl); (try replace hc1 := Sep.Holds.cells hw (i := 1) rfl); (try replace hc2 := Sep.Holds.cells hw (i := 2) rfl); (try replace hc3 := Sep.Holds.cells hw (i := 3) rfl); (try replace hc4 := Sep.Holds.cells hw (i := 4) rfl); (try replace hc5 := Sep.Holds.cells hw (i := 5) rfl); (try replace hc6 := Sep.Holds.cells hw (i := 6) rfl)
    refine wpL_m 0 ?_ rfl (.head _) (Or.inl ⟨by rfl, fun w_ hS_ => ?_⟩) (marks 5 1) ?_
    rotate_left
    next => (subst hS_; first | (refine Eq.trans (run_loadN (vs := [.int .i64 d.f1, .int .i64 (lockOf M.w d.f1)]) (off := 0) rfl rfl hw (i := 3) rfl rfl (by intro j v hj; simpa using hj)) ?_; rfl) | (go_simp; try (first | rfl | exact (Bool.not_not _).symm)))
    try simp only [Act.put, List.setIfInBounds_toArray, List.set_cons_zero, List.set_cons_succ]
    refine wpL_q 2 ?_ rfl (Or.inl ⟨by rfl, fun w_ hS_ => ?_⟩) (marks 5 5) ?_
    rotate_left
    next => (go_simp; try (first | rfl | exact (Bool.not_not _).symm))
    try simp only [Act.put, List.setIfInBounds_toArray, List.set_cons_zero, List.set_cons_succ]
    refine wpL_q 3 ?_ rfl (Or.inl ⟨by rfl, fun w_ hS_ => ?_⟩) (marks 5 13) ?_
    rotate_left
    next => (go_simp; try (first | rfl | exact (Bool.not_not _).symm))
    try simp only [Act.put, List.setIfInBounds_toArray, List.set_cons_zero, List.set_cons_succ]
    refine wpL_o 1 rfl (by rfl) (marks 5 15) ?_
    (refine wp_bsl1 rfl rfl (by rfl) (by rfl) (by decide) hw ?_; intro b_ w_ hw_; replace hw_ := hw_.newSl (i := 4) rfl 2 1 rfl (by decide); clear hw; have hw := hw_; clear hw_; (try simp only [List.map_cons, List.map_nil, List.getD_cons_zero, List.getD_cons_succ, List.getD_nil, List.set_cons_zero, List.set_cons_succ, List.cons_append, List.nil_append, Act.eval, Array.getD_eq_getD_getElem?, List.getElem?_toArray, List.getElem?_cons_succ, List.getElem?_cons_zero, Option.getD_some, Value.cells] at hw); (try simp (disch := first | (simp; done) | (simp; omega)) only [Sep.mid_set, Sep.mid_set2, Sep.mid_set0, Sep.mid_splice, Sep.mid_splice0, List.set_cons_zero, List.set_cons_succ] at hw); (try simp only [Sep.splice, List.take_succ_cons, List.take_zero, List.drop_succ_cons, List.drop_zero, List.length_cons, List.length_nil, Nat.reduceAdd, List.cons_append, List.nil_append] at hw); (try replace hc0 := Sep.Holds.cells hw (i := 0) rfl); (try replace hc1 := Sep.Holds.cells hw (i := 1) rfl); (try replace hc2 := Sep.Holds.cells hw (i := 2) rfl); (try replace hc3 := Sep.Holds.cells hw (i := 3) rfl); (try replace hc4 := Sep.Holds.cells hw (i := 4) rfl); (try replace hc5 := Sep.Holds.cells hw (i := 5) rfl); (try replace hc6 := Sep.Holds.cells hw (i := 6) rfl))
    refine ⟨(SL.drop 1 (by kernel_rfl) SL.nil), ?_⟩
    try simp only [Act.put, List.setIfInBounds_toArray, List.set_cons_zero, List.set_cons_succ]
    refine wpL_q 4 ?_ rfl (Or.inl ⟨by rfl, fun w_ hS_ => ?_⟩) (marks 5 31) ?_
    rotate_left
    next => (go_simp; try (first | rfl | exact (Bool.not_not _).symm))
    try simp only [Act.put, List.setIfInBounds_toArray, List.set_cons_zero, List.set_cons_succ]
    all_goals refine wpL_done (by kernel_rfl) ?_ _
    go_wp2_with fail
    (try simp only [Exit.inBlock, Exit.then]); refine ret3 rfl rfl rfl rfl rfl ?_
    exact HP.out _ _ ⟨_, rfl, hw.sel [0, 1, 4] (by decide)⟩
  · have hlb : M.leave d.f1 = (false, (0, 0), M) := by unfold CM.leave; rw [if_neg ht]
    rw [hb, hA]; clear hb hA h0 h1 h2 ht
    have hlv := fun w X hw => oLeave p M d.f1 e w X hw
    simp only [hlb] at hlv
    refine Sep.calls_post ?_
    intro Post_ hPost_
    have HP := Sep.hid hPost_
    clear hPost_
    go_enter Try.func9, Try.ntmps9
    go_wp2_with (refine wpList_on rfl (wp_box rfl hw ?_); intro b_ w_ hw_; clear hw; have hw := hw_; clear hw_; (try simp only [List.map_cons, List.map_nil, List.getD_cons_zero, List.getD_cons_succ, List.getD_nil, List.set_cons_zero, List.set_cons_succ, List.cons_append, List.nil_append, Act.eval, Array.getD_eq_getD_getElem?, List.getElem?_toArray, List.getElem?_cons_succ, List.getElem?_cons_zero, Option.getD_some, Value.cells] at hw); (try simp (disch := first | (simp; done) | (simp; omega)) only [Sep.mid_set, Sep.mid_set2, Sep.mid_set0, Sep.mid_splice, Sep.mid_splice0, List.set_cons_zero, List.set_cons_succ] at hw); (try simp only [Sep.splice, List.take_succ_cons, List.take_zero, List.drop_succ_cons, List.drop_zero, List.length_cons, List.length_nil, Nat.reduceAdd, List.cons_append, List.nil_append] at hw); (try replace hc0 := Sep.Holds.cells hw (i := 0) rfl); (try replace hc1 := Sep.Holds.cells hw (i := 1) rfl); (try replace hc2 := Sep.Holds.cells hw (i := 2) rfl); (try replace hc3 := Sep.Holds.cells hw (i := 3) rfl); (try replace hc4 := Sep.Holds.cells hw (i := 4) rfl); (try replace hc5 := Sep.Holds.cells hw (i := 5) rfl); (try replace hc6 := Sep.Holds.cells hw (i := 6) rfl))
    refine (hlv _ _ (hw.focus1 1 rfl)).mono ?_
    rintro en_ w_ ⟨rfl, hw_⟩
    clear hw hlv; (try clear hc0); (try clear hc1); (try clear hc2); (try clear hc3); (try clear hc4); (try clear hc5); (try clear hc6); have hw := Holds.unfocus1 1 (by simp) hw_; clear hw_
    (try simp only [List.map_cons, List.map_nil, List.getD_cons_zero, List.getD_cons_succ, List.getD_nil, List.set_cons_zero, List.set_cons_succ, List.cons_append, List.nil_append, Act.eval, Array.getD_eq_getD_getElem?, List.getElem?_toArray, List.getElem?_cons_succ, List.getElem?_cons_zero, Option.getD_some, Value.cells] at hw); (try simp (disch := first | (simp; done) | (simp; omega)) only [Sep.mid_set, Sep.mid_set2, Sep.mid_set0, Sep.mid_splice, Sep.mid_splice0, List.set_cons_zero, List.set_cons_succ] at hw); (try simp only [Sep.splice, List.take_succ_cons, List.take_zero, List.drop_succ_cons, List.drop_zero, List.length_cons, List.length_nil, Nat.reduceAdd, List.cons_append, List.nil_append] at hw)
    go_wp2_with (first | (refine wpList_on rfl (wp_alloc rfl hw ?_); intro b_ w_ hw_; clear hw; have hw := hw_; clear hw_; (try simp only [List.map_cons, List.map_nil, List.getD_cons_zero, List.getD_cons_succ, List.getD_nil, List.set_cons_zero, List.set_cons_succ, List.cons_append, List.nil_append, Act.eval, Array.getD_eq_getD_getElem?, List.getElem?_toArray, List.getElem?_cons_succ, List.getElem?_cons_zero, Option.getD_some, Value.cells] at hw); (try simp (disch := first | (simp; done) | (simp; omega)) only [Sep.mid_set, Sep.mid_set2, Sep.mid_set0, Sep.mid_splice, Sep.mid_splice0, List.set_cons_zero, List.set_cons_succ] at hw); (try simp only [Sep.splice, List.take_succ_cons, List.take_zero, List.drop_succ_cons, List.drop_zero, List.length_cons, List.length_nil, Nat.reduceAdd, List.cons_append, List.nil_append] at hw); (try replace hc0 := Sep.Holds.cells hw (i := 0) rfl); (try replace hc1 := Sep.Holds.cells hw (i := 1) rfl); (try replace hc2 := Sep.Holds.cells hw (i := 2) rfl); (try replace hc3 := Sep.Holds.cells hw (i := 3) rfl); (try replace hc4 := Sep.Holds.cells hw (i := 4) rfl); (try replace hc5 := Sep.Holds.cells hw (i := 5) rfl); (try replace hc6 := Sep.Holds.cells hw (i := 6) rfl)) | (refine wpList_on rfl (wp_storeAll (vs := [.int .i64 0, .int .i64 0]) rfl rfl (by rfl) hw (i := 3) rfl rfl rfl (by simp [Value.oneCell']) ?_); intro w_ hw_; clear hw; have hw := hw_; clear hw_; (try simp only [List.map_cons, List.map_nil, List.getD_cons_zero, List.getD_cons_succ, List.getD_nil, List.set_cons_zero, List.set_cons_succ, List.cons_append, List.nil_append, Act.eval, Array.getD_eq_getD_getElem?, List.getElem?_toArray, List.getElem?_cons_succ, List.getElem?_cons_zero, Option.getD_some, Value.cells] at hw); (try simp (disch := first | (simp; done) | (simp; omega)) only [Sep.mid_set, Sep.mid_set2, Sep.mid_set0, Sep.mid_splice, Sep.mid_splice0, List.set_cons_zero, List.set_cons_succ] at hw); (try simp only [Sep.splice, List.take_succ_cons, List.take_zero, List.drop_succ_cons, List.drop_zero, List.length_cons, List.length_nil, Nat.reduceAdd, List.cons_append, List.nil_append] at hw); (try replace hc0 := Sep.Holds.cells hw (i := 0) rfl); (try replace hc1 := Sep.Holds.cells hw (i := 1) rfl); (try replace hc2 := Sep.Holds.cells hw (i := 2) rfl); (try replace hc3 := Sep.Holds.cells hw (i := 3) rfl); (try replace hc4 := Sep.Holds.cells hw (i := 4) rfl); (try replace hc5 := Sep.Holds.cells hw (i := 5) rfl); (try replace hc6 := Sep.Holds.cells hw (i := 6) rfl)))
    (try simp only [Exit.inBlock, Exit.then]); refine ret3 rfl rfl rfl rfl rfl ?_
    have hw := hw.addEmp (X := IsTolds 50 (.slice none 0 0) []) (Sl.nil _ _ _)
    exact HP.out _ _ ⟨_, rfl, hw.sel [0, 1, 4] (by decide)⟩
  · rw [hb, hA]; clear hb hA
    refine Sep.calls_post ?_
    intro Post_ hPost_
    have HP := Sep.hid hPost_
    clear hPost_
    go_enter Try.func9, Try.ntmps9
    go_wp2_with (refine wpList_on rfl (wp_box rfl hw ?_); intro b_ w_ hw_; clear hw; have hw := hw_; clear hw_; (try simp only [List.map_cons, List.map_nil, List.getD_cons_zero, List.getD_cons_succ, List.getD_nil, List.set_cons_zero, List.set_cons_succ, List.cons_append, List.nil_append, Act.eval, Array.getD_eq_getD_getElem?, List.getElem?_toArray, List.getElem?_cons_succ, List.getElem?_cons_zero, Option.getD_some, Value.cells] at hw); (try simp (disch := first | (simp; done) | (simp; omega)) only [Sep.mid_set, Sep.mid_set2, Sep.mid_set0, Sep.mid_splice, Sep.mid_splice0, List.set_cons_zero, List.set_cons_succ] at hw); (try simp only [Sep.splice, List.take_succ_cons, List.take_zero, List.drop_succ_cons, List.drop_zero, List.length_cons, List.length_nil, Nat.reduceAdd, List.cons_append, List.nil_append] at hw); (try replace hc0 := Sep.Holds.cells hw (i := 0) rfl); (try replace hc1 := Sep.Holds.cells hw (i := 1) rfl); (try replace hc2 := Sep.Holds.cells hw (i := 2) rfl); (try replace hc3 := Sep.Holds.cells hw (i := 3) rfl); (try replace hc4 := Sep.Holds.cells hw (i := 4) rfl); (try replace hc5 := Sep.Holds.cells hw (i := 5) rfl); (try replace hc6 := Sep.Holds.cells hw (i := 6) rfl))
    (try simp only [Exit.inBlock, Exit.then]); refine ret3 rfl rfl rfl rfl rfl ?_
    have hw := hw.addEmp (X := IsTolds 50 (.slice none 0 0) []) (Sl.nil _ _ _)
    exact HP.out _ _ ⟨_, rfl, hw.sel [0, 1, 3] (by decide)⟩
end Go.Proofs.Ytcefnihhlbeebaa
