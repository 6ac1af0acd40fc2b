/-
  CodeTells: the walk.
-/
import Derived.Test.YtmokklkckecmdaaDoorCodeV
namespace Go.Proofs.YtmokklkckecmdaaDoor
set_option linter.unusedSimpArgs false
set_option linter.unusedVariables false
open Go.RowKit Go.Sep

set_option maxRecDepth 20000 in
set_option maxHeartbeats 16000000 in
theorem code_tells_walk (e : World) (op n : Int) (x : Deed) (al am ab : Option Addr) (cl cm cb : Nat) (l m : List Deed) (b : List Int) (hT : TopsAt e) (hl : ActsAt e al l) (hm : ActsAt e am m) (hb : BytesAt e ab b) (hcb : b.length ≤ cb) :
    Calls Tryd.prog 3 #[.int .i64 op, .agg (encA x).toArray, .int .i64 n, .slice al l.length cl, .slice am m.length cm, .slice ab b.length cb] e fun en w' => en = .returned (.bool true) ∧ Holds e w' [Old e] := by
  have hw := Holds.start e
  have HT := Sep.hid (old_tops hT)
  have HRl := Sep.hid (old_acts hl)
  have HRm := Sep.hid (old_acts hm)
  have HRb := Sep.hid (old_bytes hb)
  have Hbys := Sep.hid (bytes_bys hb)
  clear hT hl hm hb
  generalize hll : l.length = ll at *
  generalize hlm : m.length = lm at *
  generalize hlb : b.length = lb at *
  have Hll := Sep.hid hll; have Hlm := Sep.hid hlm; have Hlb := Sep.hid hlb; clear hll hlm hlb
  have hA : encA x = [.int .i64 x.f0, .int .i64 x.f1, .int .i64 x.f2, .int .i64 x.f3] := rfl
  rw [hA]; clear hA
  by_cases h1 : (60 : Int) < ll
  · refine Sep.calls_post ?_
    intro Post_ hPost_
    have HP := Sep.hid hPost_
    clear hPost_
    go_enter Tryd.func3, Tryd.ntmps3
    go_wp2_with (first | (refine wpList_on rfl (wp_box rfl hw ?_); intro b_ w_ hw_; clear hw; have hw := hw_; clear hw_; (try simp only [List.map_cons, List.map_nil, List.getD_cons_zero, List.getD_cons_succ, List.getD_nil, List.set_cons_zero, List.set_cons_succ, List.cons_append, List.nil_append, Act.eval, Array.getD_eq_getD_getElem?, List.getElem?_toArray, List.getElem?_cons_succ, List.getElem?_cons_zero, Option.getD_some, Value.cells] at hw); (try simp (disch := first | (simp; done) | (simp; omega)) only [Sep.mid_set, Sep.mid_set2, Sep.mid_set0, Sep.mid_splice, Sep.mid_splice0, List.set_cons_zero, List.set_cons_succ] at hw); (try simp only [Sep.splice, List.take_succ_cons, List.take_zero, List.drop_succ_cons, List.drop_zero, List.length_cons, List.length_nil, Nat.reduceAdd, List.cons_append, List.nil_append] at hw); (try replace hc0 := Sep.Holds.cells hw (i := 0) rfl); (try replace hc1 := Sep.Holds.cells hw (i := 1) rfl); (try replace hc2 := Sep.Holds.cells hw (i := 2) rfl); (try replace hc3 := Sep.Holds.cells hw (i := 3) rfl); (try replace hc4 := Sep.Holds.cells hw (i := 4) rfl); (try replace hc5 := Sep.Holds.cells hw (i := 5) rfl); (try replace hc6 := Sep.Holds.cells hw (i := 6) rfl)))
    refine (awake_ok e _ _ HT.out.sep hw.focus0).mono ?_
    rintro _ w_ ⟨rfl, hw_⟩
    clear hw; (try clear hc0); (try clear hc1); (try clear hc2); (try clear hc3); (try clear hc4); (try clear hc5); (try clear hc6); have hw := Holds.unfocus0 hw_; clear hw_; (try simp only [List.map_cons, List.map_nil, List.getD_cons_zero, List.getD_cons_succ, List.getD_nil, List.set_cons_zero, List.set_cons_succ, List.cons_append, List.nil_append, Act.eval, Array.getD_eq_getD_getElem?, List.getElem?_toArray, List.getElem?_cons_succ, List.getElem?_cons_zero, Option.getD_some, Value.cells] at hw); (try simp (disch := first | (simp; done) | (simp; omega)) only [Sep.mid_set, Sep.mid_set2, Sep.mid_set0, Sep.mid_splice, Sep.mid_splice0, List.set_cons_zero, List.set_cons_succ] at hw); (try simp only [Sep.splice, List.take_succ_cons, List.take_zero, List.drop_succ_cons, List.drop_zero, List.length_cons, List.length_nil, Nat.reduceAdd, List.cons_append, List.nil_append] at hw)
    go_wp2_with fail
    exact HP.out _ _ ⟨rfl, hw.sel [0] (by decide)⟩
  by_cases h2 : (60 : Int) < lm
  · refine Sep.calls_post ?_
    intro Post_ hPost_
    have HP := Sep.hid hPost_
    clear hPost_
    go_enter Tryd.func3, Tryd.ntmps3
    go_wp2_with (first | (refine wpList_on rfl (wp_box rfl hw ?_); intro b_ w_ hw_; clear hw; have hw := hw_; clear hw_; (try simp only [List.map_cons, List.map_nil, List.getD_cons_zero, List.getD_cons_succ, List.getD_nil, List.set_cons_zero, List.set_cons_succ, List.cons_append, List.nil_append, Act.eval, Array.getD_eq_getD_getElem?, List.getElem?_toArray, List.getElem?_cons_succ, List.getElem?_cons_zero, Option.getD_some, Value.cells] at hw); (try simp (disch := first | (simp; done) | (simp; omega)) only [Sep.mid_set, Sep.mid_set2, Sep.mid_set0, Sep.mid_splice, Sep.mid_splice0, List.set_cons_zero, List.set_cons_succ] at hw); (try simp only [Sep.splice, List.take_succ_cons, List.take_zero, List.drop_succ_cons, List.drop_zero, List.length_cons, List.length_nil, Nat.reduceAdd, List.cons_append, List.nil_append] at hw); (try replace hc0 := Sep.Holds.cells hw (i := 0) rfl); (try replace hc1 := Sep.Holds.cells hw (i := 1) rfl); (try replace hc2 := Sep.Holds.cells hw (i := 2) rfl); (try replace hc3 := Sep.Holds.cells hw (i := 3) rfl); (try replace hc4 := Sep.Holds.cells hw (i := 4) rfl); (try replace hc5 := Sep.Holds.cells hw (i := 5) rfl); (try replace hc6 := Sep.Holds.cells hw (i := 6) rfl)))
    refine (awake_ok e _ _ HT.out.sep hw.focus0).mono ?_
    rintro _ w_ ⟨rfl, hw_⟩
    clear hw; (try clear hc0); (try clear hc1); (try clear hc2); (try clear hc3); (try clear hc4); (try clear hc5); (try clear hc6); have hw := Holds.unfocus0 hw_; clear hw_; (try simp only [List.map_cons, List.map_nil, List.getD_cons_zero, List.getD_cons_succ, List.getD_nil, List.set_cons_zero, List.set_cons_succ, List.cons_append, List.nil_append, Act.eval, Array.getD_eq_getD_getElem?, List.getElem?_toArray, List.getElem?_cons_succ, List.getElem?_cons_zero, Option.getD_some, Value.cells] at hw); (try simp (disch := first | (simp; done) | (simp; omega)) only [Sep.mid_set, Sep.mid_set2, Sep.mid_set0, Sep.mid_splice, Sep.mid_splice0, List.set_cons_zero, List.set_cons_succ] at hw); (try simp only [Sep.splice, List.take_succ_cons, List.take_zero, List.drop_succ_cons, List.drop_zero, List.length_cons, List.length_nil, Nat.reduceAdd, List.cons_append, List.nil_append] at hw)
    go_wp2_with fail
    exact HP.out _ _ ⟨rfl, hw.sel [0] (by decide)⟩
  by_cases h3 : (1000 : Int) < lb
  · refine Sep.calls_post ?_
    intro Post_ hPost_
    have HP := Sep.hid hPost_
    clear hPost_
    go_enter Tryd.func3, Tryd.ntmps3
    go_wp2_with (first | (refine wpList_on rfl (wp_box rfl hw ?_); intro b_ w_ hw_; clear hw; have hw := hw_; clear hw_; (try simp only [List.map_cons, List.map_nil, List.getD_cons_zero, List.getD_cons_succ, List.getD_nil, List.set_cons_zero, List.set_cons_succ, List.cons_append, List.nil_append, Act.eval, Array.getD_eq_getD_getElem?, List.getElem?_toArray, List.getElem?_cons_succ, List.getElem?_cons_zero, Option.getD_some, Value.cells] at hw); (try simp (disch := first | (simp; done) | (simp; omega)) only [Sep.mid_set, Sep.mid_set2, Sep.mid_set0, Sep.mid_splice, Sep.mid_splice0, List.set_cons_zero, List.set_cons_succ] at hw); (try simp only [Sep.splice, List.take_succ_cons, List.take_zero, List.drop_succ_cons, List.drop_zero, List.length_cons, List.length_nil, Nat.reduceAdd, List.cons_append, List.nil_append] at hw); (try replace hc0 := Sep.Holds.cells hw (i := 0) rfl); (try replace hc1 := Sep.Holds.cells hw (i := 1) rfl); (try replace hc2 := Sep.Holds.cells hw (i := 2) rfl); (try replace hc3 := Sep.Holds.cells hw (i := 3) rfl); (try replace hc4 := Sep.Holds.cells hw (i := 4) rfl); (try replace hc5 := Sep.Holds.cells hw (i := 5) rfl); (try replace hc6 := Sep.Holds.cells hw (i := 6) rfl)))
    refine (awake_ok e _ _ HT.out.sep hw.focus0).mono ?_
    rintro _ w_ ⟨rfl, hw_⟩
    clear hw; (try clear hc0); (try clear hc1); (try clear hc2); (try clear hc3); (try clear hc4); (try clear hc5); (try clear hc6); have hw := Holds.unfocus0 hw_; clear hw_; (try simp only [List.map_cons, List.map_nil, List.getD_cons_zero, List.getD_cons_succ, List.getD_nil, List.set_cons_zero, List.set_cons_succ, List.cons_append, List.nil_append, Act.eval, Array.getD_eq_getD_getElem?, List.getElem?_toArray, List.getElem?_cons_succ, List.getElem?_cons_zero, Option.getD_some, Value.cells] at hw); (try simp (disch := first | (simp; done) | (simp; omega)) only [Sep.mid_set, Sep.mid_set2, Sep.mid_set0, Sep.mid_splice, Sep.mid_splice0, List.set_cons_zero, List.set_cons_succ] at hw); (try simp only [Sep.splice, List.take_succ_cons, List.take_zero, List.drop_succ_cons, List.drop_zero, List.length_cons, List.length_nil, Nat.reduceAdd, List.cons_append, List.nil_append] at hw)
    go_wp2_with fail
    exact HP.out _ _ ⟨rfl, hw.sel [0] (by decide)⟩
  have Hb := Sep.hid (show ll ≤ 60 ∧ lm ≤ 60 ∧ l.length ≤ 60 ∧ m.length ≤ 60 ∧ (bL l).length ≤ 1000 ∧ (readP b).1.length ≤ 24 by
    have e1 := Hll.out
    have e2 := Hlm.out
    refine ⟨by omega, by omega, by omega, by omega, bL_len l (by omega), readP_len b⟩)
  refine Sep.calls_post ?_
  intro Post_ hPost_
  have HP := Sep.hid hPost_
  clear hPost_
  go_enter Tryd.func3, Tryd.ntmps3
  go_wp2_with (first | (refine wpList_on rfl (wp_box rfl hw ?_); intro b_ w_ hw_; clear hw; have hw := hw_; clear hw_; (try simp only [List.map_cons, List.map_nil, List.getD_cons_zero, List.getD_cons_succ, List.getD_nil, List.set_cons_zero, List.set_cons_succ, List.cons_append, List.nil_append, Act.eval, Array.getD_eq_getD_getElem?, List.getElem?_toArray, List.getElem?_cons_succ, List.getElem?_cons_zero, Option.getD_some, Value.cells] at hw); (try simp (disch := first | (simp; done) | (simp; omega)) only [Sep.mid_set, Sep.mid_set2, Sep.mid_set0, Sep.mid_splice, Sep.mid_splice0, List.set_cons_zero, List.set_cons_succ] at hw); (try simp only [Sep.splice, List.take_succ_cons, List.take_zero, List.drop_succ_cons, List.drop_zero, List.length_cons, List.length_nil, Nat.reduceAdd, List.cons_append, List.nil_append] at hw); (try replace hc0 := Sep.Holds.cells hw (i := 0) rfl); (try replace hc1 := Sep.Holds.cells hw (i := 1) rfl); (try replace hc2 := Sep.Holds.cells hw (i := 2) rfl); (try replace hc3 := Sep.Holds.cells hw (i := 3) rfl); (try replace hc4 := Sep.Holds.cells hw (i := 4) rfl); (try replace hc5 := Sep.Holds.cells hw (i := 5) rfl); (try replace hc6 := Sep.Holds.cells hw (i := 6) rfl)))
  refine (awake_ok e _ _ HT.out.sep hw.focus0).mono ?_
  rintro _ w_ ⟨rfl, hw_⟩
  clear hw; (try clear hc0); (try clear hc1); (try clear hc2); (try clear hc3); (try clear hc4); (try clear hc5); (try clear hc6); have hw := Holds.unfocus0 hw_; clear hw_; (try simp only [List.map_cons, List.map_nil, List.getD_cons_zero, List.getD_cons_succ, List.getD_nil, List.set_cons_zero, List.set_cons_succ, List.cons_append, List.nil_append, Act.eval, Array.getD_eq_getD_getElem?, List.getElem?_toArray, List.getElem?_cons_succ, List.getElem?_cons_zero, Option.getD_some, Value.cells] at hw); (try simp (disch := first | (simp; done) | (simp; omega)) only [Sep.mid_set, Sep.mid_set2, Sep.mid_set0, Sep.mid_splice, Sep.mid_splice0, List.set_cons_zero, List.set_cons_succ] at hw); (try simp only [Sep.splice, List.take_succ_cons, List.take_zero, List.drop_succ_cons, List.drop_zero, List.length_cons, List.length_nil, Nat.reduceAdd, List.cons_append, List.nil_append] at hw)
  go_wp2_with fail
  refine (oBytesX l ll cl al Hll e _ _ HT.out.sep (HRl.out.at 0 rfl) hw.focus0).mono ?_
  rintro _ w_ ⟨v1, rfl, hw_⟩
  clear hw; (try clear hc0); (try clear hc1); (try clear hc2); (try clear hc3); (try clear hc4); (try clear hc5); (try clear hc6); have hw := Holds.unfocus0 hw_; clear hw_; (try simp only [List.map_cons, List.map_nil, List.getD_cons_zero, List.getD_cons_succ, List.getD_nil, List.set_cons_zero, List.set_cons_succ, List.cons_append, List.nil_append, Act.eval, Array.getD_eq_getD_getElem?, List.getElem?_toArray, List.getElem?_cons_succ, List.getElem?_cons_zero, Option.getD_some, Value.cells] at hw); (try simp (disch := first | (simp; done) | (simp; omega)) only [Sep.mid_set, Sep.mid_set2, Sep.mid_set0, Sep.mid_splice, Sep.mid_splice0, List.set_cons_zero, List.set_cons_succ] at hw); (try simp only [Sep.splice, List.take_succ_cons, List.take_zero, List.drop_succ_cons, List.drop_zero, List.length_cons, List.length_nil, Nat.reduceAdd, List.cons_append, List.nil_append] at hw)
  obtain ⟨a1, k1, rfl⟩ := Sl.value (i := 2) rfl hw
  go_wp2_with fail
  refine (own_calls l ll cl al Hll (by have := Hb.out; omega) e _ _ (HRl.out.at 0 rfl) hw.focus0).mono ?_
  rintro _ w_ ⟨v2, rfl, hw_⟩
  clear hw; (try clear hc0); (try clear hc1); (try clear hc2); (try clear hc3); (try clear hc4); (try clear hc5); (try clear hc6); have hw := Holds.unfocus0 hw_; clear hw_; (try simp only [List.map_cons, List.map_nil, List.getD_cons_zero, List.getD_cons_succ, List.getD_nil, List.set_cons_zero, List.set_cons_succ, List.cons_append, List.nil_append, Act.eval, Array.getD_eq_getD_getElem?, List.getElem?_toArray, List.getElem?_cons_succ, List.getElem?_cons_zero, Option.getD_some, Value.cells] at hw); (try simp (disch := first | (simp; done) | (simp; omega)) only [Sep.mid_set, Sep.mid_set2, Sep.mid_set0, Sep.mid_splice, Sep.mid_splice0, List.set_cons_zero, List.set_cons_succ] at hw); (try simp only [Sep.splice, List.take_succ_cons, List.take_zero, List.drop_succ_cons, List.drop_zero, List.length_cons, List.length_nil, Nat.reduceAdd, List.cons_append, List.nil_append] at hw)
  obtain ⟨a2, k2, rfl⟩ := Sl.value (i := 3) rfl hw
  go_wp2_with fail
  refine (rBytesX l l.length k2 a2 (Sep.hid rfl) (by have := Hb.out; omega) e _ _ (rdA.at 3 rfl) hw.focus0).mono ?_
  rintro _ w_ ⟨v3, rfl, hw_⟩
  clear hw; (try clear hc0); (try clear hc1); (try clear hc2); (try clear hc3); (try clear hc4); (try clear hc5); (try clear hc6); have hw := Holds.unfocus0 hw_; clear hw_; (try simp only [List.map_cons, List.map_nil, List.getD_cons_zero, List.getD_cons_succ, List.getD_nil, List.set_cons_zero, List.set_cons_succ, List.cons_append, List.nil_append, Act.eval, Array.getD_eq_getD_getElem?, List.getElem?_toArray, List.getElem?_cons_succ, List.getElem?_cons_zero, Option.getD_some, Value.cells] at hw); (try simp (disch := first | (simp; done) | (simp; omega)) only [Sep.mid_set, Sep.mid_set2, Sep.mid_set0, Sep.mid_splice, Sep.mid_splice0, List.set_cons_zero, List.set_cons_succ] at hw); (try simp only [Sep.splice, List.take_succ_cons, List.take_zero, List.drop_succ_cons, List.drop_zero, List.length_cons, List.length_nil, Nat.reduceAdd, List.cons_append, List.nil_append] at hw)
  obtain ⟨a3, k3, rfl⟩ := Sl.value (i := 4) rfl hw
  have hw := hw.sel [0, 1, 2, 4] (by decide)
  (try simp only [List.map_cons, List.map_nil, List.getD_cons_zero, List.getD_cons_succ, List.getD_nil, List.set_cons_zero, List.set_cons_succ, List.cons_append, List.nil_append, Act.eval, Array.getD_eq_getD_getElem?, List.getElem?_toArray, List.getElem?_cons_succ, List.getElem?_cons_zero, Option.getD_some, Value.cells] at hw); (try simp (disch := first | (simp; done) | (simp; omega)) only [Sep.mid_set, Sep.mid_set2, Sep.mid_set0, Sep.mid_splice, Sep.mid_splice0, List.set_cons_zero, List.set_cons_succ] at hw); (try simp only [Sep.splice, List.take_succ_cons, List.take_zero, List.drop_succ_cons, List.drop_zero, List.length_cons, List.length_nil, Nat.reduceAdd, List.cons_append, List.nil_append] at hw)
  go_wp2_with fail
  refine (oRead b lb cb ab Hlb hcb Hbys.out e _ _ HT.out.sep (HRb.out.at 0 rfl) hw.focus0).mono ?_
  rintro _ w_ ⟨v4, rfl, hw_⟩
  clear hw; (try clear hc0); (try clear hc1); (try clear hc2); (try clear hc3); (try clear hc4); (try clear hc5); (try clear hc6); have hw := Holds.unfocus0 hw_; clear hw_; (try simp only [List.map_cons, List.map_nil, List.getD_cons_zero, List.getD_cons_succ, List.getD_nil, List.set_cons_zero, List.set_cons_succ, List.cons_append, List.nil_append, Act.eval, Array.getD_eq_getD_getElem?, List.getElem?_toArray, List.getElem?_cons_succ, List.getElem?_cons_zero, Option.getD_some, Value.cells] at hw); (try simp (disch := first | (simp; done) | (simp; omega)) only [Sep.mid_set, Sep.mid_set2, Sep.mid_set0, Sep.mid_splice, Sep.mid_splice0, List.set_cons_zero, List.set_cons_succ] at hw); (try simp only [Sep.splice, List.take_succ_cons, List.take_zero, List.drop_succ_cons, List.drop_zero, List.length_cons, List.length_nil, Nat.reduceAdd, List.cons_append, List.nil_append] at hw)
  obtain ⟨a4, k4, rfl⟩ := Sl.value (i := 4) rfl hw
  go_wp2_with fail
  refine (rRead b lb cb ab Hlb hcb Hbys.out e _ _ (HRb.out.at 0 rfl) hw.focus0).mono ?_
  rintro _ w_ ⟨v5, rfl, hw_⟩
  clear hw; (try clear hc0); (try clear hc1); (try clear hc2); (try clear hc3); (try clear hc4); (try clear hc5); (try clear hc6); have hw := Holds.unfocus0 hw_; clear hw_; (try simp only [List.map_cons, List.map_nil, List.getD_cons_zero, List.getD_cons_succ, List.getD_nil, List.set_cons_zero, List.set_cons_succ, List.cons_append, List.nil_append, Act.eval, Array.getD_eq_getD_getElem?, List.getElem?_toArray, List.getElem?_cons_succ, List.getElem?_cons_zero, Option.getD_some, Value.cells] at hw); (try simp (disch := first | (simp; done) | (simp; omega)) only [Sep.mid_set, Sep.mid_set2, Sep.mid_set0, Sep.mid_splice, Sep.mid_splice0, List.set_cons_zero, List.set_cons_succ] at hw); (try simp only [Sep.splice, List.take_succ_cons, List.take_zero, List.drop_succ_cons, List.drop_zero, List.length_cons, List.length_nil, Nat.reduceAdd, List.cons_append, List.nil_append] at hw)
  obtain ⟨a5, k5, rfl⟩ := Sl.value (i := 5) rfl hw
  go_wp2_with fail
  refine wp_region_L [1, 3, 8, 11, 16, 18, 19, 25, 34, 36, 51, 53, 55, 56] [(6, (fun w' => Holds e w' [pt b_ [.int .i64 x.f0, .int .i64 x.f1, .int .i64 x.f2, .int .i64 x.f3] 23])), (9, (fun w' => Holds e w' [pt b_ [.int .i64 x.f0, .int .i64 x.f1, .int .i64 x.f2, .int .i64 x.f3] 23]))] (n := 60) (listed := (marks 60 0)) (by kernel_rfl) rfl (by kernel_rfl) ?conds1 ?_
  case conds1 =>
   intro c hc
   simp only [List.mem_cons, List.not_mem_nil, or_false] at hc
   rcases hc with rfl | rfl
   · exact (by replace hw := hw.drew; exact hw.sel [1] (by decide))
   · exact (by replace hw := hw.drew; exact hw.sel [1] (by decide))
  replace hw := hw.drew
  (try replace hc0 := Sep.Holds.cells hw (i := 0) rfl); (try replace hc1 := Sep.Holds.cells hw (i := 1) rfl); (try replace hc2 := Sep.Holds.cells hw (i := 2) rfl); (try replace hc3 := Sep.Holds.cells hw (i := 3) rfl); (try replace hc4 := Sep.Holds.cells hw (i := 4) rfl); (try replace hc5 := Sep.Holds.cells hw (i := 5) rfl); (try replace hc6 := Sep.Holds.cells hw (i := 6) rfl)
  refine wpL_q 0 ?_ rfl (Or.inl ⟨by rfl, fun w_ hS_ => ?_⟩) (marks 60 1) ?_
  rotate_left
  next => (go_simp; try (first | rfl | exact (Bool.not_not _).symm))
  try simp only [Act.put, List.setIfInBounds_toArray, List.set_cons_zero, List.set_cons_succ]
  refine wpL_q 2 ?_ rfl (Or.inl ⟨by rfl, fun w_ hS_ => ?_⟩) (marks 60 5) ?_
  rotate_left
  next => (go_simp; try (first | rfl | exact (Bool.not_not _).symm))
  try simp only [Act.put, List.setIfInBounds_toArray, List.set_cons_zero, List.set_cons_succ]
  refine wpL_o 1 rfl (by rfl) (marks 60 7) ?_
  (go_simp; go_at_call 12; refine (oForm op _).mono ?_; rintro _ w2_ ⟨rfl, h2_⟩; subst h2_)
  refine ⟨(SL.keep (by exact hw.sel [1] (by decide)) (SL.keep (by exact hw.sel [1] (by decide)) SL.nil)), ?_⟩
  try simp only [Act.put, List.setIfInBounds_toArray, List.set_cons_zero, List.set_cons_succ]
  refine wpL_o 3 rfl (by rfl) (marks 60 15) ?_
  (go_simp; go_at_call 13; refine (rForm op _).mono ?_; rintro _ w2_ ⟨rfl, h2_⟩; subst h2_)
  refine ⟨(SL.keep (by exact hw.sel [1] (by decide)) (SL.keep (by exact hw.sel [1] (by decide)) SL.nil)), ?_⟩
  try simp only [Act.put, List.setIfInBounds_toArray, List.set_cons_zero, List.set_cons_succ]
  refine wpL_q 4 ?_ rfl (Or.inl ⟨by rfl, fun w_ hS_ => ?_⟩) (marks 60 31) ?_
  rotate_left
  next => (go_simp; try (first | rfl | exact (Bool.not_not _).symm))
  try simp only [Act.put, List.setIfInBounds_toArray, List.set_cons_zero, List.set_cons_succ]
  refine wpL_b 5 ?_ rfl (Or.inl ⟨by rfl, fun w_ hS_ => ?_⟩) (marks 60 63) ?_
  rotate_left
  next => (go_simp; try (first | rfl | exact (Bool.not_not _).symm))
  intro bb_ hg5
  cases bb_
  case' true =>
   (try simp only [decide_eq_true_eq, decide_eq_false_iff_not, beq_iff_eq, beq_eq_false_iff_ne, bne_iff_ne, bne_eq_false_iff_eq, Bool.not_eq_true', Bool.not_eq_false', Int.not_lt, Int.not_le] at hg5)
   first | (cases hg5; done) | (exfalso; omega; done) | skip
   all_goals
    try replace hg5 := Sep.hid hg5
    try simp only [Act.put, List.setIfInBounds_toArray, List.set_cons_zero, List.set_cons_succ]
    refine wpL_m 6 ?_ rfl (.head _) (Or.inl ⟨by rfl, fun w_ hS_ => ?_⟩) (marks 60 127) ?_
    rotate_left
    next => (dsimp only at hS_; (try have q0 := Sep.Holds.cells hS_ (i := 0) rfl); (try have q1 := Sep.Holds.cells hS_ (i := 1) rfl); (try have q2 := Sep.Holds.cells hS_ (i := 2) rfl); (try have q3 := Sep.Holds.cells hS_ (i := 3) rfl); (try have q4 := Sep.Holds.cells hS_ (i := 4) rfl); (try have q5 := Sep.Holds.cells hS_ (i := 5) rfl); (try have q6 := Sep.Holds.cells hS_ (i := 6) rfl); go_simp; try (first | rfl | exact (Bool.not_not _).symm))
    try simp only [Act.put, List.setIfInBounds_toArray, List.set_cons_zero, List.set_cons_succ]
    refine wpL_q 7 ?_ rfl (Or.inl ⟨by rfl, fun w_ hS_ => ?_⟩) (marks 60 255) ?_
    rotate_left
    next => (go_simp; try (first | rfl | exact (Bool.not_not _).symm))
    try simp only [Act.put, List.setIfInBounds_toArray, List.set_cons_zero, List.set_cons_succ]
    refine wpL_m 9 ?_ rfl (.tail _ (.head _)) (Or.inl ⟨by rfl, fun w_ hS_ => ?_⟩) (marks 60 767) ?_
    rotate_left
    next => (dsimp only at hS_; (try have q0 := Sep.Holds.cells hS_ (i := 0) rfl); (try have q1 := Sep.Holds.cells hS_ (i := 1) rfl); (try have q2 := Sep.Holds.cells hS_ (i := 2) rfl); (try have q3 := Sep.Holds.cells hS_ (i := 3) rfl); (try have q4 := Sep.Holds.cells hS_ (i := 4) rfl); (try have q5 := Sep.Holds.cells hS_ (i := 5) rfl); (try have q6 := Sep.Holds.cells hS_ (i := 6) rfl); go_simp; try (first | rfl | exact (Bool.not_not _).symm))
    try simp only [Act.put, List.setIfInBounds_toArray, List.set_cons_zero, List.set_cons_succ]
    refine wpL_q 10 ?_ rfl (Or.inl ⟨by rfl, fun w_ hS_ => ?_⟩) (marks 60 1791) ?_
    rotate_left
    next => (go_simp; try (first | rfl | exact (Bool.not_not _).symm))
    try simp only [Act.put, List.setIfInBounds_toArray, List.set_cons_zero, List.set_cons_succ]
    refine wpL_o 8 rfl (by rfl) (marks 60 2047) ?_
    (go_simp; go_at_call 14; refine (oRight x n e _ _ HT.out.sep hw.focus0).mono ?_; rintro _ w_ ⟨rfl, hw_⟩; clear hw; have hw := Holds.unfocus0 hw_; clear hw_; (try simp only [List.map_cons, List.map_nil, List.getD_cons_zero, List.getD_cons_succ, List.getD_nil, List.set_cons_zero, List.set_cons_succ, List.cons_append, List.nil_append, Act.eval, Array.getD_eq_getD_getElem?, List.getElem?_toArray, List.getElem?_cons_succ, List.getElem?_cons_zero, Option.getD_some, Value.cells] at hw); (try simp (disch := first | (simp; done) | (simp; omega)) only [Sep.mid_set, Sep.mid_set2, Sep.mid_set0, Sep.mid_splice, Sep.mid_splice0, List.set_cons_zero, List.set_cons_succ] at hw); (try simp only [Sep.splice, List.take_succ_cons, List.take_zero, List.drop_succ_cons, List.drop_zero, List.length_cons, List.length_nil, Nat.reduceAdd, List.cons_append, List.nil_append] at hw))
    refine ⟨(SL.drop 8 (by kernel_rfl) (SL.keep (by exact hw.sel [1] (by decide)) SL.nil)), ?_⟩
    try simp only [Act.put, List.setIfInBounds_toArray, List.set_cons_zero, List.set_cons_succ]
    refine wpL_o 11 rfl (by rfl) (marks 60 4095) ?_
    (go_simp; go_at_call 15; refine (rRight x n e _ _ hw.focus0).mono ?_; rintro _ w_ ⟨rfl, hw_⟩; clear hw; have hw := Holds.unfocus0 hw_; clear hw_; (try simp only [List.map_cons, List.map_nil, List.getD_cons_zero, List.getD_cons_succ, List.getD_nil, List.set_cons_zero, List.set_cons_succ, List.cons_append, List.nil_append, Act.eval, Array.getD_eq_getD_getElem?, List.getElem?_toArray, List.getElem?_cons_succ, List.getElem?_cons_zero, Option.getD_some, Value.cells] at hw); (try simp (disch := first | (simp; done) | (simp; omega)) only [Sep.mid_set, Sep.mid_set2, Sep.mid_set0, Sep.mid_splice, Sep.mid_splice0, List.set_cons_zero, List.set_cons_succ] at hw); (try simp only [Sep.splice, List.take_succ_cons, List.take_zero, List.drop_succ_cons, List.drop_zero, List.length_cons, List.length_nil, Nat.reduceAdd, List.cons_append, List.nil_append] at hw))
    refine ⟨(SL.drop 8 (by kernel_rfl) (SL.drop 11 (by kernel_rfl) SL.nil)), ?_⟩
    try simp only [Act.put, List.setIfInBounds_toArray, List.set_cons_zero, List.set_cons_succ]
    refine wpL_q 12 ?_ rfl (Or.inl ⟨by rfl, fun w_ hS_ => ?_⟩) (marks 60 8191) ?_
    rotate_left
    next => (go_simp; try (first | rfl | exact (Bool.not_not _).symm))
    try simp only [Act.put, List.setIfInBounds_toArray, List.set_cons_zero, List.set_cons_succ]
  case' false =>
   (try simp only [decide_eq_true_eq, decide_eq_false_iff_not, beq_iff_eq, beq_eq_false_iff_ne, bne_iff_ne, bne_eq_false_iff_eq, Bool.not_eq_true', Bool.not_eq_false', Int.not_lt, Int.not_le] at hg5)
   first | (cases hg5; done) | (exfalso; omega; done) | skip
   all_goals
    try replace hg5 := Sep.hid hg5
    try simp only [Act.put, List.setIfInBounds_toArray, List.set_cons_zero, List.set_cons_succ]
    refine wpL_m 6 undef rfl (.head _) (Or.inr ⟨by rfl, rfl⟩) (marks 60 127) ?_
    try simp only [Act.put, List.setIfInBounds_toArray, List.set_cons_zero, List.set_cons_succ]
    refine wpL_q 7 undef rfl (Or.inr ⟨by rfl, rfl⟩) (marks 60 255) ?_
    try simp only [Act.put, List.setIfInBounds_toArray, List.set_cons_zero, List.set_cons_succ]
    refine wpL_m 9 undef rfl (.tail _ (.head _)) (Or.inr ⟨by rfl, rfl⟩) (marks 60 767) ?_
    try simp only [Act.put, List.setIfInBounds_toArray, List.set_cons_zero, List.set_cons_succ]
    refine wpL_q 10 undef rfl (Or.inr ⟨by rfl, rfl⟩) (marks 60 1791) ?_
    try simp only [Act.put, List.setIfInBounds_toArray, List.set_cons_zero, List.set_cons_succ]
    refine wpL_s 8 rfl (by rfl) (marks 60 2047) ?_
    try simp only [Act.put, List.setIfInBounds_toArray, List.set_cons_zero, List.set_cons_succ]
    refine wpL_s 11 rfl (by rfl) (marks 60 4095) ?_
    try simp only [Act.put, List.setIfInBounds_toArray, List.set_cons_zero, List.set_cons_succ]
    refine wpL_q 12 undef rfl (Or.inr ⟨by rfl, rfl⟩) (marks 60 8191) ?_
    try simp only [Act.put, List.setIfInBounds_toArray, List.set_cons_zero, List.set_cons_succ]
  all_goals
   refine wpL_q 13 ?_ rfl (Or.inl ⟨by rfl, fun w_ hS_ => ?_⟩) (marks 60 16383) ?_
   rotate_left
   next => (go_simp; try (first | rfl | exact (Bool.not_not _).symm))
   try simp only [Act.put, List.setIfInBounds_toArray, List.set_cons_zero, List.set_cons_succ]
   refine wpL_b 14 ?_ rfl (Or.inl ⟨by rfl, fun w_ hS_ => ?_⟩) (marks 60 32767) ?_
   rotate_left
   next => (go_simp; try (first | rfl | exact (Bool.not_not _).symm))
   intro bb_ hg14
   cases bb_
   case' true =>
    (try simp only [decide_eq_true_eq, decide_eq_false_iff_not, beq_iff_eq, beq_eq_false_iff_ne, bne_iff_ne, bne_eq_false_iff_eq, Bool.not_eq_true', Bool.not_eq_false', Int.not_lt, Int.not_le] at hg14)
    first | (cases hg14; done) | (exfalso; omega; done) | skip
    all_goals
     try replace hg14 := Sep.hid hg14
     try simp only [Act.put, List.setIfInBounds_toArray, List.set_cons_zero, List.set_cons_succ]
     refine wpL_q 15 ?_ rfl (Or.inl ⟨by rfl, fun w_ hS_ => ?_⟩) (marks 60 65535) ?_
     rotate_left
     next => (go_simp; try (first | rfl | exact (Bool.not_not _).symm))
     try simp only [Act.put, List.setIfInBounds_toArray, List.set_cons_zero, List.set_cons_succ]
     refine wpL_q 17 ?_ rfl (Or.inl ⟨by rfl, fun w_ hS_ => ?_⟩) (marks 60 196607) ?_
     rotate_left
     next => (go_simp; try (first | rfl | exact (Bool.not_not _).symm))
     try simp only [Act.put, List.setIfInBounds_toArray, List.set_cons_zero, List.set_cons_succ]
     refine wpL_o 16 rfl (by rfl) (marks 60 262143) ?_
     (go_simp; go_at_call 16; refine (oMay l ll cl al Hll e _ _ HT.out.sep (HRl.out.at 0 rfl) hw.focus0).mono ?_; rintro _ w_ ⟨rfl, hw_⟩; clear hw; have hw := Holds.unfocus0 hw_; clear hw_; (try simp only [List.map_cons, List.map_nil, List.getD_cons_zero, List.getD_cons_succ, List.getD_nil, List.set_cons_zero, List.set_cons_succ, List.cons_append, List.nil_append, Act.eval, Array.getD_eq_getD_getElem?, List.getElem?_toArray, List.getElem?_cons_succ, List.getElem?_cons_zero, Option.getD_some, Value.cells] at hw); (try simp (disch := first | (simp; done) | (simp; omega)) only [Sep.mid_set, Sep.mid_set2, Sep.mid_set0, Sep.mid_splice, Sep.mid_splice0, List.set_cons_zero, List.set_cons_succ] at hw); (try simp only [Sep.splice, List.take_succ_cons, List.take_zero, List.drop_succ_cons, List.drop_zero, List.length_cons, List.length_nil, Nat.reduceAdd, List.cons_append, List.nil_append] at hw))
     refine ⟨(SL.drop 8 (by kernel_rfl) (SL.drop 11 (by kernel_rfl) SL.nil)), ?_⟩
     try simp only [Act.put, List.setIfInBounds_toArray, List.set_cons_zero, List.set_cons_succ]
     refine wpL_o 18 rfl (by rfl) (marks 60 524287) ?_
     (go_simp; go_at_call 9; refine (own_calls l ll cl al Hll (by have := Hb.out; omega) e _ _ (HRl.out.at 0 rfl) hw.focus0).mono ?_; rintro _ w_ ⟨u1, rfl, hw_⟩; clear hw; have hw := Holds.unfocus0 hw_; clear hw_; (try simp only [List.map_cons, List.map_nil, List.getD_cons_zero, List.getD_cons_succ, List.getD_nil, List.set_cons_zero, List.set_cons_succ, List.cons_append, List.nil_append, Act.eval, Array.getD_eq_getD_getElem?, List.getElem?_toArray, List.getElem?_cons_succ, List.getElem?_cons_zero, Option.getD_some, Value.cells] at hw); (try simp (disch := first | (simp; done) | (simp; omega)) only [Sep.mid_set, Sep.mid_set2, Sep.mid_set0, Sep.mid_splice, Sep.mid_splice0, List.set_cons_zero, List.set_cons_succ] at hw); (try simp only [Sep.splice, List.take_succ_cons, List.take_zero, List.drop_succ_cons, List.drop_zero, List.length_cons, List.length_nil, Nat.reduceAdd, List.cons_append, List.nil_append] at hw); obtain ⟨ua1, uk1, rfl⟩ := Sl.value (i := 6) rfl hw)
     refine ⟨(SL.drop 8 (by kernel_rfl) (SL.drop 11 (by kernel_rfl) SL.nil)), ?_⟩
     try simp only [Act.put, List.setIfInBounds_toArray, List.set_cons_zero, List.set_cons_succ]
     refine wpL_o 19 rfl (by rfl) (marks 60 1048575) ?_
     (go_simp; go_at_call 17; refine (rMay l l.length uk1 ua1 (Sep.hid rfl) (by have := Hb.out; omega) e _ _ (rdA.at 6 rfl) hw.focus0).mono ?_; rintro _ w_ ⟨rfl, hw_⟩; clear hw; have hw := Holds.unfocus0 hw_; clear hw_; (try simp only [List.map_cons, List.map_nil, List.getD_cons_zero, List.getD_cons_succ, List.getD_nil, List.set_cons_zero, List.set_cons_succ, List.cons_append, List.nil_append, Act.eval, Array.getD_eq_getD_getElem?, List.getElem?_toArray, List.getElem?_cons_succ, List.getElem?_cons_zero, Option.getD_some, Value.cells] at hw); (try simp (disch := first | (simp; done) | (simp; omega)) only [Sep.mid_set, Sep.mid_set2, Sep.mid_set0, Sep.mid_splice, Sep.mid_splice0, List.set_cons_zero, List.set_cons_succ] at hw); (try simp only [Sep.splice, List.take_succ_cons, List.take_zero, List.drop_succ_cons, List.drop_zero, List.length_cons, List.length_nil, Nat.reduceAdd, List.cons_append, List.nil_append] at hw))
     refine ⟨(SL.drop 8 (by kernel_rfl) (SL.drop 11 (by kernel_rfl) SL.nil)), ?_⟩
     try simp only [Act.put, List.setIfInBounds_toArray, List.set_cons_zero, List.set_cons_succ]
     refine wpL_q 20 ?_ rfl (Or.inl ⟨by rfl, fun w_ hS_ => ?_⟩) (marks 60 2097151) ?_
     rotate_left
     next => (go_simp; try (first | rfl | exact (Bool.not_not _).symm))
     try simp only [Act.put, List.setIfInBounds_toArray, List.set_cons_zero, List.set_cons_succ]
   case' false =>
    (try simp only [decide_eq_true_eq, decide_eq_false_iff_not, beq_iff_eq, beq_eq_false_iff_ne, bne_iff_ne, bne_eq_false_iff_eq, Bool.not_eq_true', Bool.not_eq_false', Int.not_lt, Int.not_le] at hg14)
    first | (cases hg14; done) | (exfalso; omega; done) | skip
    all_goals
     try replace hg14 := Sep.hid hg14
     try simp only [Act.put, List.setIfInBounds_toArray, List.set_cons_zero, List.set_cons_succ]
     refine wpL_q 15 undef rfl (Or.inr ⟨by rfl, rfl⟩) (marks 60 65535) ?_
     try simp only [Act.put, List.setIfInBounds_toArray, List.set_cons_zero, List.set_cons_succ]
     refine wpL_q 17 undef rfl (Or.inr ⟨by rfl, rfl⟩) (marks 60 196607) ?_
     try simp only [Act.put, List.setIfInBounds_toArray, List.set_cons_zero, List.set_cons_succ]
     refine wpL_s 16 rfl (by rfl) (marks 60 262143) ?_
     try simp only [Act.put, List.setIfInBounds_toArray, List.set_cons_zero, List.set_cons_succ]
     refine wpL_s 18 rfl (by rfl) (marks 60 524287) ?_
     try simp only [Act.put, List.setIfInBounds_toArray, List.set_cons_zero, List.set_cons_succ]
     refine wpL_s 19 rfl (by rfl) (marks 60 1048575) ?_
     try simp only [Act.put, List.setIfInBounds_toArray, List.set_cons_zero, List.set_cons_succ]
     refine wpL_q 20 undef rfl (Or.inr ⟨by rfl, rfl⟩) (marks 60 2097151) ?_
     try simp only [Act.put, List.setIfInBounds_toArray, List.set_cons_zero, List.set_cons_succ]
   all_goals
    refine wpL_q 21 ?_ rfl (Or.inl ⟨by rfl, fun w_ hS_ => ?_⟩) (marks 60 4194303) ?_
    rotate_left
    next => (go_simp; try (first | rfl | exact (Bool.not_not _).symm))
    try simp only [Act.put, List.setIfInBounds_toArray, List.set_cons_zero, List.set_cons_succ]
    refine wpL_b 22 ?_ rfl (Or.inl ⟨by rfl, fun w_ hS_ => ?_⟩) (marks 60 8388607) ?_
    rotate_left
    next => (go_simp; try (first | rfl | exact (Bool.not_not _).symm))
    intro bb_ hg22
    cases bb_
    case' true =>
     (try simp only [decide_eq_true_eq, decide_eq_false_iff_not, beq_iff_eq, beq_eq_false_iff_ne, bne_iff_ne, bne_eq_false_iff_eq, Bool.not_eq_true', Bool.not_eq_false', Int.not_lt, Int.not_le] at hg22)
     first | (cases hg22; done) | (exfalso; omega; done) | skip
     all_goals
      try replace hg22 := Sep.hid hg22
      try simp only [Act.put, List.setIfInBounds_toArray, List.set_cons_zero, List.set_cons_succ]
      refine wpL_q 23 ?_ rfl (Or.inl ⟨by rfl, fun w_ hS_ => ?_⟩) (marks 60 16777215) ?_
      rotate_left
      next => (go_simp; try (first | rfl | exact (Bool.not_not _).symm))
      try simp only [Act.put, List.setIfInBounds_toArray, List.set_cons_zero, List.set_cons_succ]
      refine wpL_q 24 ?_ rfl (Or.inl ⟨by rfl, fun w_ hS_ => ?_⟩) (marks 60 33554431) ?_
      rotate_left
      next => (go_simp; try (first | rfl | exact (Bool.not_not _).symm))
      try simp only [Act.put, List.setIfInBounds_toArray, List.set_cons_zero, List.set_cons_succ]
      refine wpL_o 25 rfl (by rfl) (marks 60 67108863) ?_
      (go_simp; go_at_call 18; refine (sameB a1 a3 (bL l) (bL l) _ _ k1 k3 rfl rfl (by have := Hb.out; omega) _ (readsB (i := 2) hw rfl) (readsB (i := 3) hw rfl)).mono ?_; rintro _ w_ ⟨rfl, hd_⟩; replace hw := hw.drewTo hd_; clear hd_; rw [decide_eq_true rfl])
      refine ⟨(SL.drop 8 (by kernel_rfl) (SL.drop 11 (by kernel_rfl) SL.nil)), ?_⟩
      try simp only [Act.put, List.setIfInBounds_toArray, List.set_cons_zero, List.set_cons_succ]
    case' false =>
     (try simp only [decide_eq_true_eq, decide_eq_false_iff_not, beq_iff_eq, beq_eq_false_iff_ne, bne_iff_ne, bne_eq_false_iff_eq, Bool.not_eq_true', Bool.not_eq_false', Int.not_lt, Int.not_le] at hg22)
     first | (cases hg22; done) | (exfalso; omega; done) | skip
     all_goals
      try replace hg22 := Sep.hid hg22
      try simp only [Act.put, List.setIfInBounds_toArray, List.set_cons_zero, List.set_cons_succ]
      refine wpL_q 23 undef rfl (Or.inr ⟨by rfl, rfl⟩) (marks 60 16777215) ?_
      try simp only [Act.put, List.setIfInBounds_toArray, List.set_cons_zero, List.set_cons_succ]
      refine wpL_q 24 undef rfl (Or.inr ⟨by rfl, rfl⟩) (marks 60 33554431) ?_
      try simp only [Act.put, List.setIfInBounds_toArray, List.set_cons_zero, List.set_cons_succ]
      refine wpL_s 25 rfl (by rfl) (marks 60 67108863) ?_
      try simp only [Act.put, List.setIfInBounds_toArray, List.set_cons_zero, List.set_cons_succ]
    all_goals
     refine wpL_q 26 ?_ rfl (Or.inl ⟨by rfl, fun w_ hS_ => ?_⟩) (marks 60 134217727) ?_
     rotate_left
     next => (go_simp; try (first | rfl | exact (Bool.not_not _).symm))
     try simp only [Act.put, List.setIfInBounds_toArray, List.set_cons_zero, List.set_cons_succ]
     refine wpL_b 27 ?_ rfl (Or.inl ⟨by rfl, fun w_ hS_ => ?_⟩) (marks 60 268435455) ?_
     rotate_left
     next => (go_simp; try (first | rfl | exact (Bool.not_not _).symm))
     intro bb_ hg27
     cases bb_
     case' true =>
      (try simp only [decide_eq_true_eq, decide_eq_false_iff_not, beq_iff_eq, beq_eq_false_iff_ne, bne_iff_ne, bne_eq_false_iff_eq, Bool.not_eq_true', Bool.not_eq_false', Int.not_lt, Int.not_le] at hg27)
      first | (cases hg27; done) | (exfalso; omega; done) | skip
      all_goals
       try replace hg27 := Sep.hid hg27
       try simp only [Act.put, List.setIfInBounds_toArray, List.set_cons_zero, List.set_cons_succ]
       refine wpL_q 28 ?_ rfl (Or.inl ⟨by rfl, fun w_ hS_ => ?_⟩) (marks 60 536870911) ?_
       rotate_left
       next => (go_simp; try (first | rfl | exact (Bool.not_not _).symm))
       try simp only [Act.put, List.setIfInBounds_toArray, List.set_cons_zero, List.set_cons_succ]
       refine wpL_q 29 ?_ rfl (Or.inl ⟨by rfl, fun w_ hS_ => ?_⟩) (marks 60 1073741823) ?_
       rotate_left
       next => (go_simp; try (first | rfl | exact (Bool.not_not _).symm))
       try simp only [Act.put, List.setIfInBounds_toArray, List.set_cons_zero, List.set_cons_succ]
       refine wpL_q 30 ?_ rfl (Or.inl ⟨by rfl, fun w_ hS_ => ?_⟩) (marks 60 2147483647) ?_
       rotate_left
       next => (go_simp; try (first | rfl | exact (Bool.not_not _).symm))
       try simp only [Act.put, List.setIfInBounds_toArray, List.set_cons_zero, List.set_cons_succ]
     case' false =>
      (try simp only [decide_eq_true_eq, decide_eq_false_iff_not, beq_iff_eq, beq_eq_false_iff_ne, bne_iff_ne, bne_eq_false_iff_eq, Bool.not_eq_true', Bool.not_eq_false', Int.not_lt, Int.not_le] at hg27)
      first | (cases hg27; done) | (exfalso; omega; done) | skip
      all_goals
       try replace hg27 := Sep.hid hg27
       try simp only [Act.put, List.setIfInBounds_toArray, List.set_cons_zero, List.set_cons_succ]
       refine wpL_q 28 undef rfl (Or.inr ⟨by rfl, rfl⟩) (marks 60 536870911) ?_
       try simp only [Act.put, List.setIfInBounds_toArray, List.set_cons_zero, List.set_cons_succ]
       refine wpL_q 29 undef rfl (Or.inr ⟨by rfl, rfl⟩) (marks 60 1073741823) ?_
       try simp only [Act.put, List.setIfInBounds_toArray, List.set_cons_zero, List.set_cons_succ]
       refine wpL_q 30 undef rfl (Or.inr ⟨by rfl, rfl⟩) (marks 60 2147483647) ?_
       try simp only [Act.put, List.setIfInBounds_toArray, List.set_cons_zero, List.set_cons_succ]
     all_goals
      refine wpL_q 31 ?_ rfl (Or.inl ⟨by rfl, fun w_ hS_ => ?_⟩) (marks 60 4294967295) ?_
      rotate_left
      next => (go_simp; try (first | rfl | exact (Bool.not_not _).symm))
      try simp only [Act.put, List.setIfInBounds_toArray, List.set_cons_zero, List.set_cons_succ]
      refine wpL_b 32 ?_ rfl (Or.inl ⟨by rfl, fun w_ hS_ => ?_⟩) (marks 60 8589934591) ?_
      rotate_left
      next => (go_simp; try (first | rfl | exact (Bool.not_not _).symm))
      intro bb_ hg32
      cases bb_
      case' true =>
       (try simp only [decide_eq_true_eq, decide_eq_false_iff_not, beq_iff_eq, beq_eq_false_iff_ne, bne_iff_ne, bne_eq_false_iff_eq, Bool.not_eq_true', Bool.not_eq_false', Int.not_lt, Int.not_le] at hg32)
       first | (cases hg32; done) | (exfalso; omega; done) | skip
       all_goals
        try replace hg32 := Sep.hid hg32
        try simp only [Act.put, List.setIfInBounds_toArray, List.set_cons_zero, List.set_cons_succ]
        refine wpL_q 33 ?_ rfl (Or.inl ⟨by rfl, fun w_ hS_ => ?_⟩) (marks 60 17179869183) ?_
        rotate_left
        next => (go_simp; try (first | rfl | exact (Bool.not_not _).symm))
        try simp only [Act.put, List.setIfInBounds_toArray, List.set_cons_zero, List.set_cons_succ]
        refine wpL_q 35 ?_ rfl (Or.inl ⟨by rfl, fun w_ hS_ => ?_⟩) (marks 60 51539607551) ?_
        rotate_left
        next => (go_simp; try (first | rfl | exact (Bool.not_not _).symm))
        try simp only [Act.put, List.setIfInBounds_toArray, List.set_cons_zero, List.set_cons_succ]
        refine wpL_o 34 rfl (by rfl) (marks 60 68719476735) ?_
        (go_simp; go_at_call 9; refine (own_calls (readP b).1 _ k4 a4 (Sep.hid rfl) (by have := Hb.out; omega) e _ _ (rdA.at 4 rfl) hw.focus0).mono ?_; rintro _ w_ ⟨u2, rfl, hw_⟩; clear hw; have hw := Holds.unfocus0 hw_; clear hw_; (try simp only [List.map_cons, List.map_nil, List.getD_cons_zero, List.getD_cons_succ, List.getD_nil, List.set_cons_zero, List.set_cons_succ, List.cons_append, List.nil_append, Act.eval, Array.getD_eq_getD_getElem?, List.getElem?_toArray, List.getElem?_cons_succ, List.getElem?_cons_zero, Option.getD_some, Value.cells] at hw); (try simp (disch := first | (simp; done) | (simp; omega)) only [Sep.mid_set, Sep.mid_set2, Sep.mid_set0, Sep.mid_splice, Sep.mid_splice0, List.set_cons_zero, List.set_cons_succ] at hw); (try simp only [Sep.splice, List.take_succ_cons, List.take_zero, List.drop_succ_cons, List.drop_zero, List.length_cons, List.length_nil, Nat.reduceAdd, List.cons_append, List.nil_append] at hw); obtain ⟨ua2, uk2, rfl⟩ := Sl.value (i := 7) rfl hw)
        refine ⟨(SL.drop 8 (by kernel_rfl) (SL.drop 11 (by kernel_rfl) SL.nil)), ?_⟩
        try simp only [Act.put, List.setIfInBounds_toArray, List.set_cons_zero, List.set_cons_succ]
        refine wpL_o 36 rfl (by rfl) (marks 60 137438953471) ?_
        (go_simp; go_at_call 19; refine (sameA ua2 a5 (readP b).1 (readP b).1 _ _ uk2 k5 rfl rfl (by have := Hb.out; omega) _ (readsA (i := 7) hw rfl) (readsA (i := 5) hw rfl)).mono ?_; rintro _ w_ ⟨rfl, hd_⟩; replace hw := hw.drewTo hd_; clear hd_; rw [decide_eq_true rfl])
        refine ⟨(SL.drop 8 (by kernel_rfl) (SL.drop 11 (by kernel_rfl) SL.nil)), ?_⟩
        try simp only [Act.put, List.setIfInBounds_toArray, List.set_cons_zero, List.set_cons_succ]
      case' false =>
       (try simp only [decide_eq_true_eq, decide_eq_false_iff_not, beq_iff_eq, beq_eq_false_iff_ne, bne_iff_ne, bne_eq_false_iff_eq, Bool.not_eq_true', Bool.not_eq_false', Int.not_lt, Int.not_le] at hg32)
       first | (cases hg32; done) | (exfalso; omega; done) | skip
       all_goals
        try replace hg32 := Sep.hid hg32
        try simp only [Act.put, List.setIfInBounds_toArray, List.set_cons_zero, List.set_cons_succ]
        refine wpL_q 33 undef rfl (Or.inr ⟨by rfl, rfl⟩) (marks 60 17179869183) ?_
        try simp only [Act.put, List.setIfInBounds_toArray, List.set_cons_zero, List.set_cons_succ]
        refine wpL_q 35 undef rfl (Or.inr ⟨by rfl, rfl⟩) (marks 60 51539607551) ?_
        try simp only [Act.put, List.setIfInBounds_toArray, List.set_cons_zero, List.set_cons_succ]
        refine wpL_s 34 rfl (by rfl) (marks 60 68719476735) ?_
        try simp only [Act.put, List.setIfInBounds_toArray, List.set_cons_zero, List.set_cons_succ]
        refine wpL_s 36 rfl (by rfl) (marks 60 137438953471) ?_
        try simp only [Act.put, List.setIfInBounds_toArray, List.set_cons_zero, List.set_cons_succ]
      all_goals
       refine wpL_q 37 ?_ rfl (Or.inl ⟨by rfl, fun w_ hS_ => ?_⟩) (marks 60 274877906943) ?_
       rotate_left
       next => (go_simp; try (first | rfl | exact (Bool.not_not _).symm))
       try simp only [Act.put, List.setIfInBounds_toArray, List.set_cons_zero, List.set_cons_succ]
       refine wpL_b 38 ?_ rfl (Or.inl ⟨by rfl, fun w_ hS_ => ?_⟩) (marks 60 549755813887) ?_
       rotate_left
       next => (go_simp; try (first | rfl | exact (Bool.not_not _).symm))
       intro bb_ hg38
       cases bb_
       case' true =>
        (try simp only [decide_eq_true_eq, decide_eq_false_iff_not, beq_iff_eq, beq_eq_false_iff_ne, bne_iff_ne, bne_eq_false_iff_eq, Bool.not_eq_true', Bool.not_eq_false', Int.not_lt, Int.not_le] at hg38)
        first | (cases hg38; done) | (exfalso; omega; done) | skip
        all_goals
         try replace hg38 := Sep.hid hg38
         try simp only [Act.put, List.setIfInBounds_toArray, List.set_cons_zero, List.set_cons_succ]
         refine wpL_q 39 ?_ rfl (Or.inl ⟨by rfl, fun w_ hS_ => ?_⟩) (marks 60 1099511627775) ?_
         rotate_left
         next => (go_simp; try (first | rfl | exact (Bool.not_not _).symm))
         try simp only [Act.put, List.setIfInBounds_toArray, List.set_cons_zero, List.set_cons_succ]
         refine wpL_q 40 ?_ rfl (Or.inl ⟨by rfl, fun w_ hS_ => ?_⟩) (marks 60 2199023255551) ?_
         rotate_left
         next => (go_simp; try (first | rfl | exact (Bool.not_not _).symm))
         try simp only [Act.put, List.setIfInBounds_toArray, List.set_cons_zero, List.set_cons_succ]
         refine wpL_q 41 ?_ rfl (Or.inl ⟨by rfl, fun w_ hS_ => ?_⟩) (marks 60 4398046511103) ?_
         rotate_left
         next => (go_simp; try (first | rfl | exact (Bool.not_not _).symm))
         try simp only [Act.put, List.setIfInBounds_toArray, List.set_cons_zero, List.set_cons_succ]
       case' false =>
        (try simp only [decide_eq_true_eq, decide_eq_false_iff_not, beq_iff_eq, beq_eq_false_iff_ne, bne_iff_ne, bne_eq_false_iff_eq, Bool.not_eq_true', Bool.not_eq_false', Int.not_lt, Int.not_le] at hg38)
        first | (cases hg38; done) | (exfalso; omega; done) | skip
        all_goals
         try replace hg38 := Sep.hid hg38
         try simp only [Act.put, List.setIfInBounds_toArray, List.set_cons_zero, List.set_cons_succ]
         refine wpL_q 39 undef rfl (Or.inr ⟨by rfl, rfl⟩) (marks 60 1099511627775) ?_
         try simp only [Act.put, List.setIfInBounds_toArray, List.set_cons_zero, List.set_cons_succ]
         refine wpL_q 40 undef rfl (Or.inr ⟨by rfl, rfl⟩) (marks 60 2199023255551) ?_
         try simp only [Act.put, List.setIfInBounds_toArray, List.set_cons_zero, List.set_cons_succ]
         refine wpL_q 41 undef rfl (Or.inr ⟨by rfl, rfl⟩) (marks 60 4398046511103) ?_
         try simp only [Act.put, List.setIfInBounds_toArray, List.set_cons_zero, List.set_cons_succ]
       all_goals
        refine wpL_q 42 ?_ rfl (Or.inl ⟨by rfl, fun w_ hS_ => ?_⟩) (marks 60 8796093022207) ?_
        rotate_left
        next => (go_simp; try (first | rfl | exact (Bool.not_not _).symm))
        try simp only [Act.put, List.setIfInBounds_toArray, List.set_cons_zero, List.set_cons_succ]
        refine wpL_b 43 ?_ rfl (Or.inl ⟨by rfl, fun w_ hS_ => ?_⟩) (marks 60 17592186044415) ?_
        rotate_left
        next => (go_simp; try (first | rfl | exact (Bool.not_not _).symm))
        intro bb_ hg43
        cases bb_
        case' true =>
         (try simp only [decide_eq_true_eq, decide_eq_false_iff_not, beq_iff_eq, beq_eq_false_iff_ne, bne_iff_ne, bne_eq_false_iff_eq, Bool.not_eq_true', Bool.not_eq_false', Int.not_lt, Int.not_le] at hg43)
         first | (cases hg43; done) | (exfalso; omega; done) | skip
         all_goals
          try replace hg43 := Sep.hid hg43
          try simp only [Act.put, List.setIfInBounds_toArray, List.set_cons_zero, List.set_cons_succ]
          refine wpL_q 44 ?_ rfl (Or.inl ⟨by rfl, fun w_ hS_ => ?_⟩) (marks 60 35184372088831) ?_
          rotate_left
          next => (go_simp; try (first | rfl | exact (Bool.not_not _).symm))
          try simp only [Act.put, List.setIfInBounds_toArray, List.set_cons_zero, List.set_cons_succ]
          refine wpL_q 45 ?_ rfl (Or.inl ⟨by rfl, fun w_ hS_ => ?_⟩) (marks 60 70368744177663) ?_
          rotate_left
          next => (go_simp; try (first | rfl | exact (Bool.not_not _).symm))
          try simp only [Act.put, List.setIfInBounds_toArray, List.set_cons_zero, List.set_cons_succ]
          refine wpL_q 46 ?_ rfl (Or.inl ⟨by rfl, fun w_ hS_ => ?_⟩) (marks 60 140737488355327) ?_
          rotate_left
          next => (go_simp; try (first | rfl | exact (Bool.not_not _).symm))
          try simp only [Act.put, List.setIfInBounds_toArray, List.set_cons_zero, List.set_cons_succ]
        case' false =>
         (try simp only [decide_eq_true_eq, decide_eq_false_iff_not, beq_iff_eq, beq_eq_false_iff_ne, bne_iff_ne, bne_eq_false_iff_eq, Bool.not_eq_true', Bool.not_eq_false', Int.not_lt, Int.not_le] at hg43)
         first | (cases hg43; done) | (exfalso; omega; done) | skip
         all_goals
          try replace hg43 := Sep.hid hg43
          try simp only [Act.put, List.setIfInBounds_toArray, List.set_cons_zero, List.set_cons_succ]
          refine wpL_q 44 undef rfl (Or.inr ⟨by rfl, rfl⟩) (marks 60 35184372088831) ?_
          try simp only [Act.put, List.setIfInBounds_toArray, List.set_cons_zero, List.set_cons_succ]
          refine wpL_q 45 undef rfl (Or.inr ⟨by rfl, rfl⟩) (marks 60 70368744177663) ?_
          try simp only [Act.put, List.setIfInBounds_toArray, List.set_cons_zero, List.set_cons_succ]
          refine wpL_q 46 undef rfl (Or.inr ⟨by rfl, rfl⟩) (marks 60 140737488355327) ?_
          try simp only [Act.put, List.setIfInBounds_toArray, List.set_cons_zero, List.set_cons_succ]
        all_goals
         refine wpL_q 47 ?_ rfl (Or.inl ⟨by rfl, fun w_ hS_ => ?_⟩) (marks 60 281474976710655) ?_
         rotate_left
         next => (go_simp; try (first | rfl | exact (Bool.not_not _).symm))
         try simp only [Act.put, List.setIfInBounds_toArray, List.set_cons_zero, List.set_cons_succ]
         refine wpL_b 48 ?_ rfl (Or.inl ⟨by rfl, fun w_ hS_ => ?_⟩) (marks 60 562949953421311) ?_
         rotate_left
         next => (go_simp; try (first | rfl | exact (Bool.not_not _).symm))
         intro bb_ hg48
         cases bb_
         case' true =>
          (try simp only [decide_eq_true_eq, decide_eq_false_iff_not, beq_iff_eq, beq_eq_false_iff_ne, bne_iff_ne, bne_eq_false_iff_eq, Bool.not_eq_true', Bool.not_eq_false', Int.not_lt, Int.not_le] at hg48)
          first | (cases hg48; done) | (exfalso; omega; done) | skip
          all_goals
           try replace hg48 := Sep.hid hg48
           try simp only [Act.put, List.setIfInBounds_toArray, List.set_cons_zero, List.set_cons_succ]
           refine wpL_q 49 ?_ rfl (Or.inl ⟨by rfl, fun w_ hS_ => ?_⟩) (marks 60 1125899906842623) ?_
           rotate_left
           next => (go_simp; try (first | rfl | exact (Bool.not_not _).symm))
           try simp only [Act.put, List.setIfInBounds_toArray, List.set_cons_zero, List.set_cons_succ]
           refine wpL_q 50 ?_ rfl (Or.inl ⟨by rfl, fun w_ hS_ => ?_⟩) (marks 60 2251799813685247) ?_
           rotate_left
           next => (go_simp; try (first | rfl | exact (Bool.not_not _).symm))
           try simp only [Act.put, List.setIfInBounds_toArray, List.set_cons_zero, List.set_cons_succ]
           refine wpL_q 52 ?_ rfl (Or.inl ⟨by rfl, fun w_ hS_ => ?_⟩) (marks 60 6755399441055743) ?_
           rotate_left
           next => (go_simp; try (first | rfl | exact (Bool.not_not _).symm))
           try simp only [Act.put, List.setIfInBounds_toArray, List.set_cons_zero, List.set_cons_succ]
           refine wpL_q 54 ?_ rfl (Or.inl ⟨by rfl, fun w_ hS_ => ?_⟩) (marks 60 24769797950537727) ?_
           rotate_left
           next => (go_simp; try (first | rfl | exact (Bool.not_not _).symm))
           try simp only [Act.put, List.setIfInBounds_toArray, List.set_cons_zero, List.set_cons_succ]
           refine wpL_o 51 rfl (by rfl) (marks 60 27021597764222975) ?_
           (go_simp; go_at_call 20; refine (oSame al am l m ll lm cl cm Hll.out.symm Hlm.out.symm (by have := Hb.out; omega) _ (HRl.out _ _ 0 hw rfl) (HRm.out _ _ 0 hw rfl)).mono ?_; rintro _ w_ ⟨rfl, hd_⟩; replace hw := hw.drewTo hd_; clear hd_)
           refine ⟨(SL.drop 8 (by kernel_rfl) (SL.drop 11 (by kernel_rfl) SL.nil)), ?_⟩
           try simp only [Act.put, List.setIfInBounds_toArray, List.set_cons_zero, List.set_cons_succ]
           refine wpL_o 53 rfl (by rfl) (marks 60 36028797018963967) ?_
           (go_simp; go_at_call 9; refine (own_calls l ll cl al Hll (by have := Hb.out; omega) e _ _ (HRl.out.at 0 rfl) hw.focus0).mono ?_; rintro _ w_ ⟨u3, rfl, hw_⟩; clear hw; have hw := Holds.unfocus0 hw_; clear hw_; (try simp only [List.map_cons, List.map_nil, List.getD_cons_zero, List.getD_cons_succ, List.getD_nil, List.set_cons_zero, List.set_cons_succ, List.cons_append, List.nil_append, Act.eval, Array.getD_eq_getD_getElem?, List.getElem?_toArray, List.getElem?_cons_succ, List.getElem?_cons_zero, Option.getD_some, Value.cells] at hw); (try simp (disch := first | (simp; done) | (simp; omega)) only [Sep.mid_set, Sep.mid_set2, Sep.mid_set0, Sep.mid_splice, Sep.mid_splice0, List.set_cons_zero, List.set_cons_succ] at hw); (try simp only [Sep.splice, List.take_succ_cons, List.take_zero, List.drop_succ_cons, List.drop_zero, List.length_cons, List.length_nil, Nat.reduceAdd, List.cons_append, List.nil_append] at hw); obtain ⟨ua3, uk3, rfl⟩ := Sl.value (i := 8) rfl hw)
           refine ⟨(SL.drop 8 (by kernel_rfl) (SL.drop 11 (by kernel_rfl) SL.nil)), ?_⟩
           try simp only [Act.put, List.setIfInBounds_toArray, List.set_cons_zero, List.set_cons_succ]
           refine wpL_o 55 rfl (by rfl) (marks 60 72057594037927935) ?_
           (go_simp; go_at_call 9; refine (own_calls m lm cm am Hlm (by have := Hb.out; omega) e _ _ (HRm.out.at 0 rfl) hw.focus0).mono ?_; rintro _ w_ ⟨u4, rfl, hw_⟩; clear hw; have hw := Holds.unfocus0 hw_; clear hw_; (try simp only [List.map_cons, List.map_nil, List.getD_cons_zero, List.getD_cons_succ, List.getD_nil, List.set_cons_zero, List.set_cons_succ, List.cons_append, List.nil_append, Act.eval, Array.getD_eq_getD_getElem?, List.getElem?_toArray, List.getElem?_cons_succ, List.getElem?_cons_zero, Option.getD_some, Value.cells] at hw); (try simp (disch := first | (simp; done) | (simp; omega)) only [Sep.mid_set, Sep.mid_set2, Sep.mid_set0, Sep.mid_splice, Sep.mid_splice0, List.set_cons_zero, List.set_cons_succ] at hw); (try simp only [Sep.splice, List.take_succ_cons, List.take_zero, List.drop_succ_cons, List.drop_zero, List.length_cons, List.length_nil, Nat.reduceAdd, List.cons_append, List.nil_append] at hw); obtain ⟨ua4, uk4, rfl⟩ := Sl.value (i := 9) rfl hw)
           refine ⟨(SL.drop 8 (by kernel_rfl) (SL.drop 11 (by kernel_rfl) SL.nil)), ?_⟩
           try simp only [Act.put, List.setIfInBounds_toArray, List.set_cons_zero, List.set_cons_succ]
           refine wpL_o 56 rfl (by rfl) (marks 60 144115188075855871) ?_
           (go_simp; go_at_call 19; refine (sameA ua3 ua4 l m _ _ uk3 uk4 rfl rfl (by have := Hb.out; omega) _ (readsA (i := 8) hw rfl) (readsA (i := 9) hw rfl)).mono ?_; rintro _ w_ ⟨rfl, hd_⟩; replace hw := hw.drewTo hd_; clear hd_)
           refine ⟨(SL.drop 8 (by kernel_rfl) (SL.drop 11 (by kernel_rfl) SL.nil)), ?_⟩
           try simp only [Act.put, List.setIfInBounds_toArray, List.set_cons_zero, List.set_cons_succ]
           refine wpL_q 57 ?_ rfl (Or.inl ⟨by rfl, fun w_ hS_ => ?_⟩) (marks 60 288230376151711743) ?_
           rotate_left
           next => (go_simp; try (first | rfl | exact (Bool.not_not _).symm))
           try simp only [Act.put, List.setIfInBounds_toArray, List.set_cons_zero, List.set_cons_succ]
         case' false =>
          (try simp only [decide_eq_true_eq, decide_eq_false_iff_not, beq_iff_eq, beq_eq_false_iff_ne, bne_iff_ne, bne_eq_false_iff_eq, Bool.not_eq_true', Bool.not_eq_false', Int.not_lt, Int.not_le] at hg48)
          first | (cases hg48; done) | (exfalso; omega; done) | skip
          all_goals
           try replace hg48 := Sep.hid hg48
           try simp only [Act.put, List.setIfInBounds_toArray, List.set_cons_zero, List.set_cons_succ]
           refine wpL_q 49 undef rfl (Or.inr ⟨by rfl, rfl⟩) (marks 60 1125899906842623) ?_
           try simp only [Act.put, List.setIfInBounds_toArray, List.set_cons_zero, List.set_cons_succ]
           refine wpL_q 50 undef rfl (Or.inr ⟨by rfl, rfl⟩) (marks 60 2251799813685247) ?_
           try simp only [Act.put, List.setIfInBounds_toArray, List.set_cons_zero, List.set_cons_succ]
           refine wpL_q 52 undef rfl (Or.inr ⟨by rfl, rfl⟩) (marks 60 6755399441055743) ?_
           try simp only [Act.put, List.setIfInBounds_toArray, List.set_cons_zero, List.set_cons_succ]
           refine wpL_q 54 undef rfl (Or.inr ⟨by rfl, rfl⟩) (marks 60 24769797950537727) ?_
           try simp only [Act.put, List.setIfInBounds_toArray, List.set_cons_zero, List.set_cons_succ]
           refine wpL_s 51 rfl (by rfl) (marks 60 27021597764222975) ?_
           try simp only [Act.put, List.setIfInBounds_toArray, List.set_cons_zero, List.set_cons_succ]
           refine wpL_s 53 rfl (by rfl) (marks 60 36028797018963967) ?_
           try simp only [Act.put, List.setIfInBounds_toArray, List.set_cons_zero, List.set_cons_succ]
           refine wpL_s 55 rfl (by rfl) (marks 60 72057594037927935) ?_
           try simp only [Act.put, List.setIfInBounds_toArray, List.set_cons_zero, List.set_cons_succ]
           refine wpL_s 56 rfl (by rfl) (marks 60 144115188075855871) ?_
           try simp only [Act.put, List.setIfInBounds_toArray, List.set_cons_zero, List.set_cons_succ]
           refine wpL_q 57 undef rfl (Or.inr ⟨by rfl, rfl⟩) (marks 60 288230376151711743) ?_
           try simp only [Act.put, List.setIfInBounds_toArray, List.set_cons_zero, List.set_cons_succ]
         all_goals
          refine wpL_q 58 ?_ rfl (Or.inl ⟨by rfl, fun w_ hS_ => ?_⟩) (marks 60 576460752303423487) ?_
          rotate_left
          next => (go_simp; try (first | rfl | exact (Bool.not_not _).symm))
          try simp only [Act.put, List.setIfInBounds_toArray, List.set_cons_zero, List.set_cons_succ]
          refine wpL_q 59 ?_ rfl (Or.inl ⟨by rfl, fun w_ hS_ => ?_⟩) (marks 60 1152921504606846975) ?_
          rotate_left
          next => (go_simp; try (first | rfl | exact (Bool.not_not _).symm))
          try simp only [Act.put, List.setIfInBounds_toArray, List.set_cons_zero, List.set_cons_succ]
          all_goals refine wpL_done (by kernel_rfl) ?_ _
  all_goals (
    (try clear hc0); (try clear hc1); (try clear hc2); (try clear hc3); (try clear hc4); (try clear hc5); (try clear hc6)
    go_wp2_with fail
    exact HP.out _ _ ⟨rfl, hw.sel [0] (by decide)⟩)
end Go.Proofs.YtmokklkckecmdaaDoor
