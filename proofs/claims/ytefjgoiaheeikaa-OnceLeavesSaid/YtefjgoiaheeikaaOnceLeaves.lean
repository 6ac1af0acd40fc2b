/-
  OnceLeaves: the walk.
-/
import Derived.Test.YtefjgoiaheeikaaOnceDo
import Derived.Test.YtefjgoiaheeikaaOnceOk
import Derived.IntWalk
namespace Go.Proofs.Ytefjgoiaheeikaa
set_option linter.unusedSimpArgs false
set_option linter.unusedVariables false
open Go.RowKit Go.Sep Go.RingM

theorem act_sound (M : OM) (d : Deed) (hn : M.n = 20) (h : M.b = -1 ∨ (0 ≤ M.b ∧ M.b < 20)) : (M.act d).2.2.2.2.n = 20 ∧ ((M.act d).2.2.2.2.b = -1 ∨ (0 ≤ (M.act d).2.2.2.2.b ∧ (M.act d).2.2.2.2.b < 20)) := by
  unfold OM.act OM.begin OM.fin OM.leave
  repeat' split
  all_goals first | exact ⟨hn, h⟩ | exact ⟨hn, .inl rfl⟩ | (refine ⟨hn, .inr ?_⟩; simp only; omega)

set_option maxRecDepth 20000 in
set_option maxHeartbeats 40000000 in
theorem once_leaves_walk (e : World) (a0 : Option Addr) (cap0 : Nat) (l0 : List Deed) (hl0 : Hid (ActsAt e a0 l0)) (hlen0 : l0.length ≤ 9223372036854775807) (n1 : Int) (hn1 : Hid (0 ≤ n1 ∧ n1 ≤ 255)) :
    Calls Try.prog 5 #[.slice a0 l0.length cap0, .int .u8 n1] e fun en w' => en = .returned (.bool true) ∧ Holds e w' [Old e] := by
  have hw := Holds.start e
  obtain ⟨m, rfl⟩ : ∃ m : Nat, n1 = (m : Int) := ⟨n1.toNat, by have := hn1.out; omega⟩
  have hm : m ≤ 255 := by have := hn1.out; omega
  clear hn1
  by_cases hlong : (80 : Int) < l0.length
  · refine Sep.calls_post ?_
    intro Post_ hPost_
    have HP := Sep.hid hPost_
    clear hPost_
    go_enter Try.func5, Try.ntmps5
    go_wp2_with fail
    refine (awake_calls e _ _ hw.focus0).mono ?_
    rintro en_ w_ ⟨rfl, hw_⟩
    clear hw; (try clear hc0); (try clear hc1); (try clear hc2); (try clear hc3); (try clear hc4); (try clear hc5); (try clear hc6); have hw := Holds.unfocus0 hw_; clear hw_
    (try simp only [List.map_cons, List.map_nil, List.getD_cons_zero, List.getD_cons_succ, List.getD_nil, List.set_cons_zero, List.set_cons_succ, List.cons_append, List.nil_append, Act.eval, Array.getD_eq_getD_getElem?, List.getElem?_toArray, List.getElem?_cons_succ, List.getElem?_cons_zero, Option.getD_some, Value.cells] at hw); (try simp (disch := first | (simp; done) | (simp; omega)) only [Sep.mid_set, Sep.mid_set2, Sep.mid_set0, Sep.mid_splice, Sep.mid_splice0, List.set_cons_zero, List.set_cons_succ] at hw); (try simp only [Sep.splice, List.take_succ_cons, List.take_zero, List.drop_succ_cons, List.drop_zero, List.length_cons, List.length_nil, Nat.reduceAdd, List.cons_append, List.nil_append] at hw)
    go_wp2_with fail
    exact HP.out _ _ ⟨rfl, hw⟩
  generalize hlen' : l0.length = len at *
  have Hlen := Sep.hid hlen'; clear hlen'
  have hlong2 : len ≤ 80 := by omega
  refine Sep.calls_post ?_
  intro Post_ hPost_
  have HP := Sep.hid hPost_
  clear hPost_
  go_enter Try.func5, Try.ntmps5
  go_wp2_with fail
  refine (awake_calls e _ _ hw.focus0).mono ?_
  rintro en_ w_ ⟨rfl, hw_⟩
  clear hw; (try clear hc0); (try clear hc1); (try clear hc2); (try clear hc3); (try clear hc4); (try clear hc5); (try clear hc6); have hw := Holds.unfocus0 hw_; clear hw_
  (try simp only [List.map_cons, List.map_nil, List.getD_cons_zero, List.getD_cons_succ, List.getD_nil, List.set_cons_zero, List.set_cons_succ, List.cons_append, List.nil_append, Act.eval, Array.getD_eq_getD_getElem?, List.getElem?_toArray, List.getElem?_cons_succ, List.getElem?_cons_zero, Option.getD_some, Value.cells] at hw); (try simp (disch := first | (simp; done) | (simp; omega)) only [Sep.mid_set, Sep.mid_set2, Sep.mid_set0, Sep.mid_splice, Sep.mid_splice0, List.set_cons_zero, List.set_cons_succ] at hw); (try simp only [Sep.splice, List.take_succ_cons, List.take_zero, List.drop_succ_cons, List.drop_zero, List.length_cons, List.length_nil, Nat.reduceAdd, List.cons_append, List.nil_append] at hw)
  go_wp2_with fail
  refine (oNew_ok 20 (by decide) (by decide) e _ _ hw.focus0).mono ?_
  rintro en_ w_ ⟨p, rfl, hw_⟩
  clear hw; have hw := Holds.unfocus0 hw_; clear hw_
  (try simp only [List.map_cons, List.map_nil, List.getD_cons_zero, List.getD_cons_succ, List.getD_nil, List.set_cons_zero, List.set_cons_succ, List.cons_append, List.nil_append, Act.eval, Array.getD_eq_getD_getElem?, List.getElem?_toArray, List.getElem?_cons_succ, List.getElem?_cons_zero, Option.getD_some, Value.cells] at hw); (try simp (disch := first | (simp; done) | (simp; omega)) only [Sep.mid_set, Sep.mid_set2, Sep.mid_set0, Sep.mid_splice, Sep.mid_splice0, List.set_cons_zero, List.set_cons_succ] at hw); (try simp only [Sep.splice, List.take_succ_cons, List.take_zero, List.drop_succ_cons, List.drop_zero, List.length_cons, List.length_nil, Nat.reduceAdd, List.cons_append, List.nil_append] at hw)
  go_wp2_with fail
  have Hw0 := Sep.hid hw; clear hw
  go_loopw [28] (fun i wr => ∃ (q : Nat) (M : OM), q ≤ len ∧ i = .int .i64 q ∧ (M.n = 20 ∧ (M.b = -1 ∨ (0 ≤ M.b ∧ M.b < 20))) ∧ Holds e wr [Old e, IsOnce p M]) (fun i _ => len - (intOf i).toNat)
  case atStart => exact ⟨0, _, Nat.zero_le _, rfl, ⟨rfl, .inl rfl⟩, Hw0.out⟩
  case round =>
    clear Hw0
    obtain ⟨q, M, hq, rfl, hst, hw⟩ := hrel
    have Hst := Sep.hid hst; clear hst
    by_cases hlt : q < len
    · obtain ⟨d, hd⟩ : ∃ d, l0[q]? = some d := ⟨_, List.getElem?_eq_getElem (by rw [Hlen.out]; exact hlt)⟩
      obtain ⟨_, ad, rfl, hcell⟩ := hl0.out q d hd
      have Hcell := Sep.hid hcell; clear hcell hd
      go_wp2_with (first | ((with_reducible refine wpList_act (x := ?hx0) (y := ?hy0) (x1 := ?hx1) (x3 := ?hx3) (y3 := ?hy3) (cap := ?hcp) (vs := encA d) (q := q) (ad := ad) ti32 agg32 sl22 ?a1 ?a2 hlt hw (i := 0) ?a3 ?a4 ?a5 (encA_one d) Hcell.out ?b0 ?c0 ?b1 ?c1 ?d1 ?b2 ?c2 ?b3 ?c3 ?d3 ?f3 ?gg); (case b0 => rfl); (case b1 => rfl); (case b2 => rfl); (case b3 => rfl); (case a1 => rfl); (case a2 => rfl); (case a3 => rfl); (case a4 => rfl); (case a5 => rfl); (case c0 => rfl); (case c1 => rfl); (case d1 => rfl); (case c2 => rfl); (case c3 => (intro b; rfl)); (case d3 => (intro b; rfl)); (case f3 => (intro b; rfl)); intro bd w_ hw_; clear hw; have hw := hw_; clear hw_; (try simp only [List.map_cons, List.map_nil, List.getD_cons_zero, List.getD_cons_succ, List.getD_nil, List.set_cons_zero, List.set_cons_succ, List.cons_append, List.nil_append, Act.eval, Array.getD_eq_getD_getElem?, List.getElem?_toArray, List.getElem?_cons_succ, List.getElem?_cons_zero, Option.getD_some, Value.cells] at hw); (try simp (disch := first | (simp; done) | (simp; omega)) only [Sep.mid_set, Sep.mid_set2, Sep.mid_set0, Sep.mid_splice, Sep.mid_splice0, List.set_cons_zero, List.set_cons_succ] at hw); (try simp only [Sep.splice, List.take_succ_cons, List.take_zero, List.drop_succ_cons, List.drop_zero, List.length_cons, List.length_nil, Nat.reduceAdd, List.cons_append, List.nil_append] at hw); (try replace hc0 := Sep.Holds.cells hw (i := 0) rfl); (try replace hc1 := Sep.Holds.cells hw (i := 1) rfl); (try replace hc2 := Sep.Holds.cells hw (i := 2) rfl); (try replace hc3 := Sep.Holds.cells hw (i := 3) rfl); (try replace hc4 := Sep.Holds.cells hw (i := 4) rfl); (try replace hc5 := Sep.Holds.cells hw (i := 5) rfl); (try replace hc6 := Sep.Holds.cells hw (i := 6) rfl)) | (refine wpList_on rfl (wp_loadN (vs := encA d) rfl rfl hw (i := 2) rfl rfl (by intro j v hj; simpa using hj) ?_)))
      refine (do_calls p M d e _ _ (hw.focus1 1 rfl)).mono ?_
      rintro en_ w_ ⟨v, rfl, hw_⟩
      clear hw; (try clear hc0); (try clear hc1); (try clear hc2); (try clear hc3); (try clear hc4); (try clear hc5); (try clear hc6); have hw := Holds.unfocus1 1 (by simp) hw_; clear hw_
      (try simp only [List.map_cons, List.map_nil, List.getD_cons_zero, List.getD_cons_succ, List.getD_nil, List.set_cons_zero, List.set_cons_succ, List.cons_append, List.nil_append, Act.eval, Array.getD_eq_getD_getElem?, List.getElem?_toArray, List.getElem?_cons_succ, List.getElem?_cons_zero, Option.getD_some, Value.cells] at hw); (try simp (disch := first | (simp; done) | (simp; omega)) only [Sep.mid_set, Sep.mid_set2, Sep.mid_set0, Sep.mid_splice, Sep.mid_splice0, List.set_cons_zero, List.set_cons_succ] at hw); (try simp only [Sep.splice, List.take_succ_cons, List.take_zero, List.drop_succ_cons, List.drop_zero, List.length_cons, List.length_nil, Nat.reduceAdd, List.cons_append, List.nil_append] at hw)
      go_wp2_with fail
      go_roundw
      case rel => exact ⟨q + 1, _, by omega, by go_num, act_sound M d Hst.out.1 Hst.out.2, hw.sel [0, 1] (by decide)⟩
      case measure => simp [intOf]; omega
    · have Hlr : Hid (M.row.length ≤ 1000) := Sep.hid (once_len (i := 1) rfl hw)

      go_wp2_with fail
      go_wp2_with fail
      refine (oBy p M e _ _ (hw.focus1 1 rfl)).mono ?_
      rintro en_ w_ ⟨rfl, rfl⟩
      go_wp2_with fail
      refine (oWaiting p M e _ _ (hw.focus1 1 rfl)).mono ?_
      rintro en_ w_ ⟨v, rfl, hw_⟩
      clear hw; (try clear hc0); (try clear hc1); (try clear hc2); (try clear hc3); (try clear hc4); (try clear hc5); (try clear hc6); have hw := Holds.unfocus1 1 (by simp) hw_; clear hw_
      (try simp only [List.map_cons, List.map_nil, List.getD_cons_zero, List.getD_cons_succ, List.getD_nil, List.set_cons_zero, List.set_cons_succ, List.cons_append, List.nil_append, Act.eval, Array.getD_eq_getD_getElem?, List.getElem?_toArray, List.getElem?_cons_succ, List.getElem?_cons_zero, Option.getD_some, Value.cells] at hw); (try simp (disch := first | (simp; done) | (simp; omega)) only [Sep.mid_set, Sep.mid_set2, Sep.mid_set0, Sep.mid_splice, Sep.mid_splice0, List.set_cons_zero, List.set_cons_succ] at hw); (try simp only [Sep.splice, List.take_succ_cons, List.take_zero, List.drop_succ_cons, List.drop_zero, List.length_cons, List.length_nil, Nat.reduceAdd, List.cons_append, List.nil_append] at hw)
      go_wp2_with fail
      generalize ((m : Int) % 20) = who at *
      refine (oLeave p M who e _ _ (hw.focus1 1 rfl)).mono ?_
      rintro en_ w_ ⟨rfl, hw_⟩
      clear hw; (try clear hc0); (try clear hc1); (try clear hc2); (try clear hc3); (try clear hc4); (try clear hc5); (try clear hc6); have hw := Holds.unfocus1 1 (by simp) hw_; clear hw_
      (try simp only [List.map_cons, List.map_nil, List.getD_cons_zero, List.getD_cons_succ, List.getD_nil, List.set_cons_zero, List.set_cons_succ, List.cons_append, List.nil_append, Act.eval, Array.getD_eq_getD_getElem?, List.getElem?_toArray, List.getElem?_cons_succ, List.getElem?_cons_zero, Option.getD_some, Value.cells] at hw); (try simp (disch := first | (simp; done) | (simp; omega)) only [Sep.mid_set, Sep.mid_set2, Sep.mid_set0, Sep.mid_splice, Sep.mid_splice0, List.set_cons_zero, List.set_cons_succ] at hw); (try simp only [Sep.splice, List.take_succ_cons, List.take_zero, List.drop_succ_cons, List.drop_zero, List.length_cons, List.length_nil, Nat.reduceAdd, List.cons_append, List.nil_append] at hw)
      rw [show (M.leave who).1 = decide (who ∈ M.row) from rfl]
      replace hw : Holds e w_ [Old e, IsOnce p ⟨M.n, M.s, M.b, without M.row who⟩, IsInts v M.row] := hw
      go_wp2_with fail
      refine (in8_calls v M.row who (by have := Hlr.out; omega) e _ _ (hw.focus1 2 rfl)).mono ?_
      rintro en_ w_ ⟨rfl, hw_⟩
      clear hw; (try clear hc0); (try clear hc1); (try clear hc2); (try clear hc3); (try clear hc4); (try clear hc5); (try clear hc6); have hw := Holds.unfocus1 2 (by simp) hw_; clear hw_
      (try simp only [List.map_cons, List.map_nil, List.getD_cons_zero, List.getD_cons_succ, List.getD_nil, List.set_cons_zero, List.set_cons_succ, List.cons_append, List.nil_append, Act.eval, Array.getD_eq_getD_getElem?, List.getElem?_toArray, List.getElem?_cons_succ, List.getElem?_cons_zero, Option.getD_some, Value.cells] at hw); (try simp (disch := first | (simp; done) | (simp; omega)) only [Sep.mid_set, Sep.mid_set2, Sep.mid_set0, Sep.mid_splice, Sep.mid_splice0, List.set_cons_zero, List.set_cons_succ] at hw); (try simp only [Sep.splice, List.take_succ_cons, List.take_zero, List.drop_succ_cons, List.drop_zero, List.length_cons, List.length_nil, Nat.reduceAdd, List.cons_append, List.nil_append] at hw)
      go_wp2_with fail
      go_wp2_with fail
      refine (oBy p ⟨M.n, M.s, M.b, without M.row who⟩ e _ _ (hw.focus1 1 rfl)).mono ?_
      rintro en_ w_ ⟨rfl, rfl⟩
      go_wp2_with fail
      refine (without8_calls v M.row who (by have := Hlr.out; omega) e _ _ (hw.focus1 2 rfl)).mono ?_
      rintro en_ w_ ⟨u, rfl, hw_⟩
      clear hw; (try clear hc0); (try clear hc1); (try clear hc2); (try clear hc3); (try clear hc4); (try clear hc5); (try clear hc6); have hw := Holds.unfocus1 2 (by simp) hw_; clear hw_
      (try simp only [List.map_cons, List.map_nil, List.getD_cons_zero, List.getD_cons_succ, List.getD_nil, List.set_cons_zero, List.set_cons_succ, List.cons_append, List.nil_append, Act.eval, Array.getD_eq_getD_getElem?, List.getElem?_toArray, List.getElem?_cons_succ, List.getElem?_cons_zero, Option.getD_some, Value.cells] at hw); (try simp (disch := first | (simp; done) | (simp; omega)) only [Sep.mid_set, Sep.mid_set2, Sep.mid_set0, Sep.mid_splice, Sep.mid_splice0, List.set_cons_zero, List.set_cons_succ] at hw); (try simp only [Sep.splice, List.take_succ_cons, List.take_zero, List.drop_succ_cons, List.drop_zero, List.length_cons, List.length_nil, Nat.reduceAdd, List.cons_append, List.nil_append] at hw)
      have Hl2 : Hid ((without M.row who).length ≤ 1000) := Sep.hid (once_len (i := 1) (M := ⟨M.n, M.s, M.b, without M.row who⟩) rfl hw)
      clear Hlr
      generalize without M.row who = row at *
      go_wp2_with fail
      refine (oWaiting p ⟨M.n, M.s, M.b, row⟩ e _ _ (hw.focus1 1 rfl)).mono ?_
      rintro en_ w_ ⟨vw, rfl, hw_⟩
      clear hw; (try clear hc0); (try clear hc1); (try clear hc2); (try clear hc3); (try clear hc4); (try clear hc5); (try clear hc6); have hw := Holds.unfocus1 1 (by simp) hw_; clear hw_
      (try simp only [List.map_cons, List.map_nil, List.getD_cons_zero, List.getD_cons_succ, List.getD_nil, List.set_cons_zero, List.set_cons_succ, List.cons_append, List.nil_append, Act.eval, Array.getD_eq_getD_getElem?, List.getElem?_toArray, List.getElem?_cons_succ, List.getElem?_cons_zero, Option.getD_some, Value.cells] at hw); (try simp (disch := first | (simp; done) | (simp; omega)) only [Sep.mid_set, Sep.mid_set2, Sep.mid_set0, Sep.mid_splice, Sep.mid_splice0, List.set_cons_zero, List.set_cons_succ] at hw); (try simp only [Sep.splice, List.take_succ_cons, List.take_zero, List.drop_succ_cons, List.drop_zero, List.length_cons, List.length_nil, Nat.reduceAdd, List.cons_append, List.nil_append] at hw)
      go_wp2_with fail
      refine (same_calls _ _ row row (by have := Hl2.out; omega) e _ _ (hw.focus2 4 3 rfl rfl (by decide))).mono ?_
      rintro en_ w_ ⟨he_, hw_⟩
      rw [decide_eq_true rfl] at he_; subst he_
      clear hw; (try clear hc0); (try clear hc1); (try clear hc2); (try clear hc3); (try clear hc4); (try clear hc5); (try clear hc6); have hw := Holds.unfocus2 4 3 (by simp) (by simp) (by decide) hw_; clear hw_
      (try simp only [List.map_cons, List.map_nil, List.getD_cons_zero, List.getD_cons_succ, List.getD_nil, List.set_cons_zero, List.set_cons_succ, List.cons_append, List.nil_append, Act.eval, Array.getD_eq_getD_getElem?, List.getElem?_toArray, List.getElem?_cons_succ, List.getElem?_cons_zero, Option.getD_some, Value.cells] at hw); (try simp (disch := first | (simp; done) | (simp; omega)) only [Sep.mid_set, Sep.mid_set2, Sep.mid_set0, Sep.mid_splice, Sep.mid_splice0, List.set_cons_zero, List.set_cons_succ] at hw); (try simp only [Sep.splice, List.take_succ_cons, List.take_zero, List.drop_succ_cons, List.drop_zero, List.length_cons, List.length_nil, Nat.reduceAdd, List.cons_append, List.nil_append] at hw)
      have hn20 := Hst.out.1
      rcases Hst.out.2 with hb | hb
      · have hf : OM.fin ⟨M.n, M.s, M.b, row⟩ M.b = ([], 3, ⟨M.n, M.s, M.b, row⟩) := by unfold OM.fin; rw [if_pos (by simp only; omega)]
        have hdo := fun w X hw => oEnd p ⟨M.n, M.s, M.b, row⟩ M.b e w X hw
        simp only [hf] at hdo
        clear hf hn20
        go_wp2_with fail
        rw [hb] at hdo
        refine (hdo _ _ (by rw [← hb]; exact hw.focus1 1 rfl)).mono ?_
        rintro en_ w_ ⟨z, rfl, hw_⟩
        clear hw; have hw := Holds.unfocus1 1 (by simp) hw_; clear hw_ hdo
        (try simp only [List.map_cons, List.map_nil, List.getD_cons_zero, List.getD_cons_succ, List.getD_nil, List.set_cons_zero, List.set_cons_succ, List.cons_append, List.nil_append, Act.eval, Array.getD_eq_getD_getElem?, List.getElem?_toArray, List.getElem?_cons_succ, List.getElem?_cons_zero, Option.getD_some, Value.cells] at hw); (try simp (disch := first | (simp; done) | (simp; omega)) only [Sep.mid_set, Sep.mid_set2, Sep.mid_set0, Sep.mid_splice, Sep.mid_splice0, List.set_cons_zero, List.set_cons_succ] at hw); (try simp only [Sep.splice, List.take_succ_cons, List.take_zero, List.drop_succ_cons, List.drop_zero, List.length_cons, List.length_nil, Nat.reduceAdd, List.cons_append, List.nil_append] at hw)
        go_wp2_with fail
        exact HP.out _ _ ⟨rfl, hw.sel [0] (by decide)⟩
      · have hf : OM.fin ⟨M.n, M.s, M.b, row⟩ M.b = (row, 0, ⟨M.n, 2, -1, []⟩) := by unfold OM.fin; rw [if_neg (fun h => h (by simp only; omega)), if_neg (fun h => h rfl)]
        have hdo := fun w X hw => oEnd p ⟨M.n, M.s, M.b, row⟩ M.b e w X hw
        simp only [hf] at hdo
        have hb0 := hb.1
        clear hf hn20 hb
        go_wp2_with fail
        refine (hdo _ _ (hw.focus1 1 rfl)).mono ?_
        rintro en_ w_ ⟨z, rfl, hw_⟩
        clear hw; have hw := Holds.unfocus1 1 (by simp) hw_; clear hw_ hdo
        (try simp only [List.map_cons, List.map_nil, List.getD_cons_zero, List.getD_cons_succ, List.getD_nil, List.set_cons_zero, List.set_cons_succ, List.cons_append, List.nil_append, Act.eval, Array.getD_eq_getD_getElem?, List.getElem?_toArray, List.getElem?_cons_succ, List.getElem?_cons_zero, Option.getD_some, Value.cells] at hw); (try simp (disch := first | (simp; done) | (simp; omega)) only [Sep.mid_set, Sep.mid_set2, Sep.mid_set0, Sep.mid_splice, Sep.mid_splice0, List.set_cons_zero, List.set_cons_succ] at hw); (try simp only [Sep.splice, List.take_succ_cons, List.take_zero, List.drop_succ_cons, List.drop_zero, List.length_cons, List.length_nil, Nat.reduceAdd, List.cons_append, List.nil_append] at hw)
        go_wp2_with fail
        refine (same_calls _ _ row row (by have := Hl2.out; omega) e _ _ (hw.focus2 5 3 rfl rfl (by decide))).mono ?_
        rintro en_ w_ ⟨he_, hw_⟩
        rw [decide_eq_true rfl] at he_; subst he_
        clear hw; (try clear hc0); (try clear hc1); (try clear hc2); (try clear hc3); (try clear hc4); (try clear hc5); (try clear hc6); have hw := Holds.unfocus2 5 3 (by simp) (by simp) (by decide) hw_; clear hw_
        (try simp only [List.map_cons, List.map_nil, List.getD_cons_zero, List.getD_cons_succ, List.getD_nil, List.set_cons_zero, List.set_cons_succ, List.cons_append, List.nil_append, Act.eval, Array.getD_eq_getD_getElem?, List.getElem?_toArray, List.getElem?_cons_succ, List.getElem?_cons_zero, Option.getD_some, Value.cells] at hw); (try simp (disch := first | (simp; done) | (simp; omega)) only [Sep.mid_set, Sep.mid_set2, Sep.mid_set0, Sep.mid_splice, Sep.mid_splice0, List.set_cons_zero, List.set_cons_succ] at hw); (try simp only [Sep.splice, List.take_succ_cons, List.take_zero, List.drop_succ_cons, List.drop_zero, List.length_cons, List.length_nil, Nat.reduceAdd, List.cons_append, List.nil_append] at hw)
        go_wp2_with fail
        go_wp2_with fail
        refine (oState p ⟨M.n, 2, -1, []⟩ e _ _ (hw.focus1 1 rfl)).mono ?_
        rintro en_ w_ ⟨rfl, rfl⟩
        go_wp2_with fail
        exact HP.out _ _ ⟨rfl, hw.sel [0] (by decide)⟩
end Go.Proofs.Ytefjgoiaheeikaa
