/-
  RWDoes: the walk.
-/
import Derived.Test.YtlngkjgoacelfaaRwDo
import Derived.Test.YtlngkjgoacelfaaRwR2
import Derived.Test.YtlngkjgoacelfaaSepRead
import Derived.Deep.CutBlock
import Derived.Deep.DeepCutAuto
namespace Go.Proofs.Ytlngkjgoacelfaa
set_option linter.unusedSimpArgs false
set_option linter.unusedVariables false
open Go.RowKit Go.Sep Go.RingM

theorem give_len' (M : LM) : M.give.1.length ≤ M.wr.length + M.ww.length := by
  rcases give_cases M with ⟨_, hb⟩ | ⟨_, _, hb⟩ | ⟨y, l, _, hq, _, hb⟩ | ⟨y, l, _, _, _, hb⟩
  · rw [hb]; simp
  · rw [hb]; simp
  · rw [hb, hq]; simp; omega
  · rw [hb]; simp
theorem act_len' (M : LM) (d : Deed) : (M.act d).1.length ≤ M.wr.length + M.ww.length := by
  have hd : ∀ t, (M.drop t).give.1.length ≤ M.wr.length + M.ww.length := fun t => by
    have h1 := give_len' (M.drop t)
    have h2 := without_len' M.wr t
    have h3 := without_len' M.ww t
    have h4 : (M.drop t).wr.length = (without M.wr t).length := rfl
    have h5 : (M.drop t).ww.length = (without M.ww t).length := rfl
    omega
  unfold LM.act LM.ask LM.unlock LM.leave
  repeat' split
  all_goals first | exact hd _ | simp
set_option maxRecDepth 20000 in
set_option maxHeartbeats 40000000 in
theorem rw_does_walk (e : World) (n0 : Int) (hn0 : Hid (-9223372036854775808 ≤ n0 ∧ n0 ≤ 9223372036854775807)) (a1 : Option Addr) (cap1 : Nat) (l1 : List Deed) (hl1 : Hid (ActsAt e a1 l1)) (hlen1 : l1.length ≤ 9223372036854775807) :
    Calls Try.prog 3 #[.int .i64 n0, .slice a1 l1.length cap1] e fun en w' => en = .returned (.bool true) ∧ Holds e w' [Old e] := by
  have hw := Holds.start e
  by_cases hg1 : 20 < n0 ∧ n0 ≤ 1000
  · obtain ⟨hg1, hg2⟩ := hg1
    refine Sep.calls_post ?_
    intro Post_ hPost_
    have HP := Sep.hid hPost_
    clear hPost_
    go_enter Try.func3, Try.ntmps3
    go_wp2_with fail
    refine (awake_calls e _ _ hw.focus0).mono ?_
    rintro en_ w_ ⟨rfl, hw_⟩
    clear hw; (try clear hc0); (try clear hc1); (try clear hc2); (try clear hc3); (try clear hc4); (try clear hc5); (try clear hc6); have hw := Holds.unfocus0 hw_; clear hw_
    (try simp only [List.map_cons, List.map_nil, List.getD_cons_zero, List.getD_cons_succ, List.getD_nil, List.set_cons_zero, List.set_cons_succ, List.cons_append, List.nil_append, Act.eval, Array.getD_eq_getD_getElem?, List.getElem?_toArray, List.getElem?_cons_succ, List.getElem?_cons_zero, Option.getD_some, Value.cells] at hw); (try simp (disch := first | (simp; done) | (simp; omega)) only [Sep.mid_set, Sep.mid_set2, Sep.mid_set0, Sep.mid_splice, Sep.mid_splice0, List.set_cons_zero, List.set_cons_succ] at hw); (try simp only [Sep.splice, List.take_succ_cons, List.take_zero, List.drop_succ_cons, List.drop_zero, List.length_cons, List.length_nil, Nat.reduceAdd, List.cons_append, List.nil_append] at hw)
    go_wp2_with fail
    exact HP.out _ _ ⟨rfl, hw⟩
  by_cases hlong : (120 : Int) < l1.length
  · by_cases hn20 : 20 < n0
    · have hn3 : ¬ n0 ≤ 1000 := fun h => hg1 ⟨hn20, h⟩
      clear hg1
      refine Sep.calls_post ?_
      intro Post_ hPost_
      have HP := Sep.hid hPost_
      clear hPost_
      go_enter Try.func3, Try.ntmps3
      go_wp2_with fail
      refine (awake_calls e _ _ hw.focus0).mono ?_
      rintro en_ w_ ⟨rfl, hw_⟩
      clear hw; (try clear hc0); (try clear hc1); (try clear hc2); (try clear hc3); (try clear hc4); (try clear hc5); (try clear hc6); have hw := Holds.unfocus0 hw_; clear hw_
      (try simp only [List.map_cons, List.map_nil, List.getD_cons_zero, List.getD_cons_succ, List.getD_nil, List.set_cons_zero, List.set_cons_succ, List.cons_append, List.nil_append, Act.eval, Array.getD_eq_getD_getElem?, List.getElem?_toArray, List.getElem?_cons_succ, List.getElem?_cons_zero, Option.getD_some, Value.cells] at hw); (try simp (disch := first | (simp; done) | (simp; omega)) only [Sep.mid_set, Sep.mid_set2, Sep.mid_set0, Sep.mid_splice, Sep.mid_splice0, List.set_cons_zero, List.set_cons_succ] at hw); (try simp only [Sep.splice, List.take_succ_cons, List.take_zero, List.drop_succ_cons, List.drop_zero, List.length_cons, List.length_nil, Nat.reduceAdd, List.cons_append, List.nil_append] at hw)
      go_wp2_with fail
      exact HP.out _ _ ⟨rfl, hw⟩
    · clear hg1
      refine Sep.calls_post ?_
      intro Post_ hPost_
      have HP := Sep.hid hPost_
      clear hPost_
      go_enter Try.func3, Try.ntmps3
      go_wp2_with fail
      refine (awake_calls e _ _ hw.focus0).mono ?_
      rintro en_ w_ ⟨rfl, hw_⟩
      clear hw; (try clear hc0); (try clear hc1); (try clear hc2); (try clear hc3); (try clear hc4); (try clear hc5); (try clear hc6); have hw := Holds.unfocus0 hw_; clear hw_
      (try simp only [List.map_cons, List.map_nil, List.getD_cons_zero, List.getD_cons_succ, List.getD_nil, List.set_cons_zero, List.set_cons_succ, List.cons_append, List.nil_append, Act.eval, Array.getD_eq_getD_getElem?, List.getElem?_toArray, List.getElem?_cons_succ, List.getElem?_cons_zero, Option.getD_some, Value.cells] at hw); (try simp (disch := first | (simp; done) | (simp; omega)) only [Sep.mid_set, Sep.mid_set2, Sep.mid_set0, Sep.mid_splice, Sep.mid_splice0, List.set_cons_zero, List.set_cons_succ] at hw); (try simp only [Sep.splice, List.take_succ_cons, List.take_zero, List.drop_succ_cons, List.drop_zero, List.length_cons, List.length_nil, Nat.reduceAdd, List.cons_append, List.nil_append] at hw)
      go_wp2_with fail
      exact HP.out _ _ ⟨rfl, hw⟩
  by_cases hbad : n0 < 1 ∨ 1000 < n0
  · have Hbad := Sep.hid hbad
    by_cases hn20 : 20 < n0
    · have hn3 : ¬ n0 ≤ 1000 := fun h => hg1 ⟨hn20, h⟩
      clear hg1 hbad
      refine Sep.calls_post ?_
      intro Post_ hPost_
      have HP := Sep.hid hPost_
      clear hPost_
      go_enter Try.func3, Try.ntmps3
      go_wp2_with fail
      refine (awake_calls e _ _ hw.focus0).mono ?_
      rintro en_ w_ ⟨rfl, hw_⟩
      clear hw; (try clear hc0); (try clear hc1); (try clear hc2); (try clear hc3); (try clear hc4); (try clear hc5); (try clear hc6); have hw := Holds.unfocus0 hw_; clear hw_
      (try simp only [List.map_cons, List.map_nil, List.getD_cons_zero, List.getD_cons_succ, List.getD_nil, List.set_cons_zero, List.set_cons_succ, List.cons_append, List.nil_append, Act.eval, Array.getD_eq_getD_getElem?, List.getElem?_toArray, List.getElem?_cons_succ, List.getElem?_cons_zero, Option.getD_some, Value.cells] at hw); (try simp (disch := first | (simp; done) | (simp; omega)) only [Sep.mid_set, Sep.mid_set2, Sep.mid_set0, Sep.mid_splice, Sep.mid_splice0, List.set_cons_zero, List.set_cons_succ] at hw); (try simp only [Sep.splice, List.take_succ_cons, List.take_zero, List.drop_succ_cons, List.drop_zero, List.length_cons, List.length_nil, Nat.reduceAdd, List.cons_append, List.nil_append] at hw)
      go_wp2_with fail
      refine (oNew_no n0 Hbad.out _).mono ?_
      rintro en_ w_ ⟨rfl, rfl⟩
      go_wp2_with fail
      refine (fNew_no n0 Hbad.out _).mono ?_
      rintro en_ w_ ⟨rfl, rfl⟩
      go_wp2_with fail
      exact HP.out _ _ ⟨rfl, hw⟩
    · clear hg1 hbad
      refine Sep.calls_post ?_
      intro Post_ hPost_
      have HP := Sep.hid hPost_
      clear hPost_
      go_enter Try.func3, Try.ntmps3
      go_wp2_with fail
      refine (awake_calls e _ _ hw.focus0).mono ?_
      rintro en_ w_ ⟨rfl, hw_⟩
      clear hw; (try clear hc0); (try clear hc1); (try clear hc2); (try clear hc3); (try clear hc4); (try clear hc5); (try clear hc6); have hw := Holds.unfocus0 hw_; clear hw_
      (try simp only [List.map_cons, List.map_nil, List.getD_cons_zero, List.getD_cons_succ, List.getD_nil, List.set_cons_zero, List.set_cons_succ, List.cons_append, List.nil_append, Act.eval, Array.getD_eq_getD_getElem?, List.getElem?_toArray, List.getElem?_cons_succ, List.getElem?_cons_zero, Option.getD_some, Value.cells] at hw); (try simp (disch := first | (simp; done) | (simp; omega)) only [Sep.mid_set, Sep.mid_set2, Sep.mid_set0, Sep.mid_splice, Sep.mid_splice0, List.set_cons_zero, List.set_cons_succ] at hw); (try simp only [Sep.splice, List.take_succ_cons, List.take_zero, List.drop_succ_cons, List.drop_zero, List.length_cons, List.length_nil, Nat.reduceAdd, List.cons_append, List.nil_append] at hw)
      go_wp2_with fail
      refine (oNew_no n0 Hbad.out _).mono ?_
      rintro en_ w_ ⟨rfl, rfl⟩
      go_wp2_with fail
      refine (fNew_no n0 Hbad.out _).mono ?_
      rintro en_ w_ ⟨rfl, rfl⟩
      go_wp2_with fail
      exact HP.out _ _ ⟨rfl, hw⟩
  obtain ⟨n, rfl⟩ : ∃ n : Nat, n0 = (n : Int) := ⟨n0.toNat, by omega⟩
  have hn1 : 1 ≤ n := by omega
  have hn2 : n ≤ 20 := by omega
  clear hg1 hbad hn0
  generalize hlen' : l1.length = len at *
  have Hlen := Sep.hid hlen'; clear hlen'
  have hlong : len ≤ 120 := by omega
  refine Sep.calls_post ?_
  intro Post_ hPost_
  have HP := Sep.hid hPost_
  clear hPost_
  go_enter Try.func3, Try.ntmps3
  go_wp2_with fail
  refine (awake_calls e _ _ hw.focus0).mono ?_
  rintro en_ w_ ⟨rfl, hw_⟩
  clear hw; (try clear hc0); (try clear hc1); (try clear hc2); (try clear hc3); (try clear hc4); (try clear hc5); (try clear hc6); have hw := Holds.unfocus0 hw_; clear hw_
  (try simp only [List.map_cons, List.map_nil, List.getD_cons_zero, List.getD_cons_succ, List.getD_nil, List.set_cons_zero, List.set_cons_succ, List.cons_append, List.nil_append, Act.eval, Array.getD_eq_getD_getElem?, List.getElem?_toArray, List.getElem?_cons_succ, List.getElem?_cons_zero, Option.getD_some, Value.cells] at hw); (try simp (disch := first | (simp; done) | (simp; omega)) only [Sep.mid_set, Sep.mid_set2, Sep.mid_set0, Sep.mid_splice, Sep.mid_splice0, List.set_cons_zero, List.set_cons_succ] at hw); (try simp only [Sep.splice, List.take_succ_cons, List.take_zero, List.drop_succ_cons, List.drop_zero, List.length_cons, List.length_nil, Nat.reduceAdd, List.cons_append, List.nil_append] at hw)
  go_wp2_with fail
  refine (oNew_ok n hn1 (by omega) e _ _ hw.focus0).mono ?_
  rintro en_ w_ ⟨p, rfl, hw_⟩
  clear hw; have hw := Holds.unfocus0 hw_; clear hw_
  go_wp2_with fail
  refine (fNew_ok n hn1 (by omega) e _ _ hw.focus0).mono ?_
  rintro en_ w_ ⟨r, rfl, hw_⟩
  clear hw; have hw := Holds.unfocus0 hw_; clear hw_
  (try simp only [List.map_cons, List.map_nil, List.getD_cons_zero, List.getD_cons_succ, List.getD_nil, List.set_cons_zero, List.set_cons_succ, List.cons_append, List.nil_append, Act.eval, Array.getD_eq_getD_getElem?, List.getElem?_toArray, List.getElem?_cons_succ, List.getElem?_cons_zero, Option.getD_some, Value.cells] at hw); (try simp (disch := first | (simp; done) | (simp; omega)) only [Sep.mid_set, Sep.mid_set2, Sep.mid_set0, Sep.mid_splice, Sep.mid_splice0, List.set_cons_zero, List.set_cons_succ] at hw); (try simp only [Sep.splice, List.take_succ_cons, List.take_zero, List.drop_succ_cons, List.drop_zero, List.length_cons, List.length_nil, Nat.reduceAdd, List.cons_append, List.nil_append] at hw)
  go_wp2_with fail
  have Hw0 := Sep.hid hw; clear hw
  go_loopw [56] (fun i wr => ∃ (q : Nat) (M : LM), q ≤ len ∧ i = .int .i64 q ∧ Holds e wr [Old e, IsRW p M, IsRef r M]) (fun i _ => len - (intOf i).toNat)
  case atStart => exact ⟨0, _, Nat.zero_le _, rfl, Hw0.out⟩
  case round =>
    clear Hw0
    obtain ⟨q, M, hq, rfl, hw⟩ := hrel
    by_cases hlt : q < len
    · obtain ⟨d, hd⟩ : ∃ d, l1[q]? = some d := ⟨_, List.getElem?_eq_getElem (by rw [Hlen.out]; exact hlt)⟩
      obtain ⟨hdok, ad, rfl, hcell⟩ := hl1.out q d hd
      have Hcell := Sep.hid hcell; clear hcell hd hdok
      have Hlm := Sep.hid (rw_len (i := 1) rfl hw)
      have Hok := Sep.hid (rw_ok (i := 1) rfl hw).2
      obtain ⟨o, b, er, M', hb⟩ : ∃ o b er M', M.act d = (o, b, er, M') := ⟨_, _, _, _, rfl⟩
      have HM' : Hid (M'.Ok ∧ o.length ≤ 2000) := Sep.hid (by
        have h1 := Hok.out.act d
        have h3 := act_len' M d
        rw [hb] at h1 h3
        have := Hlm.out
        exact ⟨h1, Nat.le_trans h3 (by omega)⟩)
      have Hb := Sep.hid hb; clear hb
      go_wp2_with (first | ((with_reducible refine wpList_act (x := ?hx0x14) (y := ?hy0x14) (x1 := ?hx1x14) (x3 := ?hx3x14) (y3 := ?hy3x14) (cap := ?hcpx14) (vs := encA d) (q := q) (ad := ad) ti32 agg32 sl22 ?a1x14 ?a2x14 hlt hw (i := 0) ?a3x14 ?a4x14 ?a5x14 (encA_one d) Hcell.out ?b0x14 ?c0x14 ?b1x14 ?c1x14 ?d1x14 ?b2x14 ?c2x14 ?b3x14 ?c3x14 ?d3x14 ?f3x14 ?ggx14); (case b0x14 => rfl); (case b1x14 => rfl); (case b2x14 => rfl); (case b3x14 => rfl); (case a1x14 => rfl); (case a2x14 => rfl); (case a3x14 => rfl); (case a4x14 => rfl); (case a5x14 => rfl); (case c0x14 => rfl); (case c1x14 => rfl); (case d1x14 => rfl); (case c2x14 => rfl); (case c3x14 => (intro b; rfl)); (case d3x14 => (intro b; rfl)); (case f3x14 => (intro b; rfl)); intro bd w_ hw_; clear hw; have hw := hw_; clear hw_; (try simp only [List.map_cons, List.map_nil, List.getD_cons_zero, List.getD_cons_succ, List.getD_nil, List.set_cons_zero, List.set_cons_succ, List.cons_append, List.nil_append, Act.eval, Array.getD_eq_getD_getElem?, List.getElem?_toArray, List.getElem?_cons_succ, List.getElem?_cons_zero, Option.getD_some, Value.cells] at hw); (try simp (disch := first | (simp; done) | (simp; omega)) only [Sep.mid_set, Sep.mid_set2, Sep.mid_set0, Sep.mid_splice, Sep.mid_splice0, List.set_cons_zero, List.set_cons_succ] at hw); (try simp only [Sep.splice, List.take_succ_cons, List.take_zero, List.drop_succ_cons, List.drop_zero, List.length_cons, List.length_nil, Nat.reduceAdd, List.cons_append, List.nil_append] at hw); (try replace hc0 := Sep.Holds.cells hw (i := 0) rfl); (try replace hc1 := Sep.Holds.cells hw (i := 1) rfl); (try replace hc2 := Sep.Holds.cells hw (i := 2) rfl); (try replace hc3 := Sep.Holds.cells hw (i := 3) rfl); (try replace hc4 := Sep.Holds.cells hw (i := 4) rfl); (try replace hc5 := Sep.Holds.cells hw (i := 5) rfl); (try replace hc6 := Sep.Holds.cells hw (i := 6) rfl)) | (refine wpList_on rfl (wp_loadN (vs := encA d) rfl rfl hw (i := 3) rfl rfl (by intro j v hj; simpa using hj) ?_)))
      have hdo := fun w X hw => do_calls p M d e w X hw
      simp only [Hb.out] at hdo
      refine (hdo _ _ (hw.focus1 1 rfl)).mono ?_
      rintro en_ w_ ⟨ov, rfl, hw_⟩
      clear hw; (try clear hc0); (try clear hc1); (try clear hc2); (try clear hc3); (try clear hc4); (try clear hc5); (try clear hc6); have hw := Holds.unfocus1 1 (by simp) hw_; clear hw_ hdo
      have hA : encA d = [.int .i64 d.f0, .int .i64 d.f1] := rfl
      rw [hA] at hw
      clear hA
      (try simp only [List.map_cons, List.map_nil, List.getD_cons_zero, List.getD_cons_succ, List.getD_nil, List.set_cons_zero, List.set_cons_succ, List.cons_append, List.nil_append, Act.eval, Array.getD_eq_getD_getElem?, List.getElem?_toArray, List.getElem?_cons_succ, List.getElem?_cons_zero, Option.getD_some, Value.cells] at hw); (try simp (disch := first | (simp; done) | (simp; omega)) only [Sep.mid_set, Sep.mid_set2, Sep.mid_set0, Sep.mid_splice, Sep.mid_splice0, List.set_cons_zero, List.set_cons_succ] at hw); (try simp only [Sep.splice, List.take_succ_cons, List.take_zero, List.drop_succ_cons, List.drop_zero, List.length_cons, List.length_nil, Nat.reduceAdd, List.cons_append, List.nil_append] at hw)
      (try replace hc0 := Sep.Holds.cells hw (i := 0) rfl); (try replace hc1 := Sep.Holds.cells hw (i := 1) rfl); (try replace hc2 := Sep.Holds.cells hw (i := 2) rfl); (try replace hc3 := Sep.Holds.cells hw (i := 3) rfl); (try replace hc4 := Sep.Holds.cells hw (i := 4) rfl); (try replace hc5 := Sep.Holds.cells hw (i := 5) rfl); (try replace hc6 := Sep.Holds.cells hw (i := 6) rfl)
      go_upto_block 2 with (first | (refine wpList_on rfl (wp_bsl0 rfl hw ?_); intro b_ w_ hw_; replace hw_ := hw_.newSl (i := 5) rfl 1 0 rfl (by decide); clear hw; have hw := hw_; clear hw_; (try simp only [List.map_cons, List.map_nil, List.getD_cons_zero, List.getD_cons_succ, List.getD_nil, List.set_cons_zero, List.set_cons_succ, List.cons_append, List.nil_append, Act.eval, Array.getD_eq_getD_getElem?, List.getElem?_toArray, List.getElem?_cons_succ, List.getElem?_cons_zero, Option.getD_some, Value.cells] at hw); (try simp (disch := first | (simp; done) | (simp; omega)) only [Sep.mid_set, Sep.mid_set2, Sep.mid_set0, Sep.mid_splice, Sep.mid_splice0, List.set_cons_zero, List.set_cons_succ] at hw); (try simp only [Sep.splice, List.take_succ_cons, List.take_zero, List.drop_succ_cons, List.drop_zero, List.length_cons, List.length_nil, Nat.reduceAdd, List.cons_append, List.nil_append] at hw); (try replace hc0 := Sep.Holds.cells hw (i := 0) rfl); (try replace hc1 := Sep.Holds.cells hw (i := 1) rfl); (try replace hc2 := Sep.Holds.cells hw (i := 2) rfl); (try replace hc3 := Sep.Holds.cells hw (i := 3) rfl); (try replace hc4 := Sep.Holds.cells hw (i := 4) rfl); (try replace hc5 := Sep.Holds.cells hw (i := 5) rfl); (try replace hc6 := Sep.Holds.cells hw (i := 6) rfl)))
      go_cut [14, 15, 16] from 57 to 157 (fun yv sv hv wx => ∃ y, yv = y ∧ sv = .bool b ∧ hv = .int .i64 er ∧ Holds e wx [Old e, IsRW p M', IsRef r M', pt bd [.int .i64 d.f0, .int .i64 d.f1] 32, IsInts ov o, IsInts y o])
      case first =>
        as_aux_lemma =>
        have hb := Hb.out
        by_cases h0 : d.f0 = 0
        · as_aux_lemma =>
            unfold LM.act at hb; rw [if_pos h0] at hb
            cases hb
            go_wp2_with fail
            refine (fAsk r M d.f1 false Hok.out e _ _ (hw.focus1 2 rfl)).mono ?_
            rintro en_ w_ ⟨rfl, hw_⟩
            clear hw; (try clear hc0); (try clear hc1); (try clear hc2); (try clear hc3); (try clear hc4); (try clear hc5); (try clear hc6); have hw := Holds.unfocus1 2 (by simp) hw_; clear hw_
            (try simp only [List.map_cons, List.map_nil, List.getD_cons_zero, List.getD_cons_succ, List.getD_nil, List.set_cons_zero, List.set_cons_succ, List.cons_append, List.nil_append, Act.eval, Array.getD_eq_getD_getElem?, List.getElem?_toArray, List.getElem?_cons_succ, List.getElem?_cons_zero, Option.getD_some, Value.cells] at hw); (try simp (disch := first | (simp; done) | (simp; omega)) only [Sep.mid_set, Sep.mid_set2, Sep.mid_set0, Sep.mid_splice, Sep.mid_splice0, List.set_cons_zero, List.set_cons_succ] at hw); (try simp only [Sep.splice, List.take_succ_cons, List.take_zero, List.drop_succ_cons, List.drop_zero, List.length_cons, List.length_nil, Nat.reduceAdd, List.cons_append, List.nil_append] at hw)
            go_wp2_with fail
            go_meet
            exact ⟨_, rfl, rfl, rfl, hw⟩
        by_cases h1 : d.f0 = 1
        · as_aux_lemma =>
            unfold LM.act at hb; rw [if_neg h0, if_pos h1] at hb
            cases hb
            clear h0
            go_wp2_with fail
            refine (fAsk r M d.f1 true Hok.out e _ _ (hw.focus1 2 rfl)).mono ?_
            rintro en_ w_ ⟨rfl, hw_⟩
            clear hw; (try clear hc0); (try clear hc1); (try clear hc2); (try clear hc3); (try clear hc4); (try clear hc5); (try clear hc6); have hw := Holds.unfocus1 2 (by simp) hw_; clear hw_
            (try simp only [List.map_cons, List.map_nil, List.getD_cons_zero, List.getD_cons_succ, List.getD_nil, List.set_cons_zero, List.set_cons_succ, List.cons_append, List.nil_append, Act.eval, Array.getD_eq_getD_getElem?, List.getElem?_toArray, List.getElem?_cons_succ, List.getElem?_cons_zero, Option.getD_some, Value.cells] at hw); (try simp (disch := first | (simp; done) | (simp; omega)) only [Sep.mid_set, Sep.mid_set2, Sep.mid_set0, Sep.mid_splice, Sep.mid_splice0, List.set_cons_zero, List.set_cons_succ] at hw); (try simp only [Sep.splice, List.take_succ_cons, List.take_zero, List.drop_succ_cons, List.drop_zero, List.length_cons, List.length_nil, Nat.reduceAdd, List.cons_append, List.nil_append] at hw)
            go_wp2_with fail
            go_meet
            exact ⟨_, rfl, rfl, rfl, hw⟩
        by_cases h2 : d.f0 = 2
        · as_aux_lemma =>
            unfold LM.act at hb; rw [if_neg h0, if_neg h1, if_pos h2] at hb
            cases hb
            clear h0 h1
            go_wp2_with fail
            refine (fUnlock r M d.f1 Hok.out e _ _ (hw.focus1 2 rfl)).mono ?_
            rintro en_ w_ ⟨y, rfl, hw_⟩
            clear hw; (try clear hc0); (try clear hc1); (try clear hc2); (try clear hc3); (try clear hc4); (try clear hc5); (try clear hc6); have hw := Holds.unfocus1 2 (by simp) hw_; clear hw_
            (try simp only [List.map_cons, List.map_nil, List.getD_cons_zero, List.getD_cons_succ, List.getD_nil, List.set_cons_zero, List.set_cons_succ, List.cons_append, List.nil_append, Act.eval, Array.getD_eq_getD_getElem?, List.getElem?_toArray, List.getElem?_cons_succ, List.getElem?_cons_zero, Option.getD_some, Value.cells] at hw); (try simp (disch := first | (simp; done) | (simp; omega)) only [Sep.mid_set, Sep.mid_set2, Sep.mid_set0, Sep.mid_splice, Sep.mid_splice0, List.set_cons_zero, List.set_cons_succ] at hw); (try simp only [Sep.splice, List.take_succ_cons, List.take_zero, List.drop_succ_cons, List.drop_zero, List.length_cons, List.length_nil, Nat.reduceAdd, List.cons_append, List.nil_append] at hw)
            go_wp2_with fail
            go_meet
            exact ⟨_, rfl, rfl, rfl, hw.sel [0, 1, 2, 3, 4, 6] (by decide)⟩
        by_cases h3 : d.f0 = 3
        · as_aux_lemma =>
            unfold LM.act at hb; rw [if_neg h0, if_neg h1, if_neg h2, if_pos h3] at hb
            cases hb
            clear h0 h1 h2
            go_wp2_with fail
            refine (fLeave r M d.f1 Hok.out e _ _ (hw.focus1 2 rfl)).mono ?_
            rintro en_ w_ ⟨y, rfl, hw_⟩
            clear hw; (try clear hc0); (try clear hc1); (try clear hc2); (try clear hc3); (try clear hc4); (try clear hc5); (try clear hc6); have hw := Holds.unfocus1 2 (by simp) hw_; clear hw_
            (try simp only [List.map_cons, List.map_nil, List.getD_cons_zero, List.getD_cons_succ, List.getD_nil, List.set_cons_zero, List.set_cons_succ, List.cons_append, List.nil_append, Act.eval, Array.getD_eq_getD_getElem?, List.getElem?_toArray, List.getElem?_cons_succ, List.getElem?_cons_zero, Option.getD_some, Value.cells] at hw); (try simp (disch := first | (simp; done) | (simp; omega)) only [Sep.mid_set, Sep.mid_set2, Sep.mid_set0, Sep.mid_splice, Sep.mid_splice0, List.set_cons_zero, List.set_cons_succ] at hw); (try simp only [Sep.splice, List.take_succ_cons, List.take_zero, List.drop_succ_cons, List.drop_zero, List.length_cons, List.length_nil, Nat.reduceAdd, List.cons_append, List.nil_append] at hw)
            go_wp2_with fail
            go_meet
            exact ⟨_, rfl, rfl, rfl, hw.sel [0, 1, 2, 3, 4, 6] (by decide)⟩
        · as_aux_lemma =>
            unfold LM.act at hb; rw [if_neg h0, if_neg h1, if_neg h2, if_neg h3] at hb
            cases hb
            go_wp2_with fail
            go_meet
            exact ⟨_, rfl, rfl, rfl, hw⟩
      case rest =>
        as_aux_lemma =>
        clear Hb hw Hcell
        (try clear hc0); (try clear hc1); (try clear hc2); (try clear hc3); (try clear hc4); (try clear hc5); (try clear hc6)
        obtain ⟨yv, rfl, rfl, rfl, hw⟩ := hcut
        have Hlr := Sep.hid (ok_len HM'.out.1)
        (try replace hc0 := Sep.Holds.cells hw (i := 0) rfl); (try replace hc1 := Sep.Holds.cells hw (i := 1) rfl); (try replace hc2 := Sep.Holds.cells hw (i := 2) rfl); (try replace hc3 := Sep.Holds.cells hw (i := 3) rfl); (try replace hc4 := Sep.Holds.cells hw (i := 4) rfl); (try replace hc5 := Sep.Holds.cells hw (i := 5) rfl); (try replace hc6 := Sep.Holds.cells hw (i := 6) rfl)
        go_wp2_with fail
        refine (oWaiting p M' e _ _ (hw.focus1 1 rfl)).mono ?_
        rintro en_ w_ ⟨wv, dv, rfl, hw_⟩
        clear hw; (try clear hc0); (try clear hc1); (try clear hc2); (try clear hc3); (try clear hc4); (try clear hc5); (try clear hc6); have hw := Holds.unfocus1 1 (by simp) hw_; clear hw_
        (try simp only [List.map_cons, List.map_nil, List.getD_cons_zero, List.getD_cons_succ, List.getD_nil, List.set_cons_zero, List.set_cons_succ, List.cons_append, List.nil_append, Act.eval, Array.getD_eq_getD_getElem?, List.getElem?_toArray, List.getElem?_cons_succ, List.getElem?_cons_zero, Option.getD_some, Value.cells] at hw); (try simp (disch := first | (simp; done) | (simp; omega)) only [Sep.mid_set, Sep.mid_set2, Sep.mid_set0, Sep.mid_splice, Sep.mid_splice0, List.set_cons_zero, List.set_cons_succ] at hw); (try simp only [Sep.splice, List.take_succ_cons, List.take_zero, List.drop_succ_cons, List.drop_zero, List.length_cons, List.length_nil, Nat.reduceAdd, List.cons_append, List.nil_append] at hw)
        obtain ⟨⟨ru, rv, rn⟩, hw⟩ := hw.open' (i := 2) rfl
        (try simp only [List.map_cons, List.map_nil, List.getD_cons_zero, List.getD_cons_succ, List.getD_nil, List.set_cons_zero, List.set_cons_succ, List.cons_append, List.nil_append, Act.eval, Array.getD_eq_getD_getElem?, List.getElem?_toArray, List.getElem?_cons_succ, List.getElem?_cons_zero, Option.getD_some, Value.cells] at hw); (try simp (disch := first | (simp; done) | (simp; omega)) only [Sep.mid_set, Sep.mid_set2, Sep.mid_set0, Sep.mid_splice, Sep.mid_splice0, List.set_cons_zero, List.set_cons_succ] at hw); (try simp only [Sep.splice, List.take_succ_cons, List.take_zero, List.drop_succ_cons, List.drop_zero, List.length_cons, List.length_nil, Nat.reduceAdd, List.cons_append, List.nil_append] at hw)
        have hw := hw.open_ 2 rfl
        (try simp only [List.map_cons, List.map_nil, List.getD_cons_zero, List.getD_cons_succ, List.getD_nil, List.set_cons_zero, List.set_cons_succ, List.cons_append, List.nil_append, Act.eval, Array.getD_eq_getD_getElem?, List.getElem?_toArray, List.getElem?_cons_succ, List.getElem?_cons_zero, Option.getD_some, Value.cells] at hw); (try simp (disch := first | (simp; done) | (simp; omega)) only [Sep.mid_set, Sep.mid_set2, Sep.mid_set0, Sep.mid_splice, Sep.mid_splice0, List.set_cons_zero, List.set_cons_succ] at hw); (try simp only [Sep.splice, List.take_succ_cons, List.take_zero, List.drop_succ_cons, List.drop_zero, List.length_cons, List.length_nil, Nat.reduceAdd, List.cons_append, List.nil_append] at hw)
        (try replace hc0 := Sep.Holds.cells hw (i := 0) rfl); (try replace hc1 := Sep.Holds.cells hw (i := 1) rfl); (try replace hc2 := Sep.Holds.cells hw (i := 2) rfl); (try replace hc3 := Sep.Holds.cells hw (i := 3) rfl); (try replace hc4 := Sep.Holds.cells hw (i := 4) rfl); (try replace hc5 := Sep.Holds.cells hw (i := 5) rfl); (try replace hc6 := Sep.Holds.cells hw (i := 6) rfl)
        go_wp2_with fail
        refine wp_region_L [2, 16, 25, 30, 39, 48] [(20, (fun w' => Holds e w' [pt r [.int .i64 M'.writer, .int .i64 (M'.n : Int), ru, rv, rn] 47])), (29, (fun w' => Holds e w' [pt r [.int .i64 M'.writer, .int .i64 (M'.n : Int), ru, rv, rn] 47])), (38, (fun w' => Holds e w' [pt r [.int .i64 M'.writer, .int .i64 (M'.n : Int), ru, rv, rn] 47])), (47, (fun w' => Holds e w' [pt r [.int .i64 M'.writer, .int .i64 (M'.n : Int), ru, rv, rn] 47]))] (n := 51) (listed := (marks 51 0)) (by kernel_rfl) rfl (by kernel_rfl) ?conds1 ?_
        case conds1 =>
         intro c hc
         simp only [List.mem_cons, List.not_mem_nil, or_false] at hc
         rcases hc with rfl | rfl | rfl | rfl
         · exact (by replace hw := hw.drew; exact hw.sel [2] (by decide))
         · exact (by replace hw := hw.drew; exact hw.sel [2] (by decide))
         · exact (by replace hw := hw.drew; exact hw.sel [2] (by decide))
         · exact (by replace hw := hw.drew; exact hw.sel [2] (by decide))
        replace hw := hw.drew
        (try replace hc0 := Sep.Holds.cells hw (i := 0) rfl); (try replace hc1 := Sep.Holds.cells hw (i := 1) rfl); (try replace hc2 := Sep.Holds.cells hw (i := 2) rfl); (try replace hc3 := Sep.Holds.cells hw (i := 3) rfl); (try replace hc4 := Sep.Holds.cells hw (i := 4) rfl); (try replace hc5 := Sep.Holds.cells hw (i := 5) rfl); (try replace hc6 := Sep.Holds.cells hw (i := 6) rfl)
        refine wpL_q 0 ?_ rfl (Or.inl ⟨by rfl, fun w_ hS_ => ?_⟩) (marks 51 1) ?_
        rotate_left
        next => (go_simp; try (first | rfl | exact (Bool.not_not _).symm))
        try simp only [Act.put, List.setIfInBounds_toArray, List.set_cons_zero, List.set_cons_succ]
        refine wpL_q 1 ?_ rfl (Or.inl ⟨by rfl, fun w_ hS_ => ?_⟩) (marks 51 3) ?_
        rotate_left
        next => (go_simp; try (first | rfl | exact (Bool.not_not _).symm))
        try simp only [Act.put, List.setIfInBounds_toArray, List.set_cons_zero, List.set_cons_succ]
        refine wpL_o 2 rfl (by rfl) (marks 51 7) ?_
        (go_simp; go_at_call 15; refine (same_calls _ _ o o (by have := HM'.out.2; omega) e _ _ (hw.focus2 4 5 rfl rfl (by decide))).mono ?_; rintro en_ w_ ⟨he_, hw_⟩; rw [decide_eq_true rfl] at he_; subst he_; clear hw; have hw := Holds.unfocus2 4 5 (by simp) (by simp) (by decide) hw_; clear hw_; (try simp only [List.map_cons, List.map_nil, List.getD_cons_zero, List.getD_cons_succ, List.getD_nil, List.set_cons_zero, List.set_cons_succ, List.cons_append, List.nil_append, Act.eval, Array.getD_eq_getD_getElem?, List.getElem?_toArray, List.getElem?_cons_succ, List.getElem?_cons_zero, Option.getD_some, Value.cells] at hw); (try simp (disch := first | (simp; done) | (simp; omega)) only [Sep.mid_set, Sep.mid_set2, Sep.mid_set0, Sep.mid_splice, Sep.mid_splice0, List.set_cons_zero, List.set_cons_succ] at hw); (try simp only [Sep.splice, List.take_succ_cons, List.take_zero, List.drop_succ_cons, List.drop_zero, List.length_cons, List.length_nil, Nat.reduceAdd, List.cons_append, List.nil_append] at hw))
        refine ⟨(SL.keep (by exact hw.sel [2] (by decide)) (SL.keep (by exact hw.sel [2] (by decide)) (SL.keep (by exact hw.sel [2] (by decide)) (SL.keep (by exact hw.sel [2] (by decide)) SL.nil)))), ?_⟩
        try simp only [Act.put, List.setIfInBounds_toArray, List.set_cons_zero, List.set_cons_succ]
        refine wpL_q 3 ?_ rfl (Or.inl ⟨by rfl, fun w_ hS_ => ?_⟩) (marks 51 15) ?_
        rotate_left
        next => (go_simp; try (first | rfl | exact (Bool.not_not _).symm))
        try simp only [Act.put, List.setIfInBounds_toArray, List.set_cons_zero, List.set_cons_succ]
        refine wpL_b 4 ?_ rfl (Or.inl ⟨by rfl, fun w_ hS_ => ?_⟩) (marks 51 31) ?_
        rotate_left
        next => (go_simp; try (first | rfl | exact (Bool.not_not _).symm))
        intro bb_ hg4
        cases bb_
        case' true =>
         (try simp only [decide_eq_true_eq, decide_eq_false_iff_not, beq_iff_eq, beq_eq_false_iff_ne, bne_iff_ne, bne_eq_false_iff_eq, Bool.not_eq_true', Bool.not_eq_false', Int.not_lt, Int.not_le] at hg4)
         first | (cases hg4; done) | (exfalso; omega; done)
        case' false =>
         (try simp only [decide_eq_true_eq, decide_eq_false_iff_not, beq_iff_eq, beq_eq_false_iff_ne, bne_iff_ne, bne_eq_false_iff_eq, Bool.not_eq_true', Bool.not_eq_false', Int.not_lt, Int.not_le] at hg4)
         first | (cases hg4; done) | (exfalso; omega; done) | skip
         all_goals
          try replace hg4 := Sep.hid hg4
          try simp only [Act.put, List.setIfInBounds_toArray, List.set_cons_zero, List.set_cons_succ]
          refine wpL_q 5 ?_ rfl (Or.inl ⟨by rfl, fun w_ hS_ => ?_⟩) (marks 51 63) ?_
          rotate_left
          next => (go_simp; try (first | rfl | exact (Bool.not_not _).symm))
          try simp only [Act.put, List.setIfInBounds_toArray, List.set_cons_zero, List.set_cons_succ]
          refine wpL_q 6 ?_ rfl (Or.inl ⟨by rfl, fun w_ hS_ => ?_⟩) (marks 51 127) ?_
          rotate_left
          next => (go_simp; try (first | rfl | exact (Bool.not_not _).symm))
          try simp only [Act.put, List.setIfInBounds_toArray, List.set_cons_zero, List.set_cons_succ]
          refine wpL_q 7 ?_ rfl (Or.inl ⟨by rfl, fun w_ hS_ => ?_⟩) (marks 51 255) ?_
          rotate_left
          next => (go_simp; try (first | rfl | exact (Bool.not_not _).symm))
          try simp only [Act.put, List.setIfInBounds_toArray, List.set_cons_zero, List.set_cons_succ]
        all_goals
         refine wpL_q 8 ?_ rfl (Or.inl ⟨by rfl, fun w_ hS_ => ?_⟩) (marks 51 511) ?_
         rotate_left
         next => (go_simp; try (first | rfl | exact (Bool.not_not _).symm))
         try simp only [Act.put, List.setIfInBounds_toArray, List.set_cons_zero, List.set_cons_succ]
         refine wpL_b 9 ?_ rfl (Or.inl ⟨by rfl, fun w_ hS_ => ?_⟩) (marks 51 1023) ?_
         rotate_left
         next => (go_simp; try (first | rfl | exact (Bool.not_not _).symm))
         intro bb_ hg9
         cases bb_
         case' true =>
          (try simp only [decide_eq_true_eq, decide_eq_false_iff_not, beq_iff_eq, beq_eq_false_iff_ne, bne_iff_ne, bne_eq_false_iff_eq, Bool.not_eq_true', Bool.not_eq_false', Int.not_lt, Int.not_le] at hg9)
          first | (cases hg9; done) | (exfalso; omega; done)
         case' false =>
          (try simp only [decide_eq_true_eq, decide_eq_false_iff_not, beq_iff_eq, beq_eq_false_iff_ne, bne_iff_ne, bne_eq_false_iff_eq, Bool.not_eq_true', Bool.not_eq_false', Int.not_lt, Int.not_le] at hg9)
          first | (cases hg9; done) | (exfalso; omega; done) | skip
          all_goals
           try replace hg9 := Sep.hid hg9
           try simp only [Act.put, List.setIfInBounds_toArray, List.set_cons_zero, List.set_cons_succ]
           refine wpL_q 10 ?_ rfl (Or.inl ⟨by rfl, fun w_ hS_ => ?_⟩) (marks 51 2047) ?_
           rotate_left
           next => (go_simp; try (first | rfl | exact (Bool.not_not _).symm))
           try simp only [Act.put, List.setIfInBounds_toArray, List.set_cons_zero, List.set_cons_succ]
           refine wpL_q 11 ?_ rfl (Or.inl ⟨by rfl, fun w_ hS_ => ?_⟩) (marks 51 4095) ?_
           rotate_left
           next => (go_simp; try (first | rfl | exact (Bool.not_not _).symm))
           try simp only [Act.put, List.setIfInBounds_toArray, List.set_cons_zero, List.set_cons_succ]
           refine wpL_q 12 ?_ rfl (Or.inl ⟨by rfl, fun w_ hS_ => ?_⟩) (marks 51 8191) ?_
           rotate_left
           next => (go_simp; try (first | rfl | exact (Bool.not_not _).symm))
           try simp only [Act.put, List.setIfInBounds_toArray, List.set_cons_zero, List.set_cons_succ]
         all_goals
          refine wpL_q 13 ?_ rfl (Or.inl ⟨by rfl, fun w_ hS_ => ?_⟩) (marks 51 16383) ?_
          rotate_left
          next => (go_simp; try (first | rfl | exact (Bool.not_not _).symm))
          try simp only [Act.put, List.setIfInBounds_toArray, List.set_cons_zero, List.set_cons_succ]
          refine wpL_b 14 ?_ rfl (Or.inl ⟨by rfl, fun w_ hS_ => ?_⟩) (marks 51 32767) ?_
          rotate_left
          next => (go_simp; try (first | rfl | exact (Bool.not_not _).symm))
          intro bb_ hg14
          cases bb_
          case' true =>
           (try simp only [decide_eq_true_eq, decide_eq_false_iff_not, beq_iff_eq, beq_eq_false_iff_ne, bne_iff_ne, bne_eq_false_iff_eq, Bool.not_eq_true', Bool.not_eq_false', Int.not_lt, Int.not_le] at hg14)
           first | (cases hg14; done) | (exfalso; omega; done)
          case' false =>
           (try simp only [decide_eq_true_eq, decide_eq_false_iff_not, beq_iff_eq, beq_eq_false_iff_ne, bne_iff_ne, bne_eq_false_iff_eq, Bool.not_eq_true', Bool.not_eq_false', Int.not_lt, Int.not_le] at hg14)
           first | (cases hg14; done) | (exfalso; omega; done) | skip
           all_goals
            try replace hg14 := Sep.hid hg14
            try simp only [Act.put, List.setIfInBounds_toArray, List.set_cons_zero, List.set_cons_succ]
            refine wpL_q 15 ?_ rfl (Or.inl ⟨by rfl, fun w_ hS_ => ?_⟩) (marks 51 65535) ?_
            rotate_left
            next => (go_simp; try (first | rfl | exact (Bool.not_not _).symm))
            try simp only [Act.put, List.setIfInBounds_toArray, List.set_cons_zero, List.set_cons_succ]
            refine wpL_q 17 ?_ rfl (Or.inl ⟨by rfl, fun w_ hS_ => ?_⟩) (marks 51 196607) ?_
            rotate_left
            next => (go_simp; try (first | rfl | exact (Bool.not_not _).symm))
            try simp only [Act.put, List.setIfInBounds_toArray, List.set_cons_zero, List.set_cons_succ]
            refine wpL_q 18 ?_ rfl (Or.inl ⟨by rfl, fun w_ hS_ => ?_⟩) (marks 51 458751) ?_
            rotate_left
            next => (go_simp; try (first | rfl | exact (Bool.not_not _).symm))
            try simp only [Act.put, List.setIfInBounds_toArray, List.set_cons_zero, List.set_cons_succ]
            refine wpL_q 19 ?_ rfl (Or.inl ⟨by rfl, fun w_ hS_ => ?_⟩) (marks 51 983039) ?_
            rotate_left
            next => (go_simp; try (first | rfl | exact (Bool.not_not _).symm))
            try simp only [Act.put, List.setIfInBounds_toArray, List.set_cons_zero, List.set_cons_succ]
            refine wpL_m 20 ?_ rfl (.head _) (Or.inl ⟨by rfl, fun w_ hS_ => ?_⟩) (marks 51 2031615) ?_
            rotate_left
            next => (dsimp only at hS_; (try have q0 := Sep.Holds.cells hS_ (i := 0) rfl); (try have q1 := Sep.Holds.cells hS_ (i := 1) rfl); (try have q2 := Sep.Holds.cells hS_ (i := 2) rfl); (try have q3 := Sep.Holds.cells hS_ (i := 3) rfl); (try have q4 := Sep.Holds.cells hS_ (i := 4) rfl); (try have q5 := Sep.Holds.cells hS_ (i := 5) rfl); (try have q6 := Sep.Holds.cells hS_ (i := 6) rfl); go_simp; try (first | rfl | exact (Bool.not_not _).symm))
            try simp only [Act.put, List.setIfInBounds_toArray, List.set_cons_zero, List.set_cons_succ]
            refine wpL_o 16 rfl (by rfl) (marks 51 2097151) ?_
            (go_simp; go_at_call 16; refine (oWriter p M' e _ _ (hw.focus1 1 rfl)).mono ?_; rintro _ w_ ⟨rfl, hw_⟩; clear hw; have hw := Holds.unfocus1 1 (by simp) hw_; clear hw_; (try simp only [List.map_cons, List.map_nil, List.getD_cons_zero, List.getD_cons_succ, List.getD_nil, List.set_cons_zero, List.set_cons_succ, List.cons_append, List.nil_append, Act.eval, Array.getD_eq_getD_getElem?, List.getElem?_toArray, List.getElem?_cons_succ, List.getElem?_cons_zero, Option.getD_some, Value.cells] at hw); (try simp (disch := first | (simp; done) | (simp; omega)) only [Sep.mid_set, Sep.mid_set2, Sep.mid_set0, Sep.mid_splice, Sep.mid_splice0, List.set_cons_zero, List.set_cons_succ] at hw); (try simp only [Sep.splice, List.take_succ_cons, List.take_zero, List.drop_succ_cons, List.drop_zero, List.length_cons, List.length_nil, Nat.reduceAdd, List.cons_append, List.nil_append] at hw))
            refine ⟨(SL.keep (by exact hw.sel [2] (by decide)) (SL.keep (by exact hw.sel [2] (by decide)) (SL.keep (by exact hw.sel [2] (by decide)) (SL.keep (by exact hw.sel [2] (by decide)) SL.nil)))), ?_⟩
            try simp only [Act.put, List.setIfInBounds_toArray, List.set_cons_zero, List.set_cons_succ]
            refine wpL_q 21 ?_ rfl (Or.inl ⟨by rfl, fun w_ hS_ => ?_⟩) (marks 51 4194303) ?_
            rotate_left
            next => (go_simp; try (first | rfl | exact (Bool.not_not _).symm))
            try simp only [Act.put, List.setIfInBounds_toArray, List.set_cons_zero, List.set_cons_succ]
          all_goals
           refine wpL_q 22 ?_ rfl (Or.inl ⟨by rfl, fun w_ hS_ => ?_⟩) (marks 51 8388607) ?_
           rotate_left
           next => (go_simp; try (first | rfl | exact (Bool.not_not _).symm))
           try simp only [Act.put, List.setIfInBounds_toArray, List.set_cons_zero, List.set_cons_succ]
           refine wpL_b 23 ?_ rfl (Or.inl ⟨by rfl, fun w_ hS_ => ?_⟩) (marks 51 16777215) ?_
           rotate_left
           next => (go_simp; try (first | rfl | exact (Bool.not_not _).symm))
           intro bb_ hg23
           cases bb_
           case' true =>
            (try simp only [decide_eq_true_eq, decide_eq_false_iff_not, beq_iff_eq, beq_eq_false_iff_ne, bne_iff_ne, bne_eq_false_iff_eq, Bool.not_eq_true', Bool.not_eq_false', Int.not_lt, Int.not_le] at hg23)
            first | (cases hg23; done) | (exfalso; omega; done)
           case' false =>
            (try simp only [decide_eq_true_eq, decide_eq_false_iff_not, beq_iff_eq, beq_eq_false_iff_ne, bne_iff_ne, bne_eq_false_iff_eq, Bool.not_eq_true', Bool.not_eq_false', Int.not_lt, Int.not_le] at hg23)
            first | (cases hg23; done) | (exfalso; omega; done) | skip
            all_goals
             try replace hg23 := Sep.hid hg23
             try simp only [Act.put, List.setIfInBounds_toArray, List.set_cons_zero, List.set_cons_succ]
             refine wpL_q 24 ?_ rfl (Or.inl ⟨by rfl, fun w_ hS_ => ?_⟩) (marks 51 33554431) ?_
             rotate_left
             next => (go_simp; try (first | rfl | exact (Bool.not_not _).symm))
             try simp only [Act.put, List.setIfInBounds_toArray, List.set_cons_zero, List.set_cons_succ]
             refine wpL_q 26 ?_ rfl (Or.inl ⟨by rfl, fun w_ hS_ => ?_⟩) (marks 51 100663295) ?_
             rotate_left
             next => (go_simp; try (first | rfl | exact (Bool.not_not _).symm))
             try simp only [Act.put, List.setIfInBounds_toArray, List.set_cons_zero, List.set_cons_succ]
             refine wpL_q 27 ?_ rfl (Or.inl ⟨by rfl, fun w_ hS_ => ?_⟩) (marks 51 234881023) ?_
             rotate_left
             next => (go_simp; try (first | rfl | exact (Bool.not_not _).symm))
             try simp only [Act.put, List.setIfInBounds_toArray, List.set_cons_zero, List.set_cons_succ]
             refine wpL_q 28 ?_ rfl (Or.inl ⟨by rfl, fun w_ hS_ => ?_⟩) (marks 51 503316479) ?_
             rotate_left
             next => (go_simp; try (first | rfl | exact (Bool.not_not _).symm))
             try simp only [Act.put, List.setIfInBounds_toArray, List.set_cons_zero, List.set_cons_succ]
             refine wpL_m 29 ?_ rfl (.tail _ (.head _)) (Or.inl ⟨by rfl, fun w_ hS_ => ?_⟩) (marks 51 1040187391) ?_
             rotate_left
             next => (dsimp only at hS_; (try have q0 := Sep.Holds.cells hS_ (i := 0) rfl); (try have q1 := Sep.Holds.cells hS_ (i := 1) rfl); (try have q2 := Sep.Holds.cells hS_ (i := 2) rfl); (try have q3 := Sep.Holds.cells hS_ (i := 3) rfl); (try have q4 := Sep.Holds.cells hS_ (i := 4) rfl); (try have q5 := Sep.Holds.cells hS_ (i := 5) rfl); (try have q6 := Sep.Holds.cells hS_ (i := 6) rfl); go_simp; try (first | rfl | exact (Bool.not_not _).symm))
             try simp only [Act.put, List.setIfInBounds_toArray, List.set_cons_zero, List.set_cons_succ]
             refine wpL_o 25 rfl (by rfl) (marks 51 1073741823) ?_
             (go_simp; go_at_call 17; refine (oReaders p M' e _ _ (hw.focus1 1 rfl)).mono ?_; rintro _ w_ ⟨nv, rfl, hw_⟩; clear hw; have hw := Holds.unfocus1 1 (by simp) hw_; clear hw_; (try simp only [List.map_cons, List.map_nil, List.getD_cons_zero, List.getD_cons_succ, List.getD_nil, List.set_cons_zero, List.set_cons_succ, List.cons_append, List.nil_append, Act.eval, Array.getD_eq_getD_getElem?, List.getElem?_toArray, List.getElem?_cons_succ, List.getElem?_cons_zero, Option.getD_some, Value.cells] at hw); (try simp (disch := first | (simp; done) | (simp; omega)) only [Sep.mid_set, Sep.mid_set2, Sep.mid_set0, Sep.mid_splice, Sep.mid_splice0, List.set_cons_zero, List.set_cons_succ] at hw); (try simp only [Sep.splice, List.take_succ_cons, List.take_zero, List.drop_succ_cons, List.drop_zero, List.length_cons, List.length_nil, Nat.reduceAdd, List.cons_append, List.nil_append] at hw))
             refine ⟨(SL.dropI 25 20 (by kernel_rfl) (SL.keep (by exact hw.sel [2] (by decide)) (SL.keep (by exact hw.sel [2] (by decide)) (SL.keep (by exact hw.sel [2] (by decide)) SL.nil)))), ?_⟩
             try simp only [Act.put, List.setIfInBounds_toArray, List.set_cons_zero, List.set_cons_succ]
             refine wpL_o 30 rfl (by rfl) (marks 51 2147483647) ?_
             (go_simp; go_at_call 15; refine (same_calls _ _ M'.rd M'.rd (by have := Hlr.out.1; omega) e _ _ (hw.focus2 11 8 rfl rfl (by decide))).mono ?_; rintro en_ w_ ⟨he_, hw_⟩; rw [decide_eq_true rfl] at he_; subst he_; clear hw; have hw := Holds.unfocus2 11 8 (by simp) (by simp) (by decide) hw_; clear hw_; (try simp only [List.map_cons, List.map_nil, List.getD_cons_zero, List.getD_cons_succ, List.getD_nil, List.set_cons_zero, List.set_cons_succ, List.cons_append, List.nil_append, Act.eval, Array.getD_eq_getD_getElem?, List.getElem?_toArray, List.getElem?_cons_succ, List.getElem?_cons_zero, Option.getD_some, Value.cells] at hw); (try simp (disch := first | (simp; done) | (simp; omega)) only [Sep.mid_set, Sep.mid_set2, Sep.mid_set0, Sep.mid_splice, Sep.mid_splice0, List.set_cons_zero, List.set_cons_succ] at hw); (try simp only [Sep.splice, List.take_succ_cons, List.take_zero, List.drop_succ_cons, List.drop_zero, List.length_cons, List.length_nil, Nat.reduceAdd, List.cons_append, List.nil_append] at hw))
             refine ⟨(SL.dropI 25 20 (by kernel_rfl) (SL.dropI 30 29 (by kernel_rfl) (SL.keep (by exact hw.sel [2] (by decide)) (SL.keep (by exact hw.sel [2] (by decide)) SL.nil)))), ?_⟩
             try simp only [Act.put, List.setIfInBounds_toArray, List.set_cons_zero, List.set_cons_succ]
             refine wpL_q 31 ?_ rfl (Or.inl ⟨by rfl, fun w_ hS_ => ?_⟩) (marks 51 4294967295) ?_
             rotate_left
             next => (go_simp; try (first | rfl | exact (Bool.not_not _).symm))
             try simp only [Act.put, List.setIfInBounds_toArray, List.set_cons_zero, List.set_cons_succ]
           all_goals
            refine wpL_q 32 ?_ rfl (Or.inl ⟨by rfl, fun w_ hS_ => ?_⟩) (marks 51 8589934591) ?_
            rotate_left
            next => (go_simp; try (first | rfl | exact (Bool.not_not _).symm))
            try simp only [Act.put, List.setIfInBounds_toArray, List.set_cons_zero, List.set_cons_succ]
            refine wpL_b 33 ?_ rfl (Or.inl ⟨by rfl, fun w_ hS_ => ?_⟩) (marks 51 17179869183) ?_
            rotate_left
            next => (go_simp; try (first | rfl | exact (Bool.not_not _).symm))
            intro bb_ hg33
            cases bb_
            case' true =>
             (try simp only [decide_eq_true_eq, decide_eq_false_iff_not, beq_iff_eq, beq_eq_false_iff_ne, bne_iff_ne, bne_eq_false_iff_eq, Bool.not_eq_true', Bool.not_eq_false', Int.not_lt, Int.not_le] at hg33)
             first | (cases hg33; done) | (exfalso; omega; done)
            case' false =>
             (try simp only [decide_eq_true_eq, decide_eq_false_iff_not, beq_iff_eq, beq_eq_false_iff_ne, bne_iff_ne, bne_eq_false_iff_eq, Bool.not_eq_true', Bool.not_eq_false', Int.not_lt, Int.not_le] at hg33)
             first | (cases hg33; done) | (exfalso; omega; done) | skip
             all_goals
              try replace hg33 := Sep.hid hg33
              try simp only [Act.put, List.setIfInBounds_toArray, List.set_cons_zero, List.set_cons_succ]
              refine wpL_q 34 ?_ rfl (Or.inl ⟨by rfl, fun w_ hS_ => ?_⟩) (marks 51 34359738367) ?_
              rotate_left
              next => (go_simp; try (first | rfl | exact (Bool.not_not _).symm))
              try simp only [Act.put, List.setIfInBounds_toArray, List.set_cons_zero, List.set_cons_succ]
              refine wpL_q 35 ?_ rfl (Or.inl ⟨by rfl, fun w_ hS_ => ?_⟩) (marks 51 68719476735) ?_
              rotate_left
              next => (go_simp; try (first | rfl | exact (Bool.not_not _).symm))
              try simp only [Act.put, List.setIfInBounds_toArray, List.set_cons_zero, List.set_cons_succ]
              refine wpL_q 36 ?_ rfl (Or.inl ⟨by rfl, fun w_ hS_ => ?_⟩) (marks 51 137438953471) ?_
              rotate_left
              next => (go_simp; try (first | rfl | exact (Bool.not_not _).symm))
              try simp only [Act.put, List.setIfInBounds_toArray, List.set_cons_zero, List.set_cons_succ]
              refine wpL_q 37 ?_ rfl (Or.inl ⟨by rfl, fun w_ hS_ => ?_⟩) (marks 51 274877906943) ?_
              rotate_left
              next => (go_simp; try (first | rfl | exact (Bool.not_not _).symm))
              try simp only [Act.put, List.setIfInBounds_toArray, List.set_cons_zero, List.set_cons_succ]
              refine wpL_m 38 ?_ rfl (.tail _ (.tail _ (.head _))) (Or.inl ⟨by rfl, fun w_ hS_ => ?_⟩) (marks 51 549755813887) ?_
              rotate_left
              next => (dsimp only at hS_; (try have q0 := Sep.Holds.cells hS_ (i := 0) rfl); (try have q1 := Sep.Holds.cells hS_ (i := 1) rfl); (try have q2 := Sep.Holds.cells hS_ (i := 2) rfl); (try have q3 := Sep.Holds.cells hS_ (i := 3) rfl); (try have q4 := Sep.Holds.cells hS_ (i := 4) rfl); (try have q5 := Sep.Holds.cells hS_ (i := 5) rfl); (try have q6 := Sep.Holds.cells hS_ (i := 6) rfl); go_simp; try (first | rfl | exact (Bool.not_not _).symm))
              try simp only [Act.put, List.setIfInBounds_toArray, List.set_cons_zero, List.set_cons_succ]
              refine wpL_o 39 rfl (by rfl) (marks 51 1099511627775) ?_
              (go_simp; go_at_call 15; refine (same_calls _ _ M'.wr M'.wr (by have := Hlr.out.2.1; omega) e _ _ (hw.focus2 6 9 rfl rfl (by decide))).mono ?_; rintro en_ w_ ⟨he_, hw_⟩; rw [decide_eq_true rfl] at he_; subst he_; clear hw; have hw := Holds.unfocus2 6 9 (by simp) (by simp) (by decide) hw_; clear hw_; (try simp only [List.map_cons, List.map_nil, List.getD_cons_zero, List.getD_cons_succ, List.getD_nil, List.set_cons_zero, List.set_cons_succ, List.cons_append, List.nil_append, Act.eval, Array.getD_eq_getD_getElem?, List.getElem?_toArray, List.getElem?_cons_succ, List.getElem?_cons_zero, Option.getD_some, Value.cells] at hw); (try simp (disch := first | (simp; done) | (simp; omega)) only [Sep.mid_set, Sep.mid_set2, Sep.mid_set0, Sep.mid_splice, Sep.mid_splice0, List.set_cons_zero, List.set_cons_succ] at hw); (try simp only [Sep.splice, List.take_succ_cons, List.take_zero, List.drop_succ_cons, List.drop_zero, List.length_cons, List.length_nil, Nat.reduceAdd, List.cons_append, List.nil_append] at hw))
              refine ⟨(SL.dropI 25 20 (by kernel_rfl) (SL.dropI 30 29 (by kernel_rfl) (SL.dropI 39 38 (by kernel_rfl) (SL.keep (by exact hw.sel [2] (by decide)) SL.nil)))), ?_⟩
              try simp only [Act.put, List.setIfInBounds_toArray, List.set_cons_zero, List.set_cons_succ]
              refine wpL_q 40 ?_ rfl (Or.inl ⟨by rfl, fun w_ hS_ => ?_⟩) (marks 51 2199023255551) ?_
              rotate_left
              next => (go_simp; try (first | rfl | exact (Bool.not_not _).symm))
              try simp only [Act.put, List.setIfInBounds_toArray, List.set_cons_zero, List.set_cons_succ]
            all_goals
             refine wpL_q 41 ?_ rfl (Or.inl ⟨by rfl, fun w_ hS_ => ?_⟩) (marks 51 4398046511103) ?_
             rotate_left
             next => (go_simp; try (first | rfl | exact (Bool.not_not _).symm))
             try simp only [Act.put, List.setIfInBounds_toArray, List.set_cons_zero, List.set_cons_succ]
             refine wpL_b 42 ?_ rfl (Or.inl ⟨by rfl, fun w_ hS_ => ?_⟩) (marks 51 8796093022207) ?_
             rotate_left
             next => (go_simp; try (first | rfl | exact (Bool.not_not _).symm))
             intro bb_ hg42
             cases bb_
             case' true =>
              (try simp only [decide_eq_true_eq, decide_eq_false_iff_not, beq_iff_eq, beq_eq_false_iff_ne, bne_iff_ne, bne_eq_false_iff_eq, Bool.not_eq_true', Bool.not_eq_false', Int.not_lt, Int.not_le] at hg42)
              first | (cases hg42; done) | (exfalso; omega; done)
             case' false =>
              (try simp only [decide_eq_true_eq, decide_eq_false_iff_not, beq_iff_eq, beq_eq_false_iff_ne, bne_iff_ne, bne_eq_false_iff_eq, Bool.not_eq_true', Bool.not_eq_false', Int.not_lt, Int.not_le] at hg42)
              first | (cases hg42; done) | (exfalso; omega; done) | skip
              all_goals
               try replace hg42 := Sep.hid hg42
               try simp only [Act.put, List.setIfInBounds_toArray, List.set_cons_zero, List.set_cons_succ]
               refine wpL_q 43 ?_ rfl (Or.inl ⟨by rfl, fun w_ hS_ => ?_⟩) (marks 51 17592186044415) ?_
               rotate_left
               next => (go_simp; try (first | rfl | exact (Bool.not_not _).symm))
               try simp only [Act.put, List.setIfInBounds_toArray, List.set_cons_zero, List.set_cons_succ]
               refine wpL_q 44 ?_ rfl (Or.inl ⟨by rfl, fun w_ hS_ => ?_⟩) (marks 51 35184372088831) ?_
               rotate_left
               next => (go_simp; try (first | rfl | exact (Bool.not_not _).symm))
               try simp only [Act.put, List.setIfInBounds_toArray, List.set_cons_zero, List.set_cons_succ]
               refine wpL_q 45 ?_ rfl (Or.inl ⟨by rfl, fun w_ hS_ => ?_⟩) (marks 51 70368744177663) ?_
               rotate_left
               next => (go_simp; try (first | rfl | exact (Bool.not_not _).symm))
               try simp only [Act.put, List.setIfInBounds_toArray, List.set_cons_zero, List.set_cons_succ]
               refine wpL_q 46 ?_ rfl (Or.inl ⟨by rfl, fun w_ hS_ => ?_⟩) (marks 51 140737488355327) ?_
               rotate_left
               next => (go_simp; try (first | rfl | exact (Bool.not_not _).symm))
               try simp only [Act.put, List.setIfInBounds_toArray, List.set_cons_zero, List.set_cons_succ]
               refine wpL_m 47 ?_ rfl (.tail _ (.tail _ (.tail _ (.head _)))) (Or.inl ⟨by rfl, fun w_ hS_ => ?_⟩) (marks 51 281474976710655) ?_
               rotate_left
               next => (dsimp only at hS_; (try have q0 := Sep.Holds.cells hS_ (i := 0) rfl); (try have q1 := Sep.Holds.cells hS_ (i := 1) rfl); (try have q2 := Sep.Holds.cells hS_ (i := 2) rfl); (try have q3 := Sep.Holds.cells hS_ (i := 3) rfl); (try have q4 := Sep.Holds.cells hS_ (i := 4) rfl); (try have q5 := Sep.Holds.cells hS_ (i := 5) rfl); (try have q6 := Sep.Holds.cells hS_ (i := 6) rfl); go_simp; try (first | rfl | exact (Bool.not_not _).symm))
               try simp only [Act.put, List.setIfInBounds_toArray, List.set_cons_zero, List.set_cons_succ]
               refine wpL_o 48 rfl (by rfl) (marks 51 562949953421311) ?_
               (go_simp; go_at_call 15; refine (same_calls _ _ M'.ww M'.ww (by have := Hlr.out.2.2; omega) e _ _ (hw.focus2 7 10 rfl rfl (by decide))).mono ?_; rintro en_ w_ ⟨he_, hw_⟩; rw [decide_eq_true rfl] at he_; subst he_; clear hw; have hw := Holds.unfocus2 7 10 (by simp) (by simp) (by decide) hw_; clear hw_; (try simp only [List.map_cons, List.map_nil, List.getD_cons_zero, List.getD_cons_succ, List.getD_nil, List.set_cons_zero, List.set_cons_succ, List.cons_append, List.nil_append, Act.eval, Array.getD_eq_getD_getElem?, List.getElem?_toArray, List.getElem?_cons_succ, List.getElem?_cons_zero, Option.getD_some, Value.cells] at hw); (try simp (disch := first | (simp; done) | (simp; omega)) only [Sep.mid_set, Sep.mid_set2, Sep.mid_set0, Sep.mid_splice, Sep.mid_splice0, List.set_cons_zero, List.set_cons_succ] at hw); (try simp only [Sep.splice, List.take_succ_cons, List.take_zero, List.drop_succ_cons, List.drop_zero, List.length_cons, List.length_nil, Nat.reduceAdd, List.cons_append, List.nil_append] at hw))
               refine ⟨(SL.dropI 25 20 (by kernel_rfl) (SL.dropI 30 29 (by kernel_rfl) (SL.dropI 39 38 (by kernel_rfl) (SL.dropI 48 47 (by kernel_rfl) SL.nil)))), ?_⟩
               try simp only [Act.put, List.setIfInBounds_toArray, List.set_cons_zero, List.set_cons_succ]
               refine wpL_q 49 ?_ rfl (Or.inl ⟨by rfl, fun w_ hS_ => ?_⟩) (marks 51 1125899906842623) ?_
               rotate_left
               next => (go_simp; try (first | rfl | exact (Bool.not_not _).symm))
               try simp only [Act.put, List.setIfInBounds_toArray, List.set_cons_zero, List.set_cons_succ]
             all_goals
              refine wpL_q 50 ?_ rfl (Or.inl ⟨by rfl, fun w_ hS_ => ?_⟩) (marks 51 2251799813685247) ?_
              rotate_left
              next => (go_simp; try (first | rfl | exact (Bool.not_not _).symm))
              try simp only [Act.put, List.setIfInBounds_toArray, List.set_cons_zero, List.set_cons_succ]
              all_goals refine wpL_done (by kernel_rfl) ?_ _
        have h_ := Holds.group [Old e, IsRW p M'] _ (hw.sel [0, 1, 2, 8, 9, 10] (by decide))
        have h_ := exL.mk (f := rlParts r M'.n M'.writer M'.rd M'.wr M'.ww) ⟨ru, rv, rn⟩ h_
        have h_ : Holds e _ [Old e, IsRW p M', IsRef r M'] := Holds.ungroup [Old e, IsRW p M'] [_] h_
        clear hw; (try clear hc0); (try clear hc1); (try clear hc2); (try clear hc3); (try clear hc4); (try clear hc5); (try clear hc6); have hw := h_; clear h_
        go_wp2_with fail
        go_roundw
        case rel => exact ⟨q + 1, M', by omega, by go_num, hw⟩
        case measure => simp [intOf]; omega
    · go_wp2_with fail
      exact HP.out _ _ ⟨rfl, hw.sel [0] (by decide)⟩
end Go.Proofs.Ytlngkjgoacelfaa
