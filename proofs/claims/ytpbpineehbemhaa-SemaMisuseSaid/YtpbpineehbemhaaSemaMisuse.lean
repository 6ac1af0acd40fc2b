/-
  SemaMisuse: the walk.
-/
import Derived.Test.YtpbpineehbemhaaSemaDo
namespace Go.Proofs.Ytpbpineehbemhaa
set_option linter.unusedSimpArgs false
set_option linter.unusedVariables false
open Go.RowKit Go.Sep Go.RingM

theorem misuse_cases (M : SM) (d : Deed) : (∃ er, ¬ er = 0 ∧ M.act d = ([], false, er, M)) ∨
    (d.f0 = 1 ∧ M.w = [] ∧ fits M.held d.f2 M.room = true ∧ M.act d = ([], true, 0, ⟨M.n, M.held + d.f2, M.room, M.w, M.d, M.f⟩)) ∨
    (d.f0 = 1 ∧ ¬ (M.w = [] ∧ fits M.held d.f2 M.room = true) ∧ M.act d = ([], false, 0, M)) ∨
    (d.f0 = 2 ∧ 0 ≤ d.f2 ∧ d.f2 ≤ M.held ∧ (M.act d).2.2.1 = 0) ∨
    (¬ d.f0 = 1 ∧ ¬ d.f0 = 2 ∧ (M.act d).2.2.1 = 0) := by
  by_cases h1 : d.f0 = 1
  · have hb : M.act d = ([], (M.tryA d.f1 d.f2).1, (M.tryA d.f1 d.f2).2.1, (M.tryA d.f1 d.f2).2.2) := by simp [SM.act, h1]
    rw [hb]
    rcases acq_cases M d.f1 d.f2 with ⟨hm, _, hb⟩ | ⟨hm, _, _, _, _, _, ⟨hw, hf, _, hb⟩ | ⟨hnf, hb, _⟩⟩
    · rw [hb]; exact .inl ⟨_, hm, rfl⟩
    · rw [hb]; exact .inr (.inl ⟨h1, hw, hf, rfl⟩)
    · rw [hb]; exact .inr (.inr (.inl ⟨h1, hnf, rfl⟩))
  by_cases h2 : d.f0 = 2
  · have hb : M.act d = ((M.rel d.f2).1, false, (M.rel d.f2).2.1, (M.rel d.f2).2.2) := by simp [SM.act, h2]
    rw [hb]; unfold SM.rel
    by_cases hn : d.f2 < 0
    · rw [if_pos hn]; exact .inl ⟨1, by decide, rfl⟩
    · rw [if_neg hn]
      by_cases hh : M.held < d.f2
      · rw [if_pos hh]; exact .inl ⟨4, by decide, rfl⟩
      · rw [if_neg hh]; exact .inr (.inr (.inr (.inl ⟨h2, by omega, by omega, rfl⟩)))
  by_cases h0 : d.f0 = 0
  · have hb : M.act d = ([], (M.acq d.f1 d.f2).1, (M.acq d.f1 d.f2).2.1, (M.acq d.f1 d.f2).2.2) := by unfold SM.act; rw [if_pos h0]
    rw [hb]
    rcases acq_cases M d.f1 d.f2 with ⟨hm, hb, _⟩ | ⟨hm, _, _, _, _, _, ⟨hw, hf, hb, _⟩ | ⟨hnf, _, ⟨_, hb⟩ | ⟨_, hb⟩⟩⟩
    · rw [hb]; exact .inl ⟨_, hm, rfl⟩
    all_goals rw [hb]; exact .inr (.inr (.inr (.inr ⟨h1, h2, rfl⟩)))
  · refine .inr (.inr (.inr (.inr ⟨h1, h2, ?_⟩)))
    unfold SM.act
    rw [if_neg h0, if_neg h1, if_neg h2]
    split <;> rfl
set_option maxRecDepth 20000 in
set_option maxHeartbeats 40000000 in
theorem sema_misuse_walk (e : World) (n0 : Int) (hn0 : Hid (-9223372036854775808 ≤ n0 ∧ n0 ≤ 9223372036854775807)) (a1 : Option Addr) (cap1 : Nat) (l1 : List Deed) (hl1 : Hid (ActsAt e a1 l1)) (hlen1 : l1.length ≤ 9223372036854775807) (d2 : Deed) (hd2 : Hid d2.ok) :
    Calls Try.prog 6 #[.int .i64 n0, .slice a1 l1.length cap1, .agg (encA d2).toArray] e fun en w' => en = .returned (.bool true) ∧ Holds e w' [Old e] := by
  have hw := Holds.start e
  have hA : encA d2 = [.int .i64 d2.f0, .int .i64 d2.f1, .int .i64 d2.f2] := rfl
  by_cases hlong : (100 : Int) < l1.length
  · rw [hA]; clear hA
    refine Sep.calls_post ?_
    intro Post_ hPost_
    have HP := Sep.hid hPost_
    clear hPost_
    go_enter Try.func6, Try.ntmps6
    go_wp2_with (refine wpList_on rfl (wp_box rfl hw ?_); intro b_ w_ hw_; clear hw; have hw := hw_; clear hw_; (try simp only [List.map_cons, List.map_nil, List.getD_cons_zero, List.getD_cons_succ, List.getD_nil, List.set_cons_zero, List.set_cons_succ, List.cons_append, List.nil_append, Act.eval, Array.getD_eq_getD_getElem?, List.getElem?_toArray, List.getElem?_cons_succ, List.getElem?_cons_zero, Option.getD_some, Value.cells] at hw); (try simp (disch := first | (simp; done) | (simp; omega)) only [Sep.mid_set, Sep.mid_set2, Sep.mid_set0, Sep.mid_splice, Sep.mid_splice0, List.set_cons_zero, List.set_cons_succ] at hw); (try simp only [Sep.splice, List.take_succ_cons, List.take_zero, List.drop_succ_cons, List.drop_zero, List.length_cons, List.length_nil, Nat.reduceAdd, List.cons_append, List.nil_append] at hw); (try replace hc0 := Sep.Holds.cells hw (i := 0) rfl); (try replace hc1 := Sep.Holds.cells hw (i := 1) rfl); (try replace hc2 := Sep.Holds.cells hw (i := 2) rfl); (try replace hc3 := Sep.Holds.cells hw (i := 3) rfl); (try replace hc4 := Sep.Holds.cells hw (i := 4) rfl); (try replace hc5 := Sep.Holds.cells hw (i := 5) rfl); (try replace hc6 := Sep.Holds.cells hw (i := 6) rfl))
    go_wp2_with fail
    refine (awake_calls e _ _ hw.focus0).mono ?_
    rintro en_ w_ ⟨rfl, hw_⟩
    clear hw; (try clear hc0); (try clear hc1); (try clear hc2); (try clear hc3); (try clear hc4); (try clear hc5); (try clear hc6); have hw := Holds.unfocus0 hw_; clear hw_
    (try simp only [List.map_cons, List.map_nil, List.getD_cons_zero, List.getD_cons_succ, List.getD_nil, List.set_cons_zero, List.set_cons_succ, List.cons_append, List.nil_append, Act.eval, Array.getD_eq_getD_getElem?, List.getElem?_toArray, List.getElem?_cons_succ, List.getElem?_cons_zero, Option.getD_some, Value.cells] at hw); (try simp (disch := first | (simp; done) | (simp; omega)) only [Sep.mid_set, Sep.mid_set2, Sep.mid_set0, Sep.mid_splice, Sep.mid_splice0, List.set_cons_zero, List.set_cons_succ] at hw); (try simp only [Sep.splice, List.take_succ_cons, List.take_zero, List.drop_succ_cons, List.drop_zero, List.length_cons, List.length_nil, Nat.reduceAdd, List.cons_append, List.nil_append] at hw)
    go_wp2_with fail
    exact HP.out _ _ ⟨rfl, hw.sel [0] (by decide)⟩
  by_cases hneg : n0 < 0
  · rw [hA]; clear hA
    refine Sep.calls_post ?_
    intro Post_ hPost_
    have HP := Sep.hid hPost_
    clear hPost_
    go_enter Try.func6, Try.ntmps6
    go_wp2_with (refine wpList_on rfl (wp_box rfl hw ?_); intro b_ w_ hw_; clear hw; have hw := hw_; clear hw_; (try simp only [List.map_cons, List.map_nil, List.getD_cons_zero, List.getD_cons_succ, List.getD_nil, List.set_cons_zero, List.set_cons_succ, List.cons_append, List.nil_append, Act.eval, Array.getD_eq_getD_getElem?, List.getElem?_toArray, List.getElem?_cons_succ, List.getElem?_cons_zero, Option.getD_some, Value.cells] at hw); (try simp (disch := first | (simp; done) | (simp; omega)) only [Sep.mid_set, Sep.mid_set2, Sep.mid_set0, Sep.mid_splice, Sep.mid_splice0, List.set_cons_zero, List.set_cons_succ] at hw); (try simp only [Sep.splice, List.take_succ_cons, List.take_zero, List.drop_succ_cons, List.drop_zero, List.length_cons, List.length_nil, Nat.reduceAdd, List.cons_append, List.nil_append] at hw); (try replace hc0 := Sep.Holds.cells hw (i := 0) rfl); (try replace hc1 := Sep.Holds.cells hw (i := 1) rfl); (try replace hc2 := Sep.Holds.cells hw (i := 2) rfl); (try replace hc3 := Sep.Holds.cells hw (i := 3) rfl); (try replace hc4 := Sep.Holds.cells hw (i := 4) rfl); (try replace hc5 := Sep.Holds.cells hw (i := 5) rfl); (try replace hc6 := Sep.Holds.cells hw (i := 6) rfl))
    go_wp2_with fail
    refine (awake_calls e _ _ hw.focus0).mono ?_
    rintro en_ w_ ⟨rfl, hw_⟩
    clear hw; (try clear hc0); (try clear hc1); (try clear hc2); (try clear hc3); (try clear hc4); (try clear hc5); (try clear hc6); have hw := Holds.unfocus0 hw_; clear hw_
    (try simp only [List.map_cons, List.map_nil, List.getD_cons_zero, List.getD_cons_succ, List.getD_nil, List.set_cons_zero, List.set_cons_succ, List.cons_append, List.nil_append, Act.eval, Array.getD_eq_getD_getElem?, List.getElem?_toArray, List.getElem?_cons_succ, List.getElem?_cons_zero, Option.getD_some, Value.cells] at hw); (try simp (disch := first | (simp; done) | (simp; omega)) only [Sep.mid_set, Sep.mid_set2, Sep.mid_set0, Sep.mid_splice, Sep.mid_splice0, List.set_cons_zero, List.set_cons_succ] at hw); (try simp only [Sep.splice, List.take_succ_cons, List.take_zero, List.drop_succ_cons, List.drop_zero, List.length_cons, List.length_nil, Nat.reduceAdd, List.cons_append, List.nil_append] at hw)
    go_wp2_with fail
    exact HP.out _ _ ⟨rfl, hw.sel [0] (by decide)⟩
  generalize hlen' : l1.length = len at *
  have Hlen := Sep.hid hlen'; clear hlen'
  have hlong2 : len ≤ 100 := by omega
  have Hn0 : Hid (0 ≤ n0 ∧ n0 ≤ 9223372036854775807) := Sep.hid ⟨by omega, hn0.out.2⟩
  have Hd2 : Hid (d2.f2 ≤ 9223372036854775807) := Sep.hid hd2.out.2.2.2
  clear hn0 hd2
  rw [hA]; clear hA
  refine Sep.calls_post ?_
  intro Post_ hPost_
  have HP := Sep.hid hPost_
  clear hPost_
  go_enter Try.func6, Try.ntmps6
  go_wp2_with (refine wpList_on rfl (wp_box rfl hw ?_); intro b_ w_ hw_; clear hw; have hw := hw_; clear hw_; (try simp only [List.map_cons, List.map_nil, List.getD_cons_zero, List.getD_cons_succ, List.getD_nil, List.set_cons_zero, List.set_cons_succ, List.cons_append, List.nil_append, Act.eval, Array.getD_eq_getD_getElem?, List.getElem?_toArray, List.getElem?_cons_succ, List.getElem?_cons_zero, Option.getD_some, Value.cells] at hw); (try simp (disch := first | (simp; done) | (simp; omega)) only [Sep.mid_set, Sep.mid_set2, Sep.mid_set0, Sep.mid_splice, Sep.mid_splice0, List.set_cons_zero, List.set_cons_succ] at hw); (try simp only [Sep.splice, List.take_succ_cons, List.take_zero, List.drop_succ_cons, List.drop_zero, List.length_cons, List.length_nil, Nat.reduceAdd, List.cons_append, List.nil_append] at hw); (try replace hc0 := Sep.Holds.cells hw (i := 0) rfl); (try replace hc1 := Sep.Holds.cells hw (i := 1) rfl); (try replace hc2 := Sep.Holds.cells hw (i := 2) rfl); (try replace hc3 := Sep.Holds.cells hw (i := 3) rfl); (try replace hc4 := Sep.Holds.cells hw (i := 4) rfl); (try replace hc5 := Sep.Holds.cells hw (i := 5) rfl); (try replace hc6 := Sep.Holds.cells hw (i := 6) rfl))
  go_wp2_with fail
  refine (awake_calls e _ _ hw.focus0).mono ?_
  rintro en_ w_ ⟨rfl, hw_⟩
  clear hw; (try clear hc0); (try clear hc1); (try clear hc2); (try clear hc3); (try clear hc4); (try clear hc5); (try clear hc6); have hw := Holds.unfocus0 hw_; clear hw_
  (try simp only [List.map_cons, List.map_nil, List.getD_cons_zero, List.getD_cons_succ, List.getD_nil, List.set_cons_zero, List.set_cons_succ, List.cons_append, List.nil_append, Act.eval, Array.getD_eq_getD_getElem?, List.getElem?_toArray, List.getElem?_cons_succ, List.getElem?_cons_zero, Option.getD_some, Value.cells] at hw); (try simp (disch := first | (simp; done) | (simp; omega)) only [Sep.mid_set, Sep.mid_set2, Sep.mid_set0, Sep.mid_splice, Sep.mid_splice0, List.set_cons_zero, List.set_cons_succ] at hw); (try simp only [Sep.splice, List.take_succ_cons, List.take_zero, List.drop_succ_cons, List.drop_zero, List.length_cons, List.length_nil, Nat.reduceAdd, List.cons_append, List.nil_append] at hw)
  go_wp2_with fail
  refine (oNew_ok 20 n0 (by decide) (by decide) Hn0.out.1 Hn0.out.2 e _ _ hw.focus0).mono ?_
  rintro en_ w_ ⟨p, rfl, hw_⟩
  clear hw; have hw := Holds.unfocus0 hw_; clear hw_
  (try simp only [List.map_cons, List.map_nil, List.getD_cons_zero, List.getD_cons_succ, List.getD_nil, List.set_cons_zero, List.set_cons_succ, List.cons_append, List.nil_append, Act.eval, Array.getD_eq_getD_getElem?, List.getElem?_toArray, List.getElem?_cons_succ, List.getElem?_cons_zero, Option.getD_some, Value.cells] at hw); (try simp (disch := first | (simp; done) | (simp; omega)) only [Sep.mid_set, Sep.mid_set2, Sep.mid_set0, Sep.mid_splice, Sep.mid_splice0, List.set_cons_zero, List.set_cons_succ] at hw); (try simp only [Sep.splice, List.take_succ_cons, List.take_zero, List.drop_succ_cons, List.drop_zero, List.length_cons, List.length_nil, Nat.reduceAdd, List.cons_append, List.nil_append] at hw)
  go_wp2_with fail
  have Hw0 := Sep.hid hw; clear hw
  (try clear hc0); (try clear hc1); (try clear hc2); (try clear hc3); (try clear hc4); (try clear hc5); (try clear hc6)
  go_loopw [38] (fun i wr => ∃ (q : Nat) (M : SM), q ≤ len ∧ i = .int .i64 q ∧ (M.n = 20 ∧ M.room = n0) ∧ Holds e wr [Old e, pt b_ [.int .i64 d2.f0, .int .i64 d2.f1, .int .i64 d2.f2] 32, IsSema p M]) (fun i _ => len - (intOf i).toNat)
  case atStart => exact ⟨0, _, Nat.zero_le _, rfl, ⟨rfl, rfl⟩, Hw0.out⟩
  case round =>
    clear Hw0
    obtain ⟨q, M, hq, rfl, hst, hw⟩ := hrel
    have Hst := Sep.hid hst; clear hst
    by_cases hlt : q < len
    · obtain ⟨d, hd⟩ : ∃ d, l1[q]? = some d := ⟨_, List.getElem?_eq_getElem (by rw [Hlen.out]; exact hlt)⟩
      obtain ⟨hdok, ad, rfl, hcell⟩ := hl1.out q d hd
      have Hcell := Sep.hid hcell; clear hcell hd
      have Hdok := Sep.hid hdok; clear hdok
      go_wp2_with (first | ((with_reducible refine wpList_act (x := ?hx0x12) (y := ?hy0x12) (x1 := ?hx1x12) (x3 := ?hx3x12) (y3 := ?hy3x12) (cap := ?hcpx12) (vs := encA d) (q := q) (ad := ad) ti32 agg32 sl22 ?a1x12 ?a2x12 hlt hw (i := 0) ?a3x12 ?a4x12 ?a5x12 (encA_one d) Hcell.out ?b0x12 ?c0x12 ?b1x12 ?c1x12 ?d1x12 ?b2x12 ?c2x12 ?b3x12 ?c3x12 ?d3x12 ?f3x12 ?ggx12); (case b0x12 => rfl); (case b1x12 => rfl); (case b2x12 => rfl); (case b3x12 => rfl); (case a1x12 => rfl); (case a2x12 => rfl); (case a3x12 => rfl); (case a4x12 => rfl); (case a5x12 => rfl); (case c0x12 => rfl); (case c1x12 => rfl); (case d1x12 => rfl); (case c2x12 => rfl); (case c3x12 => (intro b; rfl)); (case d3x12 => (intro b; rfl)); (case f3x12 => (intro b; rfl)); intro bd w_ hw_; clear hw; have hw := hw_; clear hw_; (try simp only [List.map_cons, List.map_nil, List.getD_cons_zero, List.getD_cons_succ, List.getD_nil, List.set_cons_zero, List.set_cons_succ, List.cons_append, List.nil_append, Act.eval, Array.getD_eq_getD_getElem?, List.getElem?_toArray, List.getElem?_cons_succ, List.getElem?_cons_zero, Option.getD_some, Value.cells] at hw); (try simp (disch := first | (simp; done) | (simp; omega)) only [Sep.mid_set, Sep.mid_set2, Sep.mid_set0, Sep.mid_splice, Sep.mid_splice0, List.set_cons_zero, List.set_cons_succ] at hw); (try simp only [Sep.splice, List.take_succ_cons, List.take_zero, List.drop_succ_cons, List.drop_zero, List.length_cons, List.length_nil, Nat.reduceAdd, List.cons_append, List.nil_append] at hw); (try replace hc0 := Sep.Holds.cells hw (i := 0) rfl); (try replace hc1 := Sep.Holds.cells hw (i := 1) rfl); (try replace hc2 := Sep.Holds.cells hw (i := 2) rfl); (try replace hc3 := Sep.Holds.cells hw (i := 3) rfl); (try replace hc4 := Sep.Holds.cells hw (i := 4) rfl); (try replace hc5 := Sep.Holds.cells hw (i := 5) rfl); (try replace hc6 := Sep.Holds.cells hw (i := 6) rfl)) | (refine wpList_on rfl (wp_loadN (vs := encA d) rfl rfl hw (i := 3) rfl rfl (by intro j v hj; simpa using hj) ?_)))
      refine (do_calls p M d Hdok.out.2.2.2 e _ _ (hw.focus1 2 rfl)).mono ?_
      rintro en_ w_ ⟨v, rfl, hw_⟩
      clear hw; (try clear hc0); (try clear hc1); (try clear hc2); (try clear hc3); (try clear hc4); (try clear hc5); (try clear hc6); have hw := Holds.unfocus1 2 (by simp) hw_; clear hw_
      (try simp only [List.map_cons, List.map_nil, List.getD_cons_zero, List.getD_cons_succ, List.getD_nil, List.set_cons_zero, List.set_cons_succ, List.cons_append, List.nil_append, Act.eval, Array.getD_eq_getD_getElem?, List.getElem?_toArray, List.getElem?_cons_succ, List.getElem?_cons_zero, Option.getD_some, Value.cells] at hw); (try simp (disch := first | (simp; done) | (simp; omega)) only [Sep.mid_set, Sep.mid_set2, Sep.mid_set0, Sep.mid_splice, Sep.mid_splice0, List.set_cons_zero, List.set_cons_succ] at hw); (try simp only [Sep.splice, List.take_succ_cons, List.take_zero, List.drop_succ_cons, List.drop_zero, List.length_cons, List.length_nil, Nat.reduceAdd, List.cons_append, List.nil_append] at hw)
      go_wp2_with fail
      go_roundw
      case rel => exact ⟨q + 1, _, by omega, by go_num, ⟨(act_n M d).1.trans Hst.out.1, (act_n M d).2.trans Hst.out.2⟩, hw.sel [0, 1, 2] (by decide)⟩
      case measure => simp [intOf]; omega
    · have Hlr : Hid (M.w.length ≤ 1000 ∧ M.d.length ≤ 1000) := Sep.hid (sema_len (i := 2) rfl hw)
      have Hrm : Hid ((M.act d2).2.2.2.room = n0) := Sep.hid ((act_n M d2).2.trans Hst.out.2)
      have Hok := Sep.hid (sema_ok (i := 2) rfl hw).2
      go_wp2_with fail
      go_wp2_with fail
      refine (oHeld p M e _ _ (hw.focus1 2 rfl)).mono ?_
      rintro en_ w_ ⟨rfl, rfl⟩
      go_wp2_with fail
      refine (oWaiting p M e _ _ (hw.focus1 2 rfl)).mono ?_
      rintro en_ w_ ⟨u, v, rfl, hw_⟩
      clear hw; (try clear hc0); (try clear hc1); (try clear hc2); (try clear hc3); (try clear hc4); (try clear hc5); (try clear hc6); have hw := Holds.unfocus1 2 (by simp) hw_; clear hw_
      (try simp only [List.map_cons, List.map_nil, List.getD_cons_zero, List.getD_cons_succ, List.getD_nil, List.set_cons_zero, List.set_cons_succ, List.cons_append, List.nil_append, Act.eval, Array.getD_eq_getD_getElem?, List.getElem?_toArray, List.getElem?_cons_succ, List.getElem?_cons_zero, Option.getD_some, Value.cells] at hw); (try simp (disch := first | (simp; done) | (simp; omega)) only [Sep.mid_set, Sep.mid_set2, Sep.mid_set0, Sep.mid_splice, Sep.mid_splice0, List.set_cons_zero, List.set_cons_succ] at hw); (try simp only [Sep.splice, List.take_succ_cons, List.take_zero, List.drop_succ_cons, List.drop_zero, List.length_cons, List.length_nil, Nat.reduceAdd, List.cons_append, List.nil_append] at hw)
      obtain ⟨ua, uc, rfl⟩ := Sl.value (i := 3) rfl hw
      obtain ⟨va, vc, rfl⟩ := Sl.value (i := 4) rfl hw
      (try replace hc0 := Sep.Holds.cells hw (i := 0) rfl); (try replace hc1 := Sep.Holds.cells hw (i := 1) rfl); (try replace hc2 := Sep.Holds.cells hw (i := 2) rfl); (try replace hc3 := Sep.Holds.cells hw (i := 3) rfl); (try replace hc4 := Sep.Holds.cells hw (i := 4) rfl); (try replace hc5 := Sep.Holds.cells hw (i := 5) rfl); (try replace hc6 := Sep.Holds.cells hw (i := 6) rfl)
      go_wp2_with fail
      have hdo := fun w X hw => do_calls p M d2 Hd2.out e w X hw
      rcases misuse_cases M d2 with ⟨er, her, hb⟩ | ⟨h1, hwn, hf, hb⟩ | ⟨h1, hnf, hb⟩ | ⟨h2, hx0, hx1, he0⟩ | ⟨h1, h2, he0⟩
      · simp only [hb] at hdo
        clear hb
        refine (hdo _ _ (hw.focus1 2 rfl)).mono ?_
        rintro en_ w_ ⟨x, rfl, hw_⟩
        clear hw; (try clear hc0); (try clear hc1); (try clear hc2); (try clear hc3); (try clear hc4); (try clear hc5); (try clear hc6); have hw := Holds.unfocus1 2 (by simp) hw_; clear hw_ hdo
        (try simp only [List.map_cons, List.map_nil, List.getD_cons_zero, List.getD_cons_succ, List.getD_nil, List.set_cons_zero, List.set_cons_succ, List.cons_append, List.nil_append, Act.eval, Array.getD_eq_getD_getElem?, List.getElem?_toArray, List.getElem?_cons_succ, List.getElem?_cons_zero, Option.getD_some, Value.cells] at hw); (try simp (disch := first | (simp; done) | (simp; omega)) only [Sep.mid_set, Sep.mid_set2, Sep.mid_set0, Sep.mid_splice, Sep.mid_splice0, List.set_cons_zero, List.set_cons_succ] at hw); (try simp only [Sep.splice, List.take_succ_cons, List.take_zero, List.drop_succ_cons, List.drop_zero, List.length_cons, List.length_nil, Nat.reduceAdd, List.cons_append, List.nil_append] at hw)
        obtain ⟨xa, xc, rfl⟩ := Sl.value (i := 5) rfl hw
        (try replace hc0 := Sep.Holds.cells hw (i := 0) rfl); (try replace hc1 := Sep.Holds.cells hw (i := 1) rfl); (try replace hc2 := Sep.Holds.cells hw (i := 2) rfl); (try replace hc3 := Sep.Holds.cells hw (i := 3) rfl); (try replace hc4 := Sep.Holds.cells hw (i := 4) rfl); (try replace hc5 := Sep.Holds.cells hw (i := 5) rfl); (try replace hc6 := Sep.Holds.cells hw (i := 6) rfl)
        go_wp2_with fail
        refine (oWaiting p M e _ _ (hw.focus1 2 rfl)).mono ?_
        rintro en_ w_ ⟨u2, v2, rfl, hw_⟩
        clear hw; (try clear hc0); (try clear hc1); (try clear hc2); (try clear hc3); (try clear hc4); (try clear hc5); (try clear hc6); have hw := Holds.unfocus1 2 (by simp) hw_; clear hw_
        (try simp only [List.map_cons, List.map_nil, List.getD_cons_zero, List.getD_cons_succ, List.getD_nil, List.set_cons_zero, List.set_cons_succ, List.cons_append, List.nil_append, Act.eval, Array.getD_eq_getD_getElem?, List.getElem?_toArray, List.getElem?_cons_succ, List.getElem?_cons_zero, Option.getD_some, Value.cells] at hw); (try simp (disch := first | (simp; done) | (simp; omega)) only [Sep.mid_set, Sep.mid_set2, Sep.mid_set0, Sep.mid_splice, Sep.mid_splice0, List.set_cons_zero, List.set_cons_succ] at hw); (try simp only [Sep.splice, List.take_succ_cons, List.take_zero, List.drop_succ_cons, List.drop_zero, List.length_cons, List.length_nil, Nat.reduceAdd, List.cons_append, List.nil_append] at hw)
        obtain ⟨ua2, uc2, rfl⟩ := Sl.value (i := 6) rfl hw
        obtain ⟨va2, vc2, rfl⟩ := Sl.value (i := 7) rfl hw
        (try replace hc0 := Sep.Holds.cells hw (i := 0) rfl); (try replace hc1 := Sep.Holds.cells hw (i := 1) rfl); (try replace hc2 := Sep.Holds.cells hw (i := 2) rfl); (try replace hc3 := Sep.Holds.cells hw (i := 3) rfl); (try replace hc4 := Sep.Holds.cells hw (i := 4) rfl); (try replace hc5 := Sep.Holds.cells hw (i := 5) rfl); (try replace hc6 := Sep.Holds.cells hw (i := 6) rfl)
        go_wp2_with fail
        refine (same_calls _ _ M.w M.w (by have := Hlr.out; omega) e _ _ (hw.focus2 6 3 rfl rfl (by decide))).mono ?_
        rintro en_ w_ ⟨he_, hw_⟩
        rw [decide_eq_true rfl] at he_; subst he_
        clear hw; (try clear hc0); (try clear hc1); (try clear hc2); (try clear hc3); (try clear hc4); (try clear hc5); (try clear hc6); have hw := Holds.unfocus2 6 3 (by simp) (by simp) (by decide) hw_; clear hw_
        (try simp only [List.map_cons, List.map_nil, List.getD_cons_zero, List.getD_cons_succ, List.getD_nil, List.set_cons_zero, List.set_cons_succ, List.cons_append, List.nil_append, Act.eval, Array.getD_eq_getD_getElem?, List.getElem?_toArray, List.getElem?_cons_succ, List.getElem?_cons_zero, Option.getD_some, Value.cells] at hw); (try simp (disch := first | (simp; done) | (simp; omega)) only [Sep.mid_set, Sep.mid_set2, Sep.mid_set0, Sep.mid_splice, Sep.mid_splice0, List.set_cons_zero, List.set_cons_succ] at hw); (try simp only [Sep.splice, List.take_succ_cons, List.take_zero, List.drop_succ_cons, List.drop_zero, List.length_cons, List.length_nil, Nat.reduceAdd, List.cons_append, List.nil_append] at hw)
        (try replace hc0 := Sep.Holds.cells hw (i := 0) rfl); (try replace hc1 := Sep.Holds.cells hw (i := 1) rfl); (try replace hc2 := Sep.Holds.cells hw (i := 2) rfl); (try replace hc3 := Sep.Holds.cells hw (i := 3) rfl); (try replace hc4 := Sep.Holds.cells hw (i := 4) rfl); (try replace hc5 := Sep.Holds.cells hw (i := 5) rfl); (try replace hc6 := Sep.Holds.cells hw (i := 6) rfl)
        go_wp2_with fail
        refine (same_calls _ _ M.d M.d (by have := Hlr.out; omega) e _ _ (hw.focus2 7 4 rfl rfl (by decide))).mono ?_
        rintro en_ w_ ⟨he_, hw_⟩
        rw [decide_eq_true rfl] at he_; subst he_
        clear hw; (try clear hc0); (try clear hc1); (try clear hc2); (try clear hc3); (try clear hc4); (try clear hc5); (try clear hc6); have hw := Holds.unfocus2 7 4 (by simp) (by simp) (by decide) hw_; clear hw_
        (try simp only [List.map_cons, List.map_nil, List.getD_cons_zero, List.getD_cons_succ, List.getD_nil, List.set_cons_zero, List.set_cons_succ, List.cons_append, List.nil_append, Act.eval, Array.getD_eq_getD_getElem?, List.getElem?_toArray, List.getElem?_cons_succ, List.getElem?_cons_zero, Option.getD_some, Value.cells] at hw); (try simp (disch := first | (simp; done) | (simp; omega)) only [Sep.mid_set, Sep.mid_set2, Sep.mid_set0, Sep.mid_splice, Sep.mid_splice0, List.set_cons_zero, List.set_cons_succ] at hw); (try simp only [Sep.splice, List.take_succ_cons, List.take_zero, List.drop_succ_cons, List.drop_zero, List.length_cons, List.length_nil, Nat.reduceAdd, List.cons_append, List.nil_append] at hw)
        (try replace hc0 := Sep.Holds.cells hw (i := 0) rfl); (try replace hc1 := Sep.Holds.cells hw (i := 1) rfl); (try replace hc2 := Sep.Holds.cells hw (i := 2) rfl); (try replace hc3 := Sep.Holds.cells hw (i := 3) rfl); (try replace hc4 := Sep.Holds.cells hw (i := 4) rfl); (try replace hc5 := Sep.Holds.cells hw (i := 5) rfl); (try replace hc6 := Sep.Holds.cells hw (i := 6) rfl)
        go_wp2_with (go_at_call 16; refine (oHeld p M e _ _ (hw.focus1 2 rfl)).mono ?_; rintro _ w_ ⟨rfl, rfl⟩)
        exact HP.out _ _ ⟨rfl, hw.sel [0] (by decide)⟩
      · simp only [hb] at hdo
        clear hb
        have hz : M.w.length = 0 := by rw [hwn]; rfl
        have Hz := Sep.hid hz
        have Hf := Sep.hid hf; clear hf hwn hz
        refine (hdo _ _ (hw.focus1 2 rfl)).mono ?_
        rintro en_ w_ ⟨x, rfl, hw_⟩
        clear hw; (try clear hc0); (try clear hc1); (try clear hc2); (try clear hc3); (try clear hc4); (try clear hc5); (try clear hc6); have hw := Holds.unfocus1 2 (by simp) hw_; clear hw_ hdo
        (try simp only [List.map_cons, List.map_nil, List.getD_cons_zero, List.getD_cons_succ, List.getD_nil, List.set_cons_zero, List.set_cons_succ, List.cons_append, List.nil_append, Act.eval, Array.getD_eq_getD_getElem?, List.getElem?_toArray, List.getElem?_cons_succ, List.getElem?_cons_zero, Option.getD_some, Value.cells] at hw); (try simp (disch := first | (simp; done) | (simp; omega)) only [Sep.mid_set, Sep.mid_set2, Sep.mid_set0, Sep.mid_splice, Sep.mid_splice0, List.set_cons_zero, List.set_cons_succ] at hw); (try simp only [Sep.splice, List.take_succ_cons, List.take_zero, List.drop_succ_cons, List.drop_zero, List.length_cons, List.length_nil, Nat.reduceAdd, List.cons_append, List.nil_append] at hw)
        obtain ⟨xa, xc, rfl⟩ := Sl.value (i := 5) rfl hw
        (try replace hc0 := Sep.Holds.cells hw (i := 0) rfl); (try replace hc1 := Sep.Holds.cells hw (i := 1) rfl); (try replace hc2 := Sep.Holds.cells hw (i := 2) rfl); (try replace hc3 := Sep.Holds.cells hw (i := 3) rfl); (try replace hc4 := Sep.Holds.cells hw (i := 4) rfl); (try replace hc5 := Sep.Holds.cells hw (i := 5) rfl); (try replace hc6 := Sep.Holds.cells hw (i := 6) rfl)
        go_wp2_with fail
        refine (oWaiting p ⟨M.n, M.held + d2.f2, M.room, M.w, M.d, M.f⟩ e _ _ (hw.focus1 2 rfl)).mono ?_
        rintro en_ w_ ⟨u2, v2, rfl, hw_⟩
        clear hw; (try clear hc0); (try clear hc1); (try clear hc2); (try clear hc3); (try clear hc4); (try clear hc5); (try clear hc6); have hw := Holds.unfocus1 2 (by simp) hw_; clear hw_
        (try simp only [List.map_cons, List.map_nil, List.getD_cons_zero, List.getD_cons_succ, List.getD_nil, List.set_cons_zero, List.set_cons_succ, List.cons_append, List.nil_append, Act.eval, Array.getD_eq_getD_getElem?, List.getElem?_toArray, List.getElem?_cons_succ, List.getElem?_cons_zero, Option.getD_some, Value.cells] at hw); (try simp (disch := first | (simp; done) | (simp; omega)) only [Sep.mid_set, Sep.mid_set2, Sep.mid_set0, Sep.mid_splice, Sep.mid_splice0, List.set_cons_zero, List.set_cons_succ] at hw); (try simp only [Sep.splice, List.take_succ_cons, List.take_zero, List.drop_succ_cons, List.drop_zero, List.length_cons, List.length_nil, Nat.reduceAdd, List.cons_append, List.nil_append] at hw)
        obtain ⟨ua2, uc2, rfl⟩ := Sl.value (i := 6) rfl hw
        obtain ⟨va2, vc2, rfl⟩ := Sl.value (i := 7) rfl hw
        (try replace hc0 := Sep.Holds.cells hw (i := 0) rfl); (try replace hc1 := Sep.Holds.cells hw (i := 1) rfl); (try replace hc2 := Sep.Holds.cells hw (i := 2) rfl); (try replace hc3 := Sep.Holds.cells hw (i := 3) rfl); (try replace hc4 := Sep.Holds.cells hw (i := 4) rfl); (try replace hc5 := Sep.Holds.cells hw (i := 5) rfl); (try replace hc6 := Sep.Holds.cells hw (i := 6) rfl)
        go_wp2_with fail
        refine (same_calls _ _ M.w M.w (by have := Hlr.out; omega) e _ _ (hw.focus2 6 3 rfl rfl (by decide))).mono ?_
        rintro en_ w_ ⟨he_, hw_⟩
        rw [decide_eq_true rfl] at he_; subst he_
        clear hw; (try clear hc0); (try clear hc1); (try clear hc2); (try clear hc3); (try clear hc4); (try clear hc5); (try clear hc6); have hw := Holds.unfocus2 6 3 (by simp) (by simp) (by decide) hw_; clear hw_
        (try simp only [List.map_cons, List.map_nil, List.getD_cons_zero, List.getD_cons_succ, List.getD_nil, List.set_cons_zero, List.set_cons_succ, List.cons_append, List.nil_append, Act.eval, Array.getD_eq_getD_getElem?, List.getElem?_toArray, List.getElem?_cons_succ, List.getElem?_cons_zero, Option.getD_some, Value.cells] at hw); (try simp (disch := first | (simp; done) | (simp; omega)) only [Sep.mid_set, Sep.mid_set2, Sep.mid_set0, Sep.mid_splice, Sep.mid_splice0, List.set_cons_zero, List.set_cons_succ] at hw); (try simp only [Sep.splice, List.take_succ_cons, List.take_zero, List.drop_succ_cons, List.drop_zero, List.length_cons, List.length_nil, Nat.reduceAdd, List.cons_append, List.nil_append] at hw)
        (try replace hc0 := Sep.Holds.cells hw (i := 0) rfl); (try replace hc1 := Sep.Holds.cells hw (i := 1) rfl); (try replace hc2 := Sep.Holds.cells hw (i := 2) rfl); (try replace hc3 := Sep.Holds.cells hw (i := 3) rfl); (try replace hc4 := Sep.Holds.cells hw (i := 4) rfl); (try replace hc5 := Sep.Holds.cells hw (i := 5) rfl); (try replace hc6 := Sep.Holds.cells hw (i := 6) rfl)
        go_wp2_with fail
        have hz := Hz.out
        refine (same_calls _ _ M.d M.d (by have := Hlr.out; omega) e _ _ (hw.focus2 7 4 rfl rfl (by decide))).mono ?_
        rintro en_ w_ ⟨he_, hw_⟩
        rw [decide_eq_true rfl] at he_; subst he_
        clear hw; (try clear hc0); (try clear hc1); (try clear hc2); (try clear hc3); (try clear hc4); (try clear hc5); (try clear hc6); have hw := Holds.unfocus2 7 4 (by simp) (by simp) (by decide) hw_; clear hw_
        (try simp only [List.map_cons, List.map_nil, List.getD_cons_zero, List.getD_cons_succ, List.getD_nil, List.set_cons_zero, List.set_cons_succ, List.cons_append, List.nil_append, Act.eval, Array.getD_eq_getD_getElem?, List.getElem?_toArray, List.getElem?_cons_succ, List.getElem?_cons_zero, Option.getD_some, Value.cells] at hw); (try simp (disch := first | (simp; done) | (simp; omega)) only [Sep.mid_set, Sep.mid_set2, Sep.mid_set0, Sep.mid_splice, Sep.mid_splice0, List.set_cons_zero, List.set_cons_succ] at hw); (try simp only [Sep.splice, List.take_succ_cons, List.take_zero, List.drop_succ_cons, List.drop_zero, List.length_cons, List.length_nil, Nat.reduceAdd, List.cons_append, List.nil_append] at hw)
        (try replace hc0 := Sep.Holds.cells hw (i := 0) rfl); (try replace hc1 := Sep.Holds.cells hw (i := 1) rfl); (try replace hc2 := Sep.Holds.cells hw (i := 2) rfl); (try replace hc3 := Sep.Holds.cells hw (i := 3) rfl); (try replace hc4 := Sep.Holds.cells hw (i := 4) rfl); (try replace hc5 := Sep.Holds.cells hw (i := 5) rfl); (try replace hc6 := Sep.Holds.cells hw (i := 6) rfl)
        go_wp2_with fail
        refine (sFits M.held d2.f2 n0 Hn0.out.2 _).mono ?_
        rintro _ w_ ⟨rfl, rfl⟩
        rw [show fits M.held d2.f2 n0 = true by rw [← Hst.out.2]; exact Hf.out]
        go_wp2_with fail
        exact HP.out _ _ ⟨rfl, hw.sel [0] (by decide)⟩
      · simp only [hb] at hdo
        clear hb
        obtain hwn | ⟨y, l, hwn⟩ : M.w = [] ∨ ∃ y l, M.w = y :: l := by cases M.w <;> simp
        rotate_left
        · have Hz : Hid (¬ M.w.length = 0) := Sep.hid (by rw [hwn]; simp)
          clear hwn hnf
          refine (hdo _ _ (hw.focus1 2 rfl)).mono ?_
          rintro en_ w_ ⟨x, rfl, hw_⟩
          clear hw; (try clear hc0); (try clear hc1); (try clear hc2); (try clear hc3); (try clear hc4); (try clear hc5); (try clear hc6); have hw := Holds.unfocus1 2 (by simp) hw_; clear hw_ hdo
          (try simp only [List.map_cons, List.map_nil, List.getD_cons_zero, List.getD_cons_succ, List.getD_nil, List.set_cons_zero, List.set_cons_succ, List.cons_append, List.nil_append, Act.eval, Array.getD_eq_getD_getElem?, List.getElem?_toArray, List.getElem?_cons_succ, List.getElem?_cons_zero, Option.getD_some, Value.cells] at hw); (try simp (disch := first | (simp; done) | (simp; omega)) only [Sep.mid_set, Sep.mid_set2, Sep.mid_set0, Sep.mid_splice, Sep.mid_splice0, List.set_cons_zero, List.set_cons_succ] at hw); (try simp only [Sep.splice, List.take_succ_cons, List.take_zero, List.drop_succ_cons, List.drop_zero, List.length_cons, List.length_nil, Nat.reduceAdd, List.cons_append, List.nil_append] at hw)
          obtain ⟨xa, xc, rfl⟩ := Sl.value (i := 5) rfl hw
          (try replace hc0 := Sep.Holds.cells hw (i := 0) rfl); (try replace hc1 := Sep.Holds.cells hw (i := 1) rfl); (try replace hc2 := Sep.Holds.cells hw (i := 2) rfl); (try replace hc3 := Sep.Holds.cells hw (i := 3) rfl); (try replace hc4 := Sep.Holds.cells hw (i := 4) rfl); (try replace hc5 := Sep.Holds.cells hw (i := 5) rfl); (try replace hc6 := Sep.Holds.cells hw (i := 6) rfl)
          go_wp2_with fail
          refine (oWaiting p M e _ _ (hw.focus1 2 rfl)).mono ?_
          rintro en_ w_ ⟨u2, v2, rfl, hw_⟩
          clear hw; (try clear hc0); (try clear hc1); (try clear hc2); (try clear hc3); (try clear hc4); (try clear hc5); (try clear hc6); have hw := Holds.unfocus1 2 (by simp) hw_; clear hw_
          (try simp only [List.map_cons, List.map_nil, List.getD_cons_zero, List.getD_cons_succ, List.getD_nil, List.set_cons_zero, List.set_cons_succ, List.cons_append, List.nil_append, Act.eval, Array.getD_eq_getD_getElem?, List.getElem?_toArray, List.getElem?_cons_succ, List.getElem?_cons_zero, Option.getD_some, Value.cells] at hw); (try simp (disch := first | (simp; done) | (simp; omega)) only [Sep.mid_set, Sep.mid_set2, Sep.mid_set0, Sep.mid_splice, Sep.mid_splice0, List.set_cons_zero, List.set_cons_succ] at hw); (try simp only [Sep.splice, List.take_succ_cons, List.take_zero, List.drop_succ_cons, List.drop_zero, List.length_cons, List.length_nil, Nat.reduceAdd, List.cons_append, List.nil_append] at hw)
          obtain ⟨ua2, uc2, rfl⟩ := Sl.value (i := 6) rfl hw
          obtain ⟨va2, vc2, rfl⟩ := Sl.value (i := 7) rfl hw
          (try replace hc0 := Sep.Holds.cells hw (i := 0) rfl); (try replace hc1 := Sep.Holds.cells hw (i := 1) rfl); (try replace hc2 := Sep.Holds.cells hw (i := 2) rfl); (try replace hc3 := Sep.Holds.cells hw (i := 3) rfl); (try replace hc4 := Sep.Holds.cells hw (i := 4) rfl); (try replace hc5 := Sep.Holds.cells hw (i := 5) rfl); (try replace hc6 := Sep.Holds.cells hw (i := 6) rfl)
          go_wp2_with fail
          refine (same_calls _ _ M.w M.w (by have := Hlr.out; omega) e _ _ (hw.focus2 6 3 rfl rfl (by decide))).mono ?_
          rintro en_ w_ ⟨he_, hw_⟩
          rw [decide_eq_true rfl] at he_; subst he_
          clear hw; (try clear hc0); (try clear hc1); (try clear hc2); (try clear hc3); (try clear hc4); (try clear hc5); (try clear hc6); have hw := Holds.unfocus2 6 3 (by simp) (by simp) (by decide) hw_; clear hw_
          (try simp only [List.map_cons, List.map_nil, List.getD_cons_zero, List.getD_cons_succ, List.getD_nil, List.set_cons_zero, List.set_cons_succ, List.cons_append, List.nil_append, Act.eval, Array.getD_eq_getD_getElem?, List.getElem?_toArray, List.getElem?_cons_succ, List.getElem?_cons_zero, Option.getD_some, Value.cells] at hw); (try simp (disch := first | (simp; done) | (simp; omega)) only [Sep.mid_set, Sep.mid_set2, Sep.mid_set0, Sep.mid_splice, Sep.mid_splice0, List.set_cons_zero, List.set_cons_succ] at hw); (try simp only [Sep.splice, List.take_succ_cons, List.take_zero, List.drop_succ_cons, List.drop_zero, List.length_cons, List.length_nil, Nat.reduceAdd, List.cons_append, List.nil_append] at hw)
          (try replace hc0 := Sep.Holds.cells hw (i := 0) rfl); (try replace hc1 := Sep.Holds.cells hw (i := 1) rfl); (try replace hc2 := Sep.Holds.cells hw (i := 2) rfl); (try replace hc3 := Sep.Holds.cells hw (i := 3) rfl); (try replace hc4 := Sep.Holds.cells hw (i := 4) rfl); (try replace hc5 := Sep.Holds.cells hw (i := 5) rfl); (try replace hc6 := Sep.Holds.cells hw (i := 6) rfl)
          go_wp2_with fail
          have hz := Hz.out
          refine (same_calls _ _ M.d M.d (by have := Hlr.out; omega) e _ _ (hw.focus2 7 4 rfl rfl (by decide))).mono ?_
          rintro en_ w_ ⟨he_, hw_⟩
          rw [decide_eq_true rfl] at he_; subst he_
          clear hw; (try clear hc0); (try clear hc1); (try clear hc2); (try clear hc3); (try clear hc4); (try clear hc5); (try clear hc6); have hw := Holds.unfocus2 7 4 (by simp) (by simp) (by decide) hw_; clear hw_
          (try simp only [List.map_cons, List.map_nil, List.getD_cons_zero, List.getD_cons_succ, List.getD_nil, List.set_cons_zero, List.set_cons_succ, List.cons_append, List.nil_append, Act.eval, Array.getD_eq_getD_getElem?, List.getElem?_toArray, List.getElem?_cons_succ, List.getElem?_cons_zero, Option.getD_some, Value.cells] at hw); (try simp (disch := first | (simp; done) | (simp; omega)) only [Sep.mid_set, Sep.mid_set2, Sep.mid_set0, Sep.mid_splice, Sep.mid_splice0, List.set_cons_zero, List.set_cons_succ] at hw); (try simp only [Sep.splice, List.take_succ_cons, List.take_zero, List.drop_succ_cons, List.drop_zero, List.length_cons, List.length_nil, Nat.reduceAdd, List.cons_append, List.nil_append] at hw)
          (try replace hc0 := Sep.Holds.cells hw (i := 0) rfl); (try replace hc1 := Sep.Holds.cells hw (i := 1) rfl); (try replace hc2 := Sep.Holds.cells hw (i := 2) rfl); (try replace hc3 := Sep.Holds.cells hw (i := 3) rfl); (try replace hc4 := Sep.Holds.cells hw (i := 4) rfl); (try replace hc5 := Sep.Holds.cells hw (i := 5) rfl); (try replace hc6 := Sep.Holds.cells hw (i := 6) rfl)
          go_wp2_with (go_at_call 16; refine (oHeld p M e _ _ (hw.focus1 2 rfl)).mono ?_; rintro _ w_ ⟨rfl, rfl⟩)
          exact HP.out _ _ ⟨rfl, hw.sel [0] (by decide)⟩
        · have hz : M.w.length = 0 := by rw [hwn]; rfl
          have Hz := Sep.hid hz
          have Hf : Hid (fits M.held d2.f2 M.room = false) := Sep.hid (by
            cases hq : fits M.held d2.f2 M.room with
            | false => rfl
            | true => exact absurd ⟨hwn, hq⟩ hnf)
          clear hwn hnf hz
          refine (hdo _ _ (hw.focus1 2 rfl)).mono ?_
          rintro en_ w_ ⟨x, rfl, hw_⟩
          clear hw; (try clear hc0); (try clear hc1); (try clear hc2); (try clear hc3); (try clear hc4); (try clear hc5); (try clear hc6); have hw := Holds.unfocus1 2 (by simp) hw_; clear hw_ hdo
          (try simp only [List.map_cons, List.map_nil, List.getD_cons_zero, List.getD_cons_succ, List.getD_nil, List.set_cons_zero, List.set_cons_succ, List.cons_append, List.nil_append, Act.eval, Array.getD_eq_getD_getElem?, List.getElem?_toArray, List.getElem?_cons_succ, List.getElem?_cons_zero, Option.getD_some, Value.cells] at hw); (try simp (disch := first | (simp; done) | (simp; omega)) only [Sep.mid_set, Sep.mid_set2, Sep.mid_set0, Sep.mid_splice, Sep.mid_splice0, List.set_cons_zero, List.set_cons_succ] at hw); (try simp only [Sep.splice, List.take_succ_cons, List.take_zero, List.drop_succ_cons, List.drop_zero, List.length_cons, List.length_nil, Nat.reduceAdd, List.cons_append, List.nil_append] at hw)
          obtain ⟨xa, xc, rfl⟩ := Sl.value (i := 5) rfl hw
          (try replace hc0 := Sep.Holds.cells hw (i := 0) rfl); (try replace hc1 := Sep.Holds.cells hw (i := 1) rfl); (try replace hc2 := Sep.Holds.cells hw (i := 2) rfl); (try replace hc3 := Sep.Holds.cells hw (i := 3) rfl); (try replace hc4 := Sep.Holds.cells hw (i := 4) rfl); (try replace hc5 := Sep.Holds.cells hw (i := 5) rfl); (try replace hc6 := Sep.Holds.cells hw (i := 6) rfl)
          go_wp2_with fail
          refine (oWaiting p M e _ _ (hw.focus1 2 rfl)).mono ?_
          rintro en_ w_ ⟨u2, v2, rfl, hw_⟩
          clear hw; (try clear hc0); (try clear hc1); (try clear hc2); (try clear hc3); (try clear hc4); (try clear hc5); (try clear hc6); have hw := Holds.unfocus1 2 (by simp) hw_; clear hw_
          (try simp only [List.map_cons, List.map_nil, List.getD_cons_zero, List.getD_cons_succ, List.getD_nil, List.set_cons_zero, List.set_cons_succ, List.cons_append, List.nil_append, Act.eval, Array.getD_eq_getD_getElem?, List.getElem?_toArray, List.getElem?_cons_succ, List.getElem?_cons_zero, Option.getD_some, Value.cells] at hw); (try simp (disch := first | (simp; done) | (simp; omega)) only [Sep.mid_set, Sep.mid_set2, Sep.mid_set0, Sep.mid_splice, Sep.mid_splice0, List.set_cons_zero, List.set_cons_succ] at hw); (try simp only [Sep.splice, List.take_succ_cons, List.take_zero, List.drop_succ_cons, List.drop_zero, List.length_cons, List.length_nil, Nat.reduceAdd, List.cons_append, List.nil_append] at hw)
          obtain ⟨ua2, uc2, rfl⟩ := Sl.value (i := 6) rfl hw
          obtain ⟨va2, vc2, rfl⟩ := Sl.value (i := 7) rfl hw
          (try replace hc0 := Sep.Holds.cells hw (i := 0) rfl); (try replace hc1 := Sep.Holds.cells hw (i := 1) rfl); (try replace hc2 := Sep.Holds.cells hw (i := 2) rfl); (try replace hc3 := Sep.Holds.cells hw (i := 3) rfl); (try replace hc4 := Sep.Holds.cells hw (i := 4) rfl); (try replace hc5 := Sep.Holds.cells hw (i := 5) rfl); (try replace hc6 := Sep.Holds.cells hw (i := 6) rfl)
          go_wp2_with fail
          refine (same_calls _ _ M.w M.w (by have := Hlr.out; omega) e _ _ (hw.focus2 6 3 rfl rfl (by decide))).mono ?_
          rintro en_ w_ ⟨he_, hw_⟩
          rw [decide_eq_true rfl] at he_; subst he_
          clear hw; (try clear hc0); (try clear hc1); (try clear hc2); (try clear hc3); (try clear hc4); (try clear hc5); (try clear hc6); have hw := Holds.unfocus2 6 3 (by simp) (by simp) (by decide) hw_; clear hw_
          (try simp only [List.map_cons, List.map_nil, List.getD_cons_zero, List.getD_cons_succ, List.getD_nil, List.set_cons_zero, List.set_cons_succ, List.cons_append, List.nil_append, Act.eval, Array.getD_eq_getD_getElem?, List.getElem?_toArray, List.getElem?_cons_succ, List.getElem?_cons_zero, Option.getD_some, Value.cells] at hw); (try simp (disch := first | (simp; done) | (simp; omega)) only [Sep.mid_set, Sep.mid_set2, Sep.mid_set0, Sep.mid_splice, Sep.mid_splice0, List.set_cons_zero, List.set_cons_succ] at hw); (try simp only [Sep.splice, List.take_succ_cons, List.take_zero, List.drop_succ_cons, List.drop_zero, List.length_cons, List.length_nil, Nat.reduceAdd, List.cons_append, List.nil_append] at hw)
          (try replace hc0 := Sep.Holds.cells hw (i := 0) rfl); (try replace hc1 := Sep.Holds.cells hw (i := 1) rfl); (try replace hc2 := Sep.Holds.cells hw (i := 2) rfl); (try replace hc3 := Sep.Holds.cells hw (i := 3) rfl); (try replace hc4 := Sep.Holds.cells hw (i := 4) rfl); (try replace hc5 := Sep.Holds.cells hw (i := 5) rfl); (try replace hc6 := Sep.Holds.cells hw (i := 6) rfl)
          go_wp2_with fail
          have hz := Hz.out
          refine (same_calls _ _ M.d M.d (by have := Hlr.out; omega) e _ _ (hw.focus2 7 4 rfl rfl (by decide))).mono ?_
          rintro en_ w_ ⟨he_, hw_⟩
          rw [decide_eq_true rfl] at he_; subst he_
          clear hw; (try clear hc0); (try clear hc1); (try clear hc2); (try clear hc3); (try clear hc4); (try clear hc5); (try clear hc6); have hw := Holds.unfocus2 7 4 (by simp) (by simp) (by decide) hw_; clear hw_
          (try simp only [List.map_cons, List.map_nil, List.getD_cons_zero, List.getD_cons_succ, List.getD_nil, List.set_cons_zero, List.set_cons_succ, List.cons_append, List.nil_append, Act.eval, Array.getD_eq_getD_getElem?, List.getElem?_toArray, List.getElem?_cons_succ, List.getElem?_cons_zero, Option.getD_some, Value.cells] at hw); (try simp (disch := first | (simp; done) | (simp; omega)) only [Sep.mid_set, Sep.mid_set2, Sep.mid_set0, Sep.mid_splice, Sep.mid_splice0, List.set_cons_zero, List.set_cons_succ] at hw); (try simp only [Sep.splice, List.take_succ_cons, List.take_zero, List.drop_succ_cons, List.drop_zero, List.length_cons, List.length_nil, Nat.reduceAdd, List.cons_append, List.nil_append] at hw)
          (try replace hc0 := Sep.Holds.cells hw (i := 0) rfl); (try replace hc1 := Sep.Holds.cells hw (i := 1) rfl); (try replace hc2 := Sep.Holds.cells hw (i := 2) rfl); (try replace hc3 := Sep.Holds.cells hw (i := 3) rfl); (try replace hc4 := Sep.Holds.cells hw (i := 4) rfl); (try replace hc5 := Sep.Holds.cells hw (i := 5) rfl); (try replace hc6 := Sep.Holds.cells hw (i := 6) rfl)
          go_wp2_with fail
          refine (sFits M.held d2.f2 n0 Hn0.out.2 _).mono ?_
          rintro _ w_ ⟨rfl, rfl⟩
          rw [show fits M.held d2.f2 n0 = false by rw [← Hst.out.2]; exact Hf.out]
          go_wp2_with fail
          refine (oHeld p M e _ _ (hw.focus1 2 rfl)).mono ?_
          rintro _ w_ ⟨rfl, rfl⟩
          go_wp2_with fail
          exact HP.out _ _ ⟨rfl, hw.sel [0] (by decide)⟩
      · have hx2 : d2.f2 ≤ M.held := hx1
        clear Hrm
        generalize hM2 : M.act d2 = R at *
        obtain ⟨o2, is2, er2, M2⟩ := R
        simp only at hdo he0
        subst he0
        clear hM2
        refine (hdo _ _ (hw.focus1 2 rfl)).mono ?_
        rintro en_ w_ ⟨x, rfl, hw_⟩
        clear hw; (try clear hc0); (try clear hc1); (try clear hc2); (try clear hc3); (try clear hc4); (try clear hc5); (try clear hc6); have hw := Holds.unfocus1 2 (by simp) hw_; clear hw_ hdo
        (try simp only [List.map_cons, List.map_nil, List.getD_cons_zero, List.getD_cons_succ, List.getD_nil, List.set_cons_zero, List.set_cons_succ, List.cons_append, List.nil_append, Act.eval, Array.getD_eq_getD_getElem?, List.getElem?_toArray, List.getElem?_cons_succ, List.getElem?_cons_zero, Option.getD_some, Value.cells] at hw); (try simp (disch := first | (simp; done) | (simp; omega)) only [Sep.mid_set, Sep.mid_set2, Sep.mid_set0, Sep.mid_splice, Sep.mid_splice0, List.set_cons_zero, List.set_cons_succ] at hw); (try simp only [Sep.splice, List.take_succ_cons, List.take_zero, List.drop_succ_cons, List.drop_zero, List.length_cons, List.length_nil, Nat.reduceAdd, List.cons_append, List.nil_append] at hw)
        obtain ⟨xa, xc, rfl⟩ := Sl.value (i := 5) rfl hw
        (try replace hc0 := Sep.Holds.cells hw (i := 0) rfl); (try replace hc1 := Sep.Holds.cells hw (i := 1) rfl); (try replace hc2 := Sep.Holds.cells hw (i := 2) rfl); (try replace hc3 := Sep.Holds.cells hw (i := 3) rfl); (try replace hc4 := Sep.Holds.cells hw (i := 4) rfl); (try replace hc5 := Sep.Holds.cells hw (i := 5) rfl); (try replace hc6 := Sep.Holds.cells hw (i := 6) rfl)
        go_wp2_with fail
        refine (oWaiting p M2 e _ _ (hw.focus1 2 rfl)).mono ?_
        rintro en_ w_ ⟨u2, v2, rfl, hw_⟩
        clear hw; (try clear hc0); (try clear hc1); (try clear hc2); (try clear hc3); (try clear hc4); (try clear hc5); (try clear hc6); have hw := Holds.unfocus1 2 (by simp) hw_; clear hw_
        (try simp only [List.map_cons, List.map_nil, List.getD_cons_zero, List.getD_cons_succ, List.getD_nil, List.set_cons_zero, List.set_cons_succ, List.cons_append, List.nil_append, Act.eval, Array.getD_eq_getD_getElem?, List.getElem?_toArray, List.getElem?_cons_succ, List.getElem?_cons_zero, Option.getD_some, Value.cells] at hw); (try simp (disch := first | (simp; done) | (simp; omega)) only [Sep.mid_set, Sep.mid_set2, Sep.mid_set0, Sep.mid_splice, Sep.mid_splice0, List.set_cons_zero, List.set_cons_succ] at hw); (try simp only [Sep.splice, List.take_succ_cons, List.take_zero, List.drop_succ_cons, List.drop_zero, List.length_cons, List.length_nil, Nat.reduceAdd, List.cons_append, List.nil_append] at hw)
        obtain ⟨ua2, uc2, rfl⟩ := Sl.value (i := 6) rfl hw
        obtain ⟨va2, vc2, rfl⟩ := Sl.value (i := 7) rfl hw
        (try replace hc0 := Sep.Holds.cells hw (i := 0) rfl); (try replace hc1 := Sep.Holds.cells hw (i := 1) rfl); (try replace hc2 := Sep.Holds.cells hw (i := 2) rfl); (try replace hc3 := Sep.Holds.cells hw (i := 3) rfl); (try replace hc4 := Sep.Holds.cells hw (i := 4) rfl); (try replace hc5 := Sep.Holds.cells hw (i := 5) rfl); (try replace hc6 := Sep.Holds.cells hw (i := 6) rfl)
        go_wp2_with fail
        have Hl2 : Hid (M2.w.length ≤ 1000 ∧ M2.d.length ≤ 1000) := Sep.hid (sema_len (i := 2) rfl hw)
        refine (same_calls _ _ M2.w M.w (by have := Hl2.out; omega) e _ _ (hw.focus2 6 3 rfl rfl (by decide))).mono ?_
        rintro en_ w_ ⟨rfl, hw_⟩
        clear hw; (try clear hc0); (try clear hc1); (try clear hc2); (try clear hc3); (try clear hc4); (try clear hc5); (try clear hc6); have hw := Holds.unfocus2 6 3 (by simp) (by simp) (by decide) hw_; clear hw_
        (try simp only [List.map_cons, List.map_nil, List.getD_cons_zero, List.getD_cons_succ, List.getD_nil, List.set_cons_zero, List.set_cons_succ, List.cons_append, List.nil_append, Act.eval, Array.getD_eq_getD_getElem?, List.getElem?_toArray, List.getElem?_cons_succ, List.getElem?_cons_zero, Option.getD_some, Value.cells] at hw); (try simp (disch := first | (simp; done) | (simp; omega)) only [Sep.mid_set, Sep.mid_set2, Sep.mid_set0, Sep.mid_splice, Sep.mid_splice0, List.set_cons_zero, List.set_cons_succ] at hw); (try simp only [Sep.splice, List.take_succ_cons, List.take_zero, List.drop_succ_cons, List.drop_zero, List.length_cons, List.length_nil, Nat.reduceAdd, List.cons_append, List.nil_append] at hw)
        (try replace hc0 := Sep.Holds.cells hw (i := 0) rfl); (try replace hc1 := Sep.Holds.cells hw (i := 1) rfl); (try replace hc2 := Sep.Holds.cells hw (i := 2) rfl); (try replace hc3 := Sep.Holds.cells hw (i := 3) rfl); (try replace hc4 := Sep.Holds.cells hw (i := 4) rfl); (try replace hc5 := Sep.Holds.cells hw (i := 5) rfl); (try replace hc6 := Sep.Holds.cells hw (i := 6) rfl)
        generalize decide (M2.w = M.w) = bb
        cases bb
        case false =>
          go_wp2_with (go_at_call 17; refine (oCap p M2 e _ _ (hw.focus1 2 rfl)).mono ?_; rintro _ w_ ⟨rfl, rfl⟩)
          exact HP.out _ _ ⟨rfl, hw.sel [0] (by decide)⟩
        case true =>
          go_wp2_with fail
          refine (same_calls _ _ M2.d M.d (by have := Hl2.out; omega) e _ _ (hw.focus2 7 4 rfl rfl (by decide))).mono ?_
          rintro en_ w_ ⟨rfl, hw_⟩
          clear hw; (try clear hc0); (try clear hc1); (try clear hc2); (try clear hc3); (try clear hc4); (try clear hc5); (try clear hc6); have hw := Holds.unfocus2 7 4 (by simp) (by simp) (by decide) hw_; clear hw_
          (try simp only [List.map_cons, List.map_nil, List.getD_cons_zero, List.getD_cons_succ, List.getD_nil, List.set_cons_zero, List.set_cons_succ, List.cons_append, List.nil_append, Act.eval, Array.getD_eq_getD_getElem?, List.getElem?_toArray, List.getElem?_cons_succ, List.getElem?_cons_zero, Option.getD_some, Value.cells] at hw); (try simp (disch := first | (simp; done) | (simp; omega)) only [Sep.mid_set, Sep.mid_set2, Sep.mid_set0, Sep.mid_splice, Sep.mid_splice0, List.set_cons_zero, List.set_cons_succ] at hw); (try simp only [Sep.splice, List.take_succ_cons, List.take_zero, List.drop_succ_cons, List.drop_zero, List.length_cons, List.length_nil, Nat.reduceAdd, List.cons_append, List.nil_append] at hw)
          (try replace hc0 := Sep.Holds.cells hw (i := 0) rfl); (try replace hc1 := Sep.Holds.cells hw (i := 1) rfl); (try replace hc2 := Sep.Holds.cells hw (i := 2) rfl); (try replace hc3 := Sep.Holds.cells hw (i := 3) rfl); (try replace hc4 := Sep.Holds.cells hw (i := 4) rfl); (try replace hc5 := Sep.Holds.cells hw (i := 5) rfl); (try replace hc6 := Sep.Holds.cells hw (i := 6) rfl)
          generalize decide (M2.d = M.d) = bb
          go_wp2_with (go_at_call 17; refine (oCap p M2 e _ _ (hw.focus1 2 rfl)).mono ?_; rintro _ w_ ⟨rfl, rfl⟩)
          exact HP.out _ _ ⟨rfl, hw.sel [0] (by decide)⟩
      · have hrm := Hrm.out
        clear Hrm Hst
        generalize hM2 : M.act d2 = R at *
        obtain ⟨o2, is2, er2, M2⟩ := R
        simp only at hdo he0 hrm
        subst he0
        subst hrm
        clear hM2
        refine (hdo _ _ (hw.focus1 2 rfl)).mono ?_
        rintro en_ w_ ⟨x, rfl, hw_⟩
        clear hw; (try clear hc0); (try clear hc1); (try clear hc2); (try clear hc3); (try clear hc4); (try clear hc5); (try clear hc6); have hw := Holds.unfocus1 2 (by simp) hw_; clear hw_ hdo
        (try simp only [List.map_cons, List.map_nil, List.getD_cons_zero, List.getD_cons_succ, List.getD_nil, List.set_cons_zero, List.set_cons_succ, List.cons_append, List.nil_append, Act.eval, Array.getD_eq_getD_getElem?, List.getElem?_toArray, List.getElem?_cons_succ, List.getElem?_cons_zero, Option.getD_some, Value.cells] at hw); (try simp (disch := first | (simp; done) | (simp; omega)) only [Sep.mid_set, Sep.mid_set2, Sep.mid_set0, Sep.mid_splice, Sep.mid_splice0, List.set_cons_zero, List.set_cons_succ] at hw); (try simp only [Sep.splice, List.take_succ_cons, List.take_zero, List.drop_succ_cons, List.drop_zero, List.length_cons, List.length_nil, Nat.reduceAdd, List.cons_append, List.nil_append] at hw)
        obtain ⟨xa, xc, rfl⟩ := Sl.value (i := 5) rfl hw
        (try replace hc0 := Sep.Holds.cells hw (i := 0) rfl); (try replace hc1 := Sep.Holds.cells hw (i := 1) rfl); (try replace hc2 := Sep.Holds.cells hw (i := 2) rfl); (try replace hc3 := Sep.Holds.cells hw (i := 3) rfl); (try replace hc4 := Sep.Holds.cells hw (i := 4) rfl); (try replace hc5 := Sep.Holds.cells hw (i := 5) rfl); (try replace hc6 := Sep.Holds.cells hw (i := 6) rfl)
        go_wp2_with fail
        refine (oWaiting p M2 e _ _ (hw.focus1 2 rfl)).mono ?_
        rintro en_ w_ ⟨u2, v2, rfl, hw_⟩
        clear hw; (try clear hc0); (try clear hc1); (try clear hc2); (try clear hc3); (try clear hc4); (try clear hc5); (try clear hc6); have hw := Holds.unfocus1 2 (by simp) hw_; clear hw_
        (try simp only [List.map_cons, List.map_nil, List.getD_cons_zero, List.getD_cons_succ, List.getD_nil, List.set_cons_zero, List.set_cons_succ, List.cons_append, List.nil_append, Act.eval, Array.getD_eq_getD_getElem?, List.getElem?_toArray, List.getElem?_cons_succ, List.getElem?_cons_zero, Option.getD_some, Value.cells] at hw); (try simp (disch := first | (simp; done) | (simp; omega)) only [Sep.mid_set, Sep.mid_set2, Sep.mid_set0, Sep.mid_splice, Sep.mid_splice0, List.set_cons_zero, List.set_cons_succ] at hw); (try simp only [Sep.splice, List.take_succ_cons, List.take_zero, List.drop_succ_cons, List.drop_zero, List.length_cons, List.length_nil, Nat.reduceAdd, List.cons_append, List.nil_append] at hw)
        obtain ⟨ua2, uc2, rfl⟩ := Sl.value (i := 6) rfl hw
        obtain ⟨va2, vc2, rfl⟩ := Sl.value (i := 7) rfl hw
        (try replace hc0 := Sep.Holds.cells hw (i := 0) rfl); (try replace hc1 := Sep.Holds.cells hw (i := 1) rfl); (try replace hc2 := Sep.Holds.cells hw (i := 2) rfl); (try replace hc3 := Sep.Holds.cells hw (i := 3) rfl); (try replace hc4 := Sep.Holds.cells hw (i := 4) rfl); (try replace hc5 := Sep.Holds.cells hw (i := 5) rfl); (try replace hc6 := Sep.Holds.cells hw (i := 6) rfl)
        go_wp2_with fail
        have Hl2 : Hid (M2.w.length ≤ 1000 ∧ M2.d.length ≤ 1000) := Sep.hid (sema_len (i := 2) rfl hw)
        refine (same_calls _ _ M2.w M.w (by have := Hl2.out; omega) e _ _ (hw.focus2 6 3 rfl rfl (by decide))).mono ?_
        rintro en_ w_ ⟨rfl, hw_⟩
        clear hw; (try clear hc0); (try clear hc1); (try clear hc2); (try clear hc3); (try clear hc4); (try clear hc5); (try clear hc6); have hw := Holds.unfocus2 6 3 (by simp) (by simp) (by decide) hw_; clear hw_
        (try simp only [List.map_cons, List.map_nil, List.getD_cons_zero, List.getD_cons_succ, List.getD_nil, List.set_cons_zero, List.set_cons_succ, List.cons_append, List.nil_append, Act.eval, Array.getD_eq_getD_getElem?, List.getElem?_toArray, List.getElem?_cons_succ, List.getElem?_cons_zero, Option.getD_some, Value.cells] at hw); (try simp (disch := first | (simp; done) | (simp; omega)) only [Sep.mid_set, Sep.mid_set2, Sep.mid_set0, Sep.mid_splice, Sep.mid_splice0, List.set_cons_zero, List.set_cons_succ] at hw); (try simp only [Sep.splice, List.take_succ_cons, List.take_zero, List.drop_succ_cons, List.drop_zero, List.length_cons, List.length_nil, Nat.reduceAdd, List.cons_append, List.nil_append] at hw)
        (try replace hc0 := Sep.Holds.cells hw (i := 0) rfl); (try replace hc1 := Sep.Holds.cells hw (i := 1) rfl); (try replace hc2 := Sep.Holds.cells hw (i := 2) rfl); (try replace hc3 := Sep.Holds.cells hw (i := 3) rfl); (try replace hc4 := Sep.Holds.cells hw (i := 4) rfl); (try replace hc5 := Sep.Holds.cells hw (i := 5) rfl); (try replace hc6 := Sep.Holds.cells hw (i := 6) rfl)
        generalize decide (M2.w = M.w) = bb
        cases bb
        case false =>
          go_wp2_with (go_at_call 17; refine (oCap p M2 e _ _ (hw.focus1 2 rfl)).mono ?_; rintro _ w_ ⟨rfl, rfl⟩)
          exact HP.out _ _ ⟨rfl, hw.sel [0] (by decide)⟩
        case true =>
          go_wp2_with fail
          refine (same_calls _ _ M2.d M.d (by have := Hl2.out; omega) e _ _ (hw.focus2 7 4 rfl rfl (by decide))).mono ?_
          rintro en_ w_ ⟨rfl, hw_⟩
          clear hw; (try clear hc0); (try clear hc1); (try clear hc2); (try clear hc3); (try clear hc4); (try clear hc5); (try clear hc6); have hw := Holds.unfocus2 7 4 (by simp) (by simp) (by decide) hw_; clear hw_
          (try simp only [List.map_cons, List.map_nil, List.getD_cons_zero, List.getD_cons_succ, List.getD_nil, List.set_cons_zero, List.set_cons_succ, List.cons_append, List.nil_append, Act.eval, Array.getD_eq_getD_getElem?, List.getElem?_toArray, List.getElem?_cons_succ, List.getElem?_cons_zero, Option.getD_some, Value.cells] at hw); (try simp (disch := first | (simp; done) | (simp; omega)) only [Sep.mid_set, Sep.mid_set2, Sep.mid_set0, Sep.mid_splice, Sep.mid_splice0, List.set_cons_zero, List.set_cons_succ] at hw); (try simp only [Sep.splice, List.take_succ_cons, List.take_zero, List.drop_succ_cons, List.drop_zero, List.length_cons, List.length_nil, Nat.reduceAdd, List.cons_append, List.nil_append] at hw)
          (try replace hc0 := Sep.Holds.cells hw (i := 0) rfl); (try replace hc1 := Sep.Holds.cells hw (i := 1) rfl); (try replace hc2 := Sep.Holds.cells hw (i := 2) rfl); (try replace hc3 := Sep.Holds.cells hw (i := 3) rfl); (try replace hc4 := Sep.Holds.cells hw (i := 4) rfl); (try replace hc5 := Sep.Holds.cells hw (i := 5) rfl); (try replace hc6 := Sep.Holds.cells hw (i := 6) rfl)
          generalize decide (M2.d = M.d) = bb
          go_wp2_with (go_at_call 17; refine (oCap p M2 e _ _ (hw.focus1 2 rfl)).mono ?_; rintro _ w_ ⟨rfl, rfl⟩)
          exact HP.out _ _ ⟨rfl, hw.sel [0] (by decide)⟩
end Go.Proofs.Ytpbpineehbemhaa
