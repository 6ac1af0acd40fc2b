/-
  FlightOne: the walk.
-/
import Derived.Test.YtecdkajhcglpdaaFlOneM
import Derived.Deep.CutBlock
import Derived.Deep.DeepCutAuto
namespace Go.Proofs.Ytecdkajhcglpdaa
set_option linter.unusedSimpArgs false
set_option linter.unusedVariables false
open Go.RowKit Go.Sep Go.RingM

set_option maxRecDepth 20000 in
set_option maxHeartbeats 40000000 in
theorem flight_one_walk (e : World) (a0 : Option Addr) (cap0 : Nat) (l0 : List Deed) (hl0 : Hid (ActsAt e a0 l0)) (hlen0 : l0.length ≤ 9223372036854775807) :
    Calls Try.prog 4 #[.slice a0 l0.length cap0] e fun en w' => en = .returned (.bool true) ∧ Holds e w' [Old e] := by
  have hw := Holds.start e
  by_cases hlong : (100 : Int) < l0.length
  · refine Sep.calls_post ?_
    intro Post_ hPost_
    have HP := Sep.hid hPost_
    clear hPost_
    go_enter Try.func4, Try.ntmps4
    go_wp2_with fail
    refine (awake_calls e _ _ hw.focus0).mono ?_
    rintro en_ w_ ⟨rfl, hw_⟩
    clear hw; (try clear hc0); (try clear hc1); (try clear hc2); (try clear hc3); (try clear hc4); (try clear hc5); (try clear hc6); have hw := Holds.unfocus0 hw_; clear hw_
    (try simp only [List.map_cons, List.map_nil, List.getD_cons_zero, List.getD_cons_succ, List.getD_nil, List.set_cons_zero, List.set_cons_succ, List.cons_append, List.nil_append, Act.eval, Array.getD_eq_getD_getElem?, List.getElem?_toArray, List.getElem?_cons_succ, List.getElem?_cons_zero, Option.getD_some, Value.cells] at hw); (try simp (disch := first | (simp; done) | (simp; omega)) only [Sep.mid_set, Sep.mid_set2, Sep.mid_set0, Sep.mid_splice, Sep.mid_splice0, List.set_cons_zero, List.set_cons_succ] at hw); (try simp only [Sep.splice, List.take_succ_cons, List.take_zero, List.drop_succ_cons, List.drop_zero, List.length_cons, List.length_nil, Nat.reduceAdd, List.cons_append, List.nil_append] at hw)
    go_wp2_with fail
    exact HP.out _ _ ⟨rfl, hw.sel [0] (by decide)⟩
  generalize hlen' : l0.length = len at *
  have Hlen := Sep.hid hlen'; clear hlen'
  have hlong2 : len ≤ 100 := by omega
  refine Sep.calls_post ?_
  intro Post_ hPost_
  have HP := Sep.hid hPost_
  clear hPost_
  go_enter Try.func4, Try.ntmps4
  go_wp2_with fail
  refine (awake_calls e _ _ hw.focus0).mono ?_
  rintro en_ w_ ⟨rfl, hw_⟩
  clear hw; (try clear hc0); (try clear hc1); (try clear hc2); (try clear hc3); (try clear hc4); (try clear hc5); (try clear hc6); have hw := Holds.unfocus0 hw_; clear hw_
  (try simp only [List.map_cons, List.map_nil, List.getD_cons_zero, List.getD_cons_succ, List.getD_nil, List.set_cons_zero, List.set_cons_succ, List.cons_append, List.nil_append, Act.eval, Array.getD_eq_getD_getElem?, List.getElem?_toArray, List.getElem?_cons_succ, List.getElem?_cons_zero, Option.getD_some, Value.cells] at hw); (try simp (disch := first | (simp; done) | (simp; omega)) only [Sep.mid_set, Sep.mid_set2, Sep.mid_set0, Sep.mid_splice, Sep.mid_splice0, List.set_cons_zero, List.set_cons_succ] at hw); (try simp only [Sep.splice, List.take_succ_cons, List.take_zero, List.drop_succ_cons, List.drop_zero, List.length_cons, List.length_nil, Nat.reduceAdd, List.cons_append, List.nil_append] at hw)
  go_wp2_with fail
  refine (oNew_ok 12 (by decide) (by decide) e _ _ hw.focus0).mono ?_
  rintro en_ w_ ⟨p, rfl, hw_⟩
  clear hw; have hw := Holds.unfocus0 hw_; clear hw_
  (try simp only [List.map_cons, List.map_nil, List.getD_cons_zero, List.getD_cons_succ, List.getD_nil, List.set_cons_zero, List.set_cons_succ, List.cons_append, List.nil_append, Act.eval, Array.getD_eq_getD_getElem?, List.getElem?_toArray, List.getElem?_cons_succ, List.getElem?_cons_zero, Option.getD_some, Value.cells] at hw); (try simp (disch := first | (simp; done) | (simp; omega)) only [Sep.mid_set, Sep.mid_set2, Sep.mid_set0, Sep.mid_splice, Sep.mid_splice0, List.set_cons_zero, List.set_cons_succ] at hw); (try simp only [Sep.splice, List.take_succ_cons, List.take_zero, List.drop_succ_cons, List.drop_zero, List.length_cons, List.length_nil, Nat.reduceAdd, List.cons_append, List.nil_append] at hw)
  go_upto_region 9 with (refine wpList_on rfl (wp_newMap rfl hw ?_); intro s1 w_ hw_; clear hw; have hw := hw_; clear hw_; (try simp only [List.map_cons, List.map_nil, List.getD_cons_zero, List.getD_cons_succ, List.getD_nil, List.set_cons_zero, List.set_cons_succ, List.cons_append, List.nil_append, Act.eval, Array.getD_eq_getD_getElem?, List.getElem?_toArray, List.getElem?_cons_succ, List.getElem?_cons_zero, Option.getD_some, Value.cells] at hw); (try simp (disch := first | (simp; done) | (simp; omega)) only [Sep.mid_set, Sep.mid_set2, Sep.mid_set0, Sep.mid_splice, Sep.mid_splice0, List.set_cons_zero, List.set_cons_succ] at hw); (try simp only [Sep.splice, List.take_succ_cons, List.take_zero, List.drop_succ_cons, List.drop_zero, List.length_cons, List.length_nil, Nat.reduceAdd, List.cons_append, List.nil_append] at hw); (try replace hc0 := Sep.Holds.cells hw (i := 0) rfl); (try replace hc1 := Sep.Holds.cells hw (i := 1) rfl); (try replace hc2 := Sep.Holds.cells hw (i := 2) rfl); (try replace hc3 := Sep.Holds.cells hw (i := 3) rfl); (try replace hc4 := Sep.Holds.cells hw (i := 4) rfl); (try replace hc5 := Sep.Holds.cells hw (i := 5) rfl); (try replace hc6 := Sep.Holds.cells hw (i := 6) rfl))
  go_upto_region 10 with (refine wpList_on rfl (wp_newMap rfl hw ?_); intro s2 w_ hw_; clear hw; have hw := hw_; clear hw_; (try simp only [List.map_cons, List.map_nil, List.getD_cons_zero, List.getD_cons_succ, List.getD_nil, List.set_cons_zero, List.set_cons_succ, List.cons_append, List.nil_append, Act.eval, Array.getD_eq_getD_getElem?, List.getElem?_toArray, List.getElem?_cons_succ, List.getElem?_cons_zero, Option.getD_some, Value.cells] at hw); (try simp (disch := first | (simp; done) | (simp; omega)) only [Sep.mid_set, Sep.mid_set2, Sep.mid_set0, Sep.mid_splice, Sep.mid_splice0, List.set_cons_zero, List.set_cons_succ] at hw); (try simp only [Sep.splice, List.take_succ_cons, List.take_zero, List.drop_succ_cons, List.drop_zero, List.length_cons, List.length_nil, Nat.reduceAdd, List.cons_append, List.nil_append] at hw); (try replace hc0 := Sep.Holds.cells hw (i := 0) rfl); (try replace hc1 := Sep.Holds.cells hw (i := 1) rfl); (try replace hc2 := Sep.Holds.cells hw (i := 2) rfl); (try replace hc3 := Sep.Holds.cells hw (i := 3) rfl); (try replace hc4 := Sep.Holds.cells hw (i := 4) rfl); (try replace hc5 := Sep.Holds.cells hw (i := 5) rfl); (try replace hc6 := Sep.Holds.cells hw (i := 6) rfl))
  go_wp2_with (refine wpList_on rfl (wp_newMap rfl hw ?_); intro s3 w_ hw_; clear hw; have hw := hw_; clear hw_; (try simp only [List.map_cons, List.map_nil, List.getD_cons_zero, List.getD_cons_succ, List.getD_nil, List.set_cons_zero, List.set_cons_succ, List.cons_append, List.nil_append, Act.eval, Array.getD_eq_getD_getElem?, List.getElem?_toArray, List.getElem?_cons_succ, List.getElem?_cons_zero, Option.getD_some, Value.cells] at hw); (try simp (disch := first | (simp; done) | (simp; omega)) only [Sep.mid_set, Sep.mid_set2, Sep.mid_set0, Sep.mid_splice, Sep.mid_splice0, List.set_cons_zero, List.set_cons_succ] at hw); (try simp only [Sep.splice, List.take_succ_cons, List.take_zero, List.drop_succ_cons, List.drop_zero, List.length_cons, List.length_nil, Nat.reduceAdd, List.cons_append, List.nil_append] at hw); (try replace hc0 := Sep.Holds.cells hw (i := 0) rfl); (try replace hc1 := Sep.Holds.cells hw (i := 1) rfl); (try replace hc2 := Sep.Holds.cells hw (i := 2) rfl); (try replace hc3 := Sep.Holds.cells hw (i := 3) rfl); (try replace hc4 := Sep.Holds.cells hw (i := 4) rfl); (try replace hc5 := Sep.Holds.cells hw (i := 5) rfl); (try replace hc6 := Sep.Holds.cells hw (i := 6) rfl))
  have hw : Holds e w_ [Old e, IsFlight p ⟨12, List.replicate 12 [], fun _ => none, fun _ => none⟩, IsMap s1 .i64 (encF fun _ => none), IsMap s2 .i64 (encF fun _ => none), IsRM s3 (List.replicate 12 [])] := by
    have hw2 : Holds e w_ [Old e, _, _, _, IsMap s3 .i64 (fun _ => none)] := hw
    exact Holds.unfocus1 4 (by simp) (rm_new 12 (hw2.focus1 4 rfl))
  have Hw0 := Sep.hid hw; clear hw
  (try clear hc0); (try clear hc1); (try clear hc2); (try clear hc3); (try clear hc4); (try clear hc5); (try clear hc6)
  go_loopw [40] (fun i wr => ∃ (q : Nat) (M : FM), q ≤ len ∧ i = .int .i64 q ∧ M.n = 12 ∧ Holds e wr [Old e, IsFlight p M, IsMap s1 .i64 (encF M.calls), IsMap s2 .i64 (encF M.keys), IsRM s3 M.rows]) (fun i _ => len - (intOf i).toNat)
  case atStart => exact ⟨0, ⟨12, List.replicate 12 [], fun _ => none, fun _ => none⟩, Nat.zero_le _, rfl, rfl, Hw0.out⟩
  case round =>
    clear Hw0
    obtain ⟨q, M, hq, rfl, hn, hw⟩ := hrel
    have Hn := Sep.hid hn; clear hn
    by_cases hlt : q < len
    · obtain ⟨d, hd⟩ : ∃ d, l0[q]? = some d := ⟨_, List.getElem?_eq_getElem (by rw [Hlen.out]; exact hlt)⟩
      obtain ⟨hdok, ad, rfl, hcell⟩ := hl0.out q d hd
      have Hcell := Sep.hid hcell; clear hcell hd hdok
      have Hok := Sep.hid (fl_ok (i := 1) rfl hw)
      have Hrl : Hid (∀ l ∈ M.rows, l.length ≤ 1000) := Sep.hid (fun l hl => Nat.le_trans (rowsLen Hok.out.1 hl) Hok.out.1.n2)
      obtain ⟨x1, x2, lv, x4, M', hb⟩ : ∃ x1 x2 lv x4 M', M.act d = (x1, x2, lv, x4, M') := ⟨_, _, _, _, _, rfl⟩
      have Hb := Sep.hid hb; clear hb
      have Hn' : Hid (M'.n = 12) := Sep.hid (by have h := act_n M d; rw [Hb.out] at h; exact h.trans Hn.out)
      go_wp2_with (first | ((with_reducible refine wpList_act (x := ?hx0x10) (y := ?hy0x10) (x1 := ?hx1x10) (x3 := ?hx3x10) (y3 := ?hy3x10) (cap := ?hcpx10) (vs := encA d) (q := q) (ad := ad) ti32 agg32 sl22 ?a1x10 ?a2x10 hlt hw (i := 0) ?a3x10 ?a4x10 ?a5x10 (encA_one d) Hcell.out ?b0x10 ?c0x10 ?b1x10 ?c1x10 ?d1x10 ?b2x10 ?c2x10 ?b3x10 ?c3x10 ?d3x10 ?f3x10 ?ggx10); (case b0x10 => rfl); (case b1x10 => rfl); (case b2x10 => rfl); (case b3x10 => rfl); (case a1x10 => rfl); (case a2x10 => rfl); (case a3x10 => rfl); (case a4x10 => rfl); (case a5x10 => rfl); (case c0x10 => rfl); (case c1x10 => rfl); (case d1x10 => rfl); (case c2x10 => rfl); (case c3x10 => (intro b; rfl)); (case d3x10 => (intro b; rfl)); (case f3x10 => (intro b; rfl)); intro bd w_ hw_; clear hw; have hw := hw_; clear hw_; (try simp only [List.map_cons, List.map_nil, List.getD_cons_zero, List.getD_cons_succ, List.getD_nil, List.set_cons_zero, List.set_cons_succ, List.cons_append, List.nil_append, Act.eval, Array.getD_eq_getD_getElem?, List.getElem?_toArray, List.getElem?_cons_succ, List.getElem?_cons_zero, Option.getD_some, Value.cells] at hw); (try simp (disch := first | (simp; done) | (simp; omega)) only [Sep.mid_set, Sep.mid_set2, Sep.mid_set0, Sep.mid_splice, Sep.mid_splice0, List.set_cons_zero, List.set_cons_succ] at hw); (try simp only [Sep.splice, List.take_succ_cons, List.take_zero, List.drop_succ_cons, List.drop_zero, List.length_cons, List.length_nil, Nat.reduceAdd, List.cons_append, List.nil_append] at hw); (try replace hc0 := Sep.Holds.cells hw (i := 0) rfl); (try replace hc1 := Sep.Holds.cells hw (i := 1) rfl); (try replace hc2 := Sep.Holds.cells hw (i := 2) rfl); (try replace hc3 := Sep.Holds.cells hw (i := 3) rfl); (try replace hc4 := Sep.Holds.cells hw (i := 4) rfl); (try replace hc5 := Sep.Holds.cells hw (i := 5) rfl); (try replace hc6 := Sep.Holds.cells hw (i := 6) rfl)) | (refine wpList_on rfl (wp_loadN (vs := encA d) rfl rfl hw (i := 5) rfl rfl (by intro j v hj; simpa using hj) ?_)))
      have hdo := fun w X hw => do_calls p M d e w X hw
      simp only [Hb.out] at hdo
      refine (hdo _ _ (hw.focus1 1 rfl)).mono ?_
      rintro en_ w_ ⟨v, rfl, hw_⟩
      clear hw; (try clear hc0); (try clear hc1); (try clear hc2); (try clear hc3); (try clear hc4); (try clear hc5); (try clear hc6); have hw := Holds.unfocus1 1 (by simp) hw_; clear hw_ hdo
      have hA : encA d = [.int .i64 d.f0, .int .i64 d.f1, .int .i64 d.f2] := rfl
      rw [hA] at hw; clear hA
      (try simp only [List.map_cons, List.map_nil, List.getD_cons_zero, List.getD_cons_succ, List.getD_nil, List.set_cons_zero, List.set_cons_succ, List.cons_append, List.nil_append, Act.eval, Array.getD_eq_getD_getElem?, List.getElem?_toArray, List.getElem?_cons_succ, List.getElem?_cons_zero, Option.getD_some, Value.cells] at hw); (try simp (disch := first | (simp; done) | (simp; omega)) only [Sep.mid_set, Sep.mid_set2, Sep.mid_set0, Sep.mid_splice, Sep.mid_splice0, List.set_cons_zero, List.set_cons_succ] at hw); (try simp only [Sep.splice, List.take_succ_cons, List.take_zero, List.drop_succ_cons, List.drop_zero, List.length_cons, List.length_nil, Nat.reduceAdd, List.cons_append, List.nil_append] at hw)
      obtain ⟨nl, hnl⟩ : ∃ n, lv.length = n := ⟨_, rfl⟩
      have Hnl := Sep.hid hnl; clear hnl
      obtain ⟨va, vc, hv⟩ := Sl.value (i := 6) rfl hw
      rw [Hnl.out] at hv
      subst hv
      (try replace hc0 := Sep.Holds.cells hw (i := 0) rfl); (try replace hc1 := Sep.Holds.cells hw (i := 1) rfl); (try replace hc2 := Sep.Holds.cells hw (i := 2) rfl); (try replace hc3 := Sep.Holds.cells hw (i := 3) rfl); (try replace hc4 := Sep.Holds.cells hw (i := 4) rfl); (try replace hc5 := Sep.Holds.cells hw (i := 5) rfl); (try replace hc6 := Sep.Holds.cells hw (i := 6) rfl)
      go_upto_block 2 with fail
      go_cut [] (fun wx => Holds e wx [Old e, IsFlight p M', IsMap s1 .i64 (encF M'.calls), IsMap s2 .i64 (encF M'.keys), IsRM s3 M'.rows])
      case first =>
        as_aux_lemma =>
        have hc := act_cases M Hok.out.2 d
        rw [Hb.out] at hc
        clear Hb
        rcases hc with ⟨y, x, hx, hc⟩ | ⟨u, l, h0, hc1, hc2, hc3, hc⟩ | ⟨h0, hc1, hc⟩ | ⟨key, u, l, h0, hd1, hk, hl, hc⟩ | ⟨h0, hc⟩ | ⟨h0, hc⟩ | ⟨h0, hc⟩ | ⟨h0, h1, h2, h3, hc⟩
        all_goals
          injection hc with c1 hc
          injection hc with c2 hc
          injection hc with c3 hc
          injection hc with c4 c5
          subst c1 c2 c3 c4 c5
        · obtain rfl : nl = 0 := Hnl.out.symm
          rcases hx with rfl | rfl | rfl
          all_goals
            go_wp2_with fail
            go_meet
            exact hw.sel [0, 1, 2, 3, 4] (by decide)
        · -- another joins a call
          obtain rfl : nl = 0 := Hnl.out.symm
          have Hl := Sep.hid hc2
          have Hu : Hid (u < M.rows.length) := Sep.hid (List.getElem?_eq_some_iff.1 hc2).1
          have hnr1 := Hrl.out l (List.mem_of_getElem? hc2)
          have Hc1 : Hid ((M.calls d.f2).getD 0 = (u : Int)) := Sep.hid (by rw [hc1]; rfl)
          have Hc2 : Hid ((M.calls d.f2).isSome = true) := Sep.hid (by rw [hc1]; rfl)
          have hne := hc3
          have hqb : ((u : Int) != d.f1) = true := by simpa using hc3
          have hqe : ((u : Int) == d.f1) = false := by simpa using hc3
          clear hc1 hc2 hc3
          obtain ⟨x, ra, rc, hrm, hvx, hgx, hw_⟩ := rm_pick Hl.out (hw.focus1 4 rfl)
          have Hrm := Sep.hid hrm; have Hvx := Sep.hid hvx; have Hgx := Sep.hid hgx
          clear hrm hvx hgx
          clear hw; (try clear hc0); (try clear hc1); (try clear hc2); (try clear hc3); (try clear hc4); (try clear hc5); (try clear hc6); have hw := Holds.unfocus1 4 (by simp) hw_; clear hw_
          (try simp only [List.map_cons, List.map_nil, List.getD_cons_zero, List.getD_cons_succ, List.getD_nil, List.set_cons_zero, List.set_cons_succ, List.cons_append, List.nil_append, Act.eval, Array.getD_eq_getD_getElem?, List.getElem?_toArray, List.getElem?_cons_succ, List.getElem?_cons_zero, Option.getD_some, Value.cells] at hw); (try simp (disch := first | (simp; done) | (simp; omega)) only [Sep.mid_set, Sep.mid_set2, Sep.mid_set0, Sep.mid_splice, Sep.mid_splice0, List.set_cons_zero, List.set_cons_succ] at hw); (try simp only [Sep.splice, List.take_succ_cons, List.take_zero, List.drop_succ_cons, List.drop_zero, List.length_cons, List.length_nil, Nat.reduceAdd, List.cons_append, List.nil_append] at hw)
          (try replace hc0 := Sep.Holds.cells hw (i := 0) rfl); (try replace hc1 := Sep.Holds.cells hw (i := 1) rfl); (try replace hc2 := Sep.Holds.cells hw (i := 2) rfl); (try replace hc3 := Sep.Holds.cells hw (i := 3) rfl); (try replace hc4 := Sep.Holds.cells hw (i := 4) rfl); (try replace hc5 := Sep.Holds.cells hw (i := 5) rfl); (try replace hc6 := Sep.Holds.cells hw (i := 6) rfl)
          obtain ⟨nr, hnr⟩ : ∃ n, l.length = n := ⟨_, rfl⟩
          have Hnr := Sep.hid hnr
          rw [hnr] at hnr1
          have Hvx : Hid (x.vs[u]? = some (.slice ra nr rc)) := Sep.hid (by rw [← hnr]; exact Hvx.out)
          have Hgx : Hid ((x.g (u : Int)).getD (.slice none 0 0) = .slice ra nr rc) := Sep.hid (by rw [← hnr]; exact Hgx.out)
          rw [hnr, ← sl_ints Hnr] at hw
          clear hnr
          go_wp2_with (refine wpList_on rfl (wp_lookOkV (i := 2) rfl rfl rfl hw rfl Hc1.out Hc2.out ?_))
          refine wp_region_L [2, 6, 9, 10, 11] [(5, (fun w' => Holds e w' [IsMap s3 .i64 x.g, pt bd [.int .i64 d.f0, .int .i64 d.f1, .int .i64 d.f2] 32])), (8, (fun w' => Holds e w' [IsMap s3 .i64 x.g, pt bd [.int .i64 d.f0, .int .i64 d.f1, .int .i64 d.f2] 32]))] (n := 12) (listed := (marks 12 0)) (by kernel_rfl) rfl (by kernel_rfl) ?conds1 ?_
          case conds1 =>
           intro c hc
           simp only [List.mem_cons, List.not_mem_nil, or_false] at hc
           rcases hc with rfl | rfl
           · exact (by replace hw := hw.drew; exact hw.sel [4, 5] (by decide))
           · exact (by replace hw := hw.drew; exact hw.sel [4, 5] (by decide))
          replace hw := hw.drew
          (try replace hc0 := Sep.Holds.cells hw (i := 0) rfl); (try replace hc1 := Sep.Holds.cells hw (i := 1) rfl); (try replace hc2 := Sep.Holds.cells hw (i := 2) rfl); (try replace hc3 := Sep.Holds.cells hw (i := 3) rfl); (try replace hc4 := Sep.Holds.cells hw (i := 4) rfl); (try replace hc5 := Sep.Holds.cells hw (i := 5) rfl); (try replace hc6 := Sep.Holds.cells hw (i := 6) rfl)
          refine wpL_q 0 ?_ rfl (Or.inl ⟨by rfl, fun w_ hS_ => ?_⟩) (marks 12 1) ?_
          rotate_left
          next => (go_simp; try (first | rfl | exact (Bool.not_not _).symm))
          try simp only [Act.put, List.setIfInBounds_toArray, List.set_cons_zero, List.set_cons_succ]
          refine wpL_q 1 ?_ rfl (Or.inl ⟨by rfl, fun w_ hS_ => ?_⟩) (marks 12 3) ?_
          rotate_left
          next => (go_simp; try (first | rfl | exact (Bool.not_not _).symm))
          try simp only [Act.put, List.setIfInBounds_toArray, List.set_cons_zero, List.set_cons_succ]
          refine wpL_q 3 ?_ rfl (Or.inl ⟨by rfl, fun w_ hS_ => ?_⟩) (marks 12 11) ?_
          rotate_left
          next => (go_simp; try (first | rfl | exact (Bool.not_not _).symm))
          try simp only [Act.put, List.setIfInBounds_toArray, List.set_cons_zero, List.set_cons_succ]
          refine wpL_q 4 ?_ rfl (Or.inl ⟨by rfl, fun w_ hS_ => ?_⟩) (marks 12 27) ?_
          rotate_left
          next => (go_simp; try (first | rfl | exact (Bool.not_not _).symm))
          try simp only [Act.put, List.setIfInBounds_toArray, List.set_cons_zero, List.set_cons_succ]
          refine wpL_m 5 ?_ rfl (.head _) (Or.inl ⟨by rfl, fun w_ hS_ => ?_⟩) (marks 12 59) ?_
          rotate_left
          next => (dsimp only at hS_; (try have q0 := Sep.Holds.cells hS_ (i := 0) rfl); (try have q1 := Sep.Holds.cells hS_ (i := 1) rfl); (try have q2 := Sep.Holds.cells hS_ (i := 2) rfl); (try have q3 := Sep.Holds.cells hS_ (i := 3) rfl); (try have q4 := Sep.Holds.cells hS_ (i := 4) rfl); (try have q5 := Sep.Holds.cells hS_ (i := 5) rfl); (try have q6 := Sep.Holds.cells hS_ (i := 6) rfl); first | (refine Eq.trans (run_lookup (i := 0) rfl rfl rfl hS_ rfl) ?_; rw [if_neg (by decide), Hgx.out]) | (go_simp; try (first | rfl | exact (Bool.not_not _).symm)))
          try simp only [Act.put, List.setIfInBounds_toArray, List.set_cons_zero, List.set_cons_succ]
          refine wpL_q 7 ?_ rfl (Or.inl ⟨by rfl, fun w_ hS_ => ?_⟩) (marks 12 187) ?_
          rotate_left
          next => (go_simp; try (first | rfl | exact (Bool.not_not _).symm))
          try simp only [Act.put, List.setIfInBounds_toArray, List.set_cons_zero, List.set_cons_succ]
          refine wpL_m 8 ?_ rfl (.tail _ (.head _)) (Or.inl ⟨by rfl, fun w_ hS_ => ?_⟩) (marks 12 443) ?_
          rotate_left
          next => (dsimp only at hS_; (try have q0 := Sep.Holds.cells hS_ (i := 0) rfl); (try have q1 := Sep.Holds.cells hS_ (i := 1) rfl); (try have q2 := Sep.Holds.cells hS_ (i := 2) rfl); (try have q3 := Sep.Holds.cells hS_ (i := 3) rfl); (try have q4 := Sep.Holds.cells hS_ (i := 4) rfl); (try have q5 := Sep.Holds.cells hS_ (i := 5) rfl); (try have q6 := Sep.Holds.cells hS_ (i := 6) rfl); first | (refine Eq.trans (run_lookup (i := 0) rfl rfl rfl hS_ rfl) ?_; rw [if_neg (by decide), Hgx.out]) | (go_simp; try (first | rfl | exact (Bool.not_not _).symm)))
          try simp only [Act.put, List.setIfInBounds_toArray, List.set_cons_zero, List.set_cons_succ]
          refine wpL_all (rs := [2, 9]) (by kernel_rfl) (by decide) ?_
          intro i hi
          simp only [List.mem_cons, List.not_mem_nil, or_false] at hi
          rcases hi with rfl | rfl
          · refine ⟨_, _, rfl, by rfl, ?_⟩
            (refine wp_bsl0 rfl hw ?_; intro b_ w_ hw_; replace hw_ := hw_.newSl (i := 9) rfl 1 0 rfl (by decide); clear hw; have hw := hw_; clear hw_; (try simp only [List.map_cons, List.map_nil, List.getD_cons_zero, List.getD_cons_succ, List.getD_nil, List.set_cons_zero, List.set_cons_succ, List.cons_append, List.nil_append, Act.eval, Array.getD_eq_getD_getElem?, List.getElem?_toArray, List.getElem?_cons_succ, List.getElem?_cons_zero, Option.getD_some, Value.cells] at hw); (try simp (disch := first | (simp; done) | (simp; omega)) only [Sep.mid_set, Sep.mid_set2, Sep.mid_set0, Sep.mid_splice, Sep.mid_splice0, List.set_cons_zero, List.set_cons_succ] at hw); (try simp only [Sep.splice, List.take_succ_cons, List.take_zero, List.drop_succ_cons, List.drop_zero, List.length_cons, List.length_nil, Nat.reduceAdd, List.cons_append, List.nil_append] at hw); (try replace hc0 := Sep.Holds.cells hw (i := 0) rfl); (try replace hc1 := Sep.Holds.cells hw (i := 1) rfl); (try replace hc2 := Sep.Holds.cells hw (i := 2) rfl); (try replace hc3 := Sep.Holds.cells hw (i := 3) rfl); (try replace hc4 := Sep.Holds.cells hw (i := 4) rfl); (try replace hc5 := Sep.Holds.cells hw (i := 5) rfl); (try replace hc6 := Sep.Holds.cells hw (i := 6) rfl))
            refine ⟨(SL.keep (by exact hw.sel [4, 5] (by decide)) (SL.keep (by exact hw.sel [4, 5] (by decide)) SL.nil)), ?_⟩
            try simp only [Act.put, List.setIfInBounds_toArray, List.set_cons_zero, List.set_cons_succ]
            refine wpL_all (rs := [6, 9]) (by kernel_rfl) (by decide) ?_
            intro i hi
            simp only [List.mem_cons, List.not_mem_nil, or_false] at hi
            rcases hi with rfl | rfl
            · refine ⟨_, _, rfl, by rfl, ?_⟩
              (refine wp_appendSl (i := 9) (j := 8) (u := .slice ra nr rc) (m := nr) (news := encI l) rfl rfl hw rfl rfl rfl (by first | exact encI_one _ | simp [Value.oneCell', Value.cells]) (by rfl) (by (try unfold maxLen); omega) (by (try unfold maxLen); omega) ?_; intro a2_ cap2_ w_ hw_; clear hw; have hw := hw_; clear hw_; (try simp only [List.map_cons, List.map_nil, List.getD_cons_zero, List.getD_cons_succ, List.getD_nil, List.set_cons_zero, List.set_cons_succ, List.cons_append, List.nil_append, Act.eval, Array.getD_eq_getD_getElem?, List.getElem?_toArray, List.getElem?_cons_succ, List.getElem?_cons_zero, Option.getD_some, Value.cells] at hw); (try simp (disch := first | (simp; done) | (simp; omega)) only [Sep.mid_set, Sep.mid_set2, Sep.mid_set0, Sep.mid_splice, Sep.mid_splice0, List.set_cons_zero, List.set_cons_succ] at hw); (try simp only [Sep.splice, List.take_succ_cons, List.take_zero, List.drop_succ_cons, List.drop_zero, List.length_cons, List.length_nil, Nat.reduceAdd, List.cons_append, List.nil_append] at hw); (try replace hc0 := Sep.Holds.cells hw (i := 0) rfl); (try replace hc1 := Sep.Holds.cells hw (i := 1) rfl); (try replace hc2 := Sep.Holds.cells hw (i := 2) rfl); (try replace hc3 := Sep.Holds.cells hw (i := 3) rfl); (try replace hc4 := Sep.Holds.cells hw (i := 4) rfl); (try replace hc5 := Sep.Holds.cells hw (i := 5) rfl); (try replace hc6 := Sep.Holds.cells hw (i := 6) rfl))
              refine ⟨(SL.drop 6 (by kernel_rfl) (SL.keep (by exact hw.sel [4, 5] (by decide)) SL.nil)), ?_⟩
              try simp only [Act.put, List.setIfInBounds_toArray, List.set_cons_zero, List.set_cons_succ]
              refine wpL_o 9 rfl (by rfl) (marks 12 1023) ?_
              (refine wp_bsl1 rfl rfl (by rfl) (by rfl) (by decide) hw ?_; intro b_ w_ hw_; replace hw_ := hw_.newSl (i := 10) rfl 1 1 rfl (by decide); clear hw; have hw := hw_; clear hw_; (try simp only [List.map_cons, List.map_nil, List.getD_cons_zero, List.getD_cons_succ, List.getD_nil, List.set_cons_zero, List.set_cons_succ, List.cons_append, List.nil_append, Act.eval, Array.getD_eq_getD_getElem?, List.getElem?_toArray, List.getElem?_cons_succ, List.getElem?_cons_zero, Option.getD_some, Value.cells] at hw); (try simp (disch := first | (simp; done) | (simp; omega)) only [Sep.mid_set, Sep.mid_set2, Sep.mid_set0, Sep.mid_splice, Sep.mid_splice0, List.set_cons_zero, List.set_cons_succ] at hw); (try simp only [Sep.splice, List.take_succ_cons, List.take_zero, List.drop_succ_cons, List.drop_zero, List.length_cons, List.length_nil, Nat.reduceAdd, List.cons_append, List.nil_append] at hw); (try replace hc0 := Sep.Holds.cells hw (i := 0) rfl); (try replace hc1 := Sep.Holds.cells hw (i := 1) rfl); (try replace hc2 := Sep.Holds.cells hw (i := 2) rfl); (try replace hc3 := Sep.Holds.cells hw (i := 3) rfl); (try replace hc4 := Sep.Holds.cells hw (i := 4) rfl); (try replace hc5 := Sep.Holds.cells hw (i := 5) rfl); (try replace hc6 := Sep.Holds.cells hw (i := 6) rfl))
              refine ⟨(SL.drop 6 (by kernel_rfl) (SL.drop 9 (by kernel_rfl) SL.nil)), ?_⟩
              try simp only [Act.put, List.setIfInBounds_toArray, List.set_cons_zero, List.set_cons_succ]
              refine wpL_o 10 rfl (by rfl) (marks 12 2047) ?_
              (refine wp_appendSl (i := 9) (j := 10) (n := 0 + nr) (m := 1) (news := [.int .i64 d.f1]) rfl rfl hw rfl rfl rfl (by first | exact encI_one _ | simp [Value.oneCell', Value.cells]) (by rfl) (by (try unfold maxLen); omega) (by (try unfold maxLen); omega) ?_; intro a2_ cap2_ w_ hw_; clear hw; have hw := hw_; clear hw_; (try simp only [List.map_cons, List.map_nil, List.getD_cons_zero, List.getD_cons_succ, List.getD_nil, List.set_cons_zero, List.set_cons_succ, List.cons_append, List.nil_append, Act.eval, Array.getD_eq_getD_getElem?, List.getElem?_toArray, List.getElem?_cons_succ, List.getElem?_cons_zero, Option.getD_some, Value.cells] at hw); (try simp (disch := first | (simp; done) | (simp; omega)) only [Sep.mid_set, Sep.mid_set2, Sep.mid_set0, Sep.mid_splice, Sep.mid_splice0, List.set_cons_zero, List.set_cons_succ] at hw); (try simp only [Sep.splice, List.take_succ_cons, List.take_zero, List.drop_succ_cons, List.drop_zero, List.length_cons, List.length_nil, Nat.reduceAdd, List.cons_append, List.nil_append] at hw); (try replace hc0 := Sep.Holds.cells hw (i := 0) rfl); (try replace hc1 := Sep.Holds.cells hw (i := 1) rfl); (try replace hc2 := Sep.Holds.cells hw (i := 2) rfl); (try replace hc3 := Sep.Holds.cells hw (i := 3) rfl); (try replace hc4 := Sep.Holds.cells hw (i := 4) rfl); (try replace hc5 := Sep.Holds.cells hw (i := 5) rfl); (try replace hc6 := Sep.Holds.cells hw (i := 6) rfl))
              refine ⟨(SL.drop 6 (by kernel_rfl) (SL.drop 9 (by kernel_rfl) SL.nil)), ?_⟩
              try simp only [Act.put, List.setIfInBounds_toArray, List.set_cons_zero, List.set_cons_succ]
              refine wpL_o 11 rfl (by rfl) (marks 12 4095) ?_
              (refine wp_mapUpdate rfl rfl rfl rfl hw (i := 4) rfl ?_; intro w_ hw_; clear hw; have hw := hw_; clear hw_; (try simp only [List.map_cons, List.map_nil, List.getD_cons_zero, List.getD_cons_succ, List.getD_nil, List.set_cons_zero, List.set_cons_succ, List.cons_append, List.nil_append, Act.eval, Array.getD_eq_getD_getElem?, List.getElem?_toArray, List.getElem?_cons_succ, List.getElem?_cons_zero, Option.getD_some, Value.cells] at hw); (try simp (disch := first | (simp; done) | (simp; omega)) only [Sep.mid_set, Sep.mid_set2, Sep.mid_set0, Sep.mid_splice, Sep.mid_splice0, List.set_cons_zero, List.set_cons_succ] at hw); (try simp only [Sep.splice, List.take_succ_cons, List.take_zero, List.drop_succ_cons, List.drop_zero, List.length_cons, List.length_nil, Nat.reduceAdd, List.cons_append, List.nil_append] at hw); (try replace hc0 := Sep.Holds.cells hw (i := 0) rfl); (try replace hc1 := Sep.Holds.cells hw (i := 1) rfl); (try replace hc2 := Sep.Holds.cells hw (i := 2) rfl); (try replace hc3 := Sep.Holds.cells hw (i := 3) rfl); (try replace hc4 := Sep.Holds.cells hw (i := 4) rfl); (try replace hc5 := Sep.Holds.cells hw (i := 5) rfl); (try replace hc6 := Sep.Holds.cells hw (i := 6) rfl))
              refine ⟨(SL.drop 6 (by kernel_rfl) (SL.drop 9 (by kernel_rfl) SL.nil)), ?_⟩
              try simp only [Act.put, List.setIfInBounds_toArray, List.set_cons_zero, List.set_cons_succ]
              refine wpL_done (by kernel_rfl) ?_ _
              replace hw := hw.sel [0, 1, 2, 3, 4, 7, 9] (by decide)
              (try simp only [List.map_cons, List.map_nil, List.getD_cons_zero, List.getD_cons_succ, List.getD_nil, List.set_cons_zero, List.set_cons_succ, List.cons_append, List.nil_append, Act.eval, Array.getD_eq_getD_getElem?, List.getElem?_toArray, List.getElem?_cons_succ, List.getElem?_cons_zero, Option.getD_some, Value.cells] at hw); (try simp (disch := first | (simp; done) | (simp; omega)) only [Sep.mid_set, Sep.mid_set2, Sep.mid_set0, Sep.mid_splice, Sep.mid_splice0, List.set_cons_zero, List.set_cons_succ] at hw); (try simp only [Sep.splice, List.take_succ_cons, List.take_zero, List.drop_succ_cons, List.drop_zero, List.length_cons, List.length_nil, Nat.reduceAdd, List.cons_append, List.nil_append] at hw)
              rw [sl_app Hnr] at hw
              go_wp2_with fail
              go_meet
              have h := Holds.group [Old e, IsFlight p ⟨M.n, M.rows.set u (l ++ [d.f1]), M.calls, M.keys⟩, IsMap s1 .i64 (encF M.calls), IsMap s2 .i64 (encF M.keys)] _ hw
              exact Holds.ungroup [Old e, IsFlight p ⟨M.n, M.rows.set u (l ++ [d.f1]), M.calls, M.keys⟩, IsMap s1 .i64 (encF M.calls), IsMap s2 .i64 (encF M.keys)] [_] (rm_set (l' := l ++ [d.f1]) Hu.out Hrm.out rfl h)
            · refine ⟨_, _, rfl, by rfl, ?_⟩
              (refine wp_bsl1 rfl rfl (by rfl) (by rfl) (by decide) hw ?_; intro b_ w_ hw_; replace hw_ := hw_.newSl (i := 10) rfl 1 1 rfl (by decide); clear hw; have hw := hw_; clear hw_; (try simp only [List.map_cons, List.map_nil, List.getD_cons_zero, List.getD_cons_succ, List.getD_nil, List.set_cons_zero, List.set_cons_succ, List.cons_append, List.nil_append, Act.eval, Array.getD_eq_getD_getElem?, List.getElem?_toArray, List.getElem?_cons_succ, List.getElem?_cons_zero, Option.getD_some, Value.cells] at hw); (try simp (disch := first | (simp; done) | (simp; omega)) only [Sep.mid_set, Sep.mid_set2, Sep.mid_set0, Sep.mid_splice, Sep.mid_splice0, List.set_cons_zero, List.set_cons_succ] at hw); (try simp only [Sep.splice, List.take_succ_cons, List.take_zero, List.drop_succ_cons, List.drop_zero, List.length_cons, List.length_nil, Nat.reduceAdd, List.cons_append, List.nil_append] at hw); (try replace hc0 := Sep.Holds.cells hw (i := 0) rfl); (try replace hc1 := Sep.Holds.cells hw (i := 1) rfl); (try replace hc2 := Sep.Holds.cells hw (i := 2) rfl); (try replace hc3 := Sep.Holds.cells hw (i := 3) rfl); (try replace hc4 := Sep.Holds.cells hw (i := 4) rfl); (try replace hc5 := Sep.Holds.cells hw (i := 5) rfl); (try replace hc6 := Sep.Holds.cells hw (i := 6) rfl))
              refine ⟨(SL.keep (by exact hw.sel [4, 5] (by decide)) (SL.drop 9 (by kernel_rfl) SL.nil)), ?_⟩
              try simp only [Act.put, List.setIfInBounds_toArray, List.set_cons_zero, List.set_cons_succ]
              refine wpL_o 6 rfl (by rfl) (marks 12 1023) ?_
              (refine wp_appendSl (i := 9) (j := 8) (u := .slice ra nr rc) (m := nr) (news := encI l) rfl rfl hw rfl rfl rfl (by first | exact encI_one _ | simp [Value.oneCell', Value.cells]) (by rfl) (by (try unfold maxLen); omega) (by (try unfold maxLen); omega) ?_; intro a2_ cap2_ w_ hw_; clear hw; have hw := hw_; clear hw_; (try simp only [List.map_cons, List.map_nil, List.getD_cons_zero, List.getD_cons_succ, List.getD_nil, List.set_cons_zero, List.set_cons_succ, List.cons_append, List.nil_append, Act.eval, Array.getD_eq_getD_getElem?, List.getElem?_toArray, List.getElem?_cons_succ, List.getElem?_cons_zero, Option.getD_some, Value.cells] at hw); (try simp (disch := first | (simp; done) | (simp; omega)) only [Sep.mid_set, Sep.mid_set2, Sep.mid_set0, Sep.mid_splice, Sep.mid_splice0, List.set_cons_zero, List.set_cons_succ] at hw); (try simp only [Sep.splice, List.take_succ_cons, List.take_zero, List.drop_succ_cons, List.drop_zero, List.length_cons, List.length_nil, Nat.reduceAdd, List.cons_append, List.nil_append] at hw); (try replace hc0 := Sep.Holds.cells hw (i := 0) rfl); (try replace hc1 := Sep.Holds.cells hw (i := 1) rfl); (try replace hc2 := Sep.Holds.cells hw (i := 2) rfl); (try replace hc3 := Sep.Holds.cells hw (i := 3) rfl); (try replace hc4 := Sep.Holds.cells hw (i := 4) rfl); (try replace hc5 := Sep.Holds.cells hw (i := 5) rfl); (try replace hc6 := Sep.Holds.cells hw (i := 6) rfl))
              refine ⟨(SL.drop 6 (by kernel_rfl) (SL.drop 9 (by kernel_rfl) SL.nil)), ?_⟩
              try simp only [Act.put, List.setIfInBounds_toArray, List.set_cons_zero, List.set_cons_succ]
              refine wpL_o 10 rfl (by rfl) (marks 12 2047) ?_
              (refine wp_appendSl (i := 9) (j := 10) (n := 0 + nr) (m := 1) (news := [.int .i64 d.f1]) rfl rfl hw rfl rfl rfl (by first | exact encI_one _ | simp [Value.oneCell', Value.cells]) (by rfl) (by (try unfold maxLen); omega) (by (try unfold maxLen); omega) ?_; intro a2_ cap2_ w_ hw_; clear hw; have hw := hw_; clear hw_; (try simp only [List.map_cons, List.map_nil, List.getD_cons_zero, List.getD_cons_succ, List.getD_nil, List.set_cons_zero, List.set_cons_succ, List.cons_append, List.nil_append, Act.eval, Array.getD_eq_getD_getElem?, List.getElem?_toArray, List.getElem?_cons_succ, List.getElem?_cons_zero, Option.getD_some, Value.cells] at hw); (try simp (disch := first | (simp; done) | (simp; omega)) only [Sep.mid_set, Sep.mid_set2, Sep.mid_set0, Sep.mid_splice, Sep.mid_splice0, List.set_cons_zero, List.set_cons_succ] at hw); (try simp only [Sep.splice, List.take_succ_cons, List.take_zero, List.drop_succ_cons, List.drop_zero, List.length_cons, List.length_nil, Nat.reduceAdd, List.cons_append, List.nil_append] at hw); (try replace hc0 := Sep.Holds.cells hw (i := 0) rfl); (try replace hc1 := Sep.Holds.cells hw (i := 1) rfl); (try replace hc2 := Sep.Holds.cells hw (i := 2) rfl); (try replace hc3 := Sep.Holds.cells hw (i := 3) rfl); (try replace hc4 := Sep.Holds.cells hw (i := 4) rfl); (try replace hc5 := Sep.Holds.cells hw (i := 5) rfl); (try replace hc6 := Sep.Holds.cells hw (i := 6) rfl))
              refine ⟨(SL.drop 6 (by kernel_rfl) (SL.drop 9 (by kernel_rfl) SL.nil)), ?_⟩
              try simp only [Act.put, List.setIfInBounds_toArray, List.set_cons_zero, List.set_cons_succ]
              refine wpL_o 11 rfl (by rfl) (marks 12 4095) ?_
              (refine wp_mapUpdate rfl rfl rfl rfl hw (i := 4) rfl ?_; intro w_ hw_; clear hw; have hw := hw_; clear hw_; (try simp only [List.map_cons, List.map_nil, List.getD_cons_zero, List.getD_cons_succ, List.getD_nil, List.set_cons_zero, List.set_cons_succ, List.cons_append, List.nil_append, Act.eval, Array.getD_eq_getD_getElem?, List.getElem?_toArray, List.getElem?_cons_succ, List.getElem?_cons_zero, Option.getD_some, Value.cells] at hw); (try simp (disch := first | (simp; done) | (simp; omega)) only [Sep.mid_set, Sep.mid_set2, Sep.mid_set0, Sep.mid_splice, Sep.mid_splice0, List.set_cons_zero, List.set_cons_succ] at hw); (try simp only [Sep.splice, List.take_succ_cons, List.take_zero, List.drop_succ_cons, List.drop_zero, List.length_cons, List.length_nil, Nat.reduceAdd, List.cons_append, List.nil_append] at hw); (try replace hc0 := Sep.Holds.cells hw (i := 0) rfl); (try replace hc1 := Sep.Holds.cells hw (i := 1) rfl); (try replace hc2 := Sep.Holds.cells hw (i := 2) rfl); (try replace hc3 := Sep.Holds.cells hw (i := 3) rfl); (try replace hc4 := Sep.Holds.cells hw (i := 4) rfl); (try replace hc5 := Sep.Holds.cells hw (i := 5) rfl); (try replace hc6 := Sep.Holds.cells hw (i := 6) rfl))
              refine ⟨(SL.drop 6 (by kernel_rfl) (SL.drop 9 (by kernel_rfl) SL.nil)), ?_⟩
              try simp only [Act.put, List.setIfInBounds_toArray, List.set_cons_zero, List.set_cons_succ]
              refine wpL_done (by kernel_rfl) ?_ _
              replace hw := hw.sel [0, 1, 2, 3, 4, 7, 9] (by decide)
              (try simp only [List.map_cons, List.map_nil, List.getD_cons_zero, List.getD_cons_succ, List.getD_nil, List.set_cons_zero, List.set_cons_succ, List.cons_append, List.nil_append, Act.eval, Array.getD_eq_getD_getElem?, List.getElem?_toArray, List.getElem?_cons_succ, List.getElem?_cons_zero, Option.getD_some, Value.cells] at hw); (try simp (disch := first | (simp; done) | (simp; omega)) only [Sep.mid_set, Sep.mid_set2, Sep.mid_set0, Sep.mid_splice, Sep.mid_splice0, List.set_cons_zero, List.set_cons_succ] at hw); (try simp only [Sep.splice, List.take_succ_cons, List.take_zero, List.drop_succ_cons, List.drop_zero, List.length_cons, List.length_nil, Nat.reduceAdd, List.cons_append, List.nil_append] at hw)
              rw [sl_app Hnr] at hw
              go_wp2_with fail
              go_meet
              have h := Holds.group [Old e, IsFlight p ⟨M.n, M.rows.set u (l ++ [d.f1]), M.calls, M.keys⟩, IsMap s1 .i64 (encF M.calls), IsMap s2 .i64 (encF M.keys)] _ hw
              exact Holds.ungroup [Old e, IsFlight p ⟨M.n, M.rows.set u (l ++ [d.f1]), M.calls, M.keys⟩, IsMap s1 .i64 (encF M.calls), IsMap s2 .i64 (encF M.keys)] [_] (rm_set (l' := l ++ [d.f1]) Hu.out Hrm.out rfl h)
          · refine ⟨_, _, rfl, by rfl, ?_⟩
            (refine wp_bsl1 rfl rfl (by rfl) (by rfl) (by decide) hw ?_; intro b_ w_ hw_; replace hw_ := hw_.newSl (i := 9) rfl 1 1 rfl (by decide); clear hw; have hw := hw_; clear hw_; (try simp only [List.map_cons, List.map_nil, List.getD_cons_zero, List.getD_cons_succ, List.getD_nil, List.set_cons_zero, List.set_cons_succ, List.cons_append, List.nil_append, Act.eval, Array.getD_eq_getD_getElem?, List.getElem?_toArray, List.getElem?_cons_succ, List.getElem?_cons_zero, Option.getD_some, Value.cells] at hw); (try simp (disch := first | (simp; done) | (simp; omega)) only [Sep.mid_set, Sep.mid_set2, Sep.mid_set0, Sep.mid_splice, Sep.mid_splice0, List.set_cons_zero, List.set_cons_succ] at hw); (try simp only [Sep.splice, List.take_succ_cons, List.take_zero, List.drop_succ_cons, List.drop_zero, List.length_cons, List.length_nil, Nat.reduceAdd, List.cons_append, List.nil_append] at hw); (try replace hc0 := Sep.Holds.cells hw (i := 0) rfl); (try replace hc1 := Sep.Holds.cells hw (i := 1) rfl); (try replace hc2 := Sep.Holds.cells hw (i := 2) rfl); (try replace hc3 := Sep.Holds.cells hw (i := 3) rfl); (try replace hc4 := Sep.Holds.cells hw (i := 4) rfl); (try replace hc5 := Sep.Holds.cells hw (i := 5) rfl); (try replace hc6 := Sep.Holds.cells hw (i := 6) rfl))
            refine ⟨(SL.keep (by exact hw.sel [4, 5] (by decide)) (SL.drop 9 (by kernel_rfl) SL.nil)), ?_⟩
            try simp only [Act.put, List.setIfInBounds_toArray, List.set_cons_zero, List.set_cons_succ]
            refine wpL_o 2 rfl (by rfl) (marks 12 959) ?_
            (refine wp_bsl0 rfl hw ?_; intro b_ w_ hw_; replace hw_ := hw_.newSl (i := 10) rfl 1 0 rfl (by decide); clear hw; have hw := hw_; clear hw_; (try simp only [List.map_cons, List.map_nil, List.getD_cons_zero, List.getD_cons_succ, List.getD_nil, List.set_cons_zero, List.set_cons_succ, List.cons_append, List.nil_append, Act.eval, Array.getD_eq_getD_getElem?, List.getElem?_toArray, List.getElem?_cons_succ, List.getElem?_cons_zero, Option.getD_some, Value.cells] at hw); (try simp (disch := first | (simp; done) | (simp; omega)) only [Sep.mid_set, Sep.mid_set2, Sep.mid_set0, Sep.mid_splice, Sep.mid_splice0, List.set_cons_zero, List.set_cons_succ] at hw); (try simp only [Sep.splice, List.take_succ_cons, List.take_zero, List.drop_succ_cons, List.drop_zero, List.length_cons, List.length_nil, Nat.reduceAdd, List.cons_append, List.nil_append] at hw); (try replace hc0 := Sep.Holds.cells hw (i := 0) rfl); (try replace hc1 := Sep.Holds.cells hw (i := 1) rfl); (try replace hc2 := Sep.Holds.cells hw (i := 2) rfl); (try replace hc3 := Sep.Holds.cells hw (i := 3) rfl); (try replace hc4 := Sep.Holds.cells hw (i := 4) rfl); (try replace hc5 := Sep.Holds.cells hw (i := 5) rfl); (try replace hc6 := Sep.Holds.cells hw (i := 6) rfl))
            refine ⟨(SL.keep (by exact hw.sel [4, 5] (by decide)) (SL.drop 9 (by kernel_rfl) SL.nil)), ?_⟩
            try simp only [Act.put, List.setIfInBounds_toArray, List.set_cons_zero, List.set_cons_succ]
            refine wpL_o 6 rfl (by rfl) (marks 12 1023) ?_
            (refine wp_appendSl (i := 10) (j := 8) (u := .slice ra nr rc) (m := nr) (news := encI l) rfl rfl hw rfl rfl rfl (by first | exact encI_one _ | simp [Value.oneCell', Value.cells]) (by rfl) (by (try unfold maxLen); omega) (by (try unfold maxLen); omega) ?_; intro a2_ cap2_ w_ hw_; clear hw; have hw := hw_; clear hw_; (try simp only [List.map_cons, List.map_nil, List.getD_cons_zero, List.getD_cons_succ, List.getD_nil, List.set_cons_zero, List.set_cons_succ, List.cons_append, List.nil_append, Act.eval, Array.getD_eq_getD_getElem?, List.getElem?_toArray, List.getElem?_cons_succ, List.getElem?_cons_zero, Option.getD_some, Value.cells] at hw); (try simp (disch := first | (simp; done) | (simp; omega)) only [Sep.mid_set, Sep.mid_set2, Sep.mid_set0, Sep.mid_splice, Sep.mid_splice0, List.set_cons_zero, List.set_cons_succ] at hw); (try simp only [Sep.splice, List.take_succ_cons, List.take_zero, List.drop_succ_cons, List.drop_zero, List.length_cons, List.length_nil, Nat.reduceAdd, List.cons_append, List.nil_append] at hw); (try replace hc0 := Sep.Holds.cells hw (i := 0) rfl); (try replace hc1 := Sep.Holds.cells hw (i := 1) rfl); (try replace hc2 := Sep.Holds.cells hw (i := 2) rfl); (try replace hc3 := Sep.Holds.cells hw (i := 3) rfl); (try replace hc4 := Sep.Holds.cells hw (i := 4) rfl); (try replace hc5 := Sep.Holds.cells hw (i := 5) rfl); (try replace hc6 := Sep.Holds.cells hw (i := 6) rfl))
            refine ⟨(SL.drop 6 (by kernel_rfl) (SL.drop 9 (by kernel_rfl) SL.nil)), ?_⟩
            try simp only [Act.put, List.setIfInBounds_toArray, List.set_cons_zero, List.set_cons_succ]
            refine wpL_o 10 rfl (by rfl) (marks 12 2047) ?_
            (refine wp_appendSl (i := 10) (j := 9) (n := 0 + nr) (m := 1) (news := [.int .i64 d.f1]) rfl rfl hw rfl rfl rfl (by first | exact encI_one _ | simp [Value.oneCell', Value.cells]) (by rfl) (by (try unfold maxLen); omega) (by (try unfold maxLen); omega) ?_; intro a2_ cap2_ w_ hw_; clear hw; have hw := hw_; clear hw_; (try simp only [List.map_cons, List.map_nil, List.getD_cons_zero, List.getD_cons_succ, List.getD_nil, List.set_cons_zero, List.set_cons_succ, List.cons_append, List.nil_append, Act.eval, Array.getD_eq_getD_getElem?, List.getElem?_toArray, List.getElem?_cons_succ, List.getElem?_cons_zero, Option.getD_some, Value.cells] at hw); (try simp (disch := first | (simp; done) | (simp; omega)) only [Sep.mid_set, Sep.mid_set2, Sep.mid_set0, Sep.mid_splice, Sep.mid_splice0, List.set_cons_zero, List.set_cons_succ] at hw); (try simp only [Sep.splice, List.take_succ_cons, List.take_zero, List.drop_succ_cons, List.drop_zero, List.length_cons, List.length_nil, Nat.reduceAdd, List.cons_append, List.nil_append] at hw); (try replace hc0 := Sep.Holds.cells hw (i := 0) rfl); (try replace hc1 := Sep.Holds.cells hw (i := 1) rfl); (try replace hc2 := Sep.Holds.cells hw (i := 2) rfl); (try replace hc3 := Sep.Holds.cells hw (i := 3) rfl); (try replace hc4 := Sep.Holds.cells hw (i := 4) rfl); (try replace hc5 := Sep.Holds.cells hw (i := 5) rfl); (try replace hc6 := Sep.Holds.cells hw (i := 6) rfl))
            refine ⟨(SL.drop 6 (by kernel_rfl) (SL.drop 9 (by kernel_rfl) SL.nil)), ?_⟩
            try simp only [Act.put, List.setIfInBounds_toArray, List.set_cons_zero, List.set_cons_succ]
            refine wpL_o 11 rfl (by rfl) (marks 12 4095) ?_
            (refine wp_mapUpdate rfl rfl rfl rfl hw (i := 4) rfl ?_; intro w_ hw_; clear hw; have hw := hw_; clear hw_; (try simp only [List.map_cons, List.map_nil, List.getD_cons_zero, List.getD_cons_succ, List.getD_nil, List.set_cons_zero, List.set_cons_succ, List.cons_append, List.nil_append, Act.eval, Array.getD_eq_getD_getElem?, List.getElem?_toArray, List.getElem?_cons_succ, List.getElem?_cons_zero, Option.getD_some, Value.cells] at hw); (try simp (disch := first | (simp; done) | (simp; omega)) only [Sep.mid_set, Sep.mid_set2, Sep.mid_set0, Sep.mid_splice, Sep.mid_splice0, List.set_cons_zero, List.set_cons_succ] at hw); (try simp only [Sep.splice, List.take_succ_cons, List.take_zero, List.drop_succ_cons, List.drop_zero, List.length_cons, List.length_nil, Nat.reduceAdd, List.cons_append, List.nil_append] at hw); (try replace hc0 := Sep.Holds.cells hw (i := 0) rfl); (try replace hc1 := Sep.Holds.cells hw (i := 1) rfl); (try replace hc2 := Sep.Holds.cells hw (i := 2) rfl); (try replace hc3 := Sep.Holds.cells hw (i := 3) rfl); (try replace hc4 := Sep.Holds.cells hw (i := 4) rfl); (try replace hc5 := Sep.Holds.cells hw (i := 5) rfl); (try replace hc6 := Sep.Holds.cells hw (i := 6) rfl))
            refine ⟨(SL.drop 6 (by kernel_rfl) (SL.drop 9 (by kernel_rfl) SL.nil)), ?_⟩
            try simp only [Act.put, List.setIfInBounds_toArray, List.set_cons_zero, List.set_cons_succ]
            refine wpL_done (by kernel_rfl) ?_ _
            replace hw := hw.sel [0, 1, 2, 3, 4, 7, 10] (by decide)
            (try simp only [List.map_cons, List.map_nil, List.getD_cons_zero, List.getD_cons_succ, List.getD_nil, List.set_cons_zero, List.set_cons_succ, List.cons_append, List.nil_append, Act.eval, Array.getD_eq_getD_getElem?, List.getElem?_toArray, List.getElem?_cons_succ, List.getElem?_cons_zero, Option.getD_some, Value.cells] at hw); (try simp (disch := first | (simp; done) | (simp; omega)) only [Sep.mid_set, Sep.mid_set2, Sep.mid_set0, Sep.mid_splice, Sep.mid_splice0, List.set_cons_zero, List.set_cons_succ] at hw); (try simp only [Sep.splice, List.take_succ_cons, List.take_zero, List.drop_succ_cons, List.drop_zero, List.length_cons, List.length_nil, Nat.reduceAdd, List.cons_append, List.nil_append] at hw)
            rw [sl_app Hnr] at hw
            go_wp2_with fail
            go_meet
            have h := Holds.group [Old e, IsFlight p ⟨M.n, M.rows.set u (l ++ [d.f1]), M.calls, M.keys⟩, IsMap s1 .i64 (encF M.calls), IsMap s2 .i64 (encF M.keys)] _ hw
            exact Holds.ungroup [Old e, IsFlight p ⟨M.n, M.rows.set u (l ++ [d.f1]), M.calls, M.keys⟩, IsMap s1 .i64 (encF M.calls), IsMap s2 .i64 (encF M.keys)] [_] (rm_set (l' := l ++ [d.f1]) Hu.out Hrm.out rfl h)
        · -- a call is begun
          obtain rfl : nl = 0 := Hnl.out.symm
          have Hc1 : Hid ((M.calls d.f2).getD 0 = 0) := Sep.hid (by rw [hc1]; rfl)
          have Hc2 : Hid ((M.calls d.f2).isSome = false) := Sep.hid (by rw [hc1]; rfl)
          clear hc1
          go_wp2_with (refine wpList_on rfl (wp_lookOkV (i := 2) rfl rfl rfl hw rfl Hc1.out Hc2.out ?_))
          refine wp_region_L [10, 11] [(2, (fun w' => w' = w_.drew)), (7, (fun w' => w' = w_.drew)), (5, (fun w' => Holds e w' [pt bd [.int .i64 d.f0, .int .i64 d.f1, .int .i64 d.f2] 32])), (9, (fun w' => Holds e w' [pt bd [.int .i64 d.f0, .int .i64 d.f1, .int .i64 d.f2] 32]))] (n := 12) (listed := (marks 12 0)) (by kernel_rfl) rfl (by kernel_rfl) ?conds2 ?_
          case conds2 =>
           intro c hc
           simp only [List.mem_cons, List.not_mem_nil, or_false] at hc
           rcases hc with rfl | rfl | rfl | rfl
           · rfl
           · rfl
           · exact (by replace hw := hw.drew; exact hw.sel [5] (by decide))
           · exact (by replace hw := hw.drew; exact hw.sel [5] (by decide))
          replace hw := hw.drew
          (try replace hc0 := Sep.Holds.cells hw (i := 0) rfl); (try replace hc1 := Sep.Holds.cells hw (i := 1) rfl); (try replace hc2 := Sep.Holds.cells hw (i := 2) rfl); (try replace hc3 := Sep.Holds.cells hw (i := 3) rfl); (try replace hc4 := Sep.Holds.cells hw (i := 4) rfl); (try replace hc5 := Sep.Holds.cells hw (i := 5) rfl); (try replace hc6 := Sep.Holds.cells hw (i := 6) rfl)
          refine wpL_q 0 ?_ rfl (Or.inl ⟨by rfl, fun w_ hS_ => ?_⟩) (marks 12 1) ?_
          rotate_left
          next => (go_simp; try (first | rfl | exact (Bool.not_not _).symm))
          try simp only [Act.put, List.setIfInBounds_toArray, List.set_cons_zero, List.set_cons_succ]
          refine wpL_q 1 ?_ rfl (Or.inl ⟨by rfl, fun w_ hS_ => ?_⟩) (marks 12 3) ?_
          rotate_left
          next => (go_simp; try (first | rfl | exact (Bool.not_not _).symm))
          try simp only [Act.put, List.setIfInBounds_toArray, List.set_cons_zero, List.set_cons_succ]
          refine wpL_m 2 ?_ rfl (.head _) (Or.inl ⟨by rfl, fun w_ hS_ => ?_⟩) (marks 12 7) ?_
          rotate_left
          next => (subst hS_; go_simp; try (first | rfl | exact (Bool.not_not _).symm))
          try simp only [Act.put, List.setIfInBounds_toArray, List.set_cons_zero, List.set_cons_succ]
          refine wpL_q 3 ?_ rfl (Or.inl ⟨by rfl, fun w_ hS_ => ?_⟩) (marks 12 15) ?_
          rotate_left
          next => (go_simp; try (first | rfl | exact (Bool.not_not _).symm))
          try simp only [Act.put, List.setIfInBounds_toArray, List.set_cons_zero, List.set_cons_succ]
          refine wpL_q 4 ?_ rfl (Or.inl ⟨by rfl, fun w_ hS_ => ?_⟩) (marks 12 31) ?_
          rotate_left
          next => (go_simp; try (first | rfl | exact (Bool.not_not _).symm))
          try simp only [Act.put, List.setIfInBounds_toArray, List.set_cons_zero, List.set_cons_succ]
          refine wpL_m 5 ?_ rfl (.tail _ (.tail _ (.head _))) (Or.inl ⟨by rfl, fun w_ hS_ => ?_⟩) (marks 12 63) ?_
          rotate_left
          next => (dsimp only at hS_; (try have q0 := Sep.Holds.cells hS_ (i := 0) rfl); (try have q1 := Sep.Holds.cells hS_ (i := 1) rfl); (try have q2 := Sep.Holds.cells hS_ (i := 2) rfl); (try have q3 := Sep.Holds.cells hS_ (i := 3) rfl); (try have q4 := Sep.Holds.cells hS_ (i := 4) rfl); (try have q5 := Sep.Holds.cells hS_ (i := 5) rfl); (try have q6 := Sep.Holds.cells hS_ (i := 6) rfl); go_simp; try (first | rfl | exact (Bool.not_not _).symm))
          try simp only [Act.put, List.setIfInBounds_toArray, List.set_cons_zero, List.set_cons_succ]
          refine wpL_q 6 ?_ rfl (Or.inl ⟨by rfl, fun w_ hS_ => ?_⟩) (marks 12 127) ?_
          rotate_left
          next => (go_simp; try (first | rfl | exact (Bool.not_not _).symm))
          try simp only [Act.put, List.setIfInBounds_toArray, List.set_cons_zero, List.set_cons_succ]
          refine wpL_m 7 ?_ rfl (.tail _ (.head _)) (Or.inl ⟨by rfl, fun w_ hS_ => ?_⟩) (marks 12 255) ?_
          rotate_left
          next => (subst hS_; go_simp; try (first | rfl | exact (Bool.not_not _).symm))
          try simp only [Act.put, List.setIfInBounds_toArray, List.set_cons_zero, List.set_cons_succ]
          refine wpL_q 8 ?_ rfl (Or.inl ⟨by rfl, fun w_ hS_ => ?_⟩) (marks 12 511) ?_
          rotate_left
          next => (go_simp; try (first | rfl | exact (Bool.not_not _).symm))
          try simp only [Act.put, List.setIfInBounds_toArray, List.set_cons_zero, List.set_cons_succ]
          refine wpL_m 9 ?_ rfl (.tail _ (.tail _ (.tail _ (.head _)))) (Or.inl ⟨by rfl, fun w_ hS_ => ?_⟩) (marks 12 1023) ?_
          rotate_left
          next => (dsimp only at hS_; (try have q0 := Sep.Holds.cells hS_ (i := 0) rfl); (try have q1 := Sep.Holds.cells hS_ (i := 1) rfl); (try have q2 := Sep.Holds.cells hS_ (i := 2) rfl); (try have q3 := Sep.Holds.cells hS_ (i := 3) rfl); (try have q4 := Sep.Holds.cells hS_ (i := 4) rfl); (try have q5 := Sep.Holds.cells hS_ (i := 5) rfl); (try have q6 := Sep.Holds.cells hS_ (i := 6) rfl); go_simp; try (first | rfl | exact (Bool.not_not _).symm))
          try simp only [Act.put, List.setIfInBounds_toArray, List.set_cons_zero, List.set_cons_succ]
          refine wpL_o 10 rfl (by rfl) (marks 12 2047) ?_
          (refine wp_setI rfl rfl rfl rfl hw (i := 2) rfl ?_; intro w_ hw_; clear hw; have hw := hw_; clear hw_; (try simp only [List.map_cons, List.map_nil, List.getD_cons_zero, List.getD_cons_succ, List.getD_nil, List.set_cons_zero, List.set_cons_succ, List.cons_append, List.nil_append, Act.eval, Array.getD_eq_getD_getElem?, List.getElem?_toArray, List.getElem?_cons_succ, List.getElem?_cons_zero, Option.getD_some, Value.cells] at hw); (try simp (disch := first | (simp; done) | (simp; omega)) only [Sep.mid_set, Sep.mid_set2, Sep.mid_set0, Sep.mid_splice, Sep.mid_splice0, List.set_cons_zero, List.set_cons_succ] at hw); (try simp only [Sep.splice, List.take_succ_cons, List.take_zero, List.drop_succ_cons, List.drop_zero, List.length_cons, List.length_nil, Nat.reduceAdd, List.cons_append, List.nil_append] at hw); (try replace hc0 := Sep.Holds.cells hw (i := 0) rfl); (try replace hc1 := Sep.Holds.cells hw (i := 1) rfl); (try replace hc2 := Sep.Holds.cells hw (i := 2) rfl); (try replace hc3 := Sep.Holds.cells hw (i := 3) rfl); (try replace hc4 := Sep.Holds.cells hw (i := 4) rfl); (try replace hc5 := Sep.Holds.cells hw (i := 5) rfl); (try replace hc6 := Sep.Holds.cells hw (i := 6) rfl))
          refine ⟨(SL.drop 10 (by kernel_rfl) (SL.drop 10 (by kernel_rfl) (SL.keep (by exact hw.sel [5] (by decide)) (SL.keep (by exact hw.sel [5] (by decide)) SL.nil)))), ?_⟩
          try simp only [Act.put, List.setIfInBounds_toArray, List.set_cons_zero, List.set_cons_succ]
          refine wpL_o 11 rfl (by rfl) (marks 12 4095) ?_
          (refine wp_setI rfl rfl rfl rfl hw (i := 3) rfl ?_; intro w_ hw_; clear hw; have hw := hw_; clear hw_; (try simp only [List.map_cons, List.map_nil, List.getD_cons_zero, List.getD_cons_succ, List.getD_nil, List.set_cons_zero, List.set_cons_succ, List.cons_append, List.nil_append, Act.eval, Array.getD_eq_getD_getElem?, List.getElem?_toArray, List.getElem?_cons_succ, List.getElem?_cons_zero, Option.getD_some, Value.cells] at hw); (try simp (disch := first | (simp; done) | (simp; omega)) only [Sep.mid_set, Sep.mid_set2, Sep.mid_set0, Sep.mid_splice, Sep.mid_splice0, List.set_cons_zero, List.set_cons_succ] at hw); (try simp only [Sep.splice, List.take_succ_cons, List.take_zero, List.drop_succ_cons, List.drop_zero, List.length_cons, List.length_nil, Nat.reduceAdd, List.cons_append, List.nil_append] at hw); (try replace hc0 := Sep.Holds.cells hw (i := 0) rfl); (try replace hc1 := Sep.Holds.cells hw (i := 1) rfl); (try replace hc2 := Sep.Holds.cells hw (i := 2) rfl); (try replace hc3 := Sep.Holds.cells hw (i := 3) rfl); (try replace hc4 := Sep.Holds.cells hw (i := 4) rfl); (try replace hc5 := Sep.Holds.cells hw (i := 5) rfl); (try replace hc6 := Sep.Holds.cells hw (i := 6) rfl))
          refine ⟨(SL.drop 10 (by kernel_rfl) (SL.drop 10 (by kernel_rfl) (SL.drop 11 (by kernel_rfl) (SL.drop 11 (by kernel_rfl) SL.nil)))), ?_⟩
          try simp only [Act.put, List.setIfInBounds_toArray, List.set_cons_zero, List.set_cons_succ]
          refine wpL_done (by kernel_rfl) ?_ _
          go_wp2_with fail
          go_meet
          exact hw.sel [0, 1, 2, 3, 4] (by decide)
        · -- a call ends
          rename List Int => l
          rw [hd1] at hw
          have Hl := Sep.hid hl
          have Hu : Hid (u < M.rows.length) := Sep.hid (List.getElem?_eq_some_iff.1 hl).1
          have hnr1 := Hrl.out l (List.mem_of_getElem? hl)
          have Hk1 : Hid ((M.keys (u : Int)).getD 0 = key) := Sep.hid (by rw [hk]; rfl)
          clear hk hl hd1
          have Hlen1 : Hid (l.length ≤ 1000000) := Sep.hid (by omega)
          obtain ⟨x, ra, rc, hrm, hvx, hgx, hw_⟩ := rm_pick Hl.out (hw.focus1 4 rfl)
          have Hrm := Sep.hid hrm; have Hvx := Sep.hid hvx; have Hgx := Sep.hid hgx
          clear hrm hvx hgx
          clear hw; (try clear hc0); (try clear hc1); (try clear hc2); (try clear hc3); (try clear hc4); (try clear hc5); (try clear hc6); have hw := Holds.unfocus1 4 (by simp) hw_; clear hw_
          (try simp only [List.map_cons, List.map_nil, List.getD_cons_zero, List.getD_cons_succ, List.getD_nil, List.set_cons_zero, List.set_cons_succ, List.cons_append, List.nil_append, Act.eval, Array.getD_eq_getD_getElem?, List.getElem?_toArray, List.getElem?_cons_succ, List.getElem?_cons_zero, Option.getD_some, Value.cells] at hw); (try simp (disch := first | (simp; done) | (simp; omega)) only [Sep.mid_set, Sep.mid_set2, Sep.mid_set0, Sep.mid_splice, Sep.mid_splice0, List.set_cons_zero, List.set_cons_succ] at hw); (try simp only [Sep.splice, List.take_succ_cons, List.take_zero, List.drop_succ_cons, List.drop_zero, List.length_cons, List.length_nil, Nat.reduceAdd, List.cons_append, List.nil_append] at hw)
          (try replace hc0 := Sep.Holds.cells hw (i := 0) rfl); (try replace hc1 := Sep.Holds.cells hw (i := 1) rfl); (try replace hc2 := Sep.Holds.cells hw (i := 2) rfl); (try replace hc3 := Sep.Holds.cells hw (i := 3) rfl); (try replace hc4 := Sep.Holds.cells hw (i := 4) rfl); (try replace hc5 := Sep.Holds.cells hw (i := 5) rfl); (try replace hc6 := Sep.Holds.cells hw (i := 6) rfl)
          obtain ⟨c1, hc1⟩ : ∃ c, (M.calls key).getD 0 = c := ⟨_, rfl⟩
          obtain ⟨c2, hc2⟩ : ∃ c, (M.calls key).isSome = c := ⟨_, rfl⟩
          have Hc1 := Sep.hid hc1
          have Hc2 := Sep.hid hc2
          have hle : M.leader key = (u : Int) ↔ (c2 = true ∧ c1 = (u : Int)) := by
            unfold FM.leader
            cases hc : M.calls key with
            | none => rw [hc] at hc2; subst hc2; simp
            | some y => rw [hc] at hc1 hc2; subst hc1 hc2; simp
          clear hc1 hc2
          by_cases hcc : c2 = true ∧ c1 = (u : Int)
          · have hif : (if M.leader key = (u : Int) then setI M.calls key none else M.calls) = setI M.calls key none := if_pos (hle.2 hcc)
            have Hif := Sep.hid hif
            obtain ⟨rfl, rfl⟩ := hcc
            clear hle hif
            go_wp2_with (refine wpList_on rfl (wp_lookup rfl rfl rfl hw (i := 4) rfl ?_); rw [if_neg (by decide), Hgx.out])
            refine (same_calls _ _ l l Hlen1.out e _ _ (hw.focus2 6 8 rfl rfl (by decide))).mono ?_
            rintro en_ w_ ⟨he_, hw_⟩
            rw [decide_eq_true rfl] at he_; subst he_
            clear hw; (try clear hc0); (try clear hc1); (try clear hc2); (try clear hc3); (try clear hc4); (try clear hc5); (try clear hc6); have hw := Holds.unfocus2 6 8 (by simp) (by simp) (by decide) hw_; clear hw_
            (try simp only [List.map_cons, List.map_nil, List.getD_cons_zero, List.getD_cons_succ, List.getD_nil, List.set_cons_zero, List.set_cons_succ, List.cons_append, List.nil_append, Act.eval, Array.getD_eq_getD_getElem?, List.getElem?_toArray, List.getElem?_cons_succ, List.getElem?_cons_zero, Option.getD_some, Value.cells] at hw); (try simp (disch := first | (simp; done) | (simp; omega)) only [Sep.mid_set, Sep.mid_set2, Sep.mid_set0, Sep.mid_splice, Sep.mid_splice0, List.set_cons_zero, List.set_cons_succ] at hw); (try simp only [Sep.splice, List.take_succ_cons, List.take_zero, List.drop_succ_cons, List.drop_zero, List.length_cons, List.length_nil, Nat.reduceAdd, List.cons_append, List.nil_append] at hw)
            (try replace hc0 := Sep.Holds.cells hw (i := 0) rfl); (try replace hc1 := Sep.Holds.cells hw (i := 1) rfl); (try replace hc2 := Sep.Holds.cells hw (i := 2) rfl); (try replace hc3 := Sep.Holds.cells hw (i := 3) rfl); (try replace hc4 := Sep.Holds.cells hw (i := 4) rfl); (try replace hc5 := Sep.Holds.cells hw (i := 5) rfl); (try replace hc6 := Sep.Holds.cells hw (i := 6) rfl)
            go_wp2_with (first
              | (refine wpList_on rfl (wp_lookV (i := 3) rfl rfl rfl hw rfl Hk1.out ?_))
              | (refine wpList_on rfl (wp_lookOkV (i := 2) rfl rfl rfl hw rfl Hc1.out Hc2.out ?_))
              | (refine wpList_on rfl (wp_delI (i := 2) rfl rfl rfl hw rfl ?_); intro w_ hw_; clear hw; have hw := hw_; clear hw_; (try simp only [List.map_cons, List.map_nil, List.getD_cons_zero, List.getD_cons_succ, List.getD_nil, List.set_cons_zero, List.set_cons_succ, List.cons_append, List.nil_append, Act.eval, Array.getD_eq_getD_getElem?, List.getElem?_toArray, List.getElem?_cons_succ, List.getElem?_cons_zero, Option.getD_some, Value.cells] at hw); (try simp (disch := first | (simp; done) | (simp; omega)) only [Sep.mid_set, Sep.mid_set2, Sep.mid_set0, Sep.mid_splice, Sep.mid_splice0, List.set_cons_zero, List.set_cons_succ] at hw); (try simp only [Sep.splice, List.take_succ_cons, List.take_zero, List.drop_succ_cons, List.drop_zero, List.length_cons, List.length_nil, Nat.reduceAdd, List.cons_append, List.nil_append] at hw); (try replace hc0 := Sep.Holds.cells hw (i := 0) rfl); (try replace hc1 := Sep.Holds.cells hw (i := 1) rfl); (try replace hc2 := Sep.Holds.cells hw (i := 2) rfl); (try replace hc3 := Sep.Holds.cells hw (i := 3) rfl); (try replace hc4 := Sep.Holds.cells hw (i := 4) rfl); (try replace hc5 := Sep.Holds.cells hw (i := 5) rfl); (try replace hc6 := Sep.Holds.cells hw (i := 6) rfl))
              | (refine wpList_on rfl (wp_delI (i := 3) rfl rfl rfl hw rfl ?_); intro w_ hw_; clear hw; have hw := hw_; clear hw_; (try simp only [List.map_cons, List.map_nil, List.getD_cons_zero, List.getD_cons_succ, List.getD_nil, List.set_cons_zero, List.set_cons_succ, List.cons_append, List.nil_append, Act.eval, Array.getD_eq_getD_getElem?, List.getElem?_toArray, List.getElem?_cons_succ, List.getElem?_cons_zero, Option.getD_some, Value.cells] at hw); (try simp (disch := first | (simp; done) | (simp; omega)) only [Sep.mid_set, Sep.mid_set2, Sep.mid_set0, Sep.mid_splice, Sep.mid_splice0, List.set_cons_zero, List.set_cons_succ] at hw); (try simp only [Sep.splice, List.take_succ_cons, List.take_zero, List.drop_succ_cons, List.drop_zero, List.length_cons, List.length_nil, Nat.reduceAdd, List.cons_append, List.nil_append] at hw); (try replace hc0 := Sep.Holds.cells hw (i := 0) rfl); (try replace hc1 := Sep.Holds.cells hw (i := 1) rfl); (try replace hc2 := Sep.Holds.cells hw (i := 2) rfl); (try replace hc3 := Sep.Holds.cells hw (i := 3) rfl); (try replace hc4 := Sep.Holds.cells hw (i := 4) rfl); (try replace hc5 := Sep.Holds.cells hw (i := 5) rfl); (try replace hc6 := Sep.Holds.cells hw (i := 6) rfl))
              | (refine wpList_on rfl (wp_mapDelete rfl rfl rfl hw (i := 4) rfl ?_); intro w_ hw_; clear hw; have hw := hw_; clear hw_; (try simp only [List.map_cons, List.map_nil, List.getD_cons_zero, List.getD_cons_succ, List.getD_nil, List.set_cons_zero, List.set_cons_succ, List.cons_append, List.nil_append, Act.eval, Array.getD_eq_getD_getElem?, List.getElem?_toArray, List.getElem?_cons_succ, List.getElem?_cons_zero, Option.getD_some, Value.cells] at hw); (try simp (disch := first | (simp; done) | (simp; omega)) only [Sep.mid_set, Sep.mid_set2, Sep.mid_set0, Sep.mid_splice, Sep.mid_splice0, List.set_cons_zero, List.set_cons_succ] at hw); (try simp only [Sep.splice, List.take_succ_cons, List.take_zero, List.drop_succ_cons, List.drop_zero, List.length_cons, List.length_nil, Nat.reduceAdd, List.cons_append, List.nil_append] at hw); (try replace hc0 := Sep.Holds.cells hw (i := 0) rfl); (try replace hc1 := Sep.Holds.cells hw (i := 1) rfl); (try replace hc2 := Sep.Holds.cells hw (i := 2) rfl); (try replace hc3 := Sep.Holds.cells hw (i := 3) rfl); (try replace hc4 := Sep.Holds.cells hw (i := 4) rfl); (try replace hc5 := Sep.Holds.cells hw (i := 5) rfl); (try replace hc6 := Sep.Holds.cells hw (i := 6) rfl)))
            go_meet
            simp only [Hif.out] at hw ⊢
            have h := Holds.group [Old e, IsFlight p ⟨M.n, M.rows.set u [], (setI M.calls key none), setI M.keys u none⟩, IsMap s1 .i64 (encF (setI M.calls key none)), IsMap s2 .i64 (encF (setI M.keys u none))] _ ((hw.sel [0, 1, 2, 3, 4, 7] (by decide)).addEmp (X := IsInts (.slice none 0 0) []) (Sl.nil _ _ _))
            exact Holds.ungroup [Old e, IsFlight p ⟨M.n, M.rows.set u [], (setI M.calls key none), setI M.keys u none⟩, IsMap s1 .i64 (encF (setI M.calls key none)), IsMap s2 .i64 (encF (setI M.keys u none))] [_] (rm_set (l' := []) Hu.out Hrm.out rfl h)
          · have hif : (if M.leader key = (u : Int) then setI M.calls key none else M.calls) = M.calls := if_neg (fun h => hcc (hle.1 h))
            have Hif := Sep.hid hif
            have hcq : c2 = false ∨ (c1 == (u : Int)) = false := by
              cases c2 with
              | false => exact .inl rfl
              | true => exact .inr (by simpa using fun h => hcc ⟨rfl, h⟩)
            clear hle hif hcc
            rcases hcq with rfl | hq
            · skip
              go_wp2_with (refine wpList_on rfl (wp_lookup rfl rfl rfl hw (i := 4) rfl ?_); rw [if_neg (by decide), Hgx.out])
              refine (same_calls _ _ l l Hlen1.out e _ _ (hw.focus2 6 8 rfl rfl (by decide))).mono ?_
              rintro en_ w_ ⟨he_, hw_⟩
              rw [decide_eq_true rfl] at he_; subst he_
              clear hw; (try clear hc0); (try clear hc1); (try clear hc2); (try clear hc3); (try clear hc4); (try clear hc5); (try clear hc6); have hw := Holds.unfocus2 6 8 (by simp) (by simp) (by decide) hw_; clear hw_
              (try simp only [List.map_cons, List.map_nil, List.getD_cons_zero, List.getD_cons_succ, List.getD_nil, List.set_cons_zero, List.set_cons_succ, List.cons_append, List.nil_append, Act.eval, Array.getD_eq_getD_getElem?, List.getElem?_toArray, List.getElem?_cons_succ, List.getElem?_cons_zero, Option.getD_some, Value.cells] at hw); (try simp (disch := first | (simp; done) | (simp; omega)) only [Sep.mid_set, Sep.mid_set2, Sep.mid_set0, Sep.mid_splice, Sep.mid_splice0, List.set_cons_zero, List.set_cons_succ] at hw); (try simp only [Sep.splice, List.take_succ_cons, List.take_zero, List.drop_succ_cons, List.drop_zero, List.length_cons, List.length_nil, Nat.reduceAdd, List.cons_append, List.nil_append] at hw)
              (try replace hc0 := Sep.Holds.cells hw (i := 0) rfl); (try replace hc1 := Sep.Holds.cells hw (i := 1) rfl); (try replace hc2 := Sep.Holds.cells hw (i := 2) rfl); (try replace hc3 := Sep.Holds.cells hw (i := 3) rfl); (try replace hc4 := Sep.Holds.cells hw (i := 4) rfl); (try replace hc5 := Sep.Holds.cells hw (i := 5) rfl); (try replace hc6 := Sep.Holds.cells hw (i := 6) rfl)
              go_wp2_with (first
                | (refine wpList_on rfl (wp_lookV (i := 3) rfl rfl rfl hw rfl Hk1.out ?_))
                | (refine wpList_on rfl (wp_lookOkV (i := 2) rfl rfl rfl hw rfl Hc1.out Hc2.out ?_))
                | (refine wpList_on rfl (wp_delI (i := 2) rfl rfl rfl hw rfl ?_); intro w_ hw_; clear hw; have hw := hw_; clear hw_; (try simp only [List.map_cons, List.map_nil, List.getD_cons_zero, List.getD_cons_succ, List.getD_nil, List.set_cons_zero, List.set_cons_succ, List.cons_append, List.nil_append, Act.eval, Array.getD_eq_getD_getElem?, List.getElem?_toArray, List.getElem?_cons_succ, List.getElem?_cons_zero, Option.getD_some, Value.cells] at hw); (try simp (disch := first | (simp; done) | (simp; omega)) only [Sep.mid_set, Sep.mid_set2, Sep.mid_set0, Sep.mid_splice, Sep.mid_splice0, List.set_cons_zero, List.set_cons_succ] at hw); (try simp only [Sep.splice, List.take_succ_cons, List.take_zero, List.drop_succ_cons, List.drop_zero, List.length_cons, List.length_nil, Nat.reduceAdd, List.cons_append, List.nil_append] at hw); (try replace hc0 := Sep.Holds.cells hw (i := 0) rfl); (try replace hc1 := Sep.Holds.cells hw (i := 1) rfl); (try replace hc2 := Sep.Holds.cells hw (i := 2) rfl); (try replace hc3 := Sep.Holds.cells hw (i := 3) rfl); (try replace hc4 := Sep.Holds.cells hw (i := 4) rfl); (try replace hc5 := Sep.Holds.cells hw (i := 5) rfl); (try replace hc6 := Sep.Holds.cells hw (i := 6) rfl))
                | (refine wpList_on rfl (wp_delI (i := 3) rfl rfl rfl hw rfl ?_); intro w_ hw_; clear hw; have hw := hw_; clear hw_; (try simp only [List.map_cons, List.map_nil, List.getD_cons_zero, List.getD_cons_succ, List.getD_nil, List.set_cons_zero, List.set_cons_succ, List.cons_append, List.nil_append, Act.eval, Array.getD_eq_getD_getElem?, List.getElem?_toArray, List.getElem?_cons_succ, List.getElem?_cons_zero, Option.getD_some, Value.cells] at hw); (try simp (disch := first | (simp; done) | (simp; omega)) only [Sep.mid_set, Sep.mid_set2, Sep.mid_set0, Sep.mid_splice, Sep.mid_splice0, List.set_cons_zero, List.set_cons_succ] at hw); (try simp only [Sep.splice, List.take_succ_cons, List.take_zero, List.drop_succ_cons, List.drop_zero, List.length_cons, List.length_nil, Nat.reduceAdd, List.cons_append, List.nil_append] at hw); (try replace hc0 := Sep.Holds.cells hw (i := 0) rfl); (try replace hc1 := Sep.Holds.cells hw (i := 1) rfl); (try replace hc2 := Sep.Holds.cells hw (i := 2) rfl); (try replace hc3 := Sep.Holds.cells hw (i := 3) rfl); (try replace hc4 := Sep.Holds.cells hw (i := 4) rfl); (try replace hc5 := Sep.Holds.cells hw (i := 5) rfl); (try replace hc6 := Sep.Holds.cells hw (i := 6) rfl))
                | (refine wpList_on rfl (wp_mapDelete rfl rfl rfl hw (i := 4) rfl ?_); intro w_ hw_; clear hw; have hw := hw_; clear hw_; (try simp only [List.map_cons, List.map_nil, List.getD_cons_zero, List.getD_cons_succ, List.getD_nil, List.set_cons_zero, List.set_cons_succ, List.cons_append, List.nil_append, Act.eval, Array.getD_eq_getD_getElem?, List.getElem?_toArray, List.getElem?_cons_succ, List.getElem?_cons_zero, Option.getD_some, Value.cells] at hw); (try simp (disch := first | (simp; done) | (simp; omega)) only [Sep.mid_set, Sep.mid_set2, Sep.mid_set0, Sep.mid_splice, Sep.mid_splice0, List.set_cons_zero, List.set_cons_succ] at hw); (try simp only [Sep.splice, List.take_succ_cons, List.take_zero, List.drop_succ_cons, List.drop_zero, List.length_cons, List.length_nil, Nat.reduceAdd, List.cons_append, List.nil_append] at hw); (try replace hc0 := Sep.Holds.cells hw (i := 0) rfl); (try replace hc1 := Sep.Holds.cells hw (i := 1) rfl); (try replace hc2 := Sep.Holds.cells hw (i := 2) rfl); (try replace hc3 := Sep.Holds.cells hw (i := 3) rfl); (try replace hc4 := Sep.Holds.cells hw (i := 4) rfl); (try replace hc5 := Sep.Holds.cells hw (i := 5) rfl); (try replace hc6 := Sep.Holds.cells hw (i := 6) rfl)))
              go_meet
              simp only [Hif.out] at hw ⊢
              have h := Holds.group [Old e, IsFlight p ⟨M.n, M.rows.set u [], M.calls, setI M.keys u none⟩, IsMap s1 .i64 (encF M.calls), IsMap s2 .i64 (encF (setI M.keys u none))] _ ((hw.sel [0, 1, 2, 3, 4, 7] (by decide)).addEmp (X := IsInts (.slice none 0 0) []) (Sl.nil _ _ _))
              exact Holds.ungroup [Old e, IsFlight p ⟨M.n, M.rows.set u [], M.calls, setI M.keys u none⟩, IsMap s1 .i64 (encF M.calls), IsMap s2 .i64 (encF (setI M.keys u none))] [_] (rm_set (l' := []) Hu.out Hrm.out rfl h)
            · cases c2 with
              | false =>
                go_wp2_with (refine wpList_on rfl (wp_lookup rfl rfl rfl hw (i := 4) rfl ?_); rw [if_neg (by decide), Hgx.out])
                refine (same_calls _ _ l l Hlen1.out e _ _ (hw.focus2 6 8 rfl rfl (by decide))).mono ?_
                rintro en_ w_ ⟨he_, hw_⟩
                rw [decide_eq_true rfl] at he_; subst he_
                clear hw; (try clear hc0); (try clear hc1); (try clear hc2); (try clear hc3); (try clear hc4); (try clear hc5); (try clear hc6); have hw := Holds.unfocus2 6 8 (by simp) (by simp) (by decide) hw_; clear hw_
                (try simp only [List.map_cons, List.map_nil, List.getD_cons_zero, List.getD_cons_succ, List.getD_nil, List.set_cons_zero, List.set_cons_succ, List.cons_append, List.nil_append, Act.eval, Array.getD_eq_getD_getElem?, List.getElem?_toArray, List.getElem?_cons_succ, List.getElem?_cons_zero, Option.getD_some, Value.cells] at hw); (try simp (disch := first | (simp; done) | (simp; omega)) only [Sep.mid_set, Sep.mid_set2, Sep.mid_set0, Sep.mid_splice, Sep.mid_splice0, List.set_cons_zero, List.set_cons_succ] at hw); (try simp only [Sep.splice, List.take_succ_cons, List.take_zero, List.drop_succ_cons, List.drop_zero, List.length_cons, List.length_nil, Nat.reduceAdd, List.cons_append, List.nil_append] at hw)
                (try replace hc0 := Sep.Holds.cells hw (i := 0) rfl); (try replace hc1 := Sep.Holds.cells hw (i := 1) rfl); (try replace hc2 := Sep.Holds.cells hw (i := 2) rfl); (try replace hc3 := Sep.Holds.cells hw (i := 3) rfl); (try replace hc4 := Sep.Holds.cells hw (i := 4) rfl); (try replace hc5 := Sep.Holds.cells hw (i := 5) rfl); (try replace hc6 := Sep.Holds.cells hw (i := 6) rfl)
                go_wp2_with (first
                  | (refine wpList_on rfl (wp_lookV (i := 3) rfl rfl rfl hw rfl Hk1.out ?_))
                  | (refine wpList_on rfl (wp_lookOkV (i := 2) rfl rfl rfl hw rfl Hc1.out Hc2.out ?_))
                  | (refine wpList_on rfl (wp_delI (i := 2) rfl rfl rfl hw rfl ?_); intro w_ hw_; clear hw; have hw := hw_; clear hw_; (try simp only [List.map_cons, List.map_nil, List.getD_cons_zero, List.getD_cons_succ, List.getD_nil, List.set_cons_zero, List.set_cons_succ, List.cons_append, List.nil_append, Act.eval, Array.getD_eq_getD_getElem?, List.getElem?_toArray, List.getElem?_cons_succ, List.getElem?_cons_zero, Option.getD_some, Value.cells] at hw); (try simp (disch := first | (simp; done) | (simp; omega)) only [Sep.mid_set, Sep.mid_set2, Sep.mid_set0, Sep.mid_splice, Sep.mid_splice0, List.set_cons_zero, List.set_cons_succ] at hw); (try simp only [Sep.splice, List.take_succ_cons, List.take_zero, List.drop_succ_cons, List.drop_zero, List.length_cons, List.length_nil, Nat.reduceAdd, List.cons_append, List.nil_append] at hw); (try replace hc0 := Sep.Holds.cells hw (i := 0) rfl); (try replace hc1 := Sep.Holds.cells hw (i := 1) rfl); (try replace hc2 := Sep.Holds.cells hw (i := 2) rfl); (try replace hc3 := Sep.Holds.cells hw (i := 3) rfl); (try replace hc4 := Sep.Holds.cells hw (i := 4) rfl); (try replace hc5 := Sep.Holds.cells hw (i := 5) rfl); (try replace hc6 := Sep.Holds.cells hw (i := 6) rfl))
                  | (refine wpList_on rfl (wp_delI (i := 3) rfl rfl rfl hw rfl ?_); intro w_ hw_; clear hw; have hw := hw_; clear hw_; (try simp only [List.map_cons, List.map_nil, List.getD_cons_zero, List.getD_cons_succ, List.getD_nil, List.set_cons_zero, List.set_cons_succ, List.cons_append, List.nil_append, Act.eval, Array.getD_eq_getD_getElem?, List.getElem?_toArray, List.getElem?_cons_succ, List.getElem?_cons_zero, Option.getD_some, Value.cells] at hw); (try simp (disch := first | (simp; done) | (simp; omega)) only [Sep.mid_set, Sep.mid_set2, Sep.mid_set0, Sep.mid_splice, Sep.mid_splice0, List.set_cons_zero, List.set_cons_succ] at hw); (try simp only [Sep.splice, List.take_succ_cons, List.take_zero, List.drop_succ_cons, List.drop_zero, List.length_cons, List.length_nil, Nat.reduceAdd, List.cons_append, List.nil_append] at hw); (try replace hc0 := Sep.Holds.cells hw (i := 0) rfl); (try replace hc1 := Sep.Holds.cells hw (i := 1) rfl); (try replace hc2 := Sep.Holds.cells hw (i := 2) rfl); (try replace hc3 := Sep.Holds.cells hw (i := 3) rfl); (try replace hc4 := Sep.Holds.cells hw (i := 4) rfl); (try replace hc5 := Sep.Holds.cells hw (i := 5) rfl); (try replace hc6 := Sep.Holds.cells hw (i := 6) rfl))
                  | (refine wpList_on rfl (wp_mapDelete rfl rfl rfl hw (i := 4) rfl ?_); intro w_ hw_; clear hw; have hw := hw_; clear hw_; (try simp only [List.map_cons, List.map_nil, List.getD_cons_zero, List.getD_cons_succ, List.getD_nil, List.set_cons_zero, List.set_cons_succ, List.cons_append, List.nil_append, Act.eval, Array.getD_eq_getD_getElem?, List.getElem?_toArray, List.getElem?_cons_succ, List.getElem?_cons_zero, Option.getD_some, Value.cells] at hw); (try simp (disch := first | (simp; done) | (simp; omega)) only [Sep.mid_set, Sep.mid_set2, Sep.mid_set0, Sep.mid_splice, Sep.mid_splice0, List.set_cons_zero, List.set_cons_succ] at hw); (try simp only [Sep.splice, List.take_succ_cons, List.take_zero, List.drop_succ_cons, List.drop_zero, List.length_cons, List.length_nil, Nat.reduceAdd, List.cons_append, List.nil_append] at hw); (try replace hc0 := Sep.Holds.cells hw (i := 0) rfl); (try replace hc1 := Sep.Holds.cells hw (i := 1) rfl); (try replace hc2 := Sep.Holds.cells hw (i := 2) rfl); (try replace hc3 := Sep.Holds.cells hw (i := 3) rfl); (try replace hc4 := Sep.Holds.cells hw (i := 4) rfl); (try replace hc5 := Sep.Holds.cells hw (i := 5) rfl); (try replace hc6 := Sep.Holds.cells hw (i := 6) rfl)))
                go_meet
                simp only [Hif.out] at hw ⊢
                have h := Holds.group [Old e, IsFlight p ⟨M.n, M.rows.set u [], M.calls, setI M.keys u none⟩, IsMap s1 .i64 (encF M.calls), IsMap s2 .i64 (encF (setI M.keys u none))] _ ((hw.sel [0, 1, 2, 3, 4, 7] (by decide)).addEmp (X := IsInts (.slice none 0 0) []) (Sl.nil _ _ _))
                exact Holds.ungroup [Old e, IsFlight p ⟨M.n, M.rows.set u [], M.calls, setI M.keys u none⟩, IsMap s1 .i64 (encF M.calls), IsMap s2 .i64 (encF (setI M.keys u none))] [_] (rm_set (l' := []) Hu.out Hrm.out rfl h)
              | true =>
                go_wp2_with (refine wpList_on rfl (wp_lookup rfl rfl rfl hw (i := 4) rfl ?_); rw [if_neg (by decide), Hgx.out])
                refine (same_calls _ _ l l Hlen1.out e _ _ (hw.focus2 6 8 rfl rfl (by decide))).mono ?_
                rintro en_ w_ ⟨he_, hw_⟩
                rw [decide_eq_true rfl] at he_; subst he_
                clear hw; (try clear hc0); (try clear hc1); (try clear hc2); (try clear hc3); (try clear hc4); (try clear hc5); (try clear hc6); have hw := Holds.unfocus2 6 8 (by simp) (by simp) (by decide) hw_; clear hw_
                (try simp only [List.map_cons, List.map_nil, List.getD_cons_zero, List.getD_cons_succ, List.getD_nil, List.set_cons_zero, List.set_cons_succ, List.cons_append, List.nil_append, Act.eval, Array.getD_eq_getD_getElem?, List.getElem?_toArray, List.getElem?_cons_succ, List.getElem?_cons_zero, Option.getD_some, Value.cells] at hw); (try simp (disch := first | (simp; done) | (simp; omega)) only [Sep.mid_set, Sep.mid_set2, Sep.mid_set0, Sep.mid_splice, Sep.mid_splice0, List.set_cons_zero, List.set_cons_succ] at hw); (try simp only [Sep.splice, List.take_succ_cons, List.take_zero, List.drop_succ_cons, List.drop_zero, List.length_cons, List.length_nil, Nat.reduceAdd, List.cons_append, List.nil_append] at hw)
                (try replace hc0 := Sep.Holds.cells hw (i := 0) rfl); (try replace hc1 := Sep.Holds.cells hw (i := 1) rfl); (try replace hc2 := Sep.Holds.cells hw (i := 2) rfl); (try replace hc3 := Sep.Holds.cells hw (i := 3) rfl); (try replace hc4 := Sep.Holds.cells hw (i := 4) rfl); (try replace hc5 := Sep.Holds.cells hw (i := 5) rfl); (try replace hc6 := Sep.Holds.cells hw (i := 6) rfl)
                go_wp2_with (first
                  | (refine wpList_on rfl (wp_lookV (i := 3) rfl rfl rfl hw rfl Hk1.out ?_))
                  | (refine wpList_on rfl (wp_lookOkV (i := 2) rfl rfl rfl hw rfl Hc1.out Hc2.out ?_))
                  | (refine wpList_on rfl (wp_delI (i := 2) rfl rfl rfl hw rfl ?_); intro w_ hw_; clear hw; have hw := hw_; clear hw_; (try simp only [List.map_cons, List.map_nil, List.getD_cons_zero, List.getD_cons_succ, List.getD_nil, List.set_cons_zero, List.set_cons_succ, List.cons_append, List.nil_append, Act.eval, Array.getD_eq_getD_getElem?, List.getElem?_toArray, List.getElem?_cons_succ, List.getElem?_cons_zero, Option.getD_some, Value.cells] at hw); (try simp (disch := first | (simp; done) | (simp; omega)) only [Sep.mid_set, Sep.mid_set2, Sep.mid_set0, Sep.mid_splice, Sep.mid_splice0, List.set_cons_zero, List.set_cons_succ] at hw); (try simp only [Sep.splice, List.take_succ_cons, List.take_zero, List.drop_succ_cons, List.drop_zero, List.length_cons, List.length_nil, Nat.reduceAdd, List.cons_append, List.nil_append] at hw); (try replace hc0 := Sep.Holds.cells hw (i := 0) rfl); (try replace hc1 := Sep.Holds.cells hw (i := 1) rfl); (try replace hc2 := Sep.Holds.cells hw (i := 2) rfl); (try replace hc3 := Sep.Holds.cells hw (i := 3) rfl); (try replace hc4 := Sep.Holds.cells hw (i := 4) rfl); (try replace hc5 := Sep.Holds.cells hw (i := 5) rfl); (try replace hc6 := Sep.Holds.cells hw (i := 6) rfl))
                  | (refine wpList_on rfl (wp_delI (i := 3) rfl rfl rfl hw rfl ?_); intro w_ hw_; clear hw; have hw := hw_; clear hw_; (try simp only [List.map_cons, List.map_nil, List.getD_cons_zero, List.getD_cons_succ, List.getD_nil, List.set_cons_zero, List.set_cons_succ, List.cons_append, List.nil_append, Act.eval, Array.getD_eq_getD_getElem?, List.getElem?_toArray, List.getElem?_cons_succ, List.getElem?_cons_zero, Option.getD_some, Value.cells] at hw); (try simp (disch := first | (simp; done) | (simp; omega)) only [Sep.mid_set, Sep.mid_set2, Sep.mid_set0, Sep.mid_splice, Sep.mid_splice0, List.set_cons_zero, List.set_cons_succ] at hw); (try simp only [Sep.splice, List.take_succ_cons, List.take_zero, List.drop_succ_cons, List.drop_zero, List.length_cons, List.length_nil, Nat.reduceAdd, List.cons_append, List.nil_append] at hw); (try replace hc0 := Sep.Holds.cells hw (i := 0) rfl); (try replace hc1 := Sep.Holds.cells hw (i := 1) rfl); (try replace hc2 := Sep.Holds.cells hw (i := 2) rfl); (try replace hc3 := Sep.Holds.cells hw (i := 3) rfl); (try replace hc4 := Sep.Holds.cells hw (i := 4) rfl); (try replace hc5 := Sep.Holds.cells hw (i := 5) rfl); (try replace hc6 := Sep.Holds.cells hw (i := 6) rfl))
                  | (refine wpList_on rfl (wp_mapDelete rfl rfl rfl hw (i := 4) rfl ?_); intro w_ hw_; clear hw; have hw := hw_; clear hw_; (try simp only [List.map_cons, List.map_nil, List.getD_cons_zero, List.getD_cons_succ, List.getD_nil, List.set_cons_zero, List.set_cons_succ, List.cons_append, List.nil_append, Act.eval, Array.getD_eq_getD_getElem?, List.getElem?_toArray, List.getElem?_cons_succ, List.getElem?_cons_zero, Option.getD_some, Value.cells] at hw); (try simp (disch := first | (simp; done) | (simp; omega)) only [Sep.mid_set, Sep.mid_set2, Sep.mid_set0, Sep.mid_splice, Sep.mid_splice0, List.set_cons_zero, List.set_cons_succ] at hw); (try simp only [Sep.splice, List.take_succ_cons, List.take_zero, List.drop_succ_cons, List.drop_zero, List.length_cons, List.length_nil, Nat.reduceAdd, List.cons_append, List.nil_append] at hw); (try replace hc0 := Sep.Holds.cells hw (i := 0) rfl); (try replace hc1 := Sep.Holds.cells hw (i := 1) rfl); (try replace hc2 := Sep.Holds.cells hw (i := 2) rfl); (try replace hc3 := Sep.Holds.cells hw (i := 3) rfl); (try replace hc4 := Sep.Holds.cells hw (i := 4) rfl); (try replace hc5 := Sep.Holds.cells hw (i := 5) rfl); (try replace hc6 := Sep.Holds.cells hw (i := 6) rfl)))
                go_meet
                simp only [Hif.out] at hw ⊢
                have h := Holds.group [Old e, IsFlight p ⟨M.n, M.rows.set u [], M.calls, setI M.keys u none⟩, IsMap s1 .i64 (encF M.calls), IsMap s2 .i64 (encF (setI M.keys u none))] _ ((hw.sel [0, 1, 2, 3, 4, 7] (by decide)).addEmp (X := IsInts (.slice none 0 0) []) (Sl.nil _ _ _))
                exact Holds.ungroup [Old e, IsFlight p ⟨M.n, M.rows.set u [], M.calls, setI M.keys u none⟩, IsMap s1 .i64 (encF M.calls), IsMap s2 .i64 (encF (setI M.keys u none))] [_] (rm_set (l' := []) Hu.out Hrm.out rfl h)
        · -- a key is forgotten
          obtain rfl : nl = 0 := Hnl.out.symm
          go_wp2_with (first | (refine wpList_on rfl (wp_lookOk (i := 2) rfl rfl rfl hw rfl ?_)) | (refine wpList_on rfl (wp_delI (i := 2) rfl rfl rfl hw rfl ?_); intro w_ hw_; clear hw; have hw := hw_; clear hw_; (try simp only [List.map_cons, List.map_nil, List.getD_cons_zero, List.getD_cons_succ, List.getD_nil, List.set_cons_zero, List.set_cons_succ, List.cons_append, List.nil_append, Act.eval, Array.getD_eq_getD_getElem?, List.getElem?_toArray, List.getElem?_cons_succ, List.getElem?_cons_zero, Option.getD_some, Value.cells] at hw); (try simp (disch := first | (simp; done) | (simp; omega)) only [Sep.mid_set, Sep.mid_set2, Sep.mid_set0, Sep.mid_splice, Sep.mid_splice0, List.set_cons_zero, List.set_cons_succ] at hw); (try simp only [Sep.splice, List.take_succ_cons, List.take_zero, List.drop_succ_cons, List.drop_zero, List.length_cons, List.length_nil, Nat.reduceAdd, List.cons_append, List.nil_append] at hw); (try replace hc0 := Sep.Holds.cells hw (i := 0) rfl); (try replace hc1 := Sep.Holds.cells hw (i := 1) rfl); (try replace hc2 := Sep.Holds.cells hw (i := 2) rfl); (try replace hc3 := Sep.Holds.cells hw (i := 3) rfl); (try replace hc4 := Sep.Holds.cells hw (i := 4) rfl); (try replace hc5 := Sep.Holds.cells hw (i := 5) rfl); (try replace hc6 := Sep.Holds.cells hw (i := 6) rfl)))
          go_meet
          exact hw.sel [0, 1, 2, 3, 4] (by decide)
        · -- a node leaves
          obtain rfl : nl = 0 := Hnl.out.symm
          have Hrn : Hid (M.rows.length = 12) := Sep.hid (Hok.out.2.len.trans Hn.out)
          go_wp2_with fail
          have Hw1 := Sep.hid hw; clear hw; (try clear hc0); (try clear hc1); (try clear hc2); (try clear hc3); (try clear hc4); (try clear hc5); (try clear hc6)
          go_loopw [167] (fun i wx => ∃ k : Nat, k ≤ 12 ∧ i = .int .i64 k ∧ Holds e wx [Old e, IsFlight p ⟨M.n, dropR M.rows d.f1, M.calls, M.keys⟩, IsMap s1 .i64 (encF M.calls), IsMap s2 .i64 (encF M.keys), IsRM s3 (dropK M.rows d.f1 k), pt bd [.int .i64 d.f0, .int .i64 d.f1, .int .i64 d.f2] 32]) (fun i _ => 12 - (intOf i).toNat)
          case atStart => exact ⟨0, by omega, rfl, by rw [dropK_zero]; exact Hw1.out.sel [0, 1, 2, 3, 4, 5] (by decide)⟩
          case round =>
            clear Hw1
            obtain ⟨k, hk, rfl, hw⟩ := hrel
            by_cases hk12 : k < 12
            · obtain ⟨l, hl⟩ : ∃ l, M.rows[k]? = some l := ⟨_, List.getElem?_eq_getElem (by rw [Hrn.out]; exact hk12)⟩
              have Hl := Sep.hid hl
              have Hku : Hid (k < (dropK M.rows d.f1 k).length) := Sep.hid (by rw [dropK_length, Hrn.out]; exact hk12)
              have Hll : Hid (l.length ≤ 1000000) := Sep.hid (by have := Hrl.out l (List.mem_of_getElem? hl); omega)
              clear hl
              obtain ⟨x, ra, rc, hrm, hvx, hgx, hw_⟩ := rm_pick (dropK_at Hl.out d.f1) (hw.focus1 4 rfl)
              have Hrm := Sep.hid hrm; have Hvx := Sep.hid hvx; have Hgx := Sep.hid hgx
              clear hrm hvx hgx
              clear hw; (try clear hc0); (try clear hc1); (try clear hc2); (try clear hc3); (try clear hc4); (try clear hc5); (try clear hc6); have hw := Holds.unfocus1 4 (by simp) hw_; clear hw_
              (try simp only [List.map_cons, List.map_nil, List.getD_cons_zero, List.getD_cons_succ, List.getD_nil, List.set_cons_zero, List.set_cons_succ, List.cons_append, List.nil_append, Act.eval, Array.getD_eq_getD_getElem?, List.getElem?_toArray, List.getElem?_cons_succ, List.getElem?_cons_zero, Option.getD_some, Value.cells] at hw); (try simp (disch := first | (simp; done) | (simp; omega)) only [Sep.mid_set, Sep.mid_set2, Sep.mid_set0, Sep.mid_splice, Sep.mid_splice0, List.set_cons_zero, List.set_cons_succ] at hw); (try simp only [Sep.splice, List.take_succ_cons, List.take_zero, List.drop_succ_cons, List.drop_zero, List.length_cons, List.length_nil, Nat.reduceAdd, List.cons_append, List.nil_append] at hw)
              (try replace hc0 := Sep.Holds.cells hw (i := 0) rfl); (try replace hc1 := Sep.Holds.cells hw (i := 1) rfl); (try replace hc2 := Sep.Holds.cells hw (i := 2) rfl); (try replace hc3 := Sep.Holds.cells hw (i := 3) rfl); (try replace hc4 := Sep.Holds.cells hw (i := 4) rfl); (try replace hc5 := Sep.Holds.cells hw (i := 5) rfl); (try replace hc6 := Sep.Holds.cells hw (i := 6) rfl)
              go_wp2_with (refine wpList_on rfl (wp_lookup rfl rfl rfl hw (i := 4) rfl ?_); rw [if_neg (by decide), Hgx.out])
              refine (in8_calls _ l d.f1 Hll.out e _ _ (hw.focus1 7 rfl)).mono ?_
              rintro en_ w_ ⟨he_, hw_⟩
              clear hw; (try clear hc0); (try clear hc1); (try clear hc2); (try clear hc3); (try clear hc4); (try clear hc5); (try clear hc6); have hw := Holds.unfocus1 7 (by simp) hw_; clear hw_
              (try simp only [List.map_cons, List.map_nil, List.getD_cons_zero, List.getD_cons_succ, List.getD_nil, List.set_cons_zero, List.set_cons_succ, List.cons_append, List.nil_append, Act.eval, Array.getD_eq_getD_getElem?, List.getElem?_toArray, List.getElem?_cons_succ, List.getElem?_cons_zero, Option.getD_some, Value.cells] at hw); (try simp (disch := first | (simp; done) | (simp; omega)) only [Sep.mid_set, Sep.mid_set2, Sep.mid_set0, Sep.mid_splice, Sep.mid_splice0, List.set_cons_zero, List.set_cons_succ] at hw); (try simp only [Sep.splice, List.take_succ_cons, List.take_zero, List.drop_succ_cons, List.drop_zero, List.length_cons, List.length_nil, Nat.reduceAdd, List.cons_append, List.nil_append] at hw)
              (try replace hc0 := Sep.Holds.cells hw (i := 0) rfl); (try replace hc1 := Sep.Holds.cells hw (i := 1) rfl); (try replace hc2 := Sep.Holds.cells hw (i := 2) rfl); (try replace hc3 := Sep.Holds.cells hw (i := 3) rfl); (try replace hc4 := Sep.Holds.cells hw (i := 4) rfl); (try replace hc5 := Sep.Holds.cells hw (i := 5) rfl); (try replace hc6 := Sep.Holds.cells hw (i := 6) rfl)
              by_cases hin : d.f1 ∈ l
              · rw [decide_eq_true hin] at he_; subst he_; clear hin
                go_wp2_with (refine wpList_on rfl (wp_lookup rfl rfl rfl hw (i := 4) rfl ?_); rw [if_neg (by decide), Hgx.out])
                refine (without8_calls _ l d.f1 Hll.out e _ _ (hw.focus1 7 rfl)).mono ?_
                rintro en_ w_ ⟨y, rfl, hw_⟩
                clear hw; (try clear hc0); (try clear hc1); (try clear hc2); (try clear hc3); (try clear hc4); (try clear hc5); (try clear hc6); have hw := Holds.unfocus1 7 (by simp) hw_; clear hw_
                (try simp only [List.map_cons, List.map_nil, List.getD_cons_zero, List.getD_cons_succ, List.getD_nil, List.set_cons_zero, List.set_cons_succ, List.cons_append, List.nil_append, Act.eval, Array.getD_eq_getD_getElem?, List.getElem?_toArray, List.getElem?_cons_succ, List.getElem?_cons_zero, Option.getD_some, Value.cells] at hw); (try simp (disch := first | (simp; done) | (simp; omega)) only [Sep.mid_set, Sep.mid_set2, Sep.mid_set0, Sep.mid_splice, Sep.mid_splice0, List.set_cons_zero, List.set_cons_succ] at hw); (try simp only [Sep.splice, List.take_succ_cons, List.take_zero, List.drop_succ_cons, List.drop_zero, List.length_cons, List.length_nil, Nat.reduceAdd, List.cons_append, List.nil_append] at hw)
                go_wp2_with (refine wpList_on rfl (wp_mapUpdate rfl rfl rfl rfl hw (i := 4) rfl ?_); intro w_ hw_; clear hw; have hw := hw_; clear hw_; (try simp only [List.map_cons, List.map_nil, List.getD_cons_zero, List.getD_cons_succ, List.getD_nil, List.set_cons_zero, List.set_cons_succ, List.cons_append, List.nil_append, Act.eval, Array.getD_eq_getD_getElem?, List.getElem?_toArray, List.getElem?_cons_succ, List.getElem?_cons_zero, Option.getD_some, Value.cells] at hw); (try simp (disch := first | (simp; done) | (simp; omega)) only [Sep.mid_set, Sep.mid_set2, Sep.mid_set0, Sep.mid_splice, Sep.mid_splice0, List.set_cons_zero, List.set_cons_succ] at hw); (try simp only [Sep.splice, List.take_succ_cons, List.take_zero, List.drop_succ_cons, List.drop_zero, List.length_cons, List.length_nil, Nat.reduceAdd, List.cons_append, List.nil_append] at hw); (try replace hc0 := Sep.Holds.cells hw (i := 0) rfl); (try replace hc1 := Sep.Holds.cells hw (i := 1) rfl); (try replace hc2 := Sep.Holds.cells hw (i := 2) rfl); (try replace hc3 := Sep.Holds.cells hw (i := 3) rfl); (try replace hc4 := Sep.Holds.cells hw (i := 4) rfl); (try replace hc5 := Sep.Holds.cells hw (i := 5) rfl); (try replace hc6 := Sep.Holds.cells hw (i := 6) rfl))
                go_roundw
                case rel =>
                  refine ⟨k + 1, by omega, by go_num, ?_⟩
                  have h := Holds.group [Old e, IsFlight p ⟨M.n, dropR M.rows d.f1, M.calls, M.keys⟩, IsMap s1 .i64 (encF M.calls), IsMap s2 .i64 (encF M.keys), pt bd [.int .i64 d.f0, .int .i64 d.f1, .int .i64 d.f2] 32] _ (hw.sel [0, 1, 2, 3, 5, 4, 6, 8] (by decide))
                  have h := rm_set (l' := without l d.f1) Hku.out Hrm.out rfl h
                  rw [dropK_succ Hl.out] at h
                  exact (Holds.ungroup [Old e, IsFlight p ⟨M.n, dropR M.rows d.f1, M.calls, M.keys⟩, IsMap s1 .i64 (encF M.calls), IsMap s2 .i64 (encF M.keys), pt bd [.int .i64 d.f0, .int .i64 d.f1, .int .i64 d.f2] 32] [_] h).sel [0, 1, 2, 3, 5, 4] (by decide)
                case measure => simp [intOf]; omega
              · rw [decide_eq_false hin] at he_; subst he_
                have Hsame : Hid (dropK M.rows d.f1 (k + 1) = dropK M.rows d.f1 k) := Sep.hid (by rw [← dropK_succ Hl.out, without_none hin]; exact set_same (dropK_at Hl.out _))
                clear hin
                go_wp2_with fail
                go_roundw
                case rel =>
                  refine ⟨k + 1, by omega, by go_num, ?_⟩
                  have h := Holds.group [Old e, IsFlight p ⟨M.n, dropR M.rows d.f1, M.calls, M.keys⟩, IsMap s1 .i64 (encF M.calls), IsMap s2 .i64 (encF M.keys), pt bd [.int .i64 d.f0, .int .i64 d.f1, .int .i64 d.f2] 32] _ (hw.sel [0, 1, 2, 3, 5, 4, 6, 7] (by decide))
                  have h := rm_back (dropK_at Hl.out d.f1) Hrm.out Hvx.out h
                  rw [Hsame.out]
                  exact (Holds.ungroup [Old e, IsFlight p ⟨M.n, dropR M.rows d.f1, M.calls, M.keys⟩, IsMap s1 .i64 (encF M.calls), IsMap s2 .i64 (encF M.keys), pt bd [.int .i64 d.f0, .int .i64 d.f1, .int .i64 d.f2] 32] [_] h).sel [0, 1, 2, 3, 5, 4] (by decide)
                case measure => simp [intOf]; omega
            · rw [dropK_end (by rw [Hrn.out]; omega)] at hw
              go_wp2_with fail
              go_meet
              exact hw.sel [0, 1, 2, 3, 4] (by decide)
        · obtain rfl : nl = 0 := Hnl.out.symm
          go_wp2_with fail
          go_meet
          exact hw.sel [0, 1, 2, 3, 4] (by decide)
        · obtain rfl : nl = 0 := Hnl.out.symm
          go_wp2_with fail
          go_meet
          exact hw.sel [0, 1, 2, 3, 4] (by decide)
      case rest =>
        clear hw; (try clear hc0); (try clear hc1); (try clear hc2); (try clear hc3); (try clear hc4); (try clear hc5); (try clear hc6)
        have hw := hcut; clear hcut
        clear Hb Hnl Hok Hrl Hcell
        have Hok := Sep.hid (fl_ok (i := 1) rfl hw)
        obtain ⟨es, clock, hR, hw⟩ := hw.mapName (i := 2) rfl
        have HR := Sep.hid hR; clear hR
        (try simp only [List.map_cons, List.map_nil, List.getD_cons_zero, List.getD_cons_succ, List.getD_nil, List.set_cons_zero, List.set_cons_succ, List.cons_append, List.nil_append, Act.eval, Array.getD_eq_getD_getElem?, List.getElem?_toArray, List.getElem?_cons_succ, List.getElem?_cons_zero, Option.getD_some, Value.cells] at hw); (try simp (disch := first | (simp; done) | (simp; omega)) only [Sep.mid_set, Sep.mid_set2, Sep.mid_set0, Sep.mid_splice, Sep.mid_splice0, List.set_cons_zero, List.set_cons_succ] at hw); (try simp only [Sep.splice, List.take_succ_cons, List.take_zero, List.drop_succ_cons, List.drop_zero, List.length_cons, List.length_nil, Nat.reduceAdd, List.cons_append, List.nil_append] at hw)
        go_wp2_with (refine wpList_on rfl (wp_range (i := 2) rfl rfl hw rfl ?_); intro r_ w_ hw_; clear hw; have hw := hw_; clear hw_; (try simp only [List.map_cons, List.map_nil, List.getD_cons_zero, List.getD_cons_succ, List.getD_nil, List.set_cons_zero, List.set_cons_succ, List.cons_append, List.nil_append, Act.eval, Array.getD_eq_getD_getElem?, List.getElem?_toArray, List.getElem?_cons_succ, List.getElem?_cons_zero, Option.getD_some, Value.cells] at hw); (try simp (disch := first | (simp; done) | (simp; omega)) only [Sep.mid_set, Sep.mid_set2, Sep.mid_set0, Sep.mid_splice, Sep.mid_splice0, List.set_cons_zero, List.set_cons_succ] at hw); (try simp only [Sep.splice, List.take_succ_cons, List.take_zero, List.drop_succ_cons, List.drop_zero, List.length_cons, List.length_nil, Nat.reduceAdd, List.cons_append, List.nil_append] at hw); (try replace hc0 := Sep.Holds.cells hw (i := 0) rfl); (try replace hc1 := Sep.Holds.cells hw (i := 1) rfl); (try replace hc2 := Sep.Holds.cells hw (i := 2) rfl); (try replace hc3 := Sep.Holds.cells hw (i := 3) rfl); (try replace hc4 := Sep.Holds.cells hw (i := 4) rfl); (try replace hc5 := Sep.Holds.cells hw (i := 5) rfl); (try replace hc6 := Sep.Holds.cells hw (i := 6) rfl))
        have Hw1 := Sep.hid hw; clear hw; (try clear hc0); (try clear hc1); (try clear hc2); (try clear hc3); (try clear hc4); (try clear hc5); (try clear hc6)
        (try go_frame)
        go_loopw [] (fun wx' => ∃ (seen : Array Nat) (c0 : Nat), clock ≤ c0 ∧ Holds e wx' [Old e, IsFlight p M', pto s1 (.map es clock), IsMap s2 .i64 (encF M'.keys), IsRM s3 M'.rows, pto r_ (.mapIter (some s1) clock seen c0)]) (fun wx' => iterLeft es r_ wx')
        case atStart => exact ⟨#[], clock, Nat.le_refl _, Hw1.out⟩
        case round =>
          as_aux_lemma =>
          clear Hw1
          obtain ⟨seen, c0, hc0, hw⟩ := hrel
          have Hob := Sep.hid (hw.iterLeft (es := es) (j := 5) rfl)
          go_wp2_with fail
          refine upon_next (i := 2) (j := 5) HR.out hc0 hw rfl rfl ?_ ?_
          · intro _
            replace hw := hw.mapBack HR.out (i := 2) rfl
            replace hw := hw.sel [0, 1, 2, 3, 4] (by decide)
            (try simp only [List.map_cons, List.map_nil, List.getD_cons_zero, List.getD_cons_succ, List.getD_nil, List.set_cons_zero, List.set_cons_succ, List.cons_append, List.nil_append, Act.eval, Array.getD_eq_getD_getElem?, List.getElem?_toArray, List.getElem?_cons_succ, List.getElem?_cons_zero, Option.getD_some, Value.cells] at hw); (try simp (disch := first | (simp; done) | (simp; omega)) only [Sep.mid_set, Sep.mid_set2, Sep.mid_set0, Sep.mid_splice, Sep.mid_splice0, List.set_cons_zero, List.set_cons_succ] at hw); (try simp only [Sep.splice, List.take_succ_cons, List.take_zero, List.drop_succ_cons, List.drop_zero, List.length_cons, List.length_nil, Nat.reduceAdd, List.cons_append, List.nil_append] at hw)
            go_wp2_with fail
            have Hw2 := Sep.hid hw; clear hw; (try clear hc0); (try clear hc1); (try clear hc2); (try clear hc3); (try clear hc4); (try clear hc5); (try clear hc6)
            go_loopw [197] (fun i wx => ∃ k : Nat, k ≤ 12 ∧ i = .int .i64 k ∧ Holds e wx [Old e, IsFlight p M', IsMap s1 .i64 (encF M'.calls), IsMap s2 .i64 (encF M'.keys), IsRM s3 M'.rows]) (fun i _ => 12 - (intOf i).toNat)
            case atStart => exact ⟨0, by omega, rfl, Hw2.out⟩
            case round =>
              clear Hw2
              obtain ⟨k, hk, rfl, hw⟩ := hrel
              by_cases hk12 : k < 12
              · obtain ⟨l, hl⟩ : ∃ l, M'.rows[k]? = some l := ⟨_, List.getElem?_eq_getElem (by rw [Hok.out.2.len, Hn'.out]; exact hk12)⟩
                have Hl := Sep.hid hl
                have Hrw : Hid (M'.row (k : Int) = l) := Sep.hid (row_at hl)
                have Hll : Hid (l.length ≤ 1000000) := Sep.hid (by have := rowsLen Hok.out.1 (List.mem_of_getElem? hl); have := Hok.out.1.n2; omega)
                clear hl
                obtain ⟨x, ra, rc, hrm, hvx, hgx, hw_⟩ := rm_pick Hl.out (hw.focus1 4 rfl)
                have Hrm := Sep.hid hrm; have Hvx := Sep.hid hvx; have Hgx := Sep.hid hgx
                clear hrm hvx hgx
                clear hw; (try clear hc0); (try clear hc1); (try clear hc2); (try clear hc3); (try clear hc4); (try clear hc5); (try clear hc6); have hw := Holds.unfocus1 4 (by simp) hw_; clear hw_
                (try simp only [List.map_cons, List.map_nil, List.getD_cons_zero, List.getD_cons_succ, List.getD_nil, List.set_cons_zero, List.set_cons_succ, List.cons_append, List.nil_append, Act.eval, Array.getD_eq_getD_getElem?, List.getElem?_toArray, List.getElem?_cons_succ, List.getElem?_cons_zero, Option.getD_some, Value.cells] at hw); (try simp (disch := first | (simp; done) | (simp; omega)) only [Sep.mid_set, Sep.mid_set2, Sep.mid_set0, Sep.mid_splice, Sep.mid_splice0, List.set_cons_zero, List.set_cons_succ] at hw); (try simp only [Sep.splice, List.take_succ_cons, List.take_zero, List.drop_succ_cons, List.drop_zero, List.length_cons, List.length_nil, Nat.reduceAdd, List.cons_append, List.nil_append] at hw)
                (try replace hc0 := Sep.Holds.cells hw (i := 0) rfl); (try replace hc1 := Sep.Holds.cells hw (i := 1) rfl); (try replace hc2 := Sep.Holds.cells hw (i := 2) rfl); (try replace hc3 := Sep.Holds.cells hw (i := 3) rfl); (try replace hc4 := Sep.Holds.cells hw (i := 4) rfl); (try replace hc5 := Sep.Holds.cells hw (i := 5) rfl); (try replace hc6 := Sep.Holds.cells hw (i := 6) rfl)
                go_wp2_with fail
                refine wp_region_L [2, 6] [(5, (fun w' => Holds e w' [IsMap s3 .i64 x.g]))] (n := 8) (listed := (marks 8 0)) (by kernel_rfl) rfl (by kernel_rfl) ?conds3 ?_
                case conds3 =>
                 intro c hc
                 simp only [List.mem_cons, List.not_mem_nil, or_false] at hc
                 rcases hc with rfl
                 · exact (by replace hw := hw.drew; exact hw.sel [4] (by decide))
                replace hw := hw.drew
                (try replace hc0 := Sep.Holds.cells hw (i := 0) rfl); (try replace hc1 := Sep.Holds.cells hw (i := 1) rfl); (try replace hc2 := Sep.Holds.cells hw (i := 2) rfl); (try replace hc3 := Sep.Holds.cells hw (i := 3) rfl); (try replace hc4 := Sep.Holds.cells hw (i := 4) rfl); (try replace hc5 := Sep.Holds.cells hw (i := 5) rfl); (try replace hc6 := Sep.Holds.cells hw (i := 6) rfl)
                refine wpL_q 0 ?_ rfl (Or.inl ⟨by rfl, fun w_ hS_ => ?_⟩) (marks 8 1) ?_
                rotate_left
                next => (go_simp; try (first | rfl | exact (Bool.not_not _).symm))
                try simp only [Act.put, List.setIfInBounds_toArray, List.set_cons_zero, List.set_cons_succ]
                refine wpL_q 1 ?_ rfl (Or.inl ⟨by rfl, fun w_ hS_ => ?_⟩) (marks 8 3) ?_
                rotate_left
                next => (go_simp; try (first | rfl | exact (Bool.not_not _).symm))
                try simp only [Act.put, List.setIfInBounds_toArray, List.set_cons_zero, List.set_cons_succ]
                refine wpL_q 3 ?_ rfl (Or.inl ⟨by rfl, fun w_ hS_ => ?_⟩) (marks 8 11) ?_
                rotate_left
                next => (go_simp; try (first | rfl | exact (Bool.not_not _).symm))
                try simp only [Act.put, List.setIfInBounds_toArray, List.set_cons_zero, List.set_cons_succ]
                refine wpL_q 4 ?_ rfl (Or.inl ⟨by rfl, fun w_ hS_ => ?_⟩) (marks 8 27) ?_
                rotate_left
                next => (go_simp; try (first | rfl | exact (Bool.not_not _).symm))
                try simp only [Act.put, List.setIfInBounds_toArray, List.set_cons_zero, List.set_cons_succ]
                refine wpL_m 5 ?_ rfl (.head _) (Or.inl ⟨by rfl, fun w_ hS_ => ?_⟩) (marks 8 59) ?_
                rotate_left
                next => (dsimp only at hS_; (try have q0 := Sep.Holds.cells hS_ (i := 0) rfl); (try have q1 := Sep.Holds.cells hS_ (i := 1) rfl); (try have q2 := Sep.Holds.cells hS_ (i := 2) rfl); (try have q3 := Sep.Holds.cells hS_ (i := 3) rfl); (try have q4 := Sep.Holds.cells hS_ (i := 4) rfl); (try have q5 := Sep.Holds.cells hS_ (i := 5) rfl); (try have q6 := Sep.Holds.cells hS_ (i := 6) rfl); first | (refine Eq.trans (run_lookup (i := 0) rfl rfl rfl hS_ rfl) ?_; rw [if_neg (by decide), Hgx.out]) | (go_simp; try (first | rfl | exact (Bool.not_not _).symm)))
                try simp only [Act.put, List.setIfInBounds_toArray, List.set_cons_zero, List.set_cons_succ]
                refine wpL_o 2 rfl (by rfl) (marks 8 63) ?_
                (go_simp; go_at_call 21; refine (oJoined p M' k e _ _ (hw.focus1 1 rfl)).mono ?_; rintro _ w_ ⟨y, rfl, hw_⟩; clear hw; (try clear hc0); (try clear hc1); (try clear hc2); (try clear hc3); (try clear hc4); (try clear hc5); (try clear hc6); have hw := Holds.unfocus1 1 (by simp) hw_; clear hw_; (try simp only [List.map_cons, List.map_nil, List.getD_cons_zero, List.getD_cons_succ, List.getD_nil, List.set_cons_zero, List.set_cons_succ, List.cons_append, List.nil_append, Act.eval, Array.getD_eq_getD_getElem?, List.getElem?_toArray, List.getElem?_cons_succ, List.getElem?_cons_zero, Option.getD_some, Value.cells] at hw); (try simp (disch := first | (simp; done) | (simp; omega)) only [Sep.mid_set, Sep.mid_set2, Sep.mid_set0, Sep.mid_splice, Sep.mid_splice0, List.set_cons_zero, List.set_cons_succ] at hw); (try simp only [Sep.splice, List.take_succ_cons, List.take_zero, List.drop_succ_cons, List.drop_zero, List.length_cons, List.length_nil, Nat.reduceAdd, List.cons_append, List.nil_append] at hw); rw [Hrw.out] at hw; (try replace hc0 := Sep.Holds.cells hw (i := 0) rfl); (try replace hc1 := Sep.Holds.cells hw (i := 1) rfl); (try replace hc2 := Sep.Holds.cells hw (i := 2) rfl); (try replace hc3 := Sep.Holds.cells hw (i := 3) rfl); (try replace hc4 := Sep.Holds.cells hw (i := 4) rfl); (try replace hc5 := Sep.Holds.cells hw (i := 5) rfl); (try replace hc6 := Sep.Holds.cells hw (i := 6) rfl))
                refine ⟨(SL.keep (by exact hw.sel [4] (by decide)) SL.nil), ?_⟩
                try simp only [Act.put, List.setIfInBounds_toArray, List.set_cons_zero, List.set_cons_succ]
                refine wpL_o 6 rfl (by rfl) (marks 8 127) ?_
                (go_simp; go_at_call 15; refine (same_calls _ _ l l Hll.out e _ _ (hw.focus2 7 6 rfl rfl (by decide))).mono ?_; rintro _ w_ ⟨he_, hw_⟩; rw [decide_eq_true rfl] at he_; subst he_; clear hw; (try clear hc0); (try clear hc1); (try clear hc2); (try clear hc3); (try clear hc4); (try clear hc5); (try clear hc6); have hw := Holds.unfocus2 7 6 (by simp) (by simp) (by decide) hw_; clear hw_; (try simp only [List.map_cons, List.map_nil, List.getD_cons_zero, List.getD_cons_succ, List.getD_nil, List.set_cons_zero, List.set_cons_succ, List.cons_append, List.nil_append, Act.eval, Array.getD_eq_getD_getElem?, List.getElem?_toArray, List.getElem?_cons_succ, List.getElem?_cons_zero, Option.getD_some, Value.cells] at hw); (try simp (disch := first | (simp; done) | (simp; omega)) only [Sep.mid_set, Sep.mid_set2, Sep.mid_set0, Sep.mid_splice, Sep.mid_splice0, List.set_cons_zero, List.set_cons_succ] at hw); (try simp only [Sep.splice, List.take_succ_cons, List.take_zero, List.drop_succ_cons, List.drop_zero, List.length_cons, List.length_nil, Nat.reduceAdd, List.cons_append, List.nil_append] at hw); (try replace hc0 := Sep.Holds.cells hw (i := 0) rfl); (try replace hc1 := Sep.Holds.cells hw (i := 1) rfl); (try replace hc2 := Sep.Holds.cells hw (i := 2) rfl); (try replace hc3 := Sep.Holds.cells hw (i := 3) rfl); (try replace hc4 := Sep.Holds.cells hw (i := 4) rfl); (try replace hc5 := Sep.Holds.cells hw (i := 5) rfl); (try replace hc6 := Sep.Holds.cells hw (i := 6) rfl))
                refine ⟨(SL.drop 6 (by kernel_rfl) SL.nil), ?_⟩
                try simp only [Act.put, List.setIfInBounds_toArray, List.set_cons_zero, List.set_cons_succ]
                refine wpL_q 7 ?_ rfl (Or.inl ⟨by rfl, fun w_ hS_ => ?_⟩) (marks 8 255) ?_
                rotate_left
                next => (go_simp; try (first | rfl | exact (Bool.not_not _).symm))
                try simp only [Act.put, List.setIfInBounds_toArray, List.set_cons_zero, List.set_cons_succ]
                all_goals refine wpL_done (by kernel_rfl) ?_ _
                go_wp2_with fail
                go_roundw
                case rel =>
                  refine ⟨k + 1, by omega, by go_num, ?_⟩
                  have h := Holds.group [Old e, IsFlight p M', IsMap s1 .i64 (encF M'.calls), IsMap s2 .i64 (encF M'.keys)] _ (hw.sel [0, 1, 2, 3, 4, 5, 6] (by decide))
                  exact Holds.ungroup [Old e, IsFlight p M', IsMap s1 .i64 (encF M'.calls), IsMap s2 .i64 (encF M'.keys)] [_] (rm_back Hl.out Hrm.out Hvx.out h)
                case measure => simp [intOf]; omega
              · go_wp2_with fail
                go_roundw
                case rel => exact ⟨q + 1, M', by omega, by go_num, Hn'.out, hw⟩
                case measure => simp [intOf]; omega
          · intro t v bn w_ hf hcur hms hw_
            obtain ⟨y, rfl, hy⟩ := enc_some hf
            have Hld : Hid (M'.leader t = y) := Sep.hid (leader_at hy)
            have Hcur := Sep.hid hcur
            have Hms := Sep.hid hms
            have hyy : (y == y) = true := by simp
            clear hf hcur hms hy hc0
            clear hw; have hw := hw_; clear hw_; (try simp only [List.map_cons, List.map_nil, List.getD_cons_zero, List.getD_cons_succ, List.getD_nil, List.set_cons_zero, List.set_cons_succ, List.cons_append, List.nil_append, Act.eval, Array.getD_eq_getD_getElem?, List.getElem?_toArray, List.getElem?_cons_succ, List.getElem?_cons_zero, Option.getD_some, Value.cells] at hw); (try simp (disch := first | (simp; done) | (simp; omega)) only [Sep.mid_set, Sep.mid_set2, Sep.mid_set0, Sep.mid_splice, Sep.mid_splice0, List.set_cons_zero, List.set_cons_succ] at hw); (try simp only [Sep.splice, List.take_succ_cons, List.take_zero, List.drop_succ_cons, List.drop_zero, List.length_cons, List.length_nil, Nat.reduceAdd, List.cons_append, List.nil_append] at hw); (try replace hc0 := Sep.Holds.cells hw (i := 0) rfl); (try replace hc1 := Sep.Holds.cells hw (i := 1) rfl); (try replace hc2 := Sep.Holds.cells hw (i := 2) rfl); (try replace hc3 := Sep.Holds.cells hw (i := 3) rfl); (try replace hc4 := Sep.Holds.cells hw (i := 4) rfl); (try replace hc5 := Sep.Holds.cells hw (i := 5) rfl); (try replace hc6 := Sep.Holds.cells hw (i := 6) rfl)
            go_wp2_with (refine upon_entry (i := 2) (j := 5) HR.out hw rfl rfl Hcur.out ?_)
            refine (oLeader p M' t e _ _ (hw.focus1 1 rfl)).mono ?_
            rintro _ w_ ⟨rfl, rfl⟩
            rw [Hld.out]
            go_wp2_with fail
            go_roundw
            case rel => exact ⟨_, clock, Nat.le_refl _, hw⟩
            case measure =>
              have h2 := hw.iterLeft (es := es) (j := 5) rfl
              rw [Hob.out, h2]
              exact Hms.out
    · go_wp2_with fail
      exact HP.out _ _ ⟨rfl, hw.sel [0] (by decide)⟩
end Go.Proofs.Ytecdkajhcglpdaa
