/-
  FlightApart: the walk.
-/
import Derived.Test.YtecdkajhcglpdaaFlDo
import Derived.Test.YtecdkajhcglpdaaFlA
import Derived.Deep.CutBlock
import Derived.Deep.DeepCutAuto
namespace Go.Proofs.Ytecdkajhcglpdaa
set_option linter.unusedSimpArgs false
set_option linter.unusedVariables false
open Go.RowKit Go.Sep Go.RingM

theorem bneI (x y : Int) : (x != y) = !decide (x = y) := by by_cases h : x = y <;> simp [h]
theorem row_len' {M : FM} (h : RowsOk M.n M.rows) (t : Int) : (M.row t).length ≤ 1000 := by
  unfold FM.row
  split
  · rw [List.getD_eq_getElem?_getD]
    cases hg : M.rows[t.toNat]? with
    | none => simp
    | some l => exact Nat.le_trans (rowsLen h (List.mem_of_getElem? hg)) h.n2
  · simp
set_option maxRecDepth 20000 in
set_option maxHeartbeats 40000000 in
theorem flight_apart_walk (e : World) (a0 : Option Addr) (cap0 : Nat) (l0 : List Deed) (hl0 : Hid (ActsAt e a0 l0)) (hlen0 : l0.length ≤ 9223372036854775807) (d1 : Deed) (key : Int) :
    Calls Try.prog 5 #[.slice a0 l0.length cap0, .agg (encA d1).toArray, .int .i64 key] e fun en w' => en = .returned (.bool true) ∧ Holds e w' [Old e] := by
  have hw := Holds.start e
  have hA' : encA d1 = [.int .i64 d1.f0, .int .i64 d1.f1, .int .i64 d1.f2] := rfl
  rw [hA']; clear hA'
  by_cases hlong : (100 : Int) < l0.length
  · refine Sep.calls_post ?_
    intro Post_ hPost_
    have HP := Sep.hid hPost_
    clear hPost_
    go_enter Try.func5, Try.ntmps5
    go_wp2_with (refine wpList_on rfl (wp_box rfl hw ?_); intro b_ w_ hw_; clear hw; have hw := hw_; clear hw_; (try simp only [List.map_cons, List.map_nil, List.getD_cons_zero, List.getD_cons_succ, List.getD_nil, List.set_cons_zero, List.set_cons_succ, List.cons_append, List.nil_append, Act.eval, Array.getD_eq_getD_getElem?, List.getElem?_toArray, List.getElem?_cons_succ, List.getElem?_cons_zero, Option.getD_some, Value.cells] at hw); (try simp (disch := first | (simp; done) | (simp; omega)) only [Sep.mid_set, Sep.mid_set2, Sep.mid_set0, Sep.mid_splice, Sep.mid_splice0, List.set_cons_zero, List.set_cons_succ] at hw); (try simp only [Sep.splice, List.take_succ_cons, List.take_zero, List.drop_succ_cons, List.drop_zero, List.length_cons, List.length_nil, Nat.reduceAdd, List.cons_append, List.nil_append] at hw); (try replace hc0 := Sep.Holds.cells hw (i := 0) rfl); (try replace hc1 := Sep.Holds.cells hw (i := 1) rfl); (try replace hc2 := Sep.Holds.cells hw (i := 2) rfl); (try replace hc3 := Sep.Holds.cells hw (i := 3) rfl); (try replace hc4 := Sep.Holds.cells hw (i := 4) rfl); (try replace hc5 := Sep.Holds.cells hw (i := 5) rfl); (try replace hc6 := Sep.Holds.cells hw (i := 6) rfl))
    go_wp2_with fail
    refine (awake_calls e _ _ hw.focus0).mono ?_
    rintro en_ w_ ⟨rfl, hw_⟩
    clear hw; (try clear hc0); (try clear hc1); (try clear hc2); (try clear hc3); (try clear hc4); (try clear hc5); (try clear hc6); have hw := Holds.unfocus0 hw_; clear hw_
    (try simp only [List.map_cons, List.map_nil, List.getD_cons_zero, List.getD_cons_succ, List.getD_nil, List.set_cons_zero, List.set_cons_succ, List.cons_append, List.nil_append, Act.eval, Array.getD_eq_getD_getElem?, List.getElem?_toArray, List.getElem?_cons_succ, List.getElem?_cons_zero, Option.getD_some, Value.cells] at hw); (try simp (disch := first | (simp; done) | (simp; omega)) only [Sep.mid_set, Sep.mid_set2, Sep.mid_set0, Sep.mid_splice, Sep.mid_splice0, List.set_cons_zero, List.set_cons_succ] at hw); (try simp only [Sep.splice, List.take_succ_cons, List.take_zero, List.drop_succ_cons, List.drop_zero, List.length_cons, List.length_nil, Nat.reduceAdd, List.cons_append, List.nil_append] at hw)
    go_wp2_with fail
    exact HP.out _ _ ⟨rfl, hw.sel [0] (by decide)⟩
  generalize hlen' : l0.length = len at *
  have Hlen := Sep.hid hlen'; clear hlen'
  have hlong2 : len ≤ 100 := by omega
  refine Sep.calls_post ?_
  intro Post_ hPost_
  have HP := Sep.hid hPost_
  clear hPost_
  go_enter Try.func5, Try.ntmps5
  go_wp2_with (refine wpList_on rfl (wp_box rfl hw ?_); intro b_ w_ hw_; clear hw; have hw := hw_; clear hw_; (try simp only [List.map_cons, List.map_nil, List.getD_cons_zero, List.getD_cons_succ, List.getD_nil, List.set_cons_zero, List.set_cons_succ, List.cons_append, List.nil_append, Act.eval, Array.getD_eq_getD_getElem?, List.getElem?_toArray, List.getElem?_cons_succ, List.getElem?_cons_zero, Option.getD_some, Value.cells] at hw); (try simp (disch := first | (simp; done) | (simp; omega)) only [Sep.mid_set, Sep.mid_set2, Sep.mid_set0, Sep.mid_splice, Sep.mid_splice0, List.set_cons_zero, List.set_cons_succ] at hw); (try simp only [Sep.splice, List.take_succ_cons, List.take_zero, List.drop_succ_cons, List.drop_zero, List.length_cons, List.length_nil, Nat.reduceAdd, List.cons_append, List.nil_append] at hw); (try replace hc0 := Sep.Holds.cells hw (i := 0) rfl); (try replace hc1 := Sep.Holds.cells hw (i := 1) rfl); (try replace hc2 := Sep.Holds.cells hw (i := 2) rfl); (try replace hc3 := Sep.Holds.cells hw (i := 3) rfl); (try replace hc4 := Sep.Holds.cells hw (i := 4) rfl); (try replace hc5 := Sep.Holds.cells hw (i := 5) rfl); (try replace hc6 := Sep.Holds.cells hw (i := 6) rfl))
  go_wp2_with fail
  refine (awake_calls e _ _ hw.focus0).mono ?_
  rintro en_ w_ ⟨rfl, hw_⟩
  clear hw; (try clear hc0); (try clear hc1); (try clear hc2); (try clear hc3); (try clear hc4); (try clear hc5); (try clear hc6); have hw := Holds.unfocus0 hw_; clear hw_
  (try simp only [List.map_cons, List.map_nil, List.getD_cons_zero, List.getD_cons_succ, List.getD_nil, List.set_cons_zero, List.set_cons_succ, List.cons_append, List.nil_append, Act.eval, Array.getD_eq_getD_getElem?, List.getElem?_toArray, List.getElem?_cons_succ, List.getElem?_cons_zero, Option.getD_some, Value.cells] at hw); (try simp (disch := first | (simp; done) | (simp; omega)) only [Sep.mid_set, Sep.mid_set2, Sep.mid_set0, Sep.mid_splice, Sep.mid_splice0, List.set_cons_zero, List.set_cons_succ] at hw); (try simp only [Sep.splice, List.take_succ_cons, List.take_zero, List.drop_succ_cons, List.drop_zero, List.length_cons, List.length_nil, Nat.reduceAdd, List.cons_append, List.nil_append] at hw)
  go_wp2_with fail
  refine (oNew_ok 12 (by decide) (by decide) e _ _ hw.focus0).mono ?_
  rintro en_ w_ ⟨p, rfl, hw_⟩
  clear hw; have hw := Holds.unfocus0 hw_; clear hw_
  (try simp only [List.map_cons, List.map_nil, List.getD_cons_zero, List.getD_cons_succ, List.getD_nil, List.set_cons_zero, List.set_cons_succ, List.cons_append, List.nil_append, Act.eval, Array.getD_eq_getD_getElem?, List.getElem?_toArray, List.getElem?_cons_succ, List.getElem?_cons_zero, Option.getD_some, Value.cells] at hw); (try simp (disch := first | (simp; done) | (simp; omega)) only [Sep.mid_set, Sep.mid_set2, Sep.mid_set0, Sep.mid_splice, Sep.mid_splice0, List.set_cons_zero, List.set_cons_succ] at hw); (try simp only [Sep.splice, List.take_succ_cons, List.take_zero, List.drop_succ_cons, List.drop_zero, List.length_cons, List.length_nil, Nat.reduceAdd, List.cons_append, List.nil_append] at hw)
  replace hw := hw.sel [0, 2, 1] (by decide)
  (try simp only [List.map_cons, List.map_nil, List.getD_cons_zero, List.getD_cons_succ, List.getD_nil, List.set_cons_zero, List.set_cons_succ, List.cons_append, List.nil_append, Act.eval, Array.getD_eq_getD_getElem?, List.getElem?_toArray, List.getElem?_cons_succ, List.getElem?_cons_zero, Option.getD_some, Value.cells] at hw); (try simp (disch := first | (simp; done) | (simp; omega)) only [Sep.mid_set, Sep.mid_set2, Sep.mid_set0, Sep.mid_splice, Sep.mid_splice0, List.set_cons_zero, List.set_cons_succ] at hw); (try simp only [Sep.splice, List.take_succ_cons, List.take_zero, List.drop_succ_cons, List.drop_zero, List.length_cons, List.length_nil, Nat.reduceAdd, List.cons_append, List.nil_append] at hw)
  go_wp2_with fail
  have Hw0 := Sep.hid hw; clear hw
  (try clear hc0); (try clear hc1); (try clear hc2); (try clear hc3); (try clear hc4); (try clear hc5); (try clear hc6)
  go_loopw [29] (fun i wr => ∃ (q : Nat) (M : FM), q ≤ len ∧ i = .int .i64 q ∧ Holds e wr [Old e, IsFlight p M, pt b_ [.int .i64 d1.f0, .int .i64 d1.f1, .int .i64 d1.f2] 32]) (fun i _ => len - (intOf i).toNat)
  case atStart => exact ⟨0, ⟨12, List.replicate 12 [], fun _ => none, fun _ => none⟩, Nat.zero_le _, rfl, Hw0.out⟩
  case round =>
    clear Hw0
    obtain ⟨q, M, hq, rfl, hw⟩ := hrel
    by_cases hlt : q < len
    · as_aux_lemma =>
      obtain ⟨d, hd⟩ : ∃ d, l0[q]? = some d := ⟨_, List.getElem?_eq_getElem (by rw [Hlen.out]; exact hlt)⟩
      obtain ⟨hdok, ad, rfl, hcell⟩ := hl0.out q d hd
      have Hcell := Sep.hid hcell; clear hcell hd hdok
      go_wp2_with (first | ((with_reducible refine wpList_act (x := ?hx0x10) (y := ?hy0x10) (x1 := ?hx1x10) (x3 := ?hx3x10) (y3 := ?hy3x10) (cap := ?hcpx10) (vs := encA d) (q := q) (ad := ad) ti32 agg32 sl22 ?a1x10 ?a2x10 hlt hw (i := 0) ?a3x10 ?a4x10 ?a5x10 (encA_one d) Hcell.out ?b0x10 ?c0x10 ?b1x10 ?c1x10 ?d1x10 ?b2x10 ?c2x10 ?b3x10 ?c3x10 ?d3x10 ?f3x10 ?ggx10); (case b0x10 => rfl); (case b1x10 => rfl); (case b2x10 => rfl); (case b3x10 => rfl); (case a1x10 => rfl); (case a2x10 => rfl); (case a3x10 => rfl); (case a4x10 => rfl); (case a5x10 => rfl); (case c0x10 => rfl); (case c1x10 => rfl); (case d1x10 => rfl); (case c2x10 => rfl); (case c3x10 => (intro b; rfl)); (case d3x10 => (intro b; rfl)); (case f3x10 => (intro b; rfl)); intro bd w_ hw_; clear hw; have hw := hw_; clear hw_; (try simp only [List.map_cons, List.map_nil, List.getD_cons_zero, List.getD_cons_succ, List.getD_nil, List.set_cons_zero, List.set_cons_succ, List.cons_append, List.nil_append, Act.eval, Array.getD_eq_getD_getElem?, List.getElem?_toArray, List.getElem?_cons_succ, List.getElem?_cons_zero, Option.getD_some, Value.cells] at hw); (try simp (disch := first | (simp; done) | (simp; omega)) only [Sep.mid_set, Sep.mid_set2, Sep.mid_set0, Sep.mid_splice, Sep.mid_splice0, List.set_cons_zero, List.set_cons_succ] at hw); (try simp only [Sep.splice, List.take_succ_cons, List.take_zero, List.drop_succ_cons, List.drop_zero, List.length_cons, List.length_nil, Nat.reduceAdd, List.cons_append, List.nil_append] at hw); (try replace hc0 := Sep.Holds.cells hw (i := 0) rfl); (try replace hc1 := Sep.Holds.cells hw (i := 1) rfl); (try replace hc2 := Sep.Holds.cells hw (i := 2) rfl); (try replace hc3 := Sep.Holds.cells hw (i := 3) rfl); (try replace hc4 := Sep.Holds.cells hw (i := 4) rfl); (try replace hc5 := Sep.Holds.cells hw (i := 5) rfl); (try replace hc6 := Sep.Holds.cells hw (i := 6) rfl)) | (refine wpList_on rfl (wp_loadN (vs := encA d) rfl rfl hw (i := 3) rfl rfl (by intro j v hj; simpa using hj) ?_)))
      refine (do_calls p M d e _ _ (hw.focus1 1 rfl)).mono ?_
      rintro en_ w_ ⟨v, rfl, hw_⟩
      clear hw; (try clear hc0); (try clear hc1); (try clear hc2); (try clear hc3); (try clear hc4); (try clear hc5); (try clear hc6); have hw := Holds.unfocus1 1 (by simp) hw_; clear hw_
      (try simp only [List.map_cons, List.map_nil, List.getD_cons_zero, List.getD_cons_succ, List.getD_nil, List.set_cons_zero, List.set_cons_succ, List.cons_append, List.nil_append, Act.eval, Array.getD_eq_getD_getElem?, List.getElem?_toArray, List.getElem?_cons_succ, List.getElem?_cons_zero, Option.getD_some, Value.cells] at hw); (try simp (disch := first | (simp; done) | (simp; omega)) only [Sep.mid_set, Sep.mid_set2, Sep.mid_set0, Sep.mid_splice, Sep.mid_splice0, List.set_cons_zero, List.set_cons_succ] at hw); (try simp only [Sep.splice, List.take_succ_cons, List.take_zero, List.drop_succ_cons, List.drop_zero, List.length_cons, List.length_nil, Nat.reduceAdd, List.cons_append, List.nil_append] at hw)
      go_wp2_with fail
      go_roundw
      case rel => exact ⟨q + 1, _, by omega, by go_num, hw.sel [0, 1, 2] (by decide)⟩
      case measure => simp [intOf]; omega
    · have Hro := Sep.hid (fl_ok (i := 1) rfl hw)
      (try replace hc0 := Sep.Holds.cells hw (i := 0) rfl); (try replace hc1 := Sep.Holds.cells hw (i := 1) rfl); (try replace hc2 := Sep.Holds.cells hw (i := 2) rfl); (try replace hc3 := Sep.Holds.cells hw (i := 3) rfl); (try replace hc4 := Sep.Holds.cells hw (i := 4) rfl); (try replace hc5 := Sep.Holds.cells hw (i := 5) rfl); (try replace hc6 := Sep.Holds.cells hw (i := 6) rfl)
      go_wp2_with fail
      refine (oLeader p M key e _ _ (hw.focus1 1 rfl)).mono ?_
      rintro _ w_ ⟨rfl, rfl⟩
      go_wp2_with fail
      refine (oJoined p M (M.leader key) e _ _ (hw.focus1 1 rfl)).mono ?_
      rintro en_ w_ ⟨u, rfl, hw_⟩
      clear hw; (try clear hc0); (try clear hc1); (try clear hc2); (try clear hc3); (try clear hc4); (try clear hc5); (try clear hc6); have hw := Holds.unfocus1 1 (by simp) hw_; clear hw_
      (try simp only [List.map_cons, List.map_nil, List.getD_cons_zero, List.getD_cons_succ, List.getD_nil, List.set_cons_zero, List.set_cons_succ, List.cons_append, List.nil_append, Act.eval, Array.getD_eq_getD_getElem?, List.getElem?_toArray, List.getElem?_cons_succ, List.getElem?_cons_zero, Option.getD_some, Value.cells] at hw); (try simp (disch := first | (simp; done) | (simp; omega)) only [Sep.mid_set, Sep.mid_set2, Sep.mid_set0, Sep.mid_splice, Sep.mid_splice0, List.set_cons_zero, List.set_cons_succ] at hw); (try simp only [Sep.splice, List.take_succ_cons, List.take_zero, List.drop_succ_cons, List.drop_zero, List.length_cons, List.length_nil, Nat.reduceAdd, List.cons_append, List.nil_append] at hw)
      (try replace hc0 := Sep.Holds.cells hw (i := 0) rfl); (try replace hc1 := Sep.Holds.cells hw (i := 1) rfl); (try replace hc2 := Sep.Holds.cells hw (i := 2) rfl); (try replace hc3 := Sep.Holds.cells hw (i := 3) rfl); (try replace hc4 := Sep.Holds.cells hw (i := 4) rfl); (try replace hc5 := Sep.Holds.cells hw (i := 5) rfl); (try replace hc6 := Sep.Holds.cells hw (i := 6) rfl)
      go_wp2_with fail
      refine (oLeads p M d1.f1 e _ _ (hw.focus1 1 rfl)).mono ?_
      rintro _ w_ ⟨rfl, rfl⟩
      obtain ⟨ks, hks⟩ : ∃ c, (M.keys d1.f1).isSome = c := ⟨_, rfl⟩
      obtain ⟨kv, hkv⟩ : ∃ c, (M.keys d1.f1).getD 0 = c := ⟨_, rfl⟩
      rw [hks, hkv]
      have Hot : Hid (other M d1 key = ((decide (¬ d1.f2 = key) && (decide (d1.f0 = 0) || decide (d1.f0 = 2))) || (decide (d1.f0 = 1) && (!ks || decide (¬ kv = key))) || (decide (d1.f0 = 3) && (decide (M.leader key < 0) || decide (¬ rowOf M.rows d1.f1 = M.leader key))))) := Sep.hid (by rw [← hks, ← hkv]; rfl)
      clear hks hkv
      go_upto_region 16 with fail
      go_cut [1, 13, 14, 15] (fun s1 s13 s14 vv wx => s1 = .agg #[.int .i64 d1.f0, .int .i64 d1.f1, .int .i64 d1.f2] ∧ s13 = .int .i64 kv ∧ s14 = .bool ks ∧ vv = .bool (other M d1 key) ∧ Holds e wx [Old e, IsFlight p M, pt b_ [.int .i64 d1.f0, .int .i64 d1.f1, .int .i64 d1.f2] 32, IsInts u (M.row (M.leader key))])
      case first =>
        as_aux_lemma =>
        go_wp2_with (go_at_call 19; refine (oJoins p M d1.f1 e _ _ (hw.focus1 1 rfl)).mono ?_; rintro _ w_ ⟨rfl, rfl⟩)
        all_goals
          go_meet
          have hot := Hot.out
          clear Hot
          refine ⟨?_, ?_, ?_, ?_, hw⟩
          · first | rfl | simp [*]
          · first | rfl | simp [*]
          · first | rfl | simp [*]
          · rw [hot]; clear hw hot; first | rfl | (simp [*]; done) | (simp [*]; rw [bneI])
      case rest =>
        clear hw; (try clear hc0); (try clear hc1); (try clear hc2); (try clear hc3); (try clear hc4); (try clear hc5); (try clear hc6)
        obtain ⟨rfl, rfl, rfl, rfl, hw⟩ := hcut
        clear Hot
        (try replace hc0 := Sep.Holds.cells hw (i := 0) rfl); (try replace hc1 := Sep.Holds.cells hw (i := 1) rfl); (try replace hc2 := Sep.Holds.cells hw (i := 2) rfl); (try replace hc3 := Sep.Holds.cells hw (i := 3) rfl); (try replace hc4 := Sep.Holds.cells hw (i := 4) rfl); (try replace hc5 := Sep.Holds.cells hw (i := 5) rfl); (try replace hc6 := Sep.Holds.cells hw (i := 6) rfl)
        go_wp2_with (refine wpList_on rfl (wp_loadN (vs := [.int .i64 d1.f0, .int .i64 d1.f1, .int .i64 d1.f2]) rfl rfl hw (i := 2) rfl rfl (by intro j v hj; simpa using hj) ?_))
        have Hap : Hid (other M d1 key = true → (M.act d1).2.2.2.2.leader key = M.leader key ∧ (M.act d1).2.2.2.2.row (M.leader key) = M.row (M.leader key)) := Sep.hid (apart Hro.out.2 Hro.out.1 d1 key)
        refine (do_calls p M d1 e _ _ (hw.focus1 1 rfl)).mono ?_
        rintro en_ w_ ⟨v2, rfl, hw_⟩
        clear hw; (try clear hc0); (try clear hc1); (try clear hc2); (try clear hc3); (try clear hc4); (try clear hc5); (try clear hc6); have hw := Holds.unfocus1 1 (by simp) hw_; clear hw_
        (try simp only [List.map_cons, List.map_nil, List.getD_cons_zero, List.getD_cons_succ, List.getD_nil, List.set_cons_zero, List.set_cons_succ, List.cons_append, List.nil_append, Act.eval, Array.getD_eq_getD_getElem?, List.getElem?_toArray, List.getElem?_cons_succ, List.getElem?_cons_zero, Option.getD_some, Value.cells] at hw); (try simp (disch := first | (simp; done) | (simp; omega)) only [Sep.mid_set, Sep.mid_set2, Sep.mid_set0, Sep.mid_splice, Sep.mid_splice0, List.set_cons_zero, List.set_cons_succ] at hw); (try simp only [Sep.splice, List.take_succ_cons, List.take_zero, List.drop_succ_cons, List.drop_zero, List.length_cons, List.length_nil, Nat.reduceAdd, List.cons_append, List.nil_append] at hw)
        generalize (M.act d1).2.2.2.2 = M' at *
        cases ho : other M d1 key with
        | false =>
          go_wp2_with fail
          exact HP.out _ _ ⟨rfl, hw.sel [0] (by decide)⟩
        | true =>
          have Hap := Sep.hid (Hap.out ho)
          go_wp2_with fail
          refine (oLeader p M' key e _ _ (hw.focus1 1 rfl)).mono ?_
          rintro _ w_ ⟨rfl, rfl⟩
          rw [Hap.out.1]
          have hll : (M.leader key == M.leader key) = true := by simp
          go_wp2_with fail
          refine (oJoined p M' (M.leader key) e _ _ (hw.focus1 1 rfl)).mono ?_
          rintro en_ w_ ⟨x, rfl, hw_⟩
          clear hw; (try clear hc0); (try clear hc1); (try clear hc2); (try clear hc3); (try clear hc4); (try clear hc5); (try clear hc6); have hw := Holds.unfocus1 1 (by simp) hw_; clear hw_
          (try simp only [List.map_cons, List.map_nil, List.getD_cons_zero, List.getD_cons_succ, List.getD_nil, List.set_cons_zero, List.set_cons_succ, List.cons_append, List.nil_append, Act.eval, Array.getD_eq_getD_getElem?, List.getElem?_toArray, List.getElem?_cons_succ, List.getElem?_cons_zero, Option.getD_some, Value.cells] at hw); (try simp (disch := first | (simp; done) | (simp; omega)) only [Sep.mid_set, Sep.mid_set2, Sep.mid_set0, Sep.mid_splice, Sep.mid_splice0, List.set_cons_zero, List.set_cons_succ] at hw); (try simp only [Sep.splice, List.take_succ_cons, List.take_zero, List.drop_succ_cons, List.drop_zero, List.length_cons, List.length_nil, Nat.reduceAdd, List.cons_append, List.nil_append] at hw)
          rw [Hap.out.2] at hw
          go_wp2_with fail
          refine (same_calls _ _ (M.row (M.leader key)) (M.row (M.leader key)) (Nat.le_trans (row_len' Hro.out.1 _) (by decide)) e _ _ (hw.focus2 5 3 rfl rfl (by decide))).mono ?_
          rintro en_ w_ ⟨he_, hw_⟩
          rw [decide_eq_true rfl] at he_; subst he_
          clear hw; have hw := Holds.unfocus2 5 3 (by simp) (by simp) (by decide) hw_; clear hw_
          (try simp only [List.map_cons, List.map_nil, List.getD_cons_zero, List.getD_cons_succ, List.getD_nil, List.set_cons_zero, List.set_cons_succ, List.cons_append, List.nil_append, Act.eval, Array.getD_eq_getD_getElem?, List.getElem?_toArray, List.getElem?_cons_succ, List.getElem?_cons_zero, Option.getD_some, Value.cells] at hw); (try simp (disch := first | (simp; done) | (simp; omega)) only [Sep.mid_set, Sep.mid_set2, Sep.mid_set0, Sep.mid_splice, Sep.mid_splice0, List.set_cons_zero, List.set_cons_succ] at hw); (try simp only [Sep.splice, List.take_succ_cons, List.take_zero, List.drop_succ_cons, List.drop_zero, List.length_cons, List.length_nil, Nat.reduceAdd, List.cons_append, List.nil_append] at hw)
          go_wp2_with fail
          exact HP.out _ _ ⟨rfl, hw.sel [0] (by decide)⟩
end Go.Proofs.Ytecdkajhcglpdaa
