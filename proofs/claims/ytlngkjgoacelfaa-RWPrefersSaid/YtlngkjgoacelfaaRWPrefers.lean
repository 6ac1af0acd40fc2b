/-
  RWPrefers: the walk.
-/
import Derived.Test.YtlngkjgoacelfaaRwGood
import Derived.Deep.CutBlock
import Derived.Deep.DeepCutAuto
namespace Go.Proofs.Ytlngkjgoacelfaa
set_option linter.unusedSimpArgs false
set_option linter.unusedVariables false
open Go.RowKit Go.Sep Go.RingM

theorem act_len (M : LM) (d : Deed) : (M.act d).1.length ≤ M.wr.length + M.ww.length := by
  have hg : ∀ M : LM, M.give.1.length ≤ M.wr.length + M.ww.length := fun M => by
    rcases give_cases M with ⟨_, hb⟩ | ⟨_, _, hb⟩ | ⟨y, l, _, hq, _, hb⟩ | ⟨y, l, _, _, _, hb⟩
    · rw [hb]; simp
    · rw [hb]; simp
    · rw [hb, hq]; simp; omega
    · rw [hb]; simp
  have hd : ∀ t, (M.drop t).give.1.length ≤ M.wr.length + M.ww.length := fun t => by
    have h1 := hg (M.drop t)
    have h2 := without_len' M.wr t
    have h3 := without_len' M.ww t
    have h4 : (M.drop t).wr.length = (without M.wr t).length := rfl
    have h5 : (M.drop t).ww.length = (without M.ww t).length := rfl
    omega
  unfold LM.act LM.ask LM.unlock LM.leave
  repeat' split
  all_goals first | exact hd _ | simp
set_option maxRecDepth 20000 in
set_option maxHeartbeats 40000000 in
theorem rw_prefers_walk (e : World) (a0 : Option Addr) (cap0 : Nat) (l0 : List Deed) (hl0 : Hid (ActsAt e a0 l0)) (hlen0 : l0.length ≤ 9223372036854775807) :
    Calls Try.prog 5 #[.slice a0 l0.length cap0] e fun en w' => en = .returned (.bool true) ∧ Holds e w' [Old e] := by
  have hw := Holds.start e
  by_cases hlong : (120 : Int) < l0.length
  · refine Sep.calls_post ?_
    intro Post_ hPost_
    have HP := Sep.hid hPost_
    clear hPost_
    go_enter Try.func5, Try.ntmps5
    go_wp2_with fail
    refine (awake_calls e _ _ hw.focus0).mono ?_
    rintro en_ w_ ⟨rfl, hw_⟩
    clear hw; (try clear hc0); (try clear hc1); (try clear hc2); (try clear hc3); (try clear hc4); (try clear hc5); (try clear hc6); have hw := Holds.unfocus0 hw_; clear hw_
    (try simp only [List.map_cons, List.map_nil, List.getD_cons_zero, List.getD_cons_succ, List.getD_nil, List.set_cons_zero, List.set_cons_succ, List.cons_append, List.nil_append, Act.eval, Array.getD_eq_getD_getElem?, List.getElem?_toArray, List.getElem?_cons_succ, List.getElem?_cons_zero, Option.getD_some, Value.cells] at hw); (try simp (disch := first | (simp; done) | (simp; omega)) only [Sep.mid_set, Sep.mid_set2, Sep.mid_set0, Sep.mid_splice, Sep.mid_splice0, List.set_cons_zero, List.set_cons_succ] at hw); (try simp only [Sep.splice, List.take_succ_cons, List.take_zero, List.drop_succ_cons, List.drop_zero, List.length_cons, List.length_nil, Nat.reduceAdd, List.cons_append, List.nil_append] at hw)
    go_wp2_with fail
    exact HP.out _ _ ⟨rfl, hw.sel [0] (by decide)⟩
  generalize hlen' : l0.length = len at *
  have Hlen := Sep.hid hlen'; clear hlen'
  have hlong2 : len ≤ 120 := by omega
  refine Sep.calls_post ?_
  intro Post_ hPost_
  have HP := Sep.hid hPost_
  clear hPost_
  go_enter Try.func5, Try.ntmps5
  go_wp2_with fail
  refine (awake_calls e _ _ hw.focus0).mono ?_
  rintro en_ w_ ⟨rfl, hw_⟩
  clear hw; (try clear hc0); (try clear hc1); (try clear hc2); (try clear hc3); (try clear hc4); (try clear hc5); (try clear hc6); have hw := Holds.unfocus0 hw_; clear hw_
  (try simp only [List.map_cons, List.map_nil, List.getD_cons_zero, List.getD_cons_succ, List.getD_nil, List.set_cons_zero, List.set_cons_succ, List.cons_append, List.nil_append, Act.eval, Array.getD_eq_getD_getElem?, List.getElem?_toArray, List.getElem?_cons_succ, List.getElem?_cons_zero, Option.getD_some, Value.cells] at hw); (try simp (disch := first | (simp; done) | (simp; omega)) only [Sep.mid_set, Sep.mid_set2, Sep.mid_set0, Sep.mid_splice, Sep.mid_splice0, List.set_cons_zero, List.set_cons_succ] at hw); (try simp only [Sep.splice, List.take_succ_cons, List.take_zero, List.drop_succ_cons, List.drop_zero, List.length_cons, List.length_nil, Nat.reduceAdd, List.cons_append, List.nil_append] at hw)
  go_wp2_with fail
  refine (oNew_ok 20 (by decide) (by decide) e _ _ hw.focus0).mono ?_
  rintro en_ w_ ⟨p, rfl, hw_⟩
  clear hw; have hw := Holds.unfocus0 hw_; clear hw_
  (try simp only [List.map_cons, List.map_nil, List.getD_cons_zero, List.getD_cons_succ, List.getD_nil, List.set_cons_zero, List.set_cons_succ, List.cons_append, List.nil_append, Act.eval, Array.getD_eq_getD_getElem?, List.getElem?_toArray, List.getElem?_cons_succ, List.getElem?_cons_zero, Option.getD_some, Value.cells] at hw); (try simp (disch := first | (simp; done) | (simp; omega)) only [Sep.mid_set, Sep.mid_set2, Sep.mid_set0, Sep.mid_splice, Sep.mid_splice0, List.set_cons_zero, List.set_cons_succ] at hw); (try simp only [Sep.splice, List.take_succ_cons, List.take_zero, List.drop_succ_cons, List.drop_zero, List.length_cons, List.length_nil, Nat.reduceAdd, List.cons_append, List.nil_append] at hw)
  go_wp2_with fail
  have Hw0 := Sep.hid hw; clear hw
  (try clear hc0); (try clear hc1); (try clear hc2); (try clear hc3); (try clear hc4); (try clear hc5); (try clear hc6)
  go_loopw [34] (fun i wr => ∃ (q : Nat) (M : LM), q ≤ len ∧ i = .int .i64 q ∧ M.Good ∧ Holds e wr [Old e, IsRW p M]) (fun i _ => len - (intOf i).toNat)
  case atStart => exact ⟨0, ⟨20, [], [], [], []⟩, Nat.zero_le _, rfl, ⟨fun _ => rfl, fun _ _ => ⟨rfl, rfl⟩, fun _ _ => rfl⟩, Hw0.out⟩
  case round =>
    clear Hw0
    obtain ⟨q, M, hq, rfl, hgood, hw⟩ := hrel
    by_cases hlt : q < len
    · obtain ⟨d, hd⟩ : ∃ d, l0[q]? = some d := ⟨_, List.getElem?_eq_getElem (by rw [Hlen.out]; exact hlt)⟩
      obtain ⟨hdok, ad, rfl, hcell⟩ := hl0.out q d hd
      have Hcell := Sep.hid hcell; clear hcell hd hdok
      have Hok := Sep.hid (rw_ok (i := 1) rfl hw).2
      have Hln := Sep.hid (rw_len (i := 1) rfl hw)
      have hpf := prefers Hok.out hgood d
      obtain ⟨o, b, er, M', hb⟩ : ∃ o b er M', M.act d = (o, b, er, M') := ⟨_, _, _, _, rfl⟩
      have Hgood' : Hid (M'.Good ∧ M'.Ok) := Sep.hid (by have h1 := good_act hgood d; have h2 := Hok.out.act d; rw [hb] at h1 h2; exact ⟨h1, h2⟩)
      have hlf : M.left d = if d.f0 = 3 ∧ b = true then without M.ww d.f1 else M.ww := by unfold LM.left; rw [hb]
      rw [hb] at hpf
      obtain ⟨left, hleft⟩ : ∃ l, M.left d = l := ⟨_, rfl⟩
      rw [hleft] at hpf hlf
      have Hpf := Sep.hid hpf
      have Hlf := Sep.hid hlf
      have Hb := Sep.hid hb
      have Hol : Hid (o.length ≤ 2000) := Sep.hid (by
        have h := act_len M d
        rw [hb] at h
        have := Hln.out
        exact Nat.le_trans h (by omega))
      clear hpf hlf hb hleft hgood
      go_wp2_with (first | ((with_reducible refine wpList_act (x := ?hx0x7) (y := ?hy0x7) (x1 := ?hx1x7) (x3 := ?hx3x7) (y3 := ?hy3x7) (cap := ?hcpx7) (vs := encA d) (q := q) (ad := ad) ti32 agg32 sl22 ?a1x7 ?a2x7 hlt hw (i := 0) ?a3x7 ?a4x7 ?a5x7 (encA_one d) Hcell.out ?b0x7 ?c0x7 ?b1x7 ?c1x7 ?d1x7 ?b2x7 ?c2x7 ?b3x7 ?c3x7 ?d3x7 ?f3x7 ?ggx7); (case b0x7 => rfl); (case b1x7 => rfl); (case b2x7 => rfl); (case b3x7 => rfl); (case a1x7 => rfl); (case a2x7 => rfl); (case a3x7 => rfl); (case a4x7 => rfl); (case a5x7 => rfl); (case c0x7 => rfl); (case c1x7 => rfl); (case d1x7 => rfl); (case c2x7 => rfl); (case c3x7 => (intro b; rfl)); (case d3x7 => (intro b; rfl)); (case f3x7 => (intro b; rfl)); intro bd w_ hw_; clear hw; have hw := hw_; clear hw_; (try simp only [List.map_cons, List.map_nil, List.getD_cons_zero, List.getD_cons_succ, List.getD_nil, List.set_cons_zero, List.set_cons_succ, List.cons_append, List.nil_append, Act.eval, Array.getD_eq_getD_getElem?, List.getElem?_toArray, List.getElem?_cons_succ, List.getElem?_cons_zero, Option.getD_some, Value.cells] at hw); (try simp (disch := first | (simp; done) | (simp; omega)) only [Sep.mid_set, Sep.mid_set2, Sep.mid_set0, Sep.mid_splice, Sep.mid_splice0, List.set_cons_zero, List.set_cons_succ] at hw); (try simp only [Sep.splice, List.take_succ_cons, List.take_zero, List.drop_succ_cons, List.drop_zero, List.length_cons, List.length_nil, Nat.reduceAdd, List.cons_append, List.nil_append] at hw); (try replace hc0 := Sep.Holds.cells hw (i := 0) rfl); (try replace hc1 := Sep.Holds.cells hw (i := 1) rfl); (try replace hc2 := Sep.Holds.cells hw (i := 2) rfl); (try replace hc3 := Sep.Holds.cells hw (i := 3) rfl); (try replace hc4 := Sep.Holds.cells hw (i := 4) rfl); (try replace hc5 := Sep.Holds.cells hw (i := 5) rfl); (try replace hc6 := Sep.Holds.cells hw (i := 6) rfl)) | (refine wpList_on rfl (wp_loadN (vs := encA d) rfl rfl hw (i := 3) rfl rfl (by intro j v hj; simpa using hj) ?_)))
      refine (oReaders p M e _ _ (hw.focus1 1 rfl)).mono ?_
      rintro en_ w_ ⟨u, rfl, hw_⟩
      clear hw; (try clear hc0); (try clear hc1); (try clear hc2); (try clear hc3); (try clear hc4); (try clear hc5); (try clear hc6); have hw := Holds.unfocus1 1 (by simp) hw_; clear hw_
      (try simp only [List.map_cons, List.map_nil, List.getD_cons_zero, List.getD_cons_succ, List.getD_nil, List.set_cons_zero, List.set_cons_succ, List.cons_append, List.nil_append, Act.eval, Array.getD_eq_getD_getElem?, List.getElem?_toArray, List.getElem?_cons_succ, List.getElem?_cons_zero, Option.getD_some, Value.cells] at hw); (try simp (disch := first | (simp; done) | (simp; omega)) only [Sep.mid_set, Sep.mid_set2, Sep.mid_set0, Sep.mid_splice, Sep.mid_splice0, List.set_cons_zero, List.set_cons_succ] at hw); (try simp only [Sep.splice, List.take_succ_cons, List.take_zero, List.drop_succ_cons, List.drop_zero, List.length_cons, List.length_nil, Nat.reduceAdd, List.cons_append, List.nil_append] at hw)
      go_wp2_with fail
      refine (oWriter p M e _ _ (hw.focus1 1 rfl)).mono ?_
      rintro en_ w_ ⟨rfl, hw_⟩
      clear hw; have hw := Holds.unfocus1 1 (by simp) hw_; clear hw_
      (try simp only [List.map_cons, List.map_nil, List.getD_cons_zero, List.getD_cons_succ, List.getD_nil, List.set_cons_zero, List.set_cons_succ, List.cons_append, List.nil_append, Act.eval, Array.getD_eq_getD_getElem?, List.getElem?_toArray, List.getElem?_cons_succ, List.getElem?_cons_zero, Option.getD_some, Value.cells] at hw); (try simp (disch := first | (simp; done) | (simp; omega)) only [Sep.mid_set, Sep.mid_set2, Sep.mid_set0, Sep.mid_splice, Sep.mid_splice0, List.set_cons_zero, List.set_cons_succ] at hw); (try simp only [Sep.splice, List.take_succ_cons, List.take_zero, List.drop_succ_cons, List.drop_zero, List.length_cons, List.length_nil, Nat.reduceAdd, List.cons_append, List.nil_append] at hw)
      obtain ⟨wx, hwx⟩ : ∃ x, M.writer = x := ⟨_, rfl⟩
      rw [hwx]
      have Hwx := Sep.hid hwx; clear hwx
      go_wp2_with fail
      refine (oWaiting p M e _ _ (hw.focus1 1 rfl)).mono ?_
      rintro en_ w_ ⟨r1, w1, rfl, hw_⟩
      clear hw; have hw := Holds.unfocus1 1 (by simp) hw_; clear hw_
      (try simp only [List.map_cons, List.map_nil, List.getD_cons_zero, List.getD_cons_succ, List.getD_nil, List.set_cons_zero, List.set_cons_succ, List.cons_append, List.nil_append, Act.eval, Array.getD_eq_getD_getElem?, List.getElem?_toArray, List.getElem?_cons_succ, List.getElem?_cons_zero, Option.getD_some, Value.cells] at hw); (try simp (disch := first | (simp; done) | (simp; omega)) only [Sep.mid_set, Sep.mid_set2, Sep.mid_set0, Sep.mid_splice, Sep.mid_splice0, List.set_cons_zero, List.set_cons_succ] at hw); (try simp only [Sep.splice, List.take_succ_cons, List.take_zero, List.drop_succ_cons, List.drop_zero, List.length_cons, List.length_nil, Nat.reduceAdd, List.cons_append, List.nil_append] at hw)
      obtain ⟨ua, uc, rfl⟩ := Sl.value (i := 3) rfl hw
      obtain ⟨ra, rc, rfl⟩ := Sl.value (i := 4) rfl hw
      obtain ⟨wa, wc, rfl⟩ := Sl.value (i := 5) rfl hw
      go_wp2_with (refine wpList_on rfl (wp_loadN (vs := encA d) rfl rfl hw (i := 2) rfl rfl (by intro j v hj; simpa using hj) ?_))
      have hdo := fun w X hw => do_calls p M d e w X hw
      simp only [Hb.out] at hdo
      refine (hdo _ _ (hw.focus1 1 rfl)).mono ?_
      rintro en_ w_ ⟨v, rfl, hw_⟩
      clear hw; have hw := Holds.unfocus1 1 (by simp) hw_; clear hw_ hdo Hb
      have hA : encA d = [.int .i64 d.f0, .int .i64 d.f1] := rfl
      rw [hA] at hw; clear hA
      (try simp only [List.map_cons, List.map_nil, List.getD_cons_zero, List.getD_cons_succ, List.getD_nil, List.set_cons_zero, List.set_cons_succ, List.cons_append, List.nil_append, Act.eval, Array.getD_eq_getD_getElem?, List.getElem?_toArray, List.getElem?_cons_succ, List.getElem?_cons_zero, Option.getD_some, Value.cells] at hw); (try simp (disch := first | (simp; done) | (simp; omega)) only [Sep.mid_set, Sep.mid_set2, Sep.mid_set0, Sep.mid_splice, Sep.mid_splice0, List.set_cons_zero, List.set_cons_succ] at hw); (try simp only [Sep.splice, List.take_succ_cons, List.take_zero, List.drop_succ_cons, List.drop_zero, List.length_cons, List.length_nil, Nat.reduceAdd, List.cons_append, List.nil_append] at hw)
      obtain ⟨oa, oc, rfl⟩ := Sl.value (i := 6) rfl hw
      (try replace hc0 := Sep.Holds.cells hw (i := 0) rfl); (try replace hc1 := Sep.Holds.cells hw (i := 1) rfl); (try replace hc2 := Sep.Holds.cells hw (i := 2) rfl); (try replace hc3 := Sep.Holds.cells hw (i := 3) rfl); (try replace hc4 := Sep.Holds.cells hw (i := 4) rfl); (try replace hc5 := Sep.Holds.cells hw (i := 5) rfl); (try replace hc6 := Sep.Holds.cells hw (i := 6) rfl)
      obtain ⟨cb, hcb⟩ : ∃ c : Bool, c = decide (d.f0 = 3 ∧ b = true) := ⟨_, rfl⟩
      have Hcb := Sep.hid hcb; clear hcb
      go_upto_region 15 with fail
      go_cut [60] (fun v wx' => v = .bool cb ∧ Holds e wx' [Old e, IsRW p M', pt bd [.int .i64 d.f0, .int .i64 d.f1] 32, IsInts (.slice ua M.rd.length uc) M.rd, IsInts (.slice ra M.wr.length rc) M.wr, IsInts (.slice wa M.ww.length wc) M.ww, IsInts (.slice oa o.length oc) o])
      case first =>
        have hcb := Hcb.out
        by_cases hf3 : d.f0 = 3
        · cases b with
          | true =>
            rw [decide_eq_true ⟨hf3, rfl⟩] at hcb; subst hcb
            go_wp2_with fail
            go_meet
            exact ⟨rfl, hw⟩
          | false =>
            rw [decide_eq_false (by simp)] at hcb; subst hcb
            go_wp2_with fail
            go_meet
            exact ⟨rfl, hw⟩
        · rw [decide_eq_false (fun h => hf3 h.1)] at hcb; subst hcb
          go_wp2_with fail
          go_meet
          exact ⟨rfl, hw⟩
      clear hw; (try clear hc0); (try clear hc1); (try clear hc2); (try clear hc3); (try clear hc4); (try clear hc5); (try clear hc6)
      obtain ⟨rfl, hw⟩ := hcut
      (try replace hc0 := Sep.Holds.cells hw (i := 0) rfl); (try replace hc1 := Sep.Holds.cells hw (i := 1) rfl); (try replace hc2 := Sep.Holds.cells hw (i := 2) rfl); (try replace hc3 := Sep.Holds.cells hw (i := 3) rfl); (try replace hc4 := Sep.Holds.cells hw (i := 4) rfl); (try replace hc5 := Sep.Holds.cells hw (i := 5) rfl); (try replace hc6 := Sep.Holds.cells hw (i := 6) rfl)
      go_upto_if 60 with fail
      go_cut [14] (fun lv wx' => Holds e wx' [Old e, IsRW p M', pt bd [.int .i64 d.f0, .int .i64 d.f1] 32, IsInts (.slice ua M.rd.length uc) M.rd, IsInts (.slice oa o.length oc) o, IsInts lv left])
      case first =>
        as_aux_lemma =>
        cases cb with
        | true =>
          have hf : d.f0 = 3 ∧ b = true := of_decide_eq_true Hcb.out.symm
          have hl := Hlf.out
          rw [if_pos hf] at hl
          have Hl := Sep.hid hl; clear hl hf
          go_wp2_with fail
          refine (without8_calls _ M.ww d.f1 (by have := Hln.out; omega) e _ _ (hw.focus1 5 rfl)).mono ?_
          rintro en_ w_ ⟨x, rfl, hw_⟩
          clear hw; (try clear hc0); (try clear hc1); (try clear hc2); (try clear hc3); (try clear hc4); (try clear hc5); (try clear hc6); have hw := Holds.unfocus1 5 (by simp) hw_; clear hw_
          (try simp only [List.map_cons, List.map_nil, List.getD_cons_zero, List.getD_cons_succ, List.getD_nil, List.set_cons_zero, List.set_cons_succ, List.cons_append, List.nil_append, Act.eval, Array.getD_eq_getD_getElem?, List.getElem?_toArray, List.getElem?_cons_succ, List.getElem?_cons_zero, Option.getD_some, Value.cells] at hw); (try simp (disch := first | (simp; done) | (simp; omega)) only [Sep.mid_set, Sep.mid_set2, Sep.mid_set0, Sep.mid_splice, Sep.mid_splice0, List.set_cons_zero, List.set_cons_succ] at hw); (try simp only [Sep.splice, List.take_succ_cons, List.take_zero, List.drop_succ_cons, List.drop_zero, List.length_cons, List.length_nil, Nat.reduceAdd, List.cons_append, List.nil_append] at hw)
          go_wp2_with fail
          go_meet
          rw [Hl.out]
          exact hw.sel [0, 1, 2, 3, 6, 7] (by decide)
        | false =>
          have hf : ¬ (d.f0 = 3 ∧ b = true) := of_decide_eq_false Hcb.out.symm
          have hl := Hlf.out
          rw [if_neg hf] at hl
          have Hl := Sep.hid hl; clear hl hf
          go_wp2_with fail
          go_meet
          rw [Hl.out]
          exact hw.sel [0, 1, 2, 3, 6, 5] (by decide)
      case rest =>
        clear hw; (try clear hc0); (try clear hc1); (try clear hc2); (try clear hc3); (try clear hc4); (try clear hc5); (try clear hc6)
        have hw := hcut; clear hcut
        obtain ⟨la, lc, rfl⟩ := Sl.value (i := 5) rfl hw
        (try replace hc0 := Sep.Holds.cells hw (i := 0) rfl); (try replace hc1 := Sep.Holds.cells hw (i := 1) rfl); (try replace hc2 := Sep.Holds.cells hw (i := 2) rfl); (try replace hc3 := Sep.Holds.cells hw (i := 3) rfl); (try replace hc4 := Sep.Holds.cells hw (i := 4) rfl); (try replace hc5 := Sep.Holds.cells hw (i := 5) rfl); (try replace hc6 := Sep.Holds.cells hw (i := 6) rfl)
        have Hln2 := Sep.hid (rw_len (i := 1) rfl hw)
        go_wp2_with fail
        refine (oReaders p M' e _ _ (hw.focus1 1 rfl)).mono ?_
        rintro en_ w_ ⟨nv, rfl, hw_⟩
        clear hw; (try clear hc0); (try clear hc1); (try clear hc2); (try clear hc3); (try clear hc4); (try clear hc5); (try clear hc6); have hw := Holds.unfocus1 1 (by simp) hw_; clear hw_
        (try simp only [List.map_cons, List.map_nil, List.getD_cons_zero, List.getD_cons_succ, List.getD_nil, List.set_cons_zero, List.set_cons_succ, List.cons_append, List.nil_append, Act.eval, Array.getD_eq_getD_getElem?, List.getElem?_toArray, List.getElem?_cons_succ, List.getElem?_cons_zero, Option.getD_some, Value.cells] at hw); (try simp (disch := first | (simp; done) | (simp; omega)) only [Sep.mid_set, Sep.mid_set2, Sep.mid_set0, Sep.mid_splice, Sep.mid_splice0, List.set_cons_zero, List.set_cons_succ] at hw); (try simp only [Sep.splice, List.take_succ_cons, List.take_zero, List.drop_succ_cons, List.drop_zero, List.length_cons, List.length_nil, Nat.reduceAdd, List.cons_append, List.nil_append] at hw)
        obtain ⟨na, nc, rfl⟩ := Sl.value (i := 6) rfl hw
        have hnn : M'.rd.length ≤ 1000 := Hln2.out.2.2
        go_wp2_with fail
        have Hw1 := Sep.hid hw; clear hw
        go_loopw [69] (fun j wx' => ∃ k : Nat, k ≤ M'.rd.length ∧ j = .int .i64 k ∧ Holds e wx' [Old e, IsRW p M', pt bd [.int .i64 d.f0, .int .i64 d.f1] 32, IsInts (.slice ua M.rd.length uc) M.rd, IsInts (.slice oa o.length oc) o, IsInts (.slice la left.length lc) left, IsInts (.slice na M'.rd.length nc) M'.rd]) (fun j _ => M'.rd.length - (intOf j).toNat)
        case atStart => exact ⟨0, Nat.zero_le _, rfl, Hw1.out⟩
        case round =>
          as_aux_lemma =>
          clear Hw1
          obtain ⟨k, hk, rfl, hw⟩ := hrel
          by_cases hlk : k < M'.rd.length
          · obtain ⟨t, ht⟩ : ∃ t, M'.rd[k]? = some t := ⟨_, List.getElem?_eq_getElem hlk⟩
            obtain ⟨bo, oo, rfl, go⟩ := num_at (i := 6) hw rfl ht
            have Ht := Sep.hid ht; clear ht
            obtain hl | ⟨y, l, hl⟩ : left = [] ∨ ∃ y l, left = y :: l := by cases left <;> simp
            · subst hl
              go_wp2_with fail
              go_roundw
              case rel => exact ⟨k + 1, by omega, by go_num, hw⟩
              case measure => simp [intOf]; omega
            · have Hin : Hid (decide (t ∈ M.rd) = true) := Sep.hid (decide_eq_true (Hpf.out.p1 (by rw [hl]; simp) t (List.mem_of_getElem? Ht.out)))
              have hpos : 0 < left.length := by rw [hl]; simp
              clear hl
              go_wp2_with fail
              refine (in8_calls _ M.rd t (by have := Hln.out; omega) e _ _ (hw.focus1 3 rfl)).mono ?_
              rintro en_ w_ ⟨he_, hw_⟩
              rw [Hin.out] at he_; subst he_
              clear hw; (try clear hc0); (try clear hc1); (try clear hc2); (try clear hc3); (try clear hc4); (try clear hc5); (try clear hc6); have hw := Holds.unfocus1 3 (by simp) hw_; clear hw_
              (try simp only [List.map_cons, List.map_nil, List.getD_cons_zero, List.getD_cons_succ, List.getD_nil, List.set_cons_zero, List.set_cons_succ, List.cons_append, List.nil_append, Act.eval, Array.getD_eq_getD_getElem?, List.getElem?_toArray, List.getElem?_cons_succ, List.getElem?_cons_zero, Option.getD_some, Value.cells] at hw); (try simp (disch := first | (simp; done) | (simp; omega)) only [Sep.mid_set, Sep.mid_set2, Sep.mid_set0, Sep.mid_splice, Sep.mid_splice0, List.set_cons_zero, List.set_cons_succ] at hw); (try simp only [Sep.splice, List.take_succ_cons, List.take_zero, List.drop_succ_cons, List.drop_zero, List.length_cons, List.length_nil, Nat.reduceAdd, List.cons_append, List.nil_append] at hw)
              go_wp2_with fail
              go_roundw
              case rel => exact ⟨k + 1, by omega, by go_num, hw⟩
              case measure => simp [intOf]; omega
          · go_wp2_with fail
            refine (oWriter p M' e _ _ (hw.focus1 1 rfl)).mono ?_
            rintro en_ w_ ⟨rfl, hw_⟩
            clear hw; have hw := Holds.unfocus1 1 (by simp) hw_; clear hw_
            (try simp only [List.map_cons, List.map_nil, List.getD_cons_zero, List.getD_cons_succ, List.getD_nil, List.set_cons_zero, List.set_cons_succ, List.cons_append, List.nil_append, Act.eval, Array.getD_eq_getD_getElem?, List.getElem?_toArray, List.getElem?_cons_succ, List.getElem?_cons_zero, Option.getD_some, Value.cells] at hw); (try simp (disch := first | (simp; done) | (simp; omega)) only [Sep.mid_set, Sep.mid_set2, Sep.mid_set0, Sep.mid_splice, Sep.mid_splice0, List.set_cons_zero, List.set_cons_succ] at hw); (try simp only [Sep.splice, List.take_succ_cons, List.take_zero, List.drop_succ_cons, List.drop_zero, List.length_cons, List.length_nil, Nat.reduceAdd, List.cons_append, List.nil_append] at hw)
            obtain ⟨wy, hwy⟩ : ∃ x, M'.writer = x := ⟨_, rfl⟩
            rw [hwy]
            have Hwy := Sep.hid hwy; clear hwy
            go_upto_region 25 with fail
            go_cut [103] (fun v wx' => v = .bool false ∧ Holds e wx' [Old e, IsRW p M', pt bd [.int .i64 d.f0, .int .i64 d.f1] 32, IsInts (.slice ua M.rd.length uc) M.rd, IsInts (.slice oa o.length oc) o, IsInts (.slice la left.length lc) left, IsInts (.slice na M'.rd.length nc) M'.rd])
            case first =>
              by_cases h0 : wy < 0
              · go_wp2_with fail
                go_meet
                exact ⟨rfl, hw⟩
              by_cases h1 : wy = wx
              · have h1q : (wy != wx) = false := by simpa using h1
                clear h1
                go_wp2_with fail
                go_meet
                exact ⟨rfl, hw⟩
              have h1q : (wy != wx) = true := by simpa using h1
              obtain hl | ⟨y, l, hl⟩ : left = [] ∨ ∃ y l, left = y :: l := by cases left <;> simp
              · subst hl
                clear h1
                go_wp2_with fail
                go_meet
                exact ⟨rfl, hw⟩
              · have hp2 := Hpf.out.p2 (by rw [hl]; simp) (by rw [Hwy.out]; omega) (by rw [Hwy.out, Hwx.out]; exact h1)
                rw [Hwy.out, hl] at hp2
                obtain rfl : wy = y := hp2
                obtain ⟨bo, oo, rfl, go⟩ := num_at (i := 5) (k := 0) hw rfl (show left[0]? = some wy by rw [hl]; rfl)
                have hpos : 0 < left.length := by rw [hl]; simp
                simp only [Nat.add_zero] at go
                clear hl h1
                go_wp2_with fail
                go_meet
                exact ⟨rfl, hw⟩
            case rest =>
              clear hw
              obtain ⟨rfl, hw⟩ := hcut
              (try replace hc0 := Sep.Holds.cells hw (i := 0) rfl); (try replace hc1 := Sep.Holds.cells hw (i := 1) rfl); (try replace hc2 := Sep.Holds.cells hw (i := 2) rfl); (try replace hc3 := Sep.Holds.cells hw (i := 3) rfl); (try replace hc4 := Sep.Holds.cells hw (i := 4) rfl); (try replace hc5 := Sep.Holds.cells hw (i := 5) rfl); (try replace hc6 := Sep.Holds.cells hw (i := 6) rfl)
              go_upto_region 27 with fail
              go_cut [146, 13, 10, 7] (fun v _ _ _ wx' => v = .bool false ∧ Holds e wx' [Old e, IsRW p M', pt bd [.int .i64 d.f0, .int .i64 d.f1] 32, IsInts (.slice ua M.rd.length uc) M.rd, IsInts (.slice oa o.length oc) o, IsInts (.slice la left.length lc) left, IsInts (.slice na M'.rd.length nc) M'.rd])
              case first =>
                as_aux_lemma =>
                by_cases hf0 : d.f0 = 0
                · by_cases he : er = 0
                  · have hb := Hpf.out.p3 hf0 he
                    rw [Hwx.out] at hb
                    by_cases hx : wx < 0
                    · rw [decide_eq_true hx] at hb
                      cases hm : M.ww with
                      | nil =>
                        rw [hm] at hb; simp only [List.isEmpty_nil, Bool.and_self] at hb; subst hb
                        have hz : M.ww.length = 0 := by rw [hm]; rfl
                        go_wp2_with fail
                        go_meet
                        exact ⟨rfl, hw⟩
                      | cons y l =>
                        rw [hm] at hb; simp only [List.isEmpty_cons, Bool.and_false] at hb; subst hb
                        have hz : ¬ M.ww.length = 0 := by rw [hm]; simp
                        go_wp2_with fail
                        go_meet
                        exact ⟨rfl, hw⟩
                    · rw [decide_eq_false hx, Bool.false_and] at hb; subst hb
                      go_wp2_with fail
                      go_meet
                      exact ⟨rfl, hw⟩
                  · have herq : (er == 0) = false := by simpa using he
                    clear he
                    go_wp2_with fail
                    go_meet
                    exact ⟨rfl, hw⟩
                by_cases hf1 : d.f0 = 1
                · by_cases he : er = 0
                  · have hb := Hpf.out.p4 hf1 he
                    rw [Hwx.out] at hb
                    by_cases hx : wx < 0
                    · rw [decide_eq_true hx] at hb
                      cases hm : M.ww with
                      | nil =>
                        have hz : M.ww.length = 0 := by rw [hm]; rfl
                        rw [hm] at hb; simp only [List.isEmpty_nil, Bool.and_self, Bool.true_and] at hb
                        cases hr : M.rd with
                        | nil =>
                          rw [hr] at hb; simp only [List.isEmpty_nil] at hb; subst hb
                          have hz2 : M.rd.length = 0 := by rw [hr]; rfl
                          go_wp2_with fail
                          go_meet
                          exact ⟨rfl, hw⟩
                        | cons y l =>
                          rw [hr] at hb; simp only [List.isEmpty_cons] at hb; subst hb
                          have hz2 : ¬ M.rd.length = 0 := by rw [hr]; simp
                          go_wp2_with fail
                          go_meet
                          exact ⟨rfl, hw⟩
                      | cons y l =>
                        rw [hm] at hb; simp only [List.isEmpty_cons, Bool.and_false, Bool.false_and] at hb; subst hb
                        have hz : ¬ M.ww.length = 0 := by rw [hm]; simp
                        go_wp2_with fail
                        go_meet
                        exact ⟨rfl, hw⟩
                    · rw [decide_eq_false hx, Bool.false_and, Bool.false_and] at hb; subst hb
                      go_wp2_with fail
                      go_meet
                      exact ⟨rfl, hw⟩
                  · have herq : (er == 0) = false := by simpa using he
                    clear he
                    go_wp2_with fail
                    go_meet
                    exact ⟨rfl, hw⟩
                · have hf0q : (d.f0 == 0) = false := by simpa using hf0
                  have hf1q : (d.f0 == 1) = false := by simpa using hf1
                  go_wp2_with fail
                  go_meet
                  exact ⟨rfl, hw⟩
              case rest =>
                as_aux_lemma =>
                clear hw
                obtain ⟨rfl, hw⟩ := hcut
                (try replace hc0 := Sep.Holds.cells hw (i := 0) rfl); (try replace hc1 := Sep.Holds.cells hw (i := 1) rfl); (try replace hc2 := Sep.Holds.cells hw (i := 2) rfl); (try replace hc3 := Sep.Holds.cells hw (i := 3) rfl); (try replace hc4 := Sep.Holds.cells hw (i := 4) rfl); (try replace hc5 := Sep.Holds.cells hw (i := 5) rfl); (try replace hc6 := Sep.Holds.cells hw (i := 6) rfl)
                have hol : o.length ≤ 2000 := by
                  have := Hol.out; exact this
                go_wp2_with fail
                have Hw2 := Sep.hid hw; clear hw
                (try clear hc0); (try clear hc1); (try clear hc2); (try clear hc3); (try clear hc4); (try clear hc5); (try clear hc6)
                go_loopw [149] (fun j wx' => ∃ k : Nat, k ≤ o.length ∧ j = .int .i64 k ∧ Holds e wx' [Old e, IsRW p M', pt bd [.int .i64 d.f0, .int .i64 d.f1] 32, IsInts (.slice ua M.rd.length uc) M.rd, IsInts (.slice oa o.length oc) o, IsInts (.slice la left.length lc) left, IsInts (.slice na M'.rd.length nc) M'.rd]) (fun j _ => o.length - (intOf j).toNat)
                case atStart => exact ⟨0, Nat.zero_le _, rfl, Hw2.out⟩
                case round =>
                  clear Hw2
                  obtain ⟨k, hk, rfl, hw⟩ := hrel
                  by_cases hlk : k < o.length
                  · obtain ⟨t, ht⟩ : ∃ t, o[k]? = some t := ⟨_, List.getElem?_eq_getElem hlk⟩
                    obtain ⟨bo, oo, rfl, go⟩ := num_at (i := 4) hw rfl ht
                    have Hx := Sep.hid (Hpf.out.p5 t (List.mem_of_getElem? ht))
                    clear ht
                    go_wp2_with fail
                    refine (oWriter p M' e _ _ (hw.focus1 1 rfl)).mono ?_
                    rintro en_ w_ ⟨rfl, hw_⟩
                    clear hw; have hw := Holds.unfocus1 1 (by simp) hw_; clear hw_
                    (try simp only [List.map_cons, List.map_nil, List.getD_cons_zero, List.getD_cons_succ, List.getD_nil, List.set_cons_zero, List.set_cons_succ, List.cons_append, List.nil_append, Act.eval, Array.getD_eq_getD_getElem?, List.getElem?_toArray, List.getElem?_cons_succ, List.getElem?_cons_zero, Option.getD_some, Value.cells] at hw); (try simp (disch := first | (simp; done) | (simp; omega)) only [Sep.mid_set, Sep.mid_set2, Sep.mid_set0, Sep.mid_splice, Sep.mid_splice0, List.set_cons_zero, List.set_cons_succ] at hw); (try simp only [Sep.splice, List.take_succ_cons, List.take_zero, List.drop_succ_cons, List.drop_zero, List.length_cons, List.length_nil, Nat.reduceAdd, List.cons_append, List.nil_append] at hw)
                    rw [Hwy.out]
                    by_cases htw : t = wy
                    · have htq : (t != wy) = false := by simpa using htw
                      clear htw
                      go_wp2_with fail
                      go_roundw
                      case rel => exact ⟨k + 1, by omega, by go_num, hw⟩
                      case measure => simp [intOf]; omega
                    · have htq : (t != wy) = true := by simpa using htw
                      have Hin : Hid (decide (t ∈ M'.rd) = true) := Sep.hid (decide_eq_true (Hx.out.resolve_left (by rw [Hwy.out]; exact htw)))
                      clear htw
                      go_wp2_with fail
                      refine (in8_calls _ M'.rd t (by have := Hln2.out; omega) e _ _ (hw.focus1 6 rfl)).mono ?_
                      rintro en_ w_ ⟨he_, hw_⟩
                      rw [Hin.out] at he_; subst he_
                      clear hw; (try clear hc0); (try clear hc1); (try clear hc2); (try clear hc3); (try clear hc4); (try clear hc5); (try clear hc6); have hw := Holds.unfocus1 6 (by simp) hw_; clear hw_
                      (try simp only [List.map_cons, List.map_nil, List.getD_cons_zero, List.getD_cons_succ, List.getD_nil, List.set_cons_zero, List.set_cons_succ, List.cons_append, List.nil_append, Act.eval, Array.getD_eq_getD_getElem?, List.getElem?_toArray, List.getElem?_cons_succ, List.getElem?_cons_zero, Option.getD_some, Value.cells] at hw); (try simp (disch := first | (simp; done) | (simp; omega)) only [Sep.mid_set, Sep.mid_set2, Sep.mid_set0, Sep.mid_splice, Sep.mid_splice0, List.set_cons_zero, List.set_cons_succ] at hw); (try simp only [Sep.splice, List.take_succ_cons, List.take_zero, List.drop_succ_cons, List.drop_zero, List.length_cons, List.length_nil, Nat.reduceAdd, List.cons_append, List.nil_append] at hw)
                      go_wp2_with fail
                      go_roundw
                      case rel => exact ⟨k + 1, by omega, by go_num, hw⟩
                      case measure => simp [intOf]; omega
                  · go_wp2_with fail
                    go_roundw
                    case rel => exact ⟨q + 1, M', by omega, by go_num, Hgood'.out.1, hw.sel [0, 1] (by decide)⟩
                    case measure => simp [intOf]; omega
    · go_wp2_with fail
      exact HP.out _ _ ⟨rfl, hw.sel [0] (by decide)⟩
end Go.Proofs.Ytlngkjgoacelfaa
