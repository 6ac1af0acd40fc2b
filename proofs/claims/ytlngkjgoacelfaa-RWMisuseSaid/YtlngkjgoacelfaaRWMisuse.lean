/-
  RWMisuse: the walk.
-/
import Derived.Test.YtlngkjgoacelfaaRwDo
import Derived.Deep.CutBlock
import Derived.Deep.DeepCutAuto
namespace Go.Proofs.Ytlngkjgoacelfaa
set_option linter.unusedSimpArgs false
set_option linter.unusedVariables false
open Go.RowKit Go.Sep Go.RingM

/-- Does a task hold it? -/
def LM.holds (M : LM) (t : Int) : Bool := decide (0 ≤ t ∧ (M.writer = t ∨ t ∈ M.rd))
theorem holds_iff {M : LM} (h : M.Ok) {t : Int} (ht : 0 ≤ t) : M.holds t = true ↔ (t ∈ M.rd ∨ t ∈ M.wt) := by
  have h1 := h.one
  unfold LM.holds LM.writer
  rw [decide_eq_true_eq]
  cases hw : M.wt with
  | nil =>
    constructor
    · rintro ⟨_, h | h⟩
      · have h : (-1 : Int) = t := h; omega
      · exact .inl h
    · rintro (h | h)
      · exact ⟨ht, .inr h⟩
      · cases h
  | cons y l =>
    rw [hw] at h1
    have : l = [] := List.eq_nil_of_length_eq_zero (by simpa using h1)
    subst this
    simp only [List.headD_cons, List.mem_singleton]
    constructor
    · rintro ⟨_, h | h⟩
      · exact .inr h.symm
      · exact .inl h
    · rintro (h | h)
      · exact ⟨ht, .inr h⟩
      · exact ⟨ht, .inl h.symm⟩
theorem misuse_cases (M : LM) (d : Deed) (hok : M.Ok) : (∃ er, ¬ er = 0 ∧ M.act d = ([], false, er, M) ∧ (d.f0 = 2 → M.holds d.f1 = false)) ∨
    ((M.act d).2.2.1 = 0 ∧ (d.f0 = 2 → M.holds d.f1 = true)) := by
  by_cases h2 : d.f0 = 2
  · have hb : M.act d = ((M.unlock d.f1).1, false, (M.unlock d.f1).2.1, (M.unlock d.f1).2.2) := by simp [LM.act, h2]
    rw [hb]; unfold LM.unlock
    by_cases ht : 0 ≤ d.f1 ∧ d.f1 < M.n
    · rw [if_neg (fun h => h ht)]
      by_cases hh : d.f1 ∈ M.rd ∨ d.f1 ∈ M.wt
      · rw [if_neg (fun h => h hh)]
        exact .inr ⟨rfl, fun _ => (holds_iff hok ht.1).2 hh⟩
      · rw [if_pos hh]
        refine .inl ⟨4, by decide, rfl, fun _ => ?_⟩
        cases hq : M.holds d.f1 with
        | false => rfl
        | true => exact absurd ((holds_iff hok ht.1).1 hq) hh
    · rw [if_pos ht]
      refine .inl ⟨3, by decide, rfl, fun _ => ?_⟩
      cases hq : M.holds d.f1 with
      | false => rfl
      | true =>
        have h0 : 0 ≤ d.f1 := by unfold LM.holds at hq; rw [decide_eq_true_eq] at hq; exact hq.1
        have := (holds_iff hok h0).1 hq
        have := hok.pos d.f1 (.inr (.inr this))
        exact absurd this ht
  by_cases h0 : d.f0 = 0
  · have hb : M.act d = ([], (M.ask d.f1 false).1, (M.ask d.f1 false).2.1, (M.ask d.f1 false).2.2) := by unfold LM.act; rw [if_pos h0]
    rw [hb]
    rcases ask_cases M d.f1 false with ⟨er, her, hb, _⟩ | ⟨_, _, _, _, _, hb⟩
    · rw [hb]; exact .inl ⟨er, her, rfl, fun h => absurd h h2⟩
    · rw [hb]; exact .inr ⟨rfl, fun h => absurd h h2⟩
  by_cases h1 : d.f0 = 1
  · have hb : M.act d = ([], (M.ask d.f1 true).1, (M.ask d.f1 true).2.1, (M.ask d.f1 true).2.2) := by unfold LM.act; rw [if_neg h0, if_pos h1]
    rw [hb]
    rcases ask_cases M d.f1 true with ⟨er, her, hb, _⟩ | ⟨_, _, _, _, _, hb⟩
    · rw [hb]; exact .inl ⟨er, her, rfl, fun h => absurd h h2⟩
    · rw [hb]; exact .inr ⟨rfl, fun h => absurd h h2⟩
  · refine .inr ⟨?_, fun h => absurd h h2⟩
    unfold LM.act
    rw [if_neg h0, if_neg h1, if_neg h2]
    split <;> rfl
set_option maxRecDepth 20000 in
set_option maxHeartbeats 40000000 in
theorem rw_misuse_walk (e : World) (a0 : Option Addr) (cap0 : Nat) (l0 : List Deed) (hl0 : Hid (ActsAt e a0 l0)) (hlen0 : l0.length ≤ 9223372036854775807) (d1 : Deed) (hd1 : Hid d1.ok) :
    Calls Try.prog 6 #[.slice a0 l0.length cap0, .agg (encA d1).toArray] e fun en w' => en = .returned (.bool true) ∧ Holds e w' [Old e] := by
  have hw := Holds.start e
  have hA : encA d1 = [.int .i64 d1.f0, .int .i64 d1.f1] := rfl
  by_cases hlong : (120 : Int) < l0.length
  · rw [hA]; clear hA
    refine Sep.calls_post ?_
    intro Post_ hPost_
    have HP := Sep.hid hPost_
    clear hPost_
    go_enter Try.func6, Try.ntmps6
    go_wp2_with (refine wpList_on rfl (wp_box rfl hw ?_); intro b_ w_ hw_; clear hw; have hw := hw_; clear hw_; (try simp only [List.map_cons, List.map_nil, List.getD_cons_zero, List.getD_cons_succ, List.getD_nil, List.set_cons_zero, List.set_cons_succ, List.cons_append, List.nil_append, Act.eval, Array.getD_eq_getD_getElem?, List.getElem?_toArray, List.getElem?_cons_succ, List.getElem?_cons_zero, Option.getD_some, Value.cells] at hw); (try simp (disch := first | (simp; done) | (simp; omega)) only [Sep.mid_set, Sep.mid_set2, Sep.mid_set0, Sep.mid_splice, Sep.mid_splice0, List.set_cons_zero, List.set_cons_succ] at hw); (try simp only [Sep.splice, List.take_succ_cons, List.take_zero, List.drop_succ_cons, List.drop_zero, List.length_cons, List.length_nil, Nat.reduceAdd, List.cons_append, List.nil_append] at hw); (try replace hc0 := Sep.Holds.cells hw (i := 0) rfl); (try replace hc1 := Sep.Holds.cells hw (i := 1) rfl); (try replace hc2 := Sep.Holds.cells hw (i := 2) rfl); (try replace hc3 := Sep.Holds.cells hw (i := 3) rfl); (try replace hc4 := Sep.Holds.cells hw (i := 4) rfl); (try replace hc5 := Sep.Holds.cells hw (i := 5) rfl); (try replace hc6 := Sep.Holds.cells hw (i := 6) rfl))
    go_wp2_with fail
    refine (awake_calls e _ _ hw.focus0).mono ?_
    rintro en_ w_ ⟨rfl, hw_⟩
    clear hw; (try clear hc0); (try clear hc1); (try clear hc2); (try clear hc3); (try clear hc4); (try clear hc5); (try clear hc6); have hw := Holds.unfocus0 hw_; clear hw_
    (try simp only [List.map_cons, List.map_nil, List.getD_cons_zero, List.getD_cons_succ, List.getD_nil, List.set_cons_zero, List.set_cons_succ, List.cons_append, List.nil_append, Act.eval, Array.getD_eq_getD_getElem?, List.getElem?_toArray, List.getElem?_cons_succ, List.getElem?_cons_zero, Option.getD_some, Value.cells] at hw); (try simp (disch := first | (simp; done) | (simp; omega)) only [Sep.mid_set, Sep.mid_set2, Sep.mid_set0, Sep.mid_splice, Sep.mid_splice0, List.set_cons_zero, List.set_cons_succ] at hw); (try simp only [Sep.splice, List.take_succ_cons, List.take_zero, List.drop_succ_cons, List.drop_zero, List.length_cons, List.length_nil, Nat.reduceAdd, List.cons_append, List.nil_append] at hw)
    go_wp2_with fail
    exact HP.out _ _ ⟨rfl, hw.sel [0] (by decide)⟩
  generalize hlen' : l0.length = len at *
  have Hlen := Sep.hid hlen'; clear hlen'
  have hlong2 : len ≤ 120 := by omega
  rw [hA]; clear hA
  refine Sep.calls_post ?_
  intro Post_ hPost_
  have HP := Sep.hid hPost_
  clear hPost_
  go_enter Try.func6, Try.ntmps6
  go_wp2_with (refine wpList_on rfl (wp_box rfl hw ?_); intro b_ w_ hw_; clear hw; have hw := hw_; clear hw_; (try simp only [List.map_cons, List.map_nil, List.getD_cons_zero, List.getD_cons_succ, List.getD_nil, List.set_cons_zero, List.set_cons_succ, List.cons_append, List.nil_append, Act.eval, Array.getD_eq_getD_getElem?, List.getElem?_toArray, List.getElem?_cons_succ, List.getElem?_cons_zero, Option.getD_some, Value.cells] at hw); (try simp (disch := first | (simp; done) | (simp; omega)) only [Sep.mid_set, Sep.mid_set2, Sep.mid_set0, Sep.mid_splice, Sep.mid_splice0, List.set_cons_zero, List.set_cons_succ] at hw); (try simp only [Sep.splice, List.take_succ_cons, List.take_zero, List.drop_succ_cons, List.drop_zero, List.length_cons, List.length_nil, Nat.reduceAdd, List.cons_append, List.nil_append] at hw); (try replace hc0 := Sep.Holds.cells hw (i := 0) rfl); (try replace hc1 := Sep.Holds.cells hw (i := 1) rfl); (try replace hc2 := Sep.Holds.cells hw (i := 2) rfl); (try replace hc3 := Sep.Holds.cells hw (i := 3) rfl); (try replace hc4 := Sep.Holds.cells hw (i := 4) rfl); (try replace hc5 := Sep.Holds.cells hw (i := 5) rfl); (try replace hc6 := Sep.Holds.cells hw (i := 6) rfl))
  go_wp2_with fail
  refine (awake_calls e _ _ hw.focus0).mono ?_
  rintro en_ w_ ⟨rfl, hw_⟩
  clear hw; (try clear hc0); (try clear hc1); (try clear hc2); (try clear hc3); (try clear hc4); (try clear hc5); (try clear hc6); have hw := Holds.unfocus0 hw_; clear hw_
  (try simp only [List.map_cons, List.map_nil, List.getD_cons_zero, List.getD_cons_succ, List.getD_nil, List.set_cons_zero, List.set_cons_succ, List.cons_append, List.nil_append, Act.eval, Array.getD_eq_getD_getElem?, List.getElem?_toArray, List.getElem?_cons_succ, List.getElem?_cons_zero, Option.getD_some, Value.cells] at hw); (try simp (disch := first | (simp; done) | (simp; omega)) only [Sep.mid_set, Sep.mid_set2, Sep.mid_set0, Sep.mid_splice, Sep.mid_splice0, List.set_cons_zero, List.set_cons_succ] at hw); (try simp only [Sep.splice, List.take_succ_cons, List.take_zero, List.drop_succ_cons, List.drop_zero, List.length_cons, List.length_nil, Nat.reduceAdd, List.cons_append, List.nil_append] at hw)
  go_wp2_with fail
  refine (oNew_ok 20 (by decide) (by decide) e _ _ hw.focus0).mono ?_
  rintro en_ w_ ⟨p, rfl, hw_⟩
  clear hw; have hw := Holds.unfocus0 hw_; clear hw_
  (try simp only [List.map_cons, List.map_nil, List.getD_cons_zero, List.getD_cons_succ, List.getD_nil, List.set_cons_zero, List.set_cons_succ, List.cons_append, List.nil_append, Act.eval, Array.getD_eq_getD_getElem?, List.getElem?_toArray, List.getElem?_cons_succ, List.getElem?_cons_zero, Option.getD_some, Value.cells] at hw); (try simp (disch := first | (simp; done) | (simp; omega)) only [Sep.mid_set, Sep.mid_set2, Sep.mid_set0, Sep.mid_splice, Sep.mid_splice0, List.set_cons_zero, List.set_cons_succ] at hw); (try simp only [Sep.splice, List.take_succ_cons, List.take_zero, List.drop_succ_cons, List.drop_zero, List.length_cons, List.length_nil, Nat.reduceAdd, List.cons_append, List.nil_append] at hw)
  go_wp2_with fail
  have Hw0 := Sep.hid hw; clear hw
  (try clear hc0); (try clear hc1); (try clear hc2); (try clear hc3); (try clear hc4); (try clear hc5); (try clear hc6)
  go_loopw [33] (fun i wr => ∃ (q : Nat) (M : LM), q ≤ len ∧ i = .int .i64 q ∧ Holds e wr [Old e, pt b_ [.int .i64 d1.f0, .int .i64 d1.f1] 32, IsRW p M]) (fun i _ => len - (intOf i).toNat)
  case atStart => exact ⟨0, _, Nat.zero_le _, rfl, Hw0.out⟩
  case round =>
    clear Hw0
    obtain ⟨q, M, hq, rfl, hw⟩ := hrel
    by_cases hlt : q < len
    · obtain ⟨d, hd⟩ : ∃ d, l0[q]? = some d := ⟨_, List.getElem?_eq_getElem (by rw [Hlen.out]; exact hlt)⟩
      obtain ⟨hdok, ad, rfl, hcell⟩ := hl0.out q d hd
      have Hcell := Sep.hid hcell; clear hcell hd hdok
      go_wp2_with (first | ((with_reducible refine wpList_act (x := ?hx0x9) (y := ?hy0x9) (x1 := ?hx1x9) (x3 := ?hx3x9) (y3 := ?hy3x9) (cap := ?hcpx9) (vs := encA d) (q := q) (ad := ad) ti32 agg32 sl22 ?a1x9 ?a2x9 hlt hw (i := 0) ?a3x9 ?a4x9 ?a5x9 (encA_one d) Hcell.out ?b0x9 ?c0x9 ?b1x9 ?c1x9 ?d1x9 ?b2x9 ?c2x9 ?b3x9 ?c3x9 ?d3x9 ?f3x9 ?ggx9); (case b0x9 => rfl); (case b1x9 => rfl); (case b2x9 => rfl); (case b3x9 => rfl); (case a1x9 => rfl); (case a2x9 => rfl); (case a3x9 => rfl); (case a4x9 => rfl); (case a5x9 => rfl); (case c0x9 => rfl); (case c1x9 => rfl); (case d1x9 => rfl); (case c2x9 => rfl); (case c3x9 => (intro b; rfl)); (case d3x9 => (intro b; rfl)); (case f3x9 => (intro b; rfl)); intro bd w_ hw_; clear hw; have hw := hw_; clear hw_; (try simp only [List.map_cons, List.map_nil, List.getD_cons_zero, List.getD_cons_succ, List.getD_nil, List.set_cons_zero, List.set_cons_succ, List.cons_append, List.nil_append, Act.eval, Array.getD_eq_getD_getElem?, List.getElem?_toArray, List.getElem?_cons_succ, List.getElem?_cons_zero, Option.getD_some, Value.cells] at hw); (try simp (disch := first | (simp; done) | (simp; omega)) only [Sep.mid_set, Sep.mid_set2, Sep.mid_set0, Sep.mid_splice, Sep.mid_splice0, List.set_cons_zero, List.set_cons_succ] at hw); (try simp only [Sep.splice, List.take_succ_cons, List.take_zero, List.drop_succ_cons, List.drop_zero, List.length_cons, List.length_nil, Nat.reduceAdd, List.cons_append, List.nil_append] at hw); (try replace hc0 := Sep.Holds.cells hw (i := 0) rfl); (try replace hc1 := Sep.Holds.cells hw (i := 1) rfl); (try replace hc2 := Sep.Holds.cells hw (i := 2) rfl); (try replace hc3 := Sep.Holds.cells hw (i := 3) rfl); (try replace hc4 := Sep.Holds.cells hw (i := 4) rfl); (try replace hc5 := Sep.Holds.cells hw (i := 5) rfl); (try replace hc6 := Sep.Holds.cells hw (i := 6) rfl)) | (refine wpList_on rfl (wp_loadN (vs := encA d) rfl rfl hw (i := 3) rfl rfl (by intro j v hj; simpa using hj) ?_)))
      refine (do_calls p M d e _ _ (hw.focus1 2 rfl)).mono ?_
      rintro en_ w_ ⟨v, rfl, hw_⟩
      clear hw; (try clear hc0); (try clear hc1); (try clear hc2); (try clear hc3); (try clear hc4); (try clear hc5); (try clear hc6); have hw := Holds.unfocus1 2 (by simp) hw_; clear hw_
      (try simp only [List.map_cons, List.map_nil, List.getD_cons_zero, List.getD_cons_succ, List.getD_nil, List.set_cons_zero, List.set_cons_succ, List.cons_append, List.nil_append, Act.eval, Array.getD_eq_getD_getElem?, List.getElem?_toArray, List.getElem?_cons_succ, List.getElem?_cons_zero, Option.getD_some, Value.cells] at hw); (try simp (disch := first | (simp; done) | (simp; omega)) only [Sep.mid_set, Sep.mid_set2, Sep.mid_set0, Sep.mid_splice, Sep.mid_splice0, List.set_cons_zero, List.set_cons_succ] at hw); (try simp only [Sep.splice, List.take_succ_cons, List.take_zero, List.drop_succ_cons, List.drop_zero, List.length_cons, List.length_nil, Nat.reduceAdd, List.cons_append, List.nil_append] at hw)
      go_wp2_with fail
      go_roundw
      case rel => exact ⟨q + 1, _, by omega, by go_num, hw.sel [0, 1, 2] (by decide)⟩
      case measure => simp [intOf]; omega
    · have Hlr : Hid (M.wr.length ≤ 1000 ∧ M.ww.length ≤ 1000 ∧ M.rd.length ≤ 1000) := Sep.hid (rw_len (i := 2) rfl hw)
      have Hok := Sep.hid (rw_ok (i := 2) rfl hw).2
      go_wp2_with fail
      refine (oReaders p M e _ _ (hw.focus1 2 rfl)).mono ?_
      rintro en_ w_ ⟨u, rfl, hw_⟩
      clear hw; have hw := Holds.unfocus1 2 (by simp) hw_; clear hw_
      (try simp only [List.map_cons, List.map_nil, List.getD_cons_zero, List.getD_cons_succ, List.getD_nil, List.set_cons_zero, List.set_cons_succ, List.cons_append, List.nil_append, Act.eval, Array.getD_eq_getD_getElem?, List.getElem?_toArray, List.getElem?_cons_succ, List.getElem?_cons_zero, Option.getD_some, Value.cells] at hw); (try simp (disch := first | (simp; done) | (simp; omega)) only [Sep.mid_set, Sep.mid_set2, Sep.mid_set0, Sep.mid_splice, Sep.mid_splice0, List.set_cons_zero, List.set_cons_succ] at hw); (try simp only [Sep.splice, List.take_succ_cons, List.take_zero, List.drop_succ_cons, List.drop_zero, List.length_cons, List.length_nil, Nat.reduceAdd, List.cons_append, List.nil_append] at hw)
      go_wp2_with fail
      refine (oWriter p M e _ _ (hw.focus1 2 rfl)).mono ?_
      rintro en_ w_ ⟨rfl, hw_⟩
      clear hw; have hw := Holds.unfocus1 2 (by simp) hw_; clear hw_
      (try simp only [List.map_cons, List.map_nil, List.getD_cons_zero, List.getD_cons_succ, List.getD_nil, List.set_cons_zero, List.set_cons_succ, List.cons_append, List.nil_append, Act.eval, Array.getD_eq_getD_getElem?, List.getElem?_toArray, List.getElem?_cons_succ, List.getElem?_cons_zero, Option.getD_some, Value.cells] at hw); (try simp (disch := first | (simp; done) | (simp; omega)) only [Sep.mid_set, Sep.mid_set2, Sep.mid_set0, Sep.mid_splice, Sep.mid_splice0, List.set_cons_zero, List.set_cons_succ] at hw); (try simp only [Sep.splice, List.take_succ_cons, List.take_zero, List.drop_succ_cons, List.drop_zero, List.length_cons, List.length_nil, Nat.reduceAdd, List.cons_append, List.nil_append] at hw)
      go_wp2_with fail
      refine (oWaiting p M e _ _ (hw.focus1 2 rfl)).mono ?_
      rintro en_ w_ ⟨r1, w1, rfl, hw_⟩
      clear hw; have hw := Holds.unfocus1 2 (by simp) hw_; clear hw_
      (try simp only [List.map_cons, List.map_nil, List.getD_cons_zero, List.getD_cons_succ, List.getD_nil, List.set_cons_zero, List.set_cons_succ, List.cons_append, List.nil_append, Act.eval, Array.getD_eq_getD_getElem?, List.getElem?_toArray, List.getElem?_cons_succ, List.getElem?_cons_zero, Option.getD_some, Value.cells] at hw); (try simp (disch := first | (simp; done) | (simp; omega)) only [Sep.mid_set, Sep.mid_set2, Sep.mid_set0, Sep.mid_splice, Sep.mid_splice0, List.set_cons_zero, List.set_cons_succ] at hw); (try simp only [Sep.splice, List.take_succ_cons, List.take_zero, List.drop_succ_cons, List.drop_zero, List.length_cons, List.length_nil, Nat.reduceAdd, List.cons_append, List.nil_append] at hw)
      obtain ⟨ua, uc, rfl⟩ := Sl.value (i := 3) rfl hw
      obtain ⟨ra, rc, rfl⟩ := Sl.value (i := 4) rfl hw
      obtain ⟨wa, wc, rfl⟩ := Sl.value (i := 5) rfl hw
      (try replace hc0 := Sep.Holds.cells hw (i := 0) rfl); (try replace hc1 := Sep.Holds.cells hw (i := 1) rfl); (try replace hc2 := Sep.Holds.cells hw (i := 2) rfl); (try replace hc3 := Sep.Holds.cells hw (i := 3) rfl); (try replace hc4 := Sep.Holds.cells hw (i := 4) rfl); (try replace hc5 := Sep.Holds.cells hw (i := 5) rfl); (try replace hc6 := Sep.Holds.cells hw (i := 6) rfl)
      obtain ⟨wx, hwx⟩ : ∃ x, M.writer = x := ⟨_, rfl⟩
      rw [hwx]
      have Hwx := Sep.hid hwx; clear hwx
      go_upto_region 15 with fail
      go_cut [13] (fun hv wx' => hv = .bool (M.holds d1.f1) ∧ Holds e wx' [Old e, pt b_ [.int .i64 d1.f0, .int .i64 d1.f1] 32, IsRW p M, IsInts (.slice ua M.rd.length uc) M.rd, IsInts (.slice ra M.wr.length rc) M.wr, IsInts (.slice wa M.ww.length wc) M.ww])
      case first =>
        have hhv : M.holds d1.f1 = decide (0 ≤ d1.f1 ∧ (wx = d1.f1 ∨ d1.f1 ∈ M.rd)) := by unfold LM.holds; rw [Hwx.out]
        by_cases h0 : d1.f1 < 0
        · rw [decide_eq_false (by omega)] at hhv
          have Hhv := Sep.hid hhv; clear hhv
          go_wp2_with fail
          go_meet
          exact ⟨by rw [Hhv.out], hw⟩
        by_cases h1 : wx = d1.f1
        · rw [decide_eq_true ⟨by omega, .inl h1⟩] at hhv
          have Hhv := Sep.hid hhv
          have h1q : (wx == d1.f1) = true := by simpa using h1
          clear hhv h1
          go_wp2_with fail
          go_meet
          exact ⟨by rw [Hhv.out], hw⟩
        · have h1q : (wx == d1.f1) = false := by simpa using h1
          have H1 := Sep.hid h1; clear h1
          by_cases h2 : d1.f1 ∈ M.rd
          · rw [decide_eq_true ⟨by omega, .inr h2⟩] at hhv
            have Hhv := Sep.hid hhv
            have Hin := Sep.hid (decide_eq_true h2)
            clear hhv h2
            go_wp2_with fail
            refine (in8_calls _ M.rd d1.f1 (by have := Hlr.out; omega) e _ _ (hw.focus1 3 rfl)).mono ?_
            rintro en_ w_ ⟨he_, hw_⟩
            rw [Hin.out] at he_; subst he_
            clear hw; (try clear hc0); (try clear hc1); (try clear hc2); (try clear hc3); (try clear hc4); (try clear hc5); (try clear hc6); have hw := Holds.unfocus1 3 (by simp) hw_; clear hw_
            (try simp only [List.map_cons, List.map_nil, List.getD_cons_zero, List.getD_cons_succ, List.getD_nil, List.set_cons_zero, List.set_cons_succ, List.cons_append, List.nil_append, Act.eval, Array.getD_eq_getD_getElem?, List.getElem?_toArray, List.getElem?_cons_succ, List.getElem?_cons_zero, Option.getD_some, Value.cells] at hw); (try simp (disch := first | (simp; done) | (simp; omega)) only [Sep.mid_set, Sep.mid_set2, Sep.mid_set0, Sep.mid_splice, Sep.mid_splice0, List.set_cons_zero, List.set_cons_succ] at hw); (try simp only [Sep.splice, List.take_succ_cons, List.take_zero, List.drop_succ_cons, List.drop_zero, List.length_cons, List.length_nil, Nat.reduceAdd, List.cons_append, List.nil_append] at hw)
            go_wp2_with fail
            go_meet
            exact ⟨by rw [Hhv.out], hw⟩
          · rw [decide_eq_false (fun h => h.2.elim H1.out h2)] at hhv
            have Hhv := Sep.hid hhv
            have Hin := Sep.hid (decide_eq_false h2)
            clear hhv h2
            go_wp2_with fail
            refine (in8_calls _ M.rd d1.f1 (by have := Hlr.out; omega) e _ _ (hw.focus1 3 rfl)).mono ?_
            rintro en_ w_ ⟨he_, hw_⟩
            rw [Hin.out] at he_; subst he_
            clear hw; (try clear hc0); (try clear hc1); (try clear hc2); (try clear hc3); (try clear hc4); (try clear hc5); (try clear hc6); have hw := Holds.unfocus1 3 (by simp) hw_; clear hw_
            (try simp only [List.map_cons, List.map_nil, List.getD_cons_zero, List.getD_cons_succ, List.getD_nil, List.set_cons_zero, List.set_cons_succ, List.cons_append, List.nil_append, Act.eval, Array.getD_eq_getD_getElem?, List.getElem?_toArray, List.getElem?_cons_succ, List.getElem?_cons_zero, Option.getD_some, Value.cells] at hw); (try simp (disch := first | (simp; done) | (simp; omega)) only [Sep.mid_set, Sep.mid_set2, Sep.mid_set0, Sep.mid_splice, Sep.mid_splice0, List.set_cons_zero, List.set_cons_succ] at hw); (try simp only [Sep.splice, List.take_succ_cons, List.take_zero, List.drop_succ_cons, List.drop_zero, List.length_cons, List.length_nil, Nat.reduceAdd, List.cons_append, List.nil_append] at hw)
            go_wp2_with fail
            go_meet
            exact ⟨by rw [Hhv.out], hw⟩
      case rest =>
        clear hw; (try clear hc0); (try clear hc1); (try clear hc2); (try clear hc3); (try clear hc4); (try clear hc5); (try clear hc6)
        obtain ⟨rfl, hw⟩ := hcut
        (try replace hc0 := Sep.Holds.cells hw (i := 0) rfl); (try replace hc1 := Sep.Holds.cells hw (i := 1) rfl); (try replace hc2 := Sep.Holds.cells hw (i := 2) rfl); (try replace hc3 := Sep.Holds.cells hw (i := 3) rfl); (try replace hc4 := Sep.Holds.cells hw (i := 4) rfl); (try replace hc5 := Sep.Holds.cells hw (i := 5) rfl); (try replace hc6 := Sep.Holds.cells hw (i := 6) rfl)
        have hdo := fun w X hw => do_calls p M d1 e w X hw
        have hms := misuse_cases M d1 Hok.out
        generalize M.holds d1.f1 = hb at *
        rcases hms with ⟨er, her, hb, hh⟩ | ⟨he0, hh⟩
        · simp only [hb] at hdo
          have Hh := Sep.hid hh
          have herq : (er == 0) = false := by simpa using her
          clear hb hh
          go_wp2_with fail
          refine (hdo _ _ (hw.focus1 2 rfl)).mono ?_
          rintro en_ w_ ⟨x, rfl, hw_⟩
          clear hw; (try clear hc0); (try clear hc1); (try clear hc2); (try clear hc3); (try clear hc4); (try clear hc5); (try clear hc6); have hw := Holds.unfocus1 2 (by simp) hw_; clear hw_ hdo
          (try simp only [List.map_cons, List.map_nil, List.getD_cons_zero, List.getD_cons_succ, List.getD_nil, List.set_cons_zero, List.set_cons_succ, List.cons_append, List.nil_append, Act.eval, Array.getD_eq_getD_getElem?, List.getElem?_toArray, List.getElem?_cons_succ, List.getElem?_cons_zero, Option.getD_some, Value.cells] at hw); (try simp (disch := first | (simp; done) | (simp; omega)) only [Sep.mid_set, Sep.mid_set2, Sep.mid_set0, Sep.mid_splice, Sep.mid_splice0, List.set_cons_zero, List.set_cons_succ] at hw); (try simp only [Sep.splice, List.take_succ_cons, List.take_zero, List.drop_succ_cons, List.drop_zero, List.length_cons, List.length_nil, Nat.reduceAdd, List.cons_append, List.nil_append] at hw)
          obtain ⟨xa, xc, rfl⟩ := Sl.value (i := 6) rfl hw
          (try replace hc0 := Sep.Holds.cells hw (i := 0) rfl); (try replace hc1 := Sep.Holds.cells hw (i := 1) rfl); (try replace hc2 := Sep.Holds.cells hw (i := 2) rfl); (try replace hc3 := Sep.Holds.cells hw (i := 3) rfl); (try replace hc4 := Sep.Holds.cells hw (i := 4) rfl); (try replace hc5 := Sep.Holds.cells hw (i := 5) rfl); (try replace hc6 := Sep.Holds.cells hw (i := 6) rfl)
          go_wp2_with fail
          refine (oWaiting p M e _ _ (hw.focus1 2 rfl)).mono ?_
          rintro en_ w_ ⟨r2, w2, rfl, hw_⟩
          clear hw; (try clear hc0); (try clear hc1); (try clear hc2); (try clear hc3); (try clear hc4); (try clear hc5); (try clear hc6); have hw := Holds.unfocus1 2 (by simp) hw_; clear hw_
          (try simp only [List.map_cons, List.map_nil, List.getD_cons_zero, List.getD_cons_succ, List.getD_nil, List.set_cons_zero, List.set_cons_succ, List.cons_append, List.nil_append, Act.eval, Array.getD_eq_getD_getElem?, List.getElem?_toArray, List.getElem?_cons_succ, List.getElem?_cons_zero, Option.getD_some, Value.cells] at hw); (try simp (disch := first | (simp; done) | (simp; omega)) only [Sep.mid_set, Sep.mid_set2, Sep.mid_set0, Sep.mid_splice, Sep.mid_splice0, List.set_cons_zero, List.set_cons_succ] at hw); (try simp only [Sep.splice, List.take_succ_cons, List.take_zero, List.drop_succ_cons, List.drop_zero, List.length_cons, List.length_nil, Nat.reduceAdd, List.cons_append, List.nil_append] at hw)
          obtain ⟨ra2, rc2, rfl⟩ := Sl.value (i := 7) rfl hw
          obtain ⟨wa2, wc2, rfl⟩ := Sl.value (i := 8) rfl hw
          (try replace hc0 := Sep.Holds.cells hw (i := 0) rfl); (try replace hc1 := Sep.Holds.cells hw (i := 1) rfl); (try replace hc2 := Sep.Holds.cells hw (i := 2) rfl); (try replace hc3 := Sep.Holds.cells hw (i := 3) rfl); (try replace hc4 := Sep.Holds.cells hw (i := 4) rfl); (try replace hc5 := Sep.Holds.cells hw (i := 5) rfl); (try replace hc6 := Sep.Holds.cells hw (i := 6) rfl)
          go_wp2_with fail
          refine (oWriter p M e _ _ (hw.focus1 2 rfl)).mono ?_
          rintro en_ w_ ⟨rfl, hw_⟩
          clear hw; (try clear hc0); (try clear hc1); (try clear hc2); (try clear hc3); (try clear hc4); (try clear hc5); (try clear hc6); have hw := Holds.unfocus1 2 (by simp) hw_; clear hw_
          (try simp only [List.map_cons, List.map_nil, List.getD_cons_zero, List.getD_cons_succ, List.getD_nil, List.set_cons_zero, List.set_cons_succ, List.cons_append, List.nil_append, Act.eval, Array.getD_eq_getD_getElem?, List.getElem?_toArray, List.getElem?_cons_succ, List.getElem?_cons_zero, Option.getD_some, Value.cells] at hw); (try simp (disch := first | (simp; done) | (simp; omega)) only [Sep.mid_set, Sep.mid_set2, Sep.mid_set0, Sep.mid_splice, Sep.mid_splice0, List.set_cons_zero, List.set_cons_succ] at hw); (try simp only [Sep.splice, List.take_succ_cons, List.take_zero, List.drop_succ_cons, List.drop_zero, List.length_cons, List.length_nil, Nat.reduceAdd, List.cons_append, List.nil_append] at hw)
          (try replace hc0 := Sep.Holds.cells hw (i := 0) rfl); (try replace hc1 := Sep.Holds.cells hw (i := 1) rfl); (try replace hc2 := Sep.Holds.cells hw (i := 2) rfl); (try replace hc3 := Sep.Holds.cells hw (i := 3) rfl); (try replace hc4 := Sep.Holds.cells hw (i := 4) rfl); (try replace hc5 := Sep.Holds.cells hw (i := 5) rfl); (try replace hc6 := Sep.Holds.cells hw (i := 6) rfl)
          rw [Hwx.out]
          go_wp2_with fail
          refine (oReaders p M e _ _ (hw.focus1 2 rfl)).mono ?_
          rintro en_ w_ ⟨u2, rfl, hw_⟩
          clear hw; (try clear hc0); (try clear hc1); (try clear hc2); (try clear hc3); (try clear hc4); (try clear hc5); (try clear hc6); have hw := Holds.unfocus1 2 (by simp) hw_; clear hw_
          (try simp only [List.map_cons, List.map_nil, List.getD_cons_zero, List.getD_cons_succ, List.getD_nil, List.set_cons_zero, List.set_cons_succ, List.cons_append, List.nil_append, Act.eval, Array.getD_eq_getD_getElem?, List.getElem?_toArray, List.getElem?_cons_succ, List.getElem?_cons_zero, Option.getD_some, Value.cells] at hw); (try simp (disch := first | (simp; done) | (simp; omega)) only [Sep.mid_set, Sep.mid_set2, Sep.mid_set0, Sep.mid_splice, Sep.mid_splice0, List.set_cons_zero, List.set_cons_succ] at hw); (try simp only [Sep.splice, List.take_succ_cons, List.take_zero, List.drop_succ_cons, List.drop_zero, List.length_cons, List.length_nil, Nat.reduceAdd, List.cons_append, List.nil_append] at hw)
          obtain ⟨ua2, uc2, rfl⟩ := Sl.value (i := 9) rfl hw
          (try replace hc0 := Sep.Holds.cells hw (i := 0) rfl); (try replace hc1 := Sep.Holds.cells hw (i := 1) rfl); (try replace hc2 := Sep.Holds.cells hw (i := 2) rfl); (try replace hc3 := Sep.Holds.cells hw (i := 3) rfl); (try replace hc4 := Sep.Holds.cells hw (i := 4) rfl); (try replace hc5 := Sep.Holds.cells hw (i := 5) rfl); (try replace hc6 := Sep.Holds.cells hw (i := 6) rfl)
          go_wp2_with fail
          refine (same_calls _ _ M.rd M.rd (by have := Hlr.out; omega) e _ _ (hw.focus2 9 3 rfl rfl (by decide))).mono ?_
          rintro en_ w_ ⟨he_, hw_⟩
          rw [decide_eq_true rfl] at he_; subst he_
          clear hw; (try clear hc0); (try clear hc1); (try clear hc2); (try clear hc3); (try clear hc4); (try clear hc5); (try clear hc6); have hw := Holds.unfocus2 9 3 (by simp) (by simp) (by decide) hw_; clear hw_
          (try simp only [List.map_cons, List.map_nil, List.getD_cons_zero, List.getD_cons_succ, List.getD_nil, List.set_cons_zero, List.set_cons_succ, List.cons_append, List.nil_append, Act.eval, Array.getD_eq_getD_getElem?, List.getElem?_toArray, List.getElem?_cons_succ, List.getElem?_cons_zero, Option.getD_some, Value.cells] at hw); (try simp (disch := first | (simp; done) | (simp; omega)) only [Sep.mid_set, Sep.mid_set2, Sep.mid_set0, Sep.mid_splice, Sep.mid_splice0, List.set_cons_zero, List.set_cons_succ] at hw); (try simp only [Sep.splice, List.take_succ_cons, List.take_zero, List.drop_succ_cons, List.drop_zero, List.length_cons, List.length_nil, Nat.reduceAdd, List.cons_append, List.nil_append] at hw)
          (try replace hc0 := Sep.Holds.cells hw (i := 0) rfl); (try replace hc1 := Sep.Holds.cells hw (i := 1) rfl); (try replace hc2 := Sep.Holds.cells hw (i := 2) rfl); (try replace hc3 := Sep.Holds.cells hw (i := 3) rfl); (try replace hc4 := Sep.Holds.cells hw (i := 4) rfl); (try replace hc5 := Sep.Holds.cells hw (i := 5) rfl); (try replace hc6 := Sep.Holds.cells hw (i := 6) rfl)
          go_wp2_with fail
          refine (same_calls _ _ M.wr M.wr (by have := Hlr.out; omega) e _ _ (hw.focus2 7 4 rfl rfl (by decide))).mono ?_
          rintro en_ w_ ⟨he_, hw_⟩
          rw [decide_eq_true rfl] at he_; subst he_
          clear hw; (try clear hc0); (try clear hc1); (try clear hc2); (try clear hc3); (try clear hc4); (try clear hc5); (try clear hc6); have hw := Holds.unfocus2 7 4 (by simp) (by simp) (by decide) hw_; clear hw_
          (try simp only [List.map_cons, List.map_nil, List.getD_cons_zero, List.getD_cons_succ, List.getD_nil, List.set_cons_zero, List.set_cons_succ, List.cons_append, List.nil_append, Act.eval, Array.getD_eq_getD_getElem?, List.getElem?_toArray, List.getElem?_cons_succ, List.getElem?_cons_zero, Option.getD_some, Value.cells] at hw); (try simp (disch := first | (simp; done) | (simp; omega)) only [Sep.mid_set, Sep.mid_set2, Sep.mid_set0, Sep.mid_splice, Sep.mid_splice0, List.set_cons_zero, List.set_cons_succ] at hw); (try simp only [Sep.splice, List.take_succ_cons, List.take_zero, List.drop_succ_cons, List.drop_zero, List.length_cons, List.length_nil, Nat.reduceAdd, List.cons_append, List.nil_append] at hw)
          (try replace hc0 := Sep.Holds.cells hw (i := 0) rfl); (try replace hc1 := Sep.Holds.cells hw (i := 1) rfl); (try replace hc2 := Sep.Holds.cells hw (i := 2) rfl); (try replace hc3 := Sep.Holds.cells hw (i := 3) rfl); (try replace hc4 := Sep.Holds.cells hw (i := 4) rfl); (try replace hc5 := Sep.Holds.cells hw (i := 5) rfl); (try replace hc6 := Sep.Holds.cells hw (i := 6) rfl)
          go_wp2_with fail
          refine (same_calls _ _ M.ww M.ww (by have := Hlr.out; omega) e _ _ (hw.focus2 8 5 rfl rfl (by decide))).mono ?_
          rintro en_ w_ ⟨he_, hw_⟩
          rw [decide_eq_true rfl] at he_; subst he_
          clear hw; (try clear hc0); (try clear hc1); (try clear hc2); (try clear hc3); (try clear hc4); (try clear hc5); (try clear hc6); have hw := Holds.unfocus2 8 5 (by simp) (by simp) (by decide) hw_; clear hw_
          (try simp only [List.map_cons, List.map_nil, List.getD_cons_zero, List.getD_cons_succ, List.getD_nil, List.set_cons_zero, List.set_cons_succ, List.cons_append, List.nil_append, Act.eval, Array.getD_eq_getD_getElem?, List.getElem?_toArray, List.getElem?_cons_succ, List.getElem?_cons_zero, Option.getD_some, Value.cells] at hw); (try simp (disch := first | (simp; done) | (simp; omega)) only [Sep.mid_set, Sep.mid_set2, Sep.mid_set0, Sep.mid_splice, Sep.mid_splice0, List.set_cons_zero, List.set_cons_succ] at hw); (try simp only [Sep.splice, List.take_succ_cons, List.take_zero, List.drop_succ_cons, List.drop_zero, List.length_cons, List.length_nil, Nat.reduceAdd, List.cons_append, List.nil_append] at hw)
          (try replace hc0 := Sep.Holds.cells hw (i := 0) rfl); (try replace hc1 := Sep.Holds.cells hw (i := 1) rfl); (try replace hc2 := Sep.Holds.cells hw (i := 2) rfl); (try replace hc3 := Sep.Holds.cells hw (i := 3) rfl); (try replace hc4 := Sep.Holds.cells hw (i := 4) rfl); (try replace hc5 := Sep.Holds.cells hw (i := 5) rfl); (try replace hc6 := Sep.Holds.cells hw (i := 6) rfl)
          skip
          have hh := Hh.out
          by_cases hf2 : d1.f0 = 2
          · obtain rfl := hh hf2
            clear hh
            go_wp2_with fail
            exact HP.out _ _ ⟨rfl, hw.sel [0] (by decide)⟩
          · have hfq : (d1.f0 == 2) = false := by simpa using hf2
            clear hh
            go_wp2_with fail
            exact HP.out _ _ ⟨rfl, hw.sel [0] (by decide)⟩
        · have Hh := Sep.hid hh
          clear hh
          generalize hM2 : M.act d1 = R at *
          obtain ⟨o2, is2, er2, M2⟩ := R
          simp only at hdo he0
          subst he0
          clear hM2
          go_wp2_with fail
          refine (hdo _ _ (hw.focus1 2 rfl)).mono ?_
          rintro en_ w_ ⟨x, rfl, hw_⟩
          clear hw; (try clear hc0); (try clear hc1); (try clear hc2); (try clear hc3); (try clear hc4); (try clear hc5); (try clear hc6); have hw := Holds.unfocus1 2 (by simp) hw_; clear hw_ hdo
          (try simp only [List.map_cons, List.map_nil, List.getD_cons_zero, List.getD_cons_succ, List.getD_nil, List.set_cons_zero, List.set_cons_succ, List.cons_append, List.nil_append, Act.eval, Array.getD_eq_getD_getElem?, List.getElem?_toArray, List.getElem?_cons_succ, List.getElem?_cons_zero, Option.getD_some, Value.cells] at hw); (try simp (disch := first | (simp; done) | (simp; omega)) only [Sep.mid_set, Sep.mid_set2, Sep.mid_set0, Sep.mid_splice, Sep.mid_splice0, List.set_cons_zero, List.set_cons_succ] at hw); (try simp only [Sep.splice, List.take_succ_cons, List.take_zero, List.drop_succ_cons, List.drop_zero, List.length_cons, List.length_nil, Nat.reduceAdd, List.cons_append, List.nil_append] at hw)
          obtain ⟨xa, xc, rfl⟩ := Sl.value (i := 6) rfl hw
          (try replace hc0 := Sep.Holds.cells hw (i := 0) rfl); (try replace hc1 := Sep.Holds.cells hw (i := 1) rfl); (try replace hc2 := Sep.Holds.cells hw (i := 2) rfl); (try replace hc3 := Sep.Holds.cells hw (i := 3) rfl); (try replace hc4 := Sep.Holds.cells hw (i := 4) rfl); (try replace hc5 := Sep.Holds.cells hw (i := 5) rfl); (try replace hc6 := Sep.Holds.cells hw (i := 6) rfl)
          go_wp2_with fail
          refine (oWaiting p M2 e _ _ (hw.focus1 2 rfl)).mono ?_
          rintro en_ w_ ⟨r2, w2, rfl, hw_⟩
          clear hw; (try clear hc0); (try clear hc1); (try clear hc2); (try clear hc3); (try clear hc4); (try clear hc5); (try clear hc6); have hw := Holds.unfocus1 2 (by simp) hw_; clear hw_
          (try simp only [List.map_cons, List.map_nil, List.getD_cons_zero, List.getD_cons_succ, List.getD_nil, List.set_cons_zero, List.set_cons_succ, List.cons_append, List.nil_append, Act.eval, Array.getD_eq_getD_getElem?, List.getElem?_toArray, List.getElem?_cons_succ, List.getElem?_cons_zero, Option.getD_some, Value.cells] at hw); (try simp (disch := first | (simp; done) | (simp; omega)) only [Sep.mid_set, Sep.mid_set2, Sep.mid_set0, Sep.mid_splice, Sep.mid_splice0, List.set_cons_zero, List.set_cons_succ] at hw); (try simp only [Sep.splice, List.take_succ_cons, List.take_zero, List.drop_succ_cons, List.drop_zero, List.length_cons, List.length_nil, Nat.reduceAdd, List.cons_append, List.nil_append] at hw)
          obtain ⟨ra2, rc2, rfl⟩ := Sl.value (i := 7) rfl hw
          obtain ⟨wa2, wc2, rfl⟩ := Sl.value (i := 8) rfl hw
          (try replace hc0 := Sep.Holds.cells hw (i := 0) rfl); (try replace hc1 := Sep.Holds.cells hw (i := 1) rfl); (try replace hc2 := Sep.Holds.cells hw (i := 2) rfl); (try replace hc3 := Sep.Holds.cells hw (i := 3) rfl); (try replace hc4 := Sep.Holds.cells hw (i := 4) rfl); (try replace hc5 := Sep.Holds.cells hw (i := 5) rfl); (try replace hc6 := Sep.Holds.cells hw (i := 6) rfl)
          go_wp2_with fail
          refine (oWriter p M2 e _ _ (hw.focus1 2 rfl)).mono ?_
          rintro en_ w_ ⟨rfl, hw_⟩
          clear hw; (try clear hc0); (try clear hc1); (try clear hc2); (try clear hc3); (try clear hc4); (try clear hc5); (try clear hc6); have hw := Holds.unfocus1 2 (by simp) hw_; clear hw_
          (try simp only [List.map_cons, List.map_nil, List.getD_cons_zero, List.getD_cons_succ, List.getD_nil, List.set_cons_zero, List.set_cons_succ, List.cons_append, List.nil_append, Act.eval, Array.getD_eq_getD_getElem?, List.getElem?_toArray, List.getElem?_cons_succ, List.getElem?_cons_zero, Option.getD_some, Value.cells] at hw); (try simp (disch := first | (simp; done) | (simp; omega)) only [Sep.mid_set, Sep.mid_set2, Sep.mid_set0, Sep.mid_splice, Sep.mid_splice0, List.set_cons_zero, List.set_cons_succ] at hw); (try simp only [Sep.splice, List.take_succ_cons, List.take_zero, List.drop_succ_cons, List.drop_zero, List.length_cons, List.length_nil, Nat.reduceAdd, List.cons_append, List.nil_append] at hw)
          (try replace hc0 := Sep.Holds.cells hw (i := 0) rfl); (try replace hc1 := Sep.Holds.cells hw (i := 1) rfl); (try replace hc2 := Sep.Holds.cells hw (i := 2) rfl); (try replace hc3 := Sep.Holds.cells hw (i := 3) rfl); (try replace hc4 := Sep.Holds.cells hw (i := 4) rfl); (try replace hc5 := Sep.Holds.cells hw (i := 5) rfl); (try replace hc6 := Sep.Holds.cells hw (i := 6) rfl)
          have Hl2 : Hid (M2.wr.length ≤ 1000 ∧ M2.ww.length ≤ 1000 ∧ M2.rd.length ≤ 1000) := Sep.hid (rw_len (i := 2) rfl hw)
          generalize M2.writer = wx2 at *
          by_cases hwx : wx2 = wx
          · subst hwx
            go_wp2_with fail
            refine (oReaders p M2 e _ _ (hw.focus1 2 rfl)).mono ?_
            rintro en_ w_ ⟨u2, rfl, hw_⟩
            clear hw; (try clear hc0); (try clear hc1); (try clear hc2); (try clear hc3); (try clear hc4); (try clear hc5); (try clear hc6); have hw := Holds.unfocus1 2 (by simp) hw_; clear hw_
            (try simp only [List.map_cons, List.map_nil, List.getD_cons_zero, List.getD_cons_succ, List.getD_nil, List.set_cons_zero, List.set_cons_succ, List.cons_append, List.nil_append, Act.eval, Array.getD_eq_getD_getElem?, List.getElem?_toArray, List.getElem?_cons_succ, List.getElem?_cons_zero, Option.getD_some, Value.cells] at hw); (try simp (disch := first | (simp; done) | (simp; omega)) only [Sep.mid_set, Sep.mid_set2, Sep.mid_set0, Sep.mid_splice, Sep.mid_splice0, List.set_cons_zero, List.set_cons_succ] at hw); (try simp only [Sep.splice, List.take_succ_cons, List.take_zero, List.drop_succ_cons, List.drop_zero, List.length_cons, List.length_nil, Nat.reduceAdd, List.cons_append, List.nil_append] at hw)
            obtain ⟨ua2, uc2, rfl⟩ := Sl.value (i := 9) rfl hw
            (try replace hc0 := Sep.Holds.cells hw (i := 0) rfl); (try replace hc1 := Sep.Holds.cells hw (i := 1) rfl); (try replace hc2 := Sep.Holds.cells hw (i := 2) rfl); (try replace hc3 := Sep.Holds.cells hw (i := 3) rfl); (try replace hc4 := Sep.Holds.cells hw (i := 4) rfl); (try replace hc5 := Sep.Holds.cells hw (i := 5) rfl); (try replace hc6 := Sep.Holds.cells hw (i := 6) rfl)
            go_wp2_with fail
            refine (same_calls _ _ M2.rd M.rd (by have := Hl2.out; omega) e _ _ (hw.focus2 9 3 rfl rfl (by decide))).mono ?_
            rintro en_ w_ ⟨rfl, hw_⟩
            clear hw; (try clear hc0); (try clear hc1); (try clear hc2); (try clear hc3); (try clear hc4); (try clear hc5); (try clear hc6); have hw := Holds.unfocus2 9 3 (by simp) (by simp) (by decide) hw_; clear hw_
            (try simp only [List.map_cons, List.map_nil, List.getD_cons_zero, List.getD_cons_succ, List.getD_nil, List.set_cons_zero, List.set_cons_succ, List.cons_append, List.nil_append, Act.eval, Array.getD_eq_getD_getElem?, List.getElem?_toArray, List.getElem?_cons_succ, List.getElem?_cons_zero, Option.getD_some, Value.cells] at hw); (try simp (disch := first | (simp; done) | (simp; omega)) only [Sep.mid_set, Sep.mid_set2, Sep.mid_set0, Sep.mid_splice, Sep.mid_splice0, List.set_cons_zero, List.set_cons_succ] at hw); (try simp only [Sep.splice, List.take_succ_cons, List.take_zero, List.drop_succ_cons, List.drop_zero, List.length_cons, List.length_nil, Nat.reduceAdd, List.cons_append, List.nil_append] at hw)
            (try replace hc0 := Sep.Holds.cells hw (i := 0) rfl); (try replace hc1 := Sep.Holds.cells hw (i := 1) rfl); (try replace hc2 := Sep.Holds.cells hw (i := 2) rfl); (try replace hc3 := Sep.Holds.cells hw (i := 3) rfl); (try replace hc4 := Sep.Holds.cells hw (i := 4) rfl); (try replace hc5 := Sep.Holds.cells hw (i := 5) rfl); (try replace hc6 := Sep.Holds.cells hw (i := 6) rfl)
            generalize decide (M2.rd = M.rd) = bb
            cases bb
            case false =>
              have hh := Hh.out
              by_cases hf2 : d1.f0 = 2
              · obtain rfl := hh hf2
                clear hh
                go_wp2_with fail
                exact HP.out _ _ ⟨rfl, hw.sel [0] (by decide)⟩
              · have hfq : (d1.f0 == 2) = false := by simpa using hf2
                clear hh
                go_wp2_with fail
                exact HP.out _ _ ⟨rfl, hw.sel [0] (by decide)⟩
            case true =>
              go_wp2_with fail
              refine (same_calls _ _ M2.wr M.wr (by have := Hl2.out; omega) e _ _ (hw.focus2 7 4 rfl rfl (by decide))).mono ?_
              rintro en_ w_ ⟨rfl, hw_⟩
              clear hw; (try clear hc0); (try clear hc1); (try clear hc2); (try clear hc3); (try clear hc4); (try clear hc5); (try clear hc6); have hw := Holds.unfocus2 7 4 (by simp) (by simp) (by decide) hw_; clear hw_
              (try simp only [List.map_cons, List.map_nil, List.getD_cons_zero, List.getD_cons_succ, List.getD_nil, List.set_cons_zero, List.set_cons_succ, List.cons_append, List.nil_append, Act.eval, Array.getD_eq_getD_getElem?, List.getElem?_toArray, List.getElem?_cons_succ, List.getElem?_cons_zero, Option.getD_some, Value.cells] at hw); (try simp (disch := first | (simp; done) | (simp; omega)) only [Sep.mid_set, Sep.mid_set2, Sep.mid_set0, Sep.mid_splice, Sep.mid_splice0, List.set_cons_zero, List.set_cons_succ] at hw); (try simp only [Sep.splice, List.take_succ_cons, List.take_zero, List.drop_succ_cons, List.drop_zero, List.length_cons, List.length_nil, Nat.reduceAdd, List.cons_append, List.nil_append] at hw)
              (try replace hc0 := Sep.Holds.cells hw (i := 0) rfl); (try replace hc1 := Sep.Holds.cells hw (i := 1) rfl); (try replace hc2 := Sep.Holds.cells hw (i := 2) rfl); (try replace hc3 := Sep.Holds.cells hw (i := 3) rfl); (try replace hc4 := Sep.Holds.cells hw (i := 4) rfl); (try replace hc5 := Sep.Holds.cells hw (i := 5) rfl); (try replace hc6 := Sep.Holds.cells hw (i := 6) rfl)
              generalize decide (M2.wr = M.wr) = bb
              cases bb
              case false =>
                have hh := Hh.out
                by_cases hf2 : d1.f0 = 2
                · obtain rfl := hh hf2
                  clear hh
                  go_wp2_with fail
                  exact HP.out _ _ ⟨rfl, hw.sel [0] (by decide)⟩
                · have hfq : (d1.f0 == 2) = false := by simpa using hf2
                  clear hh
                  go_wp2_with fail
                  exact HP.out _ _ ⟨rfl, hw.sel [0] (by decide)⟩
              case true =>
                go_wp2_with fail
                refine (same_calls _ _ M2.ww M.ww (by have := Hl2.out; omega) e _ _ (hw.focus2 8 5 rfl rfl (by decide))).mono ?_
                rintro en_ w_ ⟨rfl, hw_⟩
                clear hw; (try clear hc0); (try clear hc1); (try clear hc2); (try clear hc3); (try clear hc4); (try clear hc5); (try clear hc6); have hw := Holds.unfocus2 8 5 (by simp) (by simp) (by decide) hw_; clear hw_
                (try simp only [List.map_cons, List.map_nil, List.getD_cons_zero, List.getD_cons_succ, List.getD_nil, List.set_cons_zero, List.set_cons_succ, List.cons_append, List.nil_append, Act.eval, Array.getD_eq_getD_getElem?, List.getElem?_toArray, List.getElem?_cons_succ, List.getElem?_cons_zero, Option.getD_some, Value.cells] at hw); (try simp (disch := first | (simp; done) | (simp; omega)) only [Sep.mid_set, Sep.mid_set2, Sep.mid_set0, Sep.mid_splice, Sep.mid_splice0, List.set_cons_zero, List.set_cons_succ] at hw); (try simp only [Sep.splice, List.take_succ_cons, List.take_zero, List.drop_succ_cons, List.drop_zero, List.length_cons, List.length_nil, Nat.reduceAdd, List.cons_append, List.nil_append] at hw)
                (try replace hc0 := Sep.Holds.cells hw (i := 0) rfl); (try replace hc1 := Sep.Holds.cells hw (i := 1) rfl); (try replace hc2 := Sep.Holds.cells hw (i := 2) rfl); (try replace hc3 := Sep.Holds.cells hw (i := 3) rfl); (try replace hc4 := Sep.Holds.cells hw (i := 4) rfl); (try replace hc5 := Sep.Holds.cells hw (i := 5) rfl); (try replace hc6 := Sep.Holds.cells hw (i := 6) rfl)
                generalize decide (M2.ww = M.ww) = bb
                have hh := Hh.out
                by_cases hf2 : d1.f0 = 2
                · obtain rfl := hh hf2
                  clear hh
                  go_wp2_with fail
                  exact HP.out _ _ ⟨rfl, hw.sel [0] (by decide)⟩
                · have hfq : (d1.f0 == 2) = false := by simpa using hf2
                  clear hh
                  go_wp2_with fail
                  exact HP.out _ _ ⟨rfl, hw.sel [0] (by decide)⟩
          · have hwq : (wx2 == wx) = false := by simpa using hwx
            clear hwx
            have hh := Hh.out
            by_cases hf2 : d1.f0 = 2
            · obtain rfl := hh hf2
              clear hh
              go_wp2_with fail
              exact HP.out _ _ ⟨rfl, hw.sel [0] (by decide)⟩
            · have hfq : (d1.f0 == 2) = false := by simpa using hf2
              clear hh
              go_wp2_with fail
              exact HP.out _ _ ⟨rfl, hw.sel [0] (by decide)⟩
end Go.Proofs.Ytlngkjgoacelfaa
