/-
  CondOne: the walk.
-/
import Derived.Test.YtcefnihhlbeebaaCondAw
namespace Go.Proofs.Ytcefnihhlbeebaa
set_option linter.unusedSimpArgs false
set_option linter.unusedVariables false
open Go.RowKit Go.Sep Go.RingM

theorem drop_step {l : List Told} {k : Nat} {x : Told} (h : l[k]? = some x) : l.drop k = x :: l.drop (k + 1) := by
  obtain ⟨hk, rfl⟩ := List.getElem?_eq_some_iff.1 h
  exact List.drop_eq_getElem_cons hk
set_option maxRecDepth 20000 in
set_option maxHeartbeats 40000000 in
theorem cond_one_walk (e : World) (a0 : Option Addr) (cap0 : Nat) (l0 : List Deed) (hl0 : Hid (ActsAt e a0 l0)) (hlen0 : l0.length ≤ 9223372036854775807) :
    Calls Try.prog 4 #[.slice a0 l0.length cap0] e fun en w' => en = .returned (.bool true) ∧ Holds e w' [Old e] := by
  have hw := Holds.start e
  by_cases hlong : (100 : Int) < l0.length
  · refine Sep.calls_post ?_
    intro Post_ hPost_
    have HP := Sep.hid hPost_
    clear hPost_
    go_enter Try.func4, Try.ntmps4
    go_wp2_with fail
    refine (awake_calls e _ _ hw.focus0).mono ?_
    rintro en_ w_ ⟨rfl, hw_⟩
    clear hw; (try clear hc0); (try clear hc1); (try clear hc2); (try clear hc3); (try clear hc4); (try clear hc5); (try clear hc6); have hw := Holds.unfocus0 hw_; clear hw_
    (try simp only [List.map_cons, List.map_nil, List.getD_cons_zero, List.getD_cons_succ, List.getD_nil, List.set_cons_zero, List.set_cons_succ, List.cons_append, List.nil_append, Act.eval, Array.getD_eq_getD_getElem?, List.getElem?_toArray, List.getElem?_cons_succ, List.getElem?_cons_zero, Option.getD_some, Value.cells] at hw); (try simp (disch := first | (simp; done) | (simp; omega)) only [Sep.mid_set, Sep.mid_set2, Sep.mid_set0, Sep.mid_splice, Sep.mid_splice0, List.set_cons_zero, List.set_cons_succ] at hw); (try simp only [Sep.splice, List.take_succ_cons, List.take_zero, List.drop_succ_cons, List.drop_zero, List.length_cons, List.length_nil, Nat.reduceAdd, List.cons_append, List.nil_append] at hw)
    go_wp2_with fail
    exact HP.out _ _ ⟨rfl, hw⟩
  generalize hlen' : l0.length = len at *
  have Hlen := Sep.hid hlen'; clear hlen'
  have hlong2 : len ≤ 100 := by omega
  refine Sep.calls_post ?_
  intro Post_ hPost_
  have HP := Sep.hid hPost_
  clear hPost_
  go_enter Try.func4, Try.ntmps4
  go_wp2_with fail
  refine (awake_calls e _ _ hw.focus0).mono ?_
  rintro en_ w_ ⟨rfl, hw_⟩
  clear hw; (try clear hc0); (try clear hc1); (try clear hc2); (try clear hc3); (try clear hc4); (try clear hc5); (try clear hc6); have hw := Holds.unfocus0 hw_; clear hw_
  (try simp only [List.map_cons, List.map_nil, List.getD_cons_zero, List.getD_cons_succ, List.getD_nil, List.set_cons_zero, List.set_cons_succ, List.cons_append, List.nil_append, Act.eval, Array.getD_eq_getD_getElem?, List.getElem?_toArray, List.getElem?_cons_succ, List.getElem?_cons_zero, Option.getD_some, Value.cells] at hw); (try simp (disch := first | (simp; done) | (simp; omega)) only [Sep.mid_set, Sep.mid_set2, Sep.mid_set0, Sep.mid_splice, Sep.mid_splice0, List.set_cons_zero, List.set_cons_succ] at hw); (try simp only [Sep.splice, List.take_succ_cons, List.take_zero, List.drop_succ_cons, List.drop_zero, List.length_cons, List.length_nil, Nat.reduceAdd, List.cons_append, List.nil_append] at hw)
  go_wp2_with fail
  refine (oNew_ok 20 (by decide) (by decide) e _ _ hw.focus0).mono ?_
  rintro en_ w_ ⟨p, rfl, hw_⟩
  clear hw; have hw := Holds.unfocus0 hw_; clear hw_
  (try simp only [List.map_cons, List.map_nil, List.getD_cons_zero, List.getD_cons_succ, List.getD_nil, List.set_cons_zero, List.set_cons_succ, List.cons_append, List.nil_append, Act.eval, Array.getD_eq_getD_getElem?, List.getElem?_toArray, List.getElem?_cons_succ, List.getElem?_cons_zero, Option.getD_some, Value.cells] at hw); (try simp (disch := first | (simp; done) | (simp; omega)) only [Sep.mid_set, Sep.mid_set2, Sep.mid_set0, Sep.mid_splice, Sep.mid_splice0, List.set_cons_zero, List.set_cons_succ] at hw); (try simp only [Sep.splice, List.take_succ_cons, List.take_zero, List.drop_succ_cons, List.drop_zero, List.length_cons, List.length_nil, Nat.reduceAdd, List.cons_append, List.nil_append] at hw)
  go_wp2_with fail
  refine (oNew_ok 20 (by decide) (by decide) e _ _ hw.focus0).mono ?_
  rintro en_ w_ ⟨p2, rfl, hw_⟩
  clear hw; have hw := Holds.unfocus0 hw_; clear hw_
  (try simp only [List.map_cons, List.map_nil, List.getD_cons_zero, List.getD_cons_succ, List.getD_nil, List.set_cons_zero, List.set_cons_succ, List.cons_append, List.nil_append, Act.eval, Array.getD_eq_getD_getElem?, List.getElem?_toArray, List.getElem?_cons_succ, List.getElem?_cons_zero, Option.getD_some, Value.cells] at hw); (try simp (disch := first | (simp; done) | (simp; omega)) only [Sep.mid_set, Sep.mid_set2, Sep.mid_set0, Sep.mid_splice, Sep.mid_splice0, List.set_cons_zero, List.set_cons_succ] at hw); (try simp only [Sep.splice, List.take_succ_cons, List.take_zero, List.drop_succ_cons, List.drop_zero, List.length_cons, List.length_nil, Nat.reduceAdd, List.cons_append, List.nil_append] at hw)
  go_wp2_with fail
  have Hw0 := Sep.hid hw; clear hw
  go_loopw [32] (fun i wr => ∃ (q : Nat) (M : CM), q ≤ len ∧ i = .int .i64 q ∧ Hid (M.n = 20) ∧ Holds e wr [Old e, IsCond p M, IsCond p2 M]) (fun i _ => len - (intOf i).toNat)
  case atStart => exact ⟨0, ⟨20, []⟩, Nat.zero_le _, rfl, Sep.hid rfl, Hw0.out⟩
  case round =>
    clear Hw0
    obtain ⟨q, M, hq, rfl, Hn, hw⟩ := hrel
    by_cases hlt : q < len
    · obtain ⟨d, hd⟩ : ∃ d, l0[q]? = some d := ⟨_, List.getElem?_eq_getElem (by rw [Hlen.out]; exact hlt)⟩
      obtain ⟨_, ad, rfl, hcell⟩ := hl0.out q d hd
      have Hcell := Sep.hid hcell; clear hcell hd
      go_wp2_with (first | ((with_reducible refine wpList_act (x := ?hx0x7) (y := ?hy0x7) (x1 := ?hx1x7) (x3 := ?hx3x7) (y3 := ?hy3x7) (cap := ?hcpx7) (vs := encA d) (q := q) (ad := ad) ti32 agg32 sl22 ?a1x7 ?a2x7 hlt hw (i := 0) ?a3x7 ?a4x7 ?a5x7 (encA_one d) Hcell.out ?b0x7 ?c0x7 ?b1x7 ?c1x7 ?d1x7 ?b2x7 ?c2x7 ?b3x7 ?c3x7 ?d3x7 ?f3x7 ?ggx7); (case b0x7 => rfl); (case b1x7 => rfl); (case b2x7 => rfl); (case b3x7 => rfl); (case a1x7 => rfl); (case a2x7 => rfl); (case a3x7 => rfl); (case a4x7 => rfl); (case a5x7 => rfl); (case c0x7 => rfl); (case c1x7 => rfl); (case d1x7 => rfl); (case c2x7 => rfl); (case c3x7 => (intro b; rfl)); (case d3x7 => (intro b; rfl)); (case f3x7 => (intro b; rfl)); intro bd w_ hw_; clear hw; have hw := hw_; clear hw_; (try simp only [List.map_cons, List.map_nil, List.getD_cons_zero, List.getD_cons_succ, List.getD_nil, List.set_cons_zero, List.set_cons_succ, List.cons_append, List.nil_append, Act.eval, Array.getD_eq_getD_getElem?, List.getElem?_toArray, List.getElem?_cons_succ, List.getElem?_cons_zero, Option.getD_some, Value.cells] at hw); (try simp (disch := first | (simp; done) | (simp; omega)) only [Sep.mid_set, Sep.mid_set2, Sep.mid_set0, Sep.mid_splice, Sep.mid_splice0, List.set_cons_zero, List.set_cons_succ] at hw); (try simp only [Sep.splice, List.take_succ_cons, List.take_zero, List.drop_succ_cons, List.drop_zero, List.length_cons, List.length_nil, Nat.reduceAdd, List.cons_append, List.nil_append] at hw); (try replace hc0 := Sep.Holds.cells hw (i := 0) rfl); (try replace hc1 := Sep.Holds.cells hw (i := 1) rfl); (try replace hc2 := Sep.Holds.cells hw (i := 2) rfl); (try replace hc3 := Sep.Holds.cells hw (i := 3) rfl); (try replace hc4 := Sep.Holds.cells hw (i := 4) rfl); (try replace hc5 := Sep.Holds.cells hw (i := 5) rfl); (try replace hc6 := Sep.Holds.cells hw (i := 6) rfl)) | (refine wpList_on rfl (wp_loadN (vs := encA d) rfl rfl hw (i := 3) rfl rfl (by intro j v hj; simpa using hj) ?_)))
      refine (do_calls p M d e _ _ (hw.focus1 1 rfl)).mono ?_
      rintro en_ w_ ⟨v, rfl, hw_⟩
      clear hw; (try clear hc0); (try clear hc1); (try clear hc2); (try clear hc3); (try clear hc4); (try clear hc5); (try clear hc6); have hw := Holds.unfocus1 1 (by simp) hw_; clear hw_
      (try simp only [List.map_cons, List.map_nil, List.getD_cons_zero, List.getD_cons_succ, List.getD_nil, List.set_cons_zero, List.set_cons_succ, List.cons_append, List.nil_append, Act.eval, Array.getD_eq_getD_getElem?, List.getElem?_toArray, List.getElem?_cons_succ, List.getElem?_cons_zero, Option.getD_some, Value.cells] at hw); (try simp (disch := first | (simp; done) | (simp; omega)) only [Sep.mid_set, Sep.mid_set2, Sep.mid_set0, Sep.mid_splice, Sep.mid_splice0, List.set_cons_zero, List.set_cons_succ] at hw); (try simp only [Sep.splice, List.take_succ_cons, List.take_zero, List.drop_succ_cons, List.drop_zero, List.length_cons, List.length_nil, Nat.reduceAdd, List.cons_append, List.nil_append] at hw)
      (try replace hc0 := Sep.Holds.cells hw (i := 0) rfl); (try replace hc1 := Sep.Holds.cells hw (i := 1) rfl); (try replace hc2 := Sep.Holds.cells hw (i := 2) rfl); (try replace hc3 := Sep.Holds.cells hw (i := 3) rfl); (try replace hc4 := Sep.Holds.cells hw (i := 4) rfl); (try replace hc5 := Sep.Holds.cells hw (i := 5) rfl); (try replace hc6 := Sep.Holds.cells hw (i := 6) rfl)
      go_wp2_with (first | (refine wpList_on rfl (wp_loadN (vs := encA d) rfl rfl hw (i := 3) rfl rfl (by intro j v hj; simpa using hj) ?_)))
      refine (do_calls p2 M d e _ _ (hw.focus1 2 rfl)).mono ?_
      rintro en_ w_ ⟨v2, rfl, hw_⟩
      clear hw; (try clear hc0); (try clear hc1); (try clear hc2); (try clear hc3); (try clear hc4); (try clear hc5); (try clear hc6); have hw := Holds.unfocus1 2 (by simp) hw_; clear hw_
      (try simp only [List.map_cons, List.map_nil, List.getD_cons_zero, List.getD_cons_succ, List.getD_nil, List.set_cons_zero, List.set_cons_succ, List.cons_append, List.nil_append, Act.eval, Array.getD_eq_getD_getElem?, List.getElem?_toArray, List.getElem?_cons_succ, List.getElem?_cons_zero, Option.getD_some, Value.cells] at hw); (try simp (disch := first | (simp; done) | (simp; omega)) only [Sep.mid_set, Sep.mid_set2, Sep.mid_set0, Sep.mid_splice, Sep.mid_splice0, List.set_cons_zero, List.set_cons_succ] at hw); (try simp only [Sep.splice, List.take_succ_cons, List.take_zero, List.drop_succ_cons, List.drop_zero, List.length_cons, List.length_nil, Nat.reduceAdd, List.cons_append, List.nil_append] at hw)
      go_wp2_with fail
      go_roundw
      case rel => exact ⟨q + 1, _, by omega, by go_num, Sep.hid ((act_n M d).trans Hn.out), hw.sel [0, 1, 2] (by decide)⟩
      case measure => simp [intOf]; omega
    · have Hok := Sep.hid (cond_ok (i := 1) rfl hw)
      have Hml : Hid (M.w.length ≤ 20) := Sep.hid (by have h1 := Hok.out.2.2; rw [Hn.out] at h1; omega)
      go_wp2_with fail
      refine (oWaiting p M e _ _ (hw.focus1 1 rfl)).mono ?_
      rintro en_ w_ ⟨v, rfl, hw_⟩
      clear hw; (try clear hc0); (try clear hc1); (try clear hc2); (try clear hc3); (try clear hc4); (try clear hc5); (try clear hc6); have hw := Holds.unfocus1 1 (by simp) hw_; clear hw_
      (try simp only [List.map_cons, List.map_nil, List.getD_cons_zero, List.getD_cons_succ, List.getD_nil, List.set_cons_zero, List.set_cons_succ, List.cons_append, List.nil_append, Act.eval, Array.getD_eq_getD_getElem?, List.getElem?_toArray, List.getElem?_cons_succ, List.getElem?_cons_zero, Option.getD_some, Value.cells] at hw); (try simp (disch := first | (simp; done) | (simp; omega)) only [Sep.mid_set, Sep.mid_set2, Sep.mid_set0, Sep.mid_splice, Sep.mid_splice0, List.set_cons_zero, List.set_cons_succ] at hw); (try simp only [Sep.splice, List.take_succ_cons, List.take_zero, List.drop_succ_cons, List.drop_zero, List.length_cons, List.length_nil, Nat.reduceAdd, List.cons_append, List.nil_append] at hw)
      go_wp2_with fail
      refine (own_calls _ M.w (by have := Hml.out; omega) e _ _ (hw.focus1 3 rfl)).mono ?_
      rintro en_ w_ ⟨row, rfl, hw_⟩
      clear hw; (try clear hc0); (try clear hc1); (try clear hc2); (try clear hc3); (try clear hc4); (try clear hc5); (try clear hc6); have hw := Holds.unfocus1 3 (by simp) hw_; clear hw_
      (try simp only [List.map_cons, List.map_nil, List.getD_cons_zero, List.getD_cons_succ, List.getD_nil, List.set_cons_zero, List.set_cons_succ, List.cons_append, List.nil_append, Act.eval, Array.getD_eq_getD_getElem?, List.getElem?_toArray, List.getElem?_cons_succ, List.getElem?_cons_zero, Option.getD_some, Value.cells] at hw); (try simp (disch := first | (simp; done) | (simp; omega)) only [Sep.mid_set, Sep.mid_set2, Sep.mid_set0, Sep.mid_splice, Sep.mid_splice0, List.set_cons_zero, List.set_cons_succ] at hw); (try simp only [Sep.splice, List.take_succ_cons, List.take_zero, List.drop_succ_cons, List.drop_zero, List.length_cons, List.length_nil, Nat.reduceAdd, List.cons_append, List.nil_append] at hw)
      obtain ⟨n', hn'⟩ : ∃ n', M.w.length = n' := ⟨_, rfl⟩
      have hw : Holds e w_ [Old e, IsCond p M, IsCond p2 M, IsTolds 50 v M.w, Sl 40 2 row n' (encT M.w)] := by
        have h2 : IsTolds 40 row M.w = Sl 40 2 row n' (encT M.w) := by unfold IsTolds; rw [hn']
        rw [← h2]; exact hw
      have hn20 : n' ≤ 20 := by rw [← hn']; exact Hml.out
      have Hn' := Sep.hid hn'; clear hn'
      obtain ⟨ra, rc, rfl⟩ := Sl.value (i := 4) rfl hw
      go_wp2_with (refine wpList_on rfl (wp_bsl0 rfl hw ?_); intro b_ w_ hw_; replace hw_ := hw_.newSl (i := 5) rfl 2 0 rfl (by decide); clear hw; have hw := hw_; clear hw_; (try simp only [List.map_cons, List.map_nil, List.getD_cons_zero, List.getD_cons_succ, List.getD_nil, List.set_cons_zero, List.set_cons_succ, List.cons_append, List.nil_append, Act.eval, Array.getD_eq_getD_getElem?, List.getElem?_toArray, List.getElem?_cons_succ, List.getElem?_cons_zero, Option.getD_some, Value.cells] at hw); (try simp (disch := first | (simp; done) | (simp; omega)) only [Sep.mid_set, Sep.mid_set2, Sep.mid_set0, Sep.mid_splice, Sep.mid_splice0, List.set_cons_zero, List.set_cons_succ] at hw); (try simp only [Sep.splice, List.take_succ_cons, List.take_zero, List.drop_succ_cons, List.drop_zero, List.length_cons, List.length_nil, Nat.reduceAdd, List.cons_append, List.nil_append] at hw); (try replace hc0 := Sep.Holds.cells hw (i := 0) rfl); (try replace hc1 := Sep.Holds.cells hw (i := 1) rfl); (try replace hc2 := Sep.Holds.cells hw (i := 2) rfl); (try replace hc3 := Sep.Holds.cells hw (i := 3) rfl); (try replace hc4 := Sep.Holds.cells hw (i := 4) rfl); (try replace hc5 := Sep.Holds.cells hw (i := 5) rfl); (try replace hc6 := Sep.Holds.cells hw (i := 6) rfl))
      have hw := hw.sel [0, 1, 2, 4, 5] (by decide)
      (try simp only [List.map_cons, List.map_nil, List.getD_cons_zero, List.getD_cons_succ, List.getD_nil, List.set_cons_zero, List.set_cons_succ, List.cons_append, List.nil_append, Act.eval, Array.getD_eq_getD_getElem?, List.getElem?_toArray, List.getElem?_cons_succ, List.getElem?_cons_zero, Option.getD_some, Value.cells] at hw); (try simp (disch := first | (simp; done) | (simp; omega)) only [Sep.mid_set, Sep.mid_set2, Sep.mid_set0, Sep.mid_splice, Sep.mid_splice0, List.set_cons_zero, List.set_cons_succ] at hw); (try simp only [Sep.splice, List.take_succ_cons, List.take_zero, List.drop_succ_cons, List.drop_zero, List.length_cons, List.length_nil, Nat.reduceAdd, List.cons_append, List.nil_append] at hw)
      have Hw0 := Sep.hid hw; clear hw; (try clear hc0); (try clear hc1); (try clear hc2); (try clear hc3); (try clear hc4); (try clear hc5); (try clear hc6)
      go_loopw [49, 10] (fun i o wr => ∃ (k : Nat) (c : List Told), k ≤ n' ∧ i = .int .i64 k ∧ Hid (c = M.w.take k) ∧ Hid (c.length = k) ∧ Holds e wr [Old e, IsCond p { M with w := M.w.drop k }, IsCond p2 M, Sl 40 2 (.slice ra n' rc) n' (encT M.w), Sl 40 2 o k (encT c)]) (fun i _ _ => n' - (intOf i).toNat)
      case atStart => exact ⟨0, [], Nat.zero_le _, rfl, Sep.hid rfl, Sep.hid rfl, Hw0.out⟩
      case round =>
        clear Hw0
        obtain ⟨k, c, hk, rfl, Hc, Hck, hw⟩ := hrel
        obtain ⟨oa, oc, rfl⟩ := Sl.value (i := 4) rfl hw
        by_cases hlt : k < n'
        · obtain ⟨x, hx⟩ : ∃ x, M.w[k]? = some x := ⟨_, List.getElem?_eq_getElem (by rw [Hn'.out]; exact hlt)⟩
          have Hx := Sep.hid hx; clear hx
          have Hs : Hid (CM.signal { M with w := M.w.drop k } = ([x], { M with w := M.w.drop (k + 1) })) := Sep.hid (by unfold CM.signal; rw [drop_step Hx.out]; rfl)
          have hsg := fun w X hw => oSignal p { M with w := M.w.drop k } e w X hw
          simp only [Hs.out] at hsg
          go_wp2_with fail
          refine (hsg _ _ (hw.focus1 1 rfl)).mono ?_
          rintro en_ w_ ⟨v3, rfl, hw_⟩
          clear hw hsg; (try clear hc0); (try clear hc1); (try clear hc2); (try clear hc3); (try clear hc4); (try clear hc5); (try clear hc6); have hw := Holds.unfocus1 1 (by simp) hw_; clear hw_
          (try simp only [List.map_cons, List.map_nil, List.getD_cons_zero, List.getD_cons_succ, List.getD_nil, List.set_cons_zero, List.set_cons_succ, List.cons_append, List.nil_append, Act.eval, Array.getD_eq_getD_getElem?, List.getElem?_toArray, List.getElem?_cons_succ, List.getElem?_cons_zero, Option.getD_some, Value.cells] at hw); (try simp (disch := first | (simp; done) | (simp; omega)) only [Sep.mid_set, Sep.mid_set2, Sep.mid_set0, Sep.mid_splice, Sep.mid_splice0, List.set_cons_zero, List.set_cons_succ] at hw); (try simp only [Sep.splice, List.take_succ_cons, List.take_zero, List.drop_succ_cons, List.drop_zero, List.length_cons, List.length_nil, Nat.reduceAdd, List.cons_append, List.nil_append] at hw)
          go_wp2_with fail
          refine (own_calls _ [x] (by simp) e _ _ (hw.focus1 5 rfl)).mono ?_
          rintro en_ w_ ⟨v4, rfl, hw_⟩
          clear hw; (try clear hc0); (try clear hc1); (try clear hc2); (try clear hc3); (try clear hc4); (try clear hc5); (try clear hc6); have hw := Holds.unfocus1 5 (by simp) hw_; clear hw_
          (try simp only [List.map_cons, List.map_nil, List.getD_cons_zero, List.getD_cons_succ, List.getD_nil, List.set_cons_zero, List.set_cons_succ, List.cons_append, List.nil_append, Act.eval, Array.getD_eq_getD_getElem?, List.getElem?_toArray, List.getElem?_cons_succ, List.getElem?_cons_zero, Option.getD_some, Value.cells] at hw); (try simp (disch := first | (simp; done) | (simp; omega)) only [Sep.mid_set, Sep.mid_set2, Sep.mid_set0, Sep.mid_splice, Sep.mid_splice0, List.set_cons_zero, List.set_cons_succ] at hw); (try simp only [Sep.splice, List.take_succ_cons, List.take_zero, List.drop_succ_cons, List.drop_zero, List.length_cons, List.length_nil, Nat.reduceAdd, List.cons_append, List.nil_append] at hw)
          have hw : Holds e w_ [Old e, IsCond p { M with w := M.w.drop (k + 1) }, IsCond p2 M, Sl 40 2 (.slice ra n' rc) n' (encT M.w), Sl 40 2 (.slice oa k oc) k (encT c), IsTolds 50 v3 [x], Sl 40 2 v4 1 (encT [x])] := hw
          go_wp2_with (first | (at_builtin; refine wpList_on rfl (wp_appendSl (i := 4) (j := 6) (u := v4) rfl rfl hw rfl rfl rfl (encT_one _) (by rfl) (by (try unfold maxLen); omega) (by (try unfold maxLen); omega) ?_); intro a2_ cap2_ w_ hw_; (try simp only [Nat.zero_add, List.nil_append] at hw_); clear hw; have hw := hw_; clear hw_; (try simp only [List.map_cons, List.map_nil, List.getD_cons_zero, List.getD_cons_succ, List.getD_nil, List.set_cons_zero, List.set_cons_succ, List.cons_append, List.nil_append, Act.eval, Array.getD_eq_getD_getElem?, List.getElem?_toArray, List.getElem?_cons_succ, List.getElem?_cons_zero, Option.getD_some, Value.cells] at hw); (try simp (disch := first | (simp; done) | (simp; omega)) only [Sep.mid_set, Sep.mid_set2, Sep.mid_set0, Sep.mid_splice, Sep.mid_splice0, List.set_cons_zero, List.set_cons_succ] at hw); (try simp only [Sep.splice, List.take_succ_cons, List.take_zero, List.drop_succ_cons, List.drop_zero, List.length_cons, List.length_nil, Nat.reduceAdd, List.cons_append, List.nil_append] at hw); (try replace hc0 := Sep.Holds.cells hw (i := 0) rfl); (try replace hc1 := Sep.Holds.cells hw (i := 1) rfl); (try replace hc2 := Sep.Holds.cells hw (i := 2) rfl); (try replace hc3 := Sep.Holds.cells hw (i := 3) rfl); (try replace hc4 := Sep.Holds.cells hw (i := 4) rfl); (try replace hc5 := Sep.Holds.cells hw (i := 5) rfl); (try replace hc6 := Sep.Holds.cells hw (i := 6) rfl)))
          go_roundw
          case rel =>
            refine ⟨k + 1, c ++ [x], by omega, by go_num, Sep.hid (by rw [takeT Hx.out, ← Hc.out]), Sep.hid (by rw [List.length_append, Hck.out]; rfl), ?_⟩
            rw [encT_append]
            exact hw.sel [0, 1, 2, 3, 4] (by decide)
          case measure => simp [intOf]; omega
        · have hke : n' = k := by omega
          subst hke
          have Hcw : Hid (c = M.w) := Sep.hid (by rw [Hc.out, List.take_of_length_le (by rw [Hn'.out]; omega)])
          have Hdr : Hid (M.w.drop n' = []) := Sep.hid (List.drop_eq_nil_of_le (by rw [Hn'.out]; omega))
          rw [Hcw.out, Hdr.out] at hw
          have hT : ∀ v, Sl 40 2 v n' (encT M.w) = IsTolds 40 v M.w := fun v => by unfold IsTolds; rw [Hn'.out]
          rw [hT, hT] at hw
          clear hT Hc Hck
          go_wp2_with fail
          refine (same_tolds _ _ M.w M.w (by have := Hml.out; omega) e _ _ (hw.focus2 4 3 rfl rfl (by decide))).mono ?_
          rintro en_ w_ ⟨he_, hw_⟩
          rw [decide_eq_true rfl] at he_; subst he_
          clear hw; (try clear hc0); (try clear hc1); (try clear hc2); (try clear hc3); (try clear hc4); (try clear hc5); (try clear hc6); have hw := Holds.unfocus2 4 3 (by simp) (by simp) (by decide) hw_; clear hw_
          (try simp only [List.map_cons, List.map_nil, List.getD_cons_zero, List.getD_cons_succ, List.getD_nil, List.set_cons_zero, List.set_cons_succ, List.cons_append, List.nil_append, Act.eval, Array.getD_eq_getD_getElem?, List.getElem?_toArray, List.getElem?_cons_succ, List.getElem?_cons_zero, Option.getD_some, Value.cells] at hw); (try simp (disch := first | (simp; done) | (simp; omega)) only [Sep.mid_set, Sep.mid_set2, Sep.mid_set0, Sep.mid_splice, Sep.mid_splice0, List.set_cons_zero, List.set_cons_succ] at hw); (try simp only [Sep.splice, List.take_succ_cons, List.take_zero, List.drop_succ_cons, List.drop_zero, List.length_cons, List.length_nil, Nat.reduceAdd, List.cons_append, List.nil_append] at hw)
          go_wp2_with fail
          refine (oBroadcast p2 M e _ _ (hw.focus1 2 rfl)).mono ?_
          rintro en_ w_ ⟨v5, rfl, hw_⟩
          clear hw; (try clear hc0); (try clear hc1); (try clear hc2); (try clear hc3); (try clear hc4); (try clear hc5); (try clear hc6); have hw := Holds.unfocus1 2 (by simp) hw_; clear hw_
          (try simp only [List.map_cons, List.map_nil, List.getD_cons_zero, List.getD_cons_succ, List.getD_nil, List.set_cons_zero, List.set_cons_succ, List.cons_append, List.nil_append, Act.eval, Array.getD_eq_getD_getElem?, List.getElem?_toArray, List.getElem?_cons_succ, List.getElem?_cons_zero, Option.getD_some, Value.cells] at hw); (try simp (disch := first | (simp; done) | (simp; omega)) only [Sep.mid_set, Sep.mid_set2, Sep.mid_set0, Sep.mid_splice, Sep.mid_splice0, List.set_cons_zero, List.set_cons_succ] at hw); (try simp only [Sep.splice, List.take_succ_cons, List.take_zero, List.drop_succ_cons, List.drop_zero, List.length_cons, List.length_nil, Nat.reduceAdd, List.cons_append, List.nil_append] at hw)
          go_wp2_with fail
          refine (own_calls _ M.w (by have := Hml.out; omega) e _ _ (hw.focus1 5 rfl)).mono ?_
          rintro en_ w_ ⟨v6, rfl, hw_⟩
          clear hw; (try clear hc0); (try clear hc1); (try clear hc2); (try clear hc3); (try clear hc4); (try clear hc5); (try clear hc6); have hw := Holds.unfocus1 5 (by simp) hw_; clear hw_
          (try simp only [List.map_cons, List.map_nil, List.getD_cons_zero, List.getD_cons_succ, List.getD_nil, List.set_cons_zero, List.set_cons_succ, List.cons_append, List.nil_append, Act.eval, Array.getD_eq_getD_getElem?, List.getElem?_toArray, List.getElem?_cons_succ, List.getElem?_cons_zero, Option.getD_some, Value.cells] at hw); (try simp (disch := first | (simp; done) | (simp; omega)) only [Sep.mid_set, Sep.mid_set2, Sep.mid_set0, Sep.mid_splice, Sep.mid_splice0, List.set_cons_zero, List.set_cons_succ] at hw); (try simp only [Sep.splice, List.take_succ_cons, List.take_zero, List.drop_succ_cons, List.drop_zero, List.length_cons, List.length_nil, Nat.reduceAdd, List.cons_append, List.nil_append] at hw)
          go_wp2_with fail
          refine (same_tolds _ _ M.w M.w (by have := Hml.out; omega) e _ _ (hw.focus2 6 3 rfl rfl (by decide))).mono ?_
          rintro en_ w_ ⟨he_, hw_⟩
          rw [decide_eq_true rfl] at he_; subst he_
          clear hw; (try clear hc0); (try clear hc1); (try clear hc2); (try clear hc3); (try clear hc4); (try clear hc5); (try clear hc6); have hw := Holds.unfocus2 6 3 (by simp) (by simp) (by decide) hw_; clear hw_
          (try simp only [List.map_cons, List.map_nil, List.getD_cons_zero, List.getD_cons_succ, List.getD_nil, List.set_cons_zero, List.set_cons_succ, List.cons_append, List.nil_append, Act.eval, Array.getD_eq_getD_getElem?, List.getElem?_toArray, List.getElem?_cons_succ, List.getElem?_cons_zero, Option.getD_some, Value.cells] at hw); (try simp (disch := first | (simp; done) | (simp; omega)) only [Sep.mid_set, Sep.mid_set2, Sep.mid_set0, Sep.mid_splice, Sep.mid_splice0, List.set_cons_zero, List.set_cons_succ] at hw); (try simp only [Sep.splice, List.take_succ_cons, List.take_zero, List.drop_succ_cons, List.drop_zero, List.length_cons, List.length_nil, Nat.reduceAdd, List.cons_append, List.nil_append] at hw)
          go_wp2_with fail
          refine (oSignal p { M with w := [] } e _ _ (hw.focus1 1 rfl)).mono ?_
          rintro en_ w_ ⟨v, rfl, hw_⟩
          clear hw; (try clear hc0); (try clear hc1); (try clear hc2); (try clear hc3); (try clear hc4); (try clear hc5); (try clear hc6); have hw := Holds.unfocus1 1 (by simp) hw_; clear hw_
          (try simp only [List.map_cons, List.map_nil, List.getD_cons_zero, List.getD_cons_succ, List.getD_nil, List.set_cons_zero, List.set_cons_succ, List.cons_append, List.nil_append, Act.eval, Array.getD_eq_getD_getElem?, List.getElem?_toArray, List.getElem?_cons_succ, List.getElem?_cons_zero, Option.getD_some, Value.cells] at hw); (try simp (disch := first | (simp; done) | (simp; omega)) only [Sep.mid_set, Sep.mid_set2, Sep.mid_set0, Sep.mid_splice, Sep.mid_splice0, List.set_cons_zero, List.set_cons_succ] at hw); (try simp only [Sep.splice, List.take_succ_cons, List.take_zero, List.drop_succ_cons, List.drop_zero, List.length_cons, List.length_nil, Nat.reduceAdd, List.cons_append, List.nil_append] at hw)
          obtain ⟨zv1, zc1, rfl⟩ := Sl.value (n := 0) (i := 7) (T := 50) (sz := 2) (cs := []) rfl hw
          go_wp2_with fail
          refine (oBroadcast p2 { M with w := [] } e _ _ (hw.focus1 2 rfl)).mono ?_
          rintro en_ w_ ⟨v, rfl, hw_⟩
          clear hw; (try clear hc0); (try clear hc1); (try clear hc2); (try clear hc3); (try clear hc4); (try clear hc5); (try clear hc6); have hw := Holds.unfocus1 2 (by simp) hw_; clear hw_
          (try simp only [List.map_cons, List.map_nil, List.getD_cons_zero, List.getD_cons_succ, List.getD_nil, List.set_cons_zero, List.set_cons_succ, List.cons_append, List.nil_append, Act.eval, Array.getD_eq_getD_getElem?, List.getElem?_toArray, List.getElem?_cons_succ, List.getElem?_cons_zero, Option.getD_some, Value.cells] at hw); (try simp (disch := first | (simp; done) | (simp; omega)) only [Sep.mid_set, Sep.mid_set2, Sep.mid_set0, Sep.mid_splice, Sep.mid_splice0, List.set_cons_zero, List.set_cons_succ] at hw); (try simp only [Sep.splice, List.take_succ_cons, List.take_zero, List.drop_succ_cons, List.drop_zero, List.length_cons, List.length_nil, Nat.reduceAdd, List.cons_append, List.nil_append] at hw)
          obtain ⟨zv2, zc2, rfl⟩ := Sl.value (n := 0) (i := 8) (T := 50) (sz := 2) (cs := []) rfl hw
          go_wp2_with fail
          refine (oWaiting p { M with w := [] } e _ _ (hw.focus1 1 rfl)).mono ?_
          rintro en_ w_ ⟨v, rfl, hw_⟩
          clear hw; (try clear hc0); (try clear hc1); (try clear hc2); (try clear hc3); (try clear hc4); (try clear hc5); (try clear hc6); have hw := Holds.unfocus1 1 (by simp) hw_; clear hw_
          (try simp only [List.map_cons, List.map_nil, List.getD_cons_zero, List.getD_cons_succ, List.getD_nil, List.set_cons_zero, List.set_cons_succ, List.cons_append, List.nil_append, Act.eval, Array.getD_eq_getD_getElem?, List.getElem?_toArray, List.getElem?_cons_succ, List.getElem?_cons_zero, Option.getD_some, Value.cells] at hw); (try simp (disch := first | (simp; done) | (simp; omega)) only [Sep.mid_set, Sep.mid_set2, Sep.mid_set0, Sep.mid_splice, Sep.mid_splice0, List.set_cons_zero, List.set_cons_succ] at hw); (try simp only [Sep.splice, List.take_succ_cons, List.take_zero, List.drop_succ_cons, List.drop_zero, List.length_cons, List.length_nil, Nat.reduceAdd, List.cons_append, List.nil_append] at hw)
          obtain ⟨zv3, zc3, rfl⟩ := Sl.value (n := 0) (i := 9) (T := 50) (sz := 2) (cs := []) rfl hw
          go_wp2_with fail
          refine (oWaiting p2 { M with w := [] } e _ _ (hw.focus1 2 rfl)).mono ?_
          rintro en_ w_ ⟨v, rfl, hw_⟩
          clear hw; (try clear hc0); (try clear hc1); (try clear hc2); (try clear hc3); (try clear hc4); (try clear hc5); (try clear hc6); have hw := Holds.unfocus1 2 (by simp) hw_; clear hw_
          (try simp only [List.map_cons, List.map_nil, List.getD_cons_zero, List.getD_cons_succ, List.getD_nil, List.set_cons_zero, List.set_cons_succ, List.cons_append, List.nil_append, Act.eval, Array.getD_eq_getD_getElem?, List.getElem?_toArray, List.getElem?_cons_succ, List.getElem?_cons_zero, Option.getD_some, Value.cells] at hw); (try simp (disch := first | (simp; done) | (simp; omega)) only [Sep.mid_set, Sep.mid_set2, Sep.mid_set0, Sep.mid_splice, Sep.mid_splice0, List.set_cons_zero, List.set_cons_succ] at hw); (try simp only [Sep.splice, List.take_succ_cons, List.take_zero, List.drop_succ_cons, List.drop_zero, List.length_cons, List.length_nil, Nat.reduceAdd, List.cons_append, List.nil_append] at hw)
          obtain ⟨zv4, zc4, rfl⟩ := Sl.value (n := 0) (i := 10) (T := 50) (sz := 2) (cs := []) rfl hw
          go_wp2_with fail
          exact HP.out _ _ ⟨rfl, hw.sel [0] (by decide)⟩
end Go.Proofs.Ytcefnihhlbeebaa
