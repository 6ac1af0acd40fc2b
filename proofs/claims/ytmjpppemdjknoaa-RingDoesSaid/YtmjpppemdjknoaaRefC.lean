/-
  The document's own arena: Drop, Take, Move; an act on it.
-/
import Derived.Test.YtmjpppemdjknoaaRefB
namespace Go.Proofs.Ytmjpppemdjknoaa
set_option linter.unusedSimpArgs false
set_option linter.unusedVariables false
open Go.RowKit Go.Sep Go.RingM

set_option maxHeartbeats 4000000 in
theorem fDrop (p : Nat) (R : Ring) (hW : R.Wf) (hb : R.n ≤ 1000 ∧ R.rows.length ≤ 1000) (t : Int) (e w : World) (X : HProp) (hw : Holds e w [X, IsRA p R]) :
    Calls Try.prog 26 #[.pointer (some ⟨p, 0, none⟩), .int .i64 t] w fun en w' => en = .returned (.bool (!decide (R.in_ t = -1))) ∧ Holds e w' [X, IsRA p (R.drop t)] := by
  have HW := Sep.hid hW; have Hb := Sep.hid hb; clear hW hb
  have Hw0 := Sep.hid hw
  rcases Ring.in_cases HW.out t with hi | ⟨k, x, l1, l2, rfl, hxn, hi, hkr, hrow⟩
  · have hd : R.drop t = R := Ring.drop_no hi
    have he : (!decide (R.in_ t = -1)) = false := by rw [decide_eq_true hi]; rfl
    rw [hd, he]; clear hd he
    have Hi := Sep.hid hi; clear hi
    refine Sep.calls_post ?_
    intro Post_ hPost_
    have HP := Sep.hid hPost_
    clear hPost_
    go_enter Try.func26, Try.ntmps26
    go_wp2_with fail
    refine (fIn p R HW.out Hb.out t e _ _ Hw0.out).mono ?_
    rintro _ w_ ⟨rfl, rfl⟩
    rw [Hi.out]
    go_wp2_with fail
    exact HP.out _ _ ⟨rfl, Hw0.out⟩
  · obtain ⟨l, hl⟩ : ∃ l, l1 ++ x :: l2 = l := ⟨_, rfl⟩
    rw [hl] at hrow
    have hne : ¬ R.in_ (x : Int) = -1 := by rw [hi]; omega
    have he : (!decide (R.in_ (x : Int) = -1)) = true := by rw [decide_eq_false hne]; rfl
    have hd : R.drop (x : Int) = R.setRow k (l.filter (fun y => decide (y ≠ x))) := by
      unfold Ring.drop
      rw [if_neg hne, hi, Ring.row_of hrow]; simp
    rw [he, hd]; clear he hd hne hl
    have Hi := Sep.hid hi; clear hi
    have hll := row_len HW.out Hb.out.1 hrow
    have hrow' := hrow
    obtain ⟨⟨b, vs⟩, hw⟩ := exL.open_ hw
    have hw := hw.open_ 1 rfl
    (try simp only [List.map_cons, List.map_nil, List.getD_cons_zero, List.getD_cons_succ, List.getD_nil, List.set_cons_zero, List.set_cons_succ, List.cons_append, List.nil_append, Act.eval, Array.getD_eq_getD_getElem?, List.getElem?_toArray, List.getElem?_cons_succ, List.getElem?_cons_zero, Option.getD_some, Value.cells] at hw); (try simp (disch := first | (simp; done) | (simp; omega)) only [Sep.mid_set, Sep.mid_set2, Sep.mid_set0, Sep.mid_splice, Sep.mid_splice0, List.set_cons_zero, List.set_cons_succ] at hw); (try simp only [Sep.splice, List.take_succ_cons, List.take_zero, List.drop_succ_cons, List.drop_zero, List.length_cons, List.length_nil, Nat.reduceAdd, List.cons_append, List.nil_append] at hw)
    obtain ⟨a, c, hv, hvl, hw4⟩ := ra_pick (p := p) (R := R) (x := ⟨b, vs⟩) hrow' hw
    clear hw; have hw := hw4; clear hw4
    obtain ⟨m, hm⟩ : ∃ m, R.rows.length = m := ⟨_, rfl⟩
    have hkm : k < m := by rw [← hm]; exact (List.getElem?_eq_some_iff.1 hrow').1
    obtain ⟨nl, hnl⟩ : ∃ n, l.length = n := ⟨_, rfl⟩
    rw [hm] at hw
    rw [hnl] at hw hv
    have Hvl := Sep.hid hvl
    have Hm := Sep.hid hm; have Hnl := Sep.hid hnl
    have Hkv : Hid (k < vs.length) := Sep.hid (by rw [hvl, hm]; exact hkm)
    clear hm hnl hvl
    clear hrow'
    rw [Hnl.out] at hll
    have HL : Hid ((ints l).length = nl) := Sep.hid (by rw [ints_length]; exact Hnl.out)
    clear hrow hkr
    (try replace hc0 := Sep.Holds.cells hw (i := 0) rfl); (try replace hc1 := Sep.Holds.cells hw (i := 1) rfl); (try replace hc2 := Sep.Holds.cells hw (i := 2) rfl); (try replace hc3 := Sep.Holds.cells hw (i := 3) rfl); (try replace hc4 := Sep.Holds.cells hw (i := 4) rfl); (try replace hc5 := Sep.Holds.cells hw (i := 5) rfl); (try replace hc6 := Sep.Holds.cells hw (i := 6) rfl)
    refine Sep.calls_post ?_
    intro Post_ hPost_
    have HP := Sep.hid hPost_
    clear hPost_
    go_enter Try.func26, Try.ntmps26
    go_wp2_with fail
    refine (fIn p R HW.out Hb.out x e _ _ Hw0.out).mono ?_
    rintro _ w_ ⟨rfl, rfl⟩
    rw [Hi.out]
    go_wp2_with (refine wpList_on rfl (wp_bsl0 rfl hw ?_); intro b_ w_ hw_; replace hw_ := hw_.newSl (i := 5) rfl 1 0 rfl (by decide); clear hw; have hw := hw_; clear hw_; (try simp only [List.map_cons, List.map_nil, List.getD_cons_zero, List.getD_cons_succ, List.getD_nil, List.set_cons_zero, List.set_cons_succ, List.cons_append, List.nil_append, Act.eval, Array.getD_eq_getD_getElem?, List.getElem?_toArray, List.getElem?_cons_succ, List.getElem?_cons_zero, Option.getD_some, Value.cells] at hw); (try simp (disch := first | (simp; done) | (simp; omega)) only [Sep.mid_set, Sep.mid_set2, Sep.mid_set0, Sep.mid_splice, Sep.mid_splice0, List.set_cons_zero, List.set_cons_succ] at hw); (try simp only [Sep.splice, List.take_succ_cons, List.take_zero, List.drop_succ_cons, List.drop_zero, List.length_cons, List.length_nil, Nat.reduceAdd, List.cons_append, List.nil_append] at hw); (try replace hc0 := Sep.Holds.cells hw (i := 0) rfl); (try replace hc1 := Sep.Holds.cells hw (i := 1) rfl); (try replace hc2 := Sep.Holds.cells hw (i := 2) rfl); (try replace hc3 := Sep.Holds.cells hw (i := 3) rfl); (try replace hc4 := Sep.Holds.cells hw (i := 4) rfl); (try replace hc5 := Sep.Holds.cells hw (i := 5) rfl); (try replace hc6 := Sep.Holds.cells hw (i := 6) rfl))
    have Hw1 := Sep.hid hw; clear hw; (try clear hc0); (try clear hc1); (try clear hc2); (try clear hc3); (try clear hc4); (try clear hc5); (try clear hc6)
    go_loopw [6, 7] (fun ov i wr => ∃ (q : Nat) (o : List Int), q ≤ nl ∧ i = .int .i64 q ∧ o = without ((ints l).take q) x ∧ o.length ≤ q ∧ Holds e wr [X, pt p [.slice (some ⟨b, 0, none⟩) m m, .int .i64 (R.n : Int)] 57, pt b vs 38, sepL ((rowsOf vs R.rows).set k emp), Sl 3 1 (.slice a nl c) nl (encI (ints l)), Sl 3 1 ov o.length (encI o)]) (fun _ i _ => nl - (intOf i).toNat)
    case atStart => exact ⟨0, [], Nat.zero_le _, rfl, rfl, Nat.le_refl _, Hw1.out⟩
    case round =>
      clear Hw1
      obtain ⟨q, o, hq, rfl, ho, hol, hw⟩ := hrel
      have Ho := Sep.hid ho; clear ho
      obtain ⟨oa, oc, rfl⟩ := Sl.value (i := 5) rfl hw
      (try replace hc0 := Sep.Holds.cells hw (i := 0) rfl); (try replace hc1 := Sep.Holds.cells hw (i := 1) rfl); (try replace hc2 := Sep.Holds.cells hw (i := 2) rfl); (try replace hc3 := Sep.Holds.cells hw (i := 3) rfl); (try replace hc4 := Sep.Holds.cells hw (i := 4) rfl); (try replace hc5 := Sep.Holds.cells hw (i := 5) rfl); (try replace hc6 := Sep.Holds.cells hw (i := 6) rfl)
      by_cases hql : q < nl
      · obtain ⟨y, hy⟩ : ∃ y, (ints l)[q]? = some y := ⟨_, List.getElem?_eq_getElem (by rw [HL.out]; exact hql)⟩
        obtain ⟨bo, oo, rfl, go⟩ := num_at (i := 4) hw rfl hy
        have Hy := Sep.hid hy; clear hy
        by_cases hyt : y = (x : Int)
        · have Hyt := Sep.hid hyt
          have hyq : (y != (x : Int)) = false := by simpa using hyt
          clear hyt
          go_wp2_with fail
          go_roundw
          case rel => exact ⟨q + 1, o, by omega, by go_num, by rw [← take_snocI Hy.out, without_snoc, if_pos Hyt.out, List.append_nil]; exact Ho.out, by omega, hw⟩
          case measure => simp [intOf]; omega
        · have Hyt := Sep.hid hyt
          have hyq : (y != (x : Int)) = true := by simpa using hyt
          clear hyt
          go_wp2_with (first | (refine wpList_on rfl (wp_bsl1 rfl rfl (by rfl) (by rfl) (by decide) hw ?_); intro b_ w_ hw_; clear hw; have hw := hw_; clear hw_; (try simp only [List.map_cons, List.map_nil, List.getD_cons_zero, List.getD_cons_succ, List.getD_nil, List.set_cons_zero, List.set_cons_succ, List.cons_append, List.nil_append, Act.eval, Array.getD_eq_getD_getElem?, List.getElem?_toArray, List.getElem?_cons_succ, List.getElem?_cons_zero, Option.getD_some, Value.cells] at hw); (try simp (disch := first | (simp; done) | (simp; omega)) only [Sep.mid_set, Sep.mid_set2, Sep.mid_set0, Sep.mid_splice, Sep.mid_splice0, List.set_cons_zero, List.set_cons_succ] at hw); (try simp only [Sep.splice, List.take_succ_cons, List.take_zero, List.drop_succ_cons, List.drop_zero, List.length_cons, List.length_nil, Nat.reduceAdd, List.cons_append, List.nil_append] at hw); (try replace hc0 := Sep.Holds.cells hw (i := 0) rfl); (try replace hc1 := Sep.Holds.cells hw (i := 1) rfl); (try replace hc2 := Sep.Holds.cells hw (i := 2) rfl); (try replace hc3 := Sep.Holds.cells hw (i := 3) rfl); (try replace hc4 := Sep.Holds.cells hw (i := 4) rfl); (try replace hc5 := Sep.Holds.cells hw (i := 5) rfl); (try replace hc6 := Sep.Holds.cells hw (i := 6) rfl)) | (at_builtin; refine wpList_on rfl (wp_appendPt (i := 5) (j := 6) rfl rfl hw rfl rfl rfl (by rfl) (by simp [Value.oneCell']) (by decide) (by rfl) (by (try unfold maxLen); omega) (by (try unfold maxLen); omega) ?_); intro b2_ cap2_ off2_ w_ hcap2_ hw_; clear hw; have hw := hw_; clear hw_; (try simp only [List.map_cons, List.map_nil, List.getD_cons_zero, List.getD_cons_succ, List.getD_nil, List.set_cons_zero, List.set_cons_succ, List.cons_append, List.nil_append, Act.eval, Array.getD_eq_getD_getElem?, List.getElem?_toArray, List.getElem?_cons_succ, List.getElem?_cons_zero, Option.getD_some, Value.cells] at hw); (try simp (disch := first | (simp; done) | (simp; omega)) only [Sep.mid_set, Sep.mid_set2, Sep.mid_set0, Sep.mid_splice, Sep.mid_splice0, List.set_cons_zero, List.set_cons_succ] at hw); (try simp only [Sep.splice, List.take_succ_cons, List.take_zero, List.drop_succ_cons, List.drop_zero, List.length_cons, List.length_nil, Nat.reduceAdd, List.cons_append, List.nil_append] at hw); (try replace hc0 := Sep.Holds.cells hw (i := 0) rfl); (try replace hc1 := Sep.Holds.cells hw (i := 1) rfl); (try replace hc2 := Sep.Holds.cells hw (i := 2) rfl); (try replace hc3 := Sep.Holds.cells hw (i := 3) rfl); (try replace hc4 := Sep.Holds.cells hw (i := 4) rfl); (try replace hc5 := Sep.Holds.cells hw (i := 5) rfl); (try replace hc6 := Sep.Holds.cells hw (i := 6) rfl)))
          rw [sl_snoc] at hw
          (try simp only [Act.put, List.setIfInBounds_toArray, List.set_cons_zero, List.set_cons_succ])
          go_roundw
          case rel => exact ⟨q + 1, o ++ [y], by omega, by go_num, by rw [← take_snocI Hy.out, without_snoc, if_neg Hyt.out, ← Ho.out], by simp; omega, hw.sel [0, 1, 2, 3, 4, 5] (by decide)⟩
          case measure => simp [intOf]; omega
      · have hoe : o = ints (l.filter (fun y => decide (y ≠ x))) := by
          have := Ho.out
          rw [List.take_of_length_le (by rw [HL.out]; omega), ints_filter (by omega)] at this
          simpa using this
        have Hoe := Sep.hid hoe; clear hoe
        go_wp2_with (first | (refine wpList_on rfl ?_; (refine wp_store1 (v := _) rfl rfl rfl hw (i := 2) rfl Hkv.out rfl ?_; intro w_ hw_; clear hw; have hw := hw_; clear hw_; (try simp only [List.map_cons, List.map_nil, List.getD_cons_zero, List.getD_cons_succ, List.getD_nil, List.set_cons_zero, List.set_cons_succ, List.cons_append, List.nil_append, Act.eval, Array.getD_eq_getD_getElem?, List.getElem?_toArray, List.getElem?_cons_succ, List.getElem?_cons_zero, Option.getD_some, Value.cells] at hw); (try simp (disch := first | (simp; done) | (simp; omega)) only [Sep.mid_set, Sep.mid_set2, Sep.mid_set0, Sep.mid_splice, Sep.mid_splice0, List.set_cons_zero, List.set_cons_succ] at hw); (try simp only [Sep.splice, List.take_succ_cons, List.take_zero, List.drop_succ_cons, List.drop_zero, List.length_cons, List.length_nil, Nat.reduceAdd, List.cons_append, List.nil_append] at hw); (try replace hc0 := Sep.Holds.cells hw (i := 0) rfl); (try replace hc1 := Sep.Holds.cells hw (i := 1) rfl); (try replace hc2 := Sep.Holds.cells hw (i := 2) rfl); (try replace hc3 := Sep.Holds.cells hw (i := 3) rfl); (try replace hc4 := Sep.Holds.cells hw (i := 4) rfl); (try replace hc5 := Sep.Holds.cells hw (i := 5) rfl); (try replace hc6 := Sep.Holds.cells hw (i := 6) rfl))))
        have hm := Hm.out; subst hm
        exact HP.out _ _ ⟨rfl, ra_closeSl (l' := l.filter (fun y => decide (y ≠ x))) hkm Hvl.out (by rw [← Hoe.out]) (by rw [← Hoe.out]) (hw.sel [0, 1, 2, 3, 5] (by decide))⟩
set_option maxHeartbeats 800000 in
theorem fTake (p : Nat) (R : Ring) (hW : R.Wf) (hb : R.n ≤ 1000 ∧ R.rows.length ≤ 1000) (r : Int) (e w : World) (X : HProp) (hw : Holds e w [X, IsRA p R]) :
    Calls Try.prog 25 #[.pointer (some ⟨p, 0, none⟩), .int .i64 r] w fun en w' => en = .returned (.tuple #[.int .i64 (R.first r), .bool (!decide (R.in_ (R.first r) = -1))]) ∧ Holds e w' [X, IsRA p (R.drop (R.first r))] := by
  have hd := fun w hw => fDrop p R hW hb (R.first r) e w X hw
  have hf := fun w hw => fFirst p R r e w X hw
  generalize R.first r = y at *
  generalize (!decide (R.in_ y = -1)) = bq at *
  have Hd := Sep.hid hd; have Hf := Sep.hid hf; clear hd hf hW hb
  refine Sep.calls_post ?_
  intro Post_ hPost_
  have HP := Sep.hid hPost_
  clear hPost_
  go_enter Try.func25, Try.ntmps25
  go_wp2_with fail
  refine (Hf.out _ hw).mono ?_
  rintro _ w_ ⟨rfl, rfl⟩
  go_wp2_with fail
  refine (Hd.out _ hw).mono ?_
  rintro _ w_ ⟨rfl, hw_⟩
  clear hw
  go_wp2_with fail
  exact HP.out _ _ ⟨rfl, hw_⟩
end Go.Proofs.Ytmjpppemdjknoaa
