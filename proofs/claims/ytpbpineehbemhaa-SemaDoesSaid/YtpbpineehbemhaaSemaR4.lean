/-
  The walks of the document's own methods of a semaphore: Give, Wants.
-/
import Derived.Test.YtpbpineehbemhaaSemaR3
namespace Go.Proofs.Ytpbpineehbemhaa
set_option linter.unusedSimpArgs false
set_option linter.unusedVariables false
open Go.RowKit Go.Sep Go.RingM

/-- Who is given, and what is left, told by the lists. -/
def gv (room : Int) : Int → List Int → List Int → List Int × Int × List Int × List Int
  | held, t :: w, x :: wn => if fits held x room = true then (t :: (gv room (held + x) w wn).1, (gv room (held + x) w wn).2) else ([], held, t :: w, x :: wn)
  | held, w, wn => ([], held, w, wn)
theorem gv_nil (room held : Int) (wn : List Int) : gv room held [] wn = ([], held, [], wn) := by cases wn <;> rfl
theorem gv_no {room held x : Int} (t : Int) (w wn : List Int) (h : fits held x room = false) : gv room held (t :: w) (x :: wn) = ([], held, t :: w, x :: wn) := by
  unfold gv; rw [if_neg (by simp [h])]
theorem gv_yes {room held x : Int} (t : Int) (w wn : List Int) (h : fits held x room = true) : gv room held (t :: w) (x :: wn) = (t :: (gv room (held + x) w wn).1, (gv room (held + x) w wn).2) := by
  conv => lhs; unfold gv
  rw [if_pos h]
theorem gv_give : ∀ (l : List Int) (M : SM), M.w = l → M.Ok → gv M.room M.held M.w M.wn = (M.give.1, M.give.2.held, M.give.2.w, M.give.2.wn) ∧ M.give.2.d = M.d ∧ M.give.2.dn = M.dn
  | [], M, hw, h => by
    rw [give_nil hw]
    refine ⟨?_, rfl, rfl⟩
    simp only [hw]
    exact gv_nil _ _ _
  | t :: l, M, hw, h => by
    have hnd := h.nd
    rw [hw] at hnd
    have ht : t ∉ l ++ M.d := (List.nodup_cons.1 (by simpa using hnd)).1
    have hwn : M.wn = M.wt t :: l.map M.wt := by unfold SM.wn; rw [hw]; rfl
    cases hf : fits M.held (M.wt t) M.room with
    | false =>
      rw [give_no hw hf]
      refine ⟨?_, rfl, rfl⟩
      simp only [hw, hwn]
      exact gv_no t _ _ hf
    | true =>
      rw [give_yes hw hf]
      have ih := gv_give l (M.step t) (by show M.w.tail = l; rw [hw]; rfl) (h.step hw hf)
      have e1 : (M.step t).w = l := by show M.w.tail = l; rw [hw]; rfl
      have e2 : (M.step t).wn = l.map M.wt := by
        unfold SM.wn
        rw [e1]
        exact map_put none (fun hh => ht (by simp [hh]))
      have e3 : (M.step t).dn = M.dn := map_put none (fun hh => ht (List.mem_append_right _ hh))
      rw [e1, e2] at ih
      refine ⟨?_, ih.2.1, ih.2.2.trans e3⟩
      rw [hw, hwn, gv_yes t _ _ hf]
      rw [show gv M.room (M.held + M.wt t) l (l.map M.wt) = _ from ih.1]
theorem give_gv {M : SM} (h : M.Ok) : gv M.room M.held M.w M.wn = (M.give.1, M.give.2.held, M.give.2.w, M.give.2.wn) ∧ M.give.2.d = M.d ∧ M.give.2.dn = M.dn := gv_give _ M rfl h
set_option maxHeartbeats 4000000 in
theorem fGive (p n : Nat) (held room : Int) (w d wn dn : List Int) (hlen : wn.length = w.length) (hl : w.length ≤ 1000) (hh : held ≤ 9223372036854775807) (hr : room ≤ 9223372036854775807) (hx : ∀ x ∈ wn, x ≤ 9223372036854775807) (e W : World) (X : HProp) (hw : Holds e W [X, IsRS p n held room w d wn dn]) :
    Calls Try.prog 29 #[.pointer (some ⟨p, 0, none⟩)] W fun en w' => ∃ v, en = .returned v ∧ Holds e w' [X, IsRS p n (gv room held w wn).2.1 room (gv room held w wn).2.2.1 d (gv room held w wn).2.2.2 dn, IsInts v (gv room held w wn).1] := by
  have Hl := Sep.hid hl; clear hl
  have Hr := Sep.hid hr; clear hr
  have Hlen := Sep.hid hlen; clear hlen
  have Hx0 := Sep.hid hx; clear hx
  have Hh0 := Sep.hid hh; clear hh
  obtain ⟨G, hG⟩ : ∃ G, gv room held w wn = G := ⟨_, rfl⟩
  rw [hG]
  have HG := Sep.hid hG; clear hG
  refine Sep.calls_post ?_
  intro Post_ hPost_
  have HP := Sep.hid hPost_
  clear hPost_
  go_enter Try.func29, Try.ntmps29
  go_wp2_with (refine wpList_on rfl (wp_bsl0 rfl hw ?_); intro b_ w_ hw_; replace hw_ := hw_.newSl (i := 2) rfl 1 0 rfl (by decide); clear hw; have hw := hw_; clear hw_; (try simp only [List.map_cons, List.map_nil, List.getD_cons_zero, List.getD_cons_succ, List.getD_nil, List.set_cons_zero, List.set_cons_succ, List.cons_append, List.nil_append, Act.eval, Array.getD_eq_getD_getElem?, List.getElem?_toArray, List.getElem?_cons_succ, List.getElem?_cons_zero, Option.getD_some, Value.cells] at hw); (try simp (disch := first | (simp; done) | (simp; omega)) only [Sep.mid_set, Sep.mid_set2, Sep.mid_set0, Sep.mid_splice, Sep.mid_splice0, List.set_cons_zero, List.set_cons_succ] at hw); (try simp only [Sep.splice, List.take_succ_cons, List.take_zero, List.drop_succ_cons, List.drop_zero, List.length_cons, List.length_nil, Nat.reduceAdd, List.cons_append, List.nil_append] at hw); (try replace hc0 := Sep.Holds.cells hw (i := 0) rfl); (try replace hc1 := Sep.Holds.cells hw (i := 1) rfl); (try replace hc2 := Sep.Holds.cells hw (i := 2) rfl); (try replace hc3 := Sep.Holds.cells hw (i := 3) rfl); (try replace hc4 := Sep.Holds.cells hw (i := 4) rfl); (try replace hc5 := Sep.Holds.cells hw (i := 5) rfl); (try replace hc6 := Sep.Holds.cells hw (i := 6) rfl))
  have Hw0 := Sep.hid hw
  clear hw; (try clear hc0); (try clear hc1); (try clear hc2); (try clear hc3); (try clear hc4); (try clear hc5); (try clear hc6)
  go_loopw [3] (fun ov wr => ∃ (h1 : Int) (o w1 wn1 : List Int), (o ++ (gv room h1 w1 wn1).1, (gv room h1 w1 wn1).2) = G ∧ o.length + w1.length = w.length ∧ wn1.length = w1.length ∧ h1 ≤ 9223372036854775807 ∧ (∀ x ∈ wn1, x ≤ 9223372036854775807) ∧ Holds e wr [X, IsRS p n h1 room w1 d wn1 dn, IsInts ov o]) (fun ov _ => w.length - slLen ov)
  case atStart => exact ⟨held, [], w, wn, by rw [HG.out]; simp, by simp, Hlen.out, Hh0.out, Hx0.out, Hw0.out⟩
  case round =>
    clear Hw0
    obtain ⟨h1, o, w1, wn1, hg, hl1, hl2, hh, hx, hw⟩ := hrel
    have Hg := Sep.hid hg; have Hl1 := Sep.hid hl1; have Hh := Sep.hid hh; have Hx := Sep.hid hx
    clear hg hl1 hh hx
    obtain ⟨oa, oc, rfl⟩ := Sl.value (i := 2) rfl hw
    cases w1 with
    | nil =>
      have Hgo : Hid (G = (o, h1, [], wn1)) := Sep.hid (by rw [← Hg.out, gv_nil, List.append_nil])
      clear hl2
      have Hw1 := Sep.hid hw
      obtain ⟨⟨u, v, un, vn⟩, hw⟩ := hw.open' (i := 1) rfl
      (try simp only [List.map_cons, List.map_nil, List.getD_cons_zero, List.getD_cons_succ, List.getD_nil, List.set_cons_zero, List.set_cons_succ, List.cons_append, List.nil_append, Act.eval, Array.getD_eq_getD_getElem?, List.getElem?_toArray, List.getElem?_cons_succ, List.getElem?_cons_zero, Option.getD_some, Value.cells] at hw); (try simp (disch := first | (simp; done) | (simp; omega)) only [Sep.mid_set, Sep.mid_set2, Sep.mid_set0, Sep.mid_splice, Sep.mid_splice0, List.set_cons_zero, List.set_cons_succ] at hw); (try simp only [Sep.splice, List.take_succ_cons, List.take_zero, List.drop_succ_cons, List.drop_zero, List.length_cons, List.length_nil, Nat.reduceAdd, List.cons_append, List.nil_append] at hw)
      have hw := hw.open_ 1 rfl
      (try simp only [List.map_cons, List.map_nil, List.getD_cons_zero, List.getD_cons_succ, List.getD_nil, List.set_cons_zero, List.set_cons_succ, List.cons_append, List.nil_append, Act.eval, Array.getD_eq_getD_getElem?, List.getElem?_toArray, List.getElem?_cons_succ, List.getElem?_cons_zero, Option.getD_some, Value.cells] at hw); (try simp (disch := first | (simp; done) | (simp; omega)) only [Sep.mid_set, Sep.mid_set2, Sep.mid_set0, Sep.mid_splice, Sep.mid_splice0, List.set_cons_zero, List.set_cons_succ] at hw); (try simp only [Sep.splice, List.take_succ_cons, List.take_zero, List.drop_succ_cons, List.drop_zero, List.length_cons, List.length_nil, Nat.reduceAdd, List.cons_append, List.nil_append] at hw)
      obtain ⟨ua, uc, rfl⟩ := Sl.value (i := 3) rfl hw
      obtain ⟨na, nc, rfl⟩ := Sl.value (i := 5) rfl hw
      (try simp only [List.map_cons, List.map_nil, List.getD_cons_zero, List.getD_cons_succ, List.getD_nil, List.set_cons_zero, List.set_cons_succ, List.cons_append, List.nil_append, Act.eval, Array.getD_eq_getD_getElem?, List.getElem?_toArray, List.getElem?_cons_succ, List.getElem?_cons_zero, Option.getD_some, Value.cells] at hw); (try simp (disch := first | (simp; done) | (simp; omega)) only [Sep.mid_set, Sep.mid_set2, Sep.mid_set0, Sep.mid_splice, Sep.mid_splice0, List.set_cons_zero, List.set_cons_succ] at hw); (try simp only [Sep.splice, List.take_succ_cons, List.take_zero, List.drop_succ_cons, List.drop_zero, List.length_cons, List.length_nil, Nat.reduceAdd, List.cons_append, List.nil_append] at hw)
      (try replace hc0 := Sep.Holds.cells hw (i := 0) rfl); (try replace hc1 := Sep.Holds.cells hw (i := 1) rfl); (try replace hc2 := Sep.Holds.cells hw (i := 2) rfl); (try replace hc3 := Sep.Holds.cells hw (i := 3) rfl); (try replace hc4 := Sep.Holds.cells hw (i := 4) rfl); (try replace hc5 := Sep.Holds.cells hw (i := 5) rfl); (try replace hc6 := Sep.Holds.cells hw (i := 6) rfl)
      go_wp2_with fail
      refine wp_region_L [21] [(3, (fun w' => w' = wr.drew)), (10, (fun w' => w' = wr.drew)), (14, (fun w' => w' = wr.drew)), (16, (fun w' => w' = wr.drew)), (20, (fun w' => w' = wr.drew))] (n := 23) (listed := (marks 23 0)) (by kernel_rfl) rfl (by kernel_rfl) ?conds1 ?_
      case conds1 =>
       intro c hc
       simp only [List.mem_cons, List.not_mem_nil, or_false] at hc
       rcases hc with rfl | rfl | rfl | rfl | rfl
       · rfl
       · rfl
       · rfl
       · rfl
       · rfl
      replace hw := hw.drew
      (try replace hc0 := Sep.Holds.cells hw (i := 0) rfl); (try replace hc1 := Sep.Holds.cells hw (i := 1) rfl); (try replace hc2 := Sep.Holds.cells hw (i := 2) rfl); (try replace hc3 := Sep.Holds.cells hw (i := 3) rfl); (try replace hc4 := Sep.Holds.cells hw (i := 4) rfl); (try replace hc5 := Sep.Holds.cells hw (i := 5) rfl); (try replace hc6 := Sep.Holds.cells hw (i := 6) rfl)
      refine wpL_q 0 ?_ rfl (Or.inl ⟨by rfl, fun w_ hS_ => ?_⟩) (marks 23 1) ?_
      rotate_left
      next => (go_simp; try (first | rfl | exact (Bool.not_not _).symm))
      try simp only [Act.put, List.setIfInBounds_toArray, List.set_cons_zero, List.set_cons_succ]
      refine wpL_q 1 ?_ rfl (Or.inl ⟨by rfl, fun w_ hS_ => ?_⟩) (marks 23 3) ?_
      rotate_left
      next => (go_simp; try (first | rfl | exact (Bool.not_not _).symm))
      try simp only [Act.put, List.setIfInBounds_toArray, List.set_cons_zero, List.set_cons_succ]
      refine wpL_q 2 ?_ rfl (Or.inl ⟨by rfl, fun w_ hS_ => ?_⟩) (marks 23 7) ?_
      rotate_left
      next => (go_simp; try (first | rfl | exact (Bool.not_not _).symm))
      try simp only [Act.put, List.setIfInBounds_toArray, List.set_cons_zero, List.set_cons_succ]
      refine wpL_m 3 ?_ rfl (.head _) (Or.inl ⟨by rfl, fun w_ hS_ => ?_⟩) (marks 23 15) ?_
      rotate_left
      next => (subst hS_; go_simp; try (first | rfl | exact (Bool.not_not _).symm))
      try simp only [Act.put, List.setIfInBounds_toArray, List.set_cons_zero, List.set_cons_succ]
      refine wpL_q 4 ?_ rfl (Or.inl ⟨by rfl, fun w_ hS_ => ?_⟩) (marks 23 31) ?_
      rotate_left
      next => (go_simp; try (first | rfl | exact (Bool.not_not _).symm))
      try simp only [Act.put, List.setIfInBounds_toArray, List.set_cons_zero, List.set_cons_succ]
      refine wpL_q 5 ?_ rfl (Or.inl ⟨by rfl, fun w_ hS_ => ?_⟩) (marks 23 63) ?_
      rotate_left
      next => (go_simp; try (first | rfl | exact (Bool.not_not _).symm))
      try simp only [Act.put, List.setIfInBounds_toArray, List.set_cons_zero, List.set_cons_succ]
      refine wpL_b 6 ?_ rfl (Or.inl ⟨by rfl, fun w_ hS_ => ?_⟩) (marks 23 127) ?_
      rotate_left
      next => (go_simp; try (first | rfl | exact (Bool.not_not _).symm))
      intro bb_ hg6
      cases bb_
      case' true =>
       (try simp only [decide_eq_true_eq, decide_eq_false_iff_not, beq_iff_eq, beq_eq_false_iff_ne, bne_iff_ne, bne_eq_false_iff_eq, Bool.not_eq_true', Bool.not_eq_false', Int.not_lt, Int.not_le] at hg6)
       first | (cases hg6; done) | (exfalso; omega; done)
      case' false =>
       (try simp only [decide_eq_true_eq, decide_eq_false_iff_not, beq_iff_eq, beq_eq_false_iff_ne, bne_iff_ne, bne_eq_false_iff_eq, Bool.not_eq_true', Bool.not_eq_false', Int.not_lt, Int.not_le] at hg6)
       first | (cases hg6; done) | (exfalso; omega; done) | skip
       all_goals
        try replace hg6 := Sep.hid hg6
        try simp only [Act.put, List.setIfInBounds_toArray, List.set_cons_zero, List.set_cons_succ]
        refine wpL_q 7 undef rfl (Or.inr ⟨by rfl, rfl⟩) (marks 23 255) ?_
        try simp only [Act.put, List.setIfInBounds_toArray, List.set_cons_zero, List.set_cons_succ]
        refine wpL_q 8 undef rfl (Or.inr ⟨by rfl, rfl⟩) (marks 23 511) ?_
        try simp only [Act.put, List.setIfInBounds_toArray, List.set_cons_zero, List.set_cons_succ]
        refine wpL_q 9 undef rfl (Or.inr ⟨by rfl, rfl⟩) (marks 23 1023) ?_
        try simp only [Act.put, List.setIfInBounds_toArray, List.set_cons_zero, List.set_cons_succ]
        refine wpL_m 10 undef rfl (.tail _ (.head _)) (Or.inr ⟨by rfl, rfl⟩) (marks 23 2047) ?_
        try simp only [Act.put, List.setIfInBounds_toArray, List.set_cons_zero, List.set_cons_succ]
        refine wpL_q 11 undef rfl (Or.inr ⟨by rfl, rfl⟩) (marks 23 4095) ?_
        try simp only [Act.put, List.setIfInBounds_toArray, List.set_cons_zero, List.set_cons_succ]
        refine wpL_q 12 undef rfl (Or.inr ⟨by rfl, rfl⟩) (marks 23 8191) ?_
        try simp only [Act.put, List.setIfInBounds_toArray, List.set_cons_zero, List.set_cons_succ]
        refine wpL_q 13 undef rfl (Or.inr ⟨by rfl, rfl⟩) (marks 23 16383) ?_
        try simp only [Act.put, List.setIfInBounds_toArray, List.set_cons_zero, List.set_cons_succ]
        refine wpL_m 14 undef rfl (.tail _ (.tail _ (.head _))) (Or.inr ⟨by rfl, rfl⟩) (marks 23 32767) ?_
        try simp only [Act.put, List.setIfInBounds_toArray, List.set_cons_zero, List.set_cons_succ]
        refine wpL_q 15 undef rfl (Or.inr ⟨by rfl, rfl⟩) (marks 23 65535) ?_
        try simp only [Act.put, List.setIfInBounds_toArray, List.set_cons_zero, List.set_cons_succ]
        refine wpL_m 16 undef rfl (.tail _ (.tail _ (.tail _ (.head _)))) (Or.inr ⟨by rfl, rfl⟩) (marks 23 131071) ?_
        try simp only [Act.put, List.setIfInBounds_toArray, List.set_cons_zero, List.set_cons_succ]
        refine wpL_q 17 undef rfl (Or.inr ⟨by rfl, rfl⟩) (marks 23 262143) ?_
        try simp only [Act.put, List.setIfInBounds_toArray, List.set_cons_zero, List.set_cons_succ]
        refine wpL_q 18 undef rfl (Or.inr ⟨by rfl, rfl⟩) (marks 23 524287) ?_
        try simp only [Act.put, List.setIfInBounds_toArray, List.set_cons_zero, List.set_cons_succ]
        refine wpL_q 19 undef rfl (Or.inr ⟨by rfl, rfl⟩) (marks 23 1048575) ?_
        try simp only [Act.put, List.setIfInBounds_toArray, List.set_cons_zero, List.set_cons_succ]
        refine wpL_m 20 undef rfl (.tail _ (.tail _ (.tail _ (.tail _ (.head _))))) (Or.inr ⟨by rfl, rfl⟩) (marks 23 2097151) ?_
        try simp only [Act.put, List.setIfInBounds_toArray, List.set_cons_zero, List.set_cons_succ]
        refine wpL_s 21 rfl (by rfl) (marks 23 4194303) ?_
        try simp only [Act.put, List.setIfInBounds_toArray, List.set_cons_zero, List.set_cons_succ]
      all_goals
       refine wpL_q 22 ?_ rfl (Or.inl ⟨by rfl, fun w_ hS_ => ?_⟩) (marks 23 8388607) ?_
       rotate_left
       next => (go_simp; try (first | rfl | exact (Bool.not_not _).symm))
       try simp only [Act.put, List.setIfInBounds_toArray, List.set_cons_zero, List.set_cons_succ]
       all_goals refine wpL_done (by kernel_rfl) ?_ _
      go_wp2_with fail
      exact HP.out _ _ ⟨_, rfl, by rw [Hgo.out]; exact Hw1.out.drew⟩
    | cons t w1 =>
      cases wn1 with
      | nil => simp at hl2
      | cons x wn1 =>
        have Hl2 : Hid (wn1.length = w1.length) := Sep.hid (by simpa using hl2)
        clear hl2
        have Hw1 := Sep.hid hw
        obtain ⟨⟨u, v, un, vn⟩, hw⟩ := hw.open' (i := 1) rfl
        (try simp only [List.map_cons, List.map_nil, List.getD_cons_zero, List.getD_cons_succ, List.getD_nil, List.set_cons_zero, List.set_cons_succ, List.cons_append, List.nil_append, Act.eval, Array.getD_eq_getD_getElem?, List.getElem?_toArray, List.getElem?_cons_succ, List.getElem?_cons_zero, Option.getD_some, Value.cells] at hw); (try simp (disch := first | (simp; done) | (simp; omega)) only [Sep.mid_set, Sep.mid_set2, Sep.mid_set0, Sep.mid_splice, Sep.mid_splice0, List.set_cons_zero, List.set_cons_succ] at hw); (try simp only [Sep.splice, List.take_succ_cons, List.take_zero, List.drop_succ_cons, List.drop_zero, List.length_cons, List.length_nil, Nat.reduceAdd, List.cons_append, List.nil_append] at hw)
        have hw := hw.open_ 1 rfl
        (try simp only [List.map_cons, List.map_nil, List.getD_cons_zero, List.getD_cons_succ, List.getD_nil, List.set_cons_zero, List.set_cons_succ, List.cons_append, List.nil_append, Act.eval, Array.getD_eq_getD_getElem?, List.getElem?_toArray, List.getElem?_cons_succ, List.getElem?_cons_zero, Option.getD_some, Value.cells] at hw); (try simp (disch := first | (simp; done) | (simp; omega)) only [Sep.mid_set, Sep.mid_set2, Sep.mid_set0, Sep.mid_splice, Sep.mid_splice0, List.set_cons_zero, List.set_cons_succ] at hw); (try simp only [Sep.splice, List.take_succ_cons, List.take_zero, List.drop_succ_cons, List.drop_zero, List.length_cons, List.length_nil, Nat.reduceAdd, List.cons_append, List.nil_append] at hw)
        obtain ⟨ua, uc, rfl⟩ := Sl.value (i := 3) rfl hw
        obtain ⟨na, nc, rfl⟩ := Sl.value (i := 5) rfl hw
        (try simp only [List.map_cons, List.map_nil, List.getD_cons_zero, List.getD_cons_succ, List.getD_nil, List.set_cons_zero, List.set_cons_succ, List.cons_append, List.nil_append, Act.eval, Array.getD_eq_getD_getElem?, List.getElem?_toArray, List.getElem?_cons_succ, List.getElem?_cons_zero, Option.getD_some, Value.cells] at hw); (try simp (disch := first | (simp; done) | (simp; omega)) only [Sep.mid_set, Sep.mid_set2, Sep.mid_set0, Sep.mid_splice, Sep.mid_splice0, List.set_cons_zero, List.set_cons_succ] at hw); (try simp only [Sep.splice, List.take_succ_cons, List.take_zero, List.drop_succ_cons, List.drop_zero, List.length_cons, List.length_nil, Nat.reduceAdd, List.cons_append, List.nil_append] at hw)
        obtain ⟨bu, ou, rfl, gu⟩ := num_at (i := 3) (k := 0) (l := t :: w1) (n := w1.length + 1) hw rfl rfl
        obtain ⟨bn, on, rfl, gn⟩ := num_at (i := 5) (k := 0) (l := x :: wn1) (n := wn1.length + 1) hw rfl rfl
        simp only [Nat.add_zero] at gu gn
        (try replace hc0 := Sep.Holds.cells hw (i := 0) rfl); (try replace hc1 := Sep.Holds.cells hw (i := 1) rfl); (try replace hc2 := Sep.Holds.cells hw (i := 2) rfl); (try replace hc3 := Sep.Holds.cells hw (i := 3) rfl); (try replace hc4 := Sep.Holds.cells hw (i := 4) rfl); (try replace hc5 := Sep.Holds.cells hw (i := 5) rfl); (try replace hc6 := Sep.Holds.cells hw (i := 6) rfl)
        cases hf : fits h1 x room with
        | false =>
          have Hf := Sep.hid hf; clear hf
          have Hgo : Hid (G = (o, h1, t :: w1, x :: wn1)) := Sep.hid (by rw [← Hg.out, gv_no _ _ _ Hf.out, List.append_nil])
          go_wp2_with fail
          refine wp_region_L [21] [(3, (fun w' => w' = wr.drew)), (10, (fun w' => w' = wr.drew)), (14, (fun w' => w' = wr.drew)), (16, (fun w' => w' = wr.drew)), (20, (fun w' => w' = wr.drew))] (n := 23) (listed := (marks 23 0)) (by kernel_rfl) rfl (by kernel_rfl) ?conds2 ?_
          case conds2 =>
           intro c hc
           simp only [List.mem_cons, List.not_mem_nil, or_false] at hc
           rcases hc with rfl | rfl | rfl | rfl | rfl
           · rfl
           · rfl
           · rfl
           · rfl
           · rfl
          replace hw := hw.drew
          (try replace hc0 := Sep.Holds.cells hw (i := 0) rfl); (try replace hc1 := Sep.Holds.cells hw (i := 1) rfl); (try replace hc2 := Sep.Holds.cells hw (i := 2) rfl); (try replace hc3 := Sep.Holds.cells hw (i := 3) rfl); (try replace hc4 := Sep.Holds.cells hw (i := 4) rfl); (try replace hc5 := Sep.Holds.cells hw (i := 5) rfl); (try replace hc6 := Sep.Holds.cells hw (i := 6) rfl)
          refine wpL_q 0 ?_ rfl (Or.inl ⟨by rfl, fun w_ hS_ => ?_⟩) (marks 23 1) ?_
          rotate_left
          next => (go_simp; try (first | rfl | exact (Bool.not_not _).symm))
          try simp only [Act.put, List.setIfInBounds_toArray, List.set_cons_zero, List.set_cons_succ]
          refine wpL_q 1 ?_ rfl (Or.inl ⟨by rfl, fun w_ hS_ => ?_⟩) (marks 23 3) ?_
          rotate_left
          next => (go_simp; try (first | rfl | exact (Bool.not_not _).symm))
          try simp only [Act.put, List.setIfInBounds_toArray, List.set_cons_zero, List.set_cons_succ]
          refine wpL_q 2 ?_ rfl (Or.inl ⟨by rfl, fun w_ hS_ => ?_⟩) (marks 23 7) ?_
          rotate_left
          next => (go_simp; try (first | rfl | exact (Bool.not_not _).symm))
          try simp only [Act.put, List.setIfInBounds_toArray, List.set_cons_zero, List.set_cons_succ]
          refine wpL_m 3 ?_ rfl (.head _) (Or.inl ⟨by rfl, fun w_ hS_ => ?_⟩) (marks 23 15) ?_
          rotate_left
          next => (subst hS_; go_simp; try (first | rfl | exact (Bool.not_not _).symm))
          try simp only [Act.put, List.setIfInBounds_toArray, List.set_cons_zero, List.set_cons_succ]
          refine wpL_q 4 ?_ rfl (Or.inl ⟨by rfl, fun w_ hS_ => ?_⟩) (marks 23 31) ?_
          rotate_left
          next => (go_simp; try (first | rfl | exact (Bool.not_not _).symm))
          try simp only [Act.put, List.setIfInBounds_toArray, List.set_cons_zero, List.set_cons_succ]
          refine wpL_q 5 ?_ rfl (Or.inl ⟨by rfl, fun w_ hS_ => ?_⟩) (marks 23 63) ?_
          rotate_left
          next => (go_simp; try (first | rfl | exact (Bool.not_not _).symm))
          try simp only [Act.put, List.setIfInBounds_toArray, List.set_cons_zero, List.set_cons_succ]
          refine wpL_b 6 ?_ rfl (Or.inl ⟨by rfl, fun w_ hS_ => ?_⟩) (marks 23 127) ?_
          rotate_left
          next => (go_simp; try (first | rfl | exact (Bool.not_not _).symm))
          intro bb_ hg6
          cases bb_
          case' true =>
           (try simp only [decide_eq_true_eq, decide_eq_false_iff_not, beq_iff_eq, beq_eq_false_iff_ne, bne_iff_ne, bne_eq_false_iff_eq, Bool.not_eq_true', Bool.not_eq_false', Int.not_lt, Int.not_le] at hg6)
           first | (cases hg6; done) | (exfalso; omega; done) | skip
           all_goals
            try replace hg6 := Sep.hid hg6
            try simp only [Act.put, List.setIfInBounds_toArray, List.set_cons_zero, List.set_cons_succ]
            refine wpL_q 7 ?_ rfl (Or.inl ⟨by rfl, fun w_ hS_ => ?_⟩) (marks 23 255) ?_
            rotate_left
            next => (go_simp; try (first | rfl | exact (Bool.not_not _).symm))
            try simp only [Act.put, List.setIfInBounds_toArray, List.set_cons_zero, List.set_cons_succ]
            refine wpL_q 8 ?_ rfl (Or.inl ⟨by rfl, fun w_ hS_ => ?_⟩) (marks 23 511) ?_
            rotate_left
            next => (go_simp; try (first | rfl | exact (Bool.not_not _).symm))
            try simp only [Act.put, List.setIfInBounds_toArray, List.set_cons_zero, List.set_cons_succ]
            refine wpL_q 9 ?_ rfl (Or.inl ⟨by rfl, fun w_ hS_ => ?_⟩) (marks 23 1023) ?_
            rotate_left
            next => (go_simp; try (first | rfl | exact (Bool.not_not _).symm))
            try simp only [Act.put, List.setIfInBounds_toArray, List.set_cons_zero, List.set_cons_succ]
            refine wpL_m 10 ?_ rfl (.tail _ (.head _)) (Or.inl ⟨by rfl, fun w_ hS_ => ?_⟩) (marks 23 2047) ?_
            rotate_left
            next => (subst hS_; go_simp; try (first | rfl | exact (Bool.not_not _).symm))
            try simp only [Act.put, List.setIfInBounds_toArray, List.set_cons_zero, List.set_cons_succ]
            refine wpL_q 11 ?_ rfl (Or.inl ⟨by rfl, fun w_ hS_ => ?_⟩) (marks 23 4095) ?_
            rotate_left
            next => (go_simp; try (first | rfl | exact (Bool.not_not _).symm))
            try simp only [Act.put, List.setIfInBounds_toArray, List.set_cons_zero, List.set_cons_succ]
            refine wpL_q 12 ?_ rfl (Or.inl ⟨by rfl, fun w_ hS_ => ?_⟩) (marks 23 8191) ?_
            rotate_left
            next => (go_simp; try (first | rfl | exact (Bool.not_not _).symm))
            try simp only [Act.put, List.setIfInBounds_toArray, List.set_cons_zero, List.set_cons_succ]
            refine wpL_q 13 ?_ rfl (Or.inl ⟨by rfl, fun w_ hS_ => ?_⟩) (marks 23 16383) ?_
            rotate_left
            next => (go_simp; try (first | rfl | exact (Bool.not_not _).symm))
            try simp only [Act.put, List.setIfInBounds_toArray, List.set_cons_zero, List.set_cons_succ]
            refine wpL_m 14 ?_ rfl (.tail _ (.tail _ (.head _))) (Or.inl ⟨by rfl, fun w_ hS_ => ?_⟩) (marks 23 32767) ?_
            rotate_left
            next => (subst hS_; go_simp; try (first | rfl | exact (Bool.not_not _).symm))
            try simp only [Act.put, List.setIfInBounds_toArray, List.set_cons_zero, List.set_cons_succ]
            refine wpL_q 15 ?_ rfl (Or.inl ⟨by rfl, fun w_ hS_ => ?_⟩) (marks 23 65535) ?_
            rotate_left
            next => (go_simp; try (first | rfl | exact (Bool.not_not _).symm))
            try simp only [Act.put, List.setIfInBounds_toArray, List.set_cons_zero, List.set_cons_succ]
            refine wpL_m 16 ?_ rfl (.tail _ (.tail _ (.tail _ (.head _)))) (Or.inl ⟨by rfl, fun w_ hS_ => ?_⟩) (marks 23 131071) ?_
            rotate_left
            next => (subst hS_; go_simp; try (first | rfl | exact (Bool.not_not _).symm))
            try simp only [Act.put, List.setIfInBounds_toArray, List.set_cons_zero, List.set_cons_succ]
            refine wpL_q 17 ?_ rfl (Or.inl ⟨by rfl, fun w_ hS_ => ?_⟩) (marks 23 262143) ?_
            rotate_left
            next => (go_simp; try (first | rfl | exact (Bool.not_not _).symm))
            try simp only [Act.put, List.setIfInBounds_toArray, List.set_cons_zero, List.set_cons_succ]
            refine wpL_q 18 ?_ rfl (Or.inl ⟨by rfl, fun w_ hS_ => ?_⟩) (marks 23 524287) ?_
            rotate_left
            next => (go_simp; try (first | rfl | exact (Bool.not_not _).symm))
            try simp only [Act.put, List.setIfInBounds_toArray, List.set_cons_zero, List.set_cons_succ]
            refine wpL_q 19 ?_ rfl (Or.inl ⟨by rfl, fun w_ hS_ => ?_⟩) (marks 23 1048575) ?_
            rotate_left
            next => (go_simp; try (first | rfl | exact (Bool.not_not _).symm))
            try simp only [Act.put, List.setIfInBounds_toArray, List.set_cons_zero, List.set_cons_succ]
            refine wpL_m 20 ?_ rfl (.tail _ (.tail _ (.tail _ (.tail _ (.head _))))) (Or.inl ⟨by rfl, fun w_ hS_ => ?_⟩) (marks 23 2097151) ?_
            rotate_left
            next => (subst hS_; go_simp; try (first | rfl | exact (Bool.not_not _).symm))
            try simp only [Act.put, List.setIfInBounds_toArray, List.set_cons_zero, List.set_cons_succ]
            refine wpL_o 21 rfl (by rfl) (marks 23 4194303) ?_
            (go_simp; go_at_call 28; refine (rFits h1 x room Hh.out (Hx.out x (by simp)) Hr.out _).mono ?_; rintro _ w_ ⟨rfl, rfl⟩; rw [Hf.out])
            refine ⟨(SL.drop 21 (by kernel_rfl) (SL.drop 21 (by kernel_rfl) (SL.drop 21 (by kernel_rfl) (SL.drop 21 (by kernel_rfl) (SL.drop 21 (by kernel_rfl) SL.nil))))), ?_⟩
            try simp only [Act.put, List.setIfInBounds_toArray, List.set_cons_zero, List.set_cons_succ]
          case' false =>
           (try simp only [decide_eq_true_eq, decide_eq_false_iff_not, beq_iff_eq, beq_eq_false_iff_ne, bne_iff_ne, bne_eq_false_iff_eq, Bool.not_eq_true', Bool.not_eq_false', Int.not_lt, Int.not_le] at hg6)
           first | (cases hg6; done) | (exfalso; omega; done)
          all_goals
           refine wpL_q 22 ?_ rfl (Or.inl ⟨by rfl, fun w_ hS_ => ?_⟩) (marks 23 8388607) ?_
           rotate_left
           next => (go_simp; try (first | rfl | exact (Bool.not_not _).symm))
           try simp only [Act.put, List.setIfInBounds_toArray, List.set_cons_zero, List.set_cons_succ]
           all_goals refine wpL_done (by kernel_rfl) ?_ _
          go_wp2_with fail
          exact HP.out _ _ ⟨_, rfl, by rw [Hgo.out]; exact Hw1.out.drew⟩
        | true =>
          have Hf := Sep.hid hf; clear hf Hw1
          have hfi := (fits_iff _ _ _).1 Hf.out
          have Hgo : Hid ((o ++ [t] ++ (gv room (h1 + x) w1 wn1).1, (gv room (h1 + x) w1 wn1).2) = G) := Sep.hid (by rw [← Hg.out, gv_yes _ _ _ Hf.out]; simp)
          have hwr : IntKind.i64.wrap (h1 + x) = h1 + x := IntWalk.i64_in _ (by have := Hr.out; omega)
          have Hb : Hid (h1 + x ≤ 9223372036854775807) := Sep.hid (by have := Hr.out; omega)
          have Hol : Hid (o.length ≤ 1000) := Sep.hid (by have := Hl1.out; have := Hl.out; omega)
          clear hfi
          go_wp2_with fail
          refine wp_region_L [21] [(3, (fun w' => w' = wr.drew)), (10, (fun w' => w' = wr.drew)), (14, (fun w' => w' = wr.drew)), (16, (fun w' => w' = wr.drew)), (20, (fun w' => w' = wr.drew))] (n := 23) (listed := (marks 23 0)) (by kernel_rfl) rfl (by kernel_rfl) ?conds3 ?_
          case conds3 =>
           intro c hc
           simp only [List.mem_cons, List.not_mem_nil, or_false] at hc
           rcases hc with rfl | rfl | rfl | rfl | rfl
           · rfl
           · rfl
           · rfl
           · rfl
           · rfl
          replace hw := hw.drew
          (try replace hc0 := Sep.Holds.cells hw (i := 0) rfl); (try replace hc1 := Sep.Holds.cells hw (i := 1) rfl); (try replace hc2 := Sep.Holds.cells hw (i := 2) rfl); (try replace hc3 := Sep.Holds.cells hw (i := 3) rfl); (try replace hc4 := Sep.Holds.cells hw (i := 4) rfl); (try replace hc5 := Sep.Holds.cells hw (i := 5) rfl); (try replace hc6 := Sep.Holds.cells hw (i := 6) rfl)
          refine wpL_q 0 ?_ rfl (Or.inl ⟨by rfl, fun w_ hS_ => ?_⟩) (marks 23 1) ?_
          rotate_left
          next => (go_simp; try (first | rfl | exact (Bool.not_not _).symm))
          try simp only [Act.put, List.setIfInBounds_toArray, List.set_cons_zero, List.set_cons_succ]
          refine wpL_q 1 ?_ rfl (Or.inl ⟨by rfl, fun w_ hS_ => ?_⟩) (marks 23 3) ?_
          rotate_left
          next => (go_simp; try (first | rfl | exact (Bool.not_not _).symm))
          try simp only [Act.put, List.setIfInBounds_toArray, List.set_cons_zero, List.set_cons_succ]
          refine wpL_q 2 ?_ rfl (Or.inl ⟨by rfl, fun w_ hS_ => ?_⟩) (marks 23 7) ?_
          rotate_left
          next => (go_simp; try (first | rfl | exact (Bool.not_not _).symm))
          try simp only [Act.put, List.setIfInBounds_toArray, List.set_cons_zero, List.set_cons_succ]
          refine wpL_m 3 ?_ rfl (.head _) (Or.inl ⟨by rfl, fun w_ hS_ => ?_⟩) (marks 23 15) ?_
          rotate_left
          next => (subst hS_; go_simp; try (first | rfl | exact (Bool.not_not _).symm))
          try simp only [Act.put, List.setIfInBounds_toArray, List.set_cons_zero, List.set_cons_succ]
          refine wpL_q 4 ?_ rfl (Or.inl ⟨by rfl, fun w_ hS_ => ?_⟩) (marks 23 31) ?_
          rotate_left
          next => (go_simp; try (first | rfl | exact (Bool.not_not _).symm))
          try simp only [Act.put, List.setIfInBounds_toArray, List.set_cons_zero, List.set_cons_succ]
          refine wpL_q 5 ?_ rfl (Or.inl ⟨by rfl, fun w_ hS_ => ?_⟩) (marks 23 63) ?_
          rotate_left
          next => (go_simp; try (first | rfl | exact (Bool.not_not _).symm))
          try simp only [Act.put, List.setIfInBounds_toArray, List.set_cons_zero, List.set_cons_succ]
          refine wpL_b 6 ?_ rfl (Or.inl ⟨by rfl, fun w_ hS_ => ?_⟩) (marks 23 127) ?_
          rotate_left
          next => (go_simp; try (first | rfl | exact (Bool.not_not _).symm))
          intro bb_ hg6
          cases bb_
          case' true =>
           (try simp only [decide_eq_true_eq, decide_eq_false_iff_not, beq_iff_eq, beq_eq_false_iff_ne, bne_iff_ne, bne_eq_false_iff_eq, Bool.not_eq_true', Bool.not_eq_false', Int.not_lt, Int.not_le] at hg6)
           first | (cases hg6; done) | (exfalso; omega; done) | skip
           all_goals
            try replace hg6 := Sep.hid hg6
            try simp only [Act.put, List.setIfInBounds_toArray, List.set_cons_zero, List.set_cons_succ]
            refine wpL_q 7 ?_ rfl (Or.inl ⟨by rfl, fun w_ hS_ => ?_⟩) (marks 23 255) ?_
            rotate_left
            next => (go_simp; try (first | rfl | exact (Bool.not_not _).symm))
            try simp only [Act.put, List.setIfInBounds_toArray, List.set_cons_zero, List.set_cons_succ]
            refine wpL_q 8 ?_ rfl (Or.inl ⟨by rfl, fun w_ hS_ => ?_⟩) (marks 23 511) ?_
            rotate_left
            next => (go_simp; try (first | rfl | exact (Bool.not_not _).symm))
            try simp only [Act.put, List.setIfInBounds_toArray, List.set_cons_zero, List.set_cons_succ]
            refine wpL_q 9 ?_ rfl (Or.inl ⟨by rfl, fun w_ hS_ => ?_⟩) (marks 23 1023) ?_
            rotate_left
            next => (go_simp; try (first | rfl | exact (Bool.not_not _).symm))
            try simp only [Act.put, List.setIfInBounds_toArray, List.set_cons_zero, List.set_cons_succ]
            refine wpL_m 10 ?_ rfl (.tail _ (.head _)) (Or.inl ⟨by rfl, fun w_ hS_ => ?_⟩) (marks 23 2047) ?_
            rotate_left
            next => (subst hS_; go_simp; try (first | rfl | exact (Bool.not_not _).symm))
            try simp only [Act.put, List.setIfInBounds_toArray, List.set_cons_zero, List.set_cons_succ]
            refine wpL_q 11 ?_ rfl (Or.inl ⟨by rfl, fun w_ hS_ => ?_⟩) (marks 23 4095) ?_
            rotate_left
            next => (go_simp; try (first | rfl | exact (Bool.not_not _).symm))
            try simp only [Act.put, List.setIfInBounds_toArray, List.set_cons_zero, List.set_cons_succ]
            refine wpL_q 12 ?_ rfl (Or.inl ⟨by rfl, fun w_ hS_ => ?_⟩) (marks 23 8191) ?_
            rotate_left
            next => (go_simp; try (first | rfl | exact (Bool.not_not _).symm))
            try simp only [Act.put, List.setIfInBounds_toArray, List.set_cons_zero, List.set_cons_succ]
            refine wpL_q 13 ?_ rfl (Or.inl ⟨by rfl, fun w_ hS_ => ?_⟩) (marks 23 16383) ?_
            rotate_left
            next => (go_simp; try (first | rfl | exact (Bool.not_not _).symm))
            try simp only [Act.put, List.setIfInBounds_toArray, List.set_cons_zero, List.set_cons_succ]
            refine wpL_m 14 ?_ rfl (.tail _ (.tail _ (.head _))) (Or.inl ⟨by rfl, fun w_ hS_ => ?_⟩) (marks 23 32767) ?_
            rotate_left
            next => (subst hS_; go_simp; try (first | rfl | exact (Bool.not_not _).symm))
            try simp only [Act.put, List.setIfInBounds_toArray, List.set_cons_zero, List.set_cons_succ]
            refine wpL_q 15 ?_ rfl (Or.inl ⟨by rfl, fun w_ hS_ => ?_⟩) (marks 23 65535) ?_
            rotate_left
            next => (go_simp; try (first | rfl | exact (Bool.not_not _).symm))
            try simp only [Act.put, List.setIfInBounds_toArray, List.set_cons_zero, List.set_cons_succ]
            refine wpL_m 16 ?_ rfl (.tail _ (.tail _ (.tail _ (.head _)))) (Or.inl ⟨by rfl, fun w_ hS_ => ?_⟩) (marks 23 131071) ?_
            rotate_left
            next => (subst hS_; go_simp; try (first | rfl | exact (Bool.not_not _).symm))
            try simp only [Act.put, List.setIfInBounds_toArray, List.set_cons_zero, List.set_cons_succ]
            refine wpL_q 17 ?_ rfl (Or.inl ⟨by rfl, fun w_ hS_ => ?_⟩) (marks 23 262143) ?_
            rotate_left
            next => (go_simp; try (first | rfl | exact (Bool.not_not _).symm))
            try simp only [Act.put, List.setIfInBounds_toArray, List.set_cons_zero, List.set_cons_succ]
            refine wpL_q 18 ?_ rfl (Or.inl ⟨by rfl, fun w_ hS_ => ?_⟩) (marks 23 524287) ?_
            rotate_left
            next => (go_simp; try (first | rfl | exact (Bool.not_not _).symm))
            try simp only [Act.put, List.setIfInBounds_toArray, List.set_cons_zero, List.set_cons_succ]
            refine wpL_q 19 ?_ rfl (Or.inl ⟨by rfl, fun w_ hS_ => ?_⟩) (marks 23 1048575) ?_
            rotate_left
            next => (go_simp; try (first | rfl | exact (Bool.not_not _).symm))
            try simp only [Act.put, List.setIfInBounds_toArray, List.set_cons_zero, List.set_cons_succ]
            refine wpL_m 20 ?_ rfl (.tail _ (.tail _ (.tail _ (.tail _ (.head _))))) (Or.inl ⟨by rfl, fun w_ hS_ => ?_⟩) (marks 23 2097151) ?_
            rotate_left
            next => (subst hS_; go_simp; try (first | rfl | exact (Bool.not_not _).symm))
            try simp only [Act.put, List.setIfInBounds_toArray, List.set_cons_zero, List.set_cons_succ]
            refine wpL_o 21 rfl (by rfl) (marks 23 4194303) ?_
            (go_simp; go_at_call 28; refine (rFits h1 x room Hh.out (Hx.out x (by simp)) Hr.out _).mono ?_; rintro _ w_ ⟨rfl, rfl⟩; rw [Hf.out])
            refine ⟨(SL.drop 21 (by kernel_rfl) (SL.drop 21 (by kernel_rfl) (SL.drop 21 (by kernel_rfl) (SL.drop 21 (by kernel_rfl) (SL.drop 21 (by kernel_rfl) SL.nil))))), ?_⟩
            try simp only [Act.put, List.setIfInBounds_toArray, List.set_cons_zero, List.set_cons_succ]
          case' false =>
           (try simp only [decide_eq_true_eq, decide_eq_false_iff_not, beq_iff_eq, beq_eq_false_iff_ne, bne_iff_ne, bne_eq_false_iff_eq, Bool.not_eq_true', Bool.not_eq_false', Int.not_lt, Int.not_le] at hg6)
           first | (cases hg6; done) | (exfalso; omega; done)
          all_goals
           refine wpL_q 22 ?_ rfl (Or.inl ⟨by rfl, fun w_ hS_ => ?_⟩) (marks 23 8388607) ?_
           rotate_left
           next => (go_simp; try (first | rfl | exact (Bool.not_not _).symm))
           try simp only [Act.put, List.setIfInBounds_toArray, List.set_cons_zero, List.set_cons_succ]
           all_goals refine wpL_done (by kernel_rfl) ?_ _
          go_wp2_with fail
          refine wp_region_L [14] [(4, (fun w' => w' = wr.drew.drew)), (8, (fun w' => w' = wr.drew.drew)), (10, (fun w' => w' = wr.drew.drew))] (n := 15) (listed := (marks 15 0)) (by kernel_rfl) rfl (by kernel_rfl) ?conds4 ?_
          case conds4 =>
           intro c hc
           simp only [List.mem_cons, List.not_mem_nil, or_false] at hc
           rcases hc with rfl | rfl | rfl
           · rfl
           · rfl
           · rfl
          replace hw := hw.drew
          (try replace hc0 := Sep.Holds.cells hw (i := 0) rfl); (try replace hc1 := Sep.Holds.cells hw (i := 1) rfl); (try replace hc2 := Sep.Holds.cells hw (i := 2) rfl); (try replace hc3 := Sep.Holds.cells hw (i := 3) rfl); (try replace hc4 := Sep.Holds.cells hw (i := 4) rfl); (try replace hc5 := Sep.Holds.cells hw (i := 5) rfl); (try replace hc6 := Sep.Holds.cells hw (i := 6) rfl)
          refine wpL_q 0 ?_ rfl (Or.inl ⟨by rfl, fun w_ hS_ => ?_⟩) (marks 15 1) ?_
          rotate_left
          next => (go_simp; try (first | rfl | exact (Bool.not_not _).symm))
          try simp only [Act.put, List.setIfInBounds_toArray, List.set_cons_zero, List.set_cons_succ]
          refine wpL_q 1 ?_ rfl (Or.inl ⟨by rfl, fun w_ hS_ => ?_⟩) (marks 15 3) ?_
          rotate_left
          next => (go_simp; try (first | rfl | exact (Bool.not_not _).symm))
          try simp only [Act.put, List.setIfInBounds_toArray, List.set_cons_zero, List.set_cons_succ]
          refine wpL_q 2 ?_ rfl (Or.inl ⟨by rfl, fun w_ hS_ => ?_⟩) (marks 15 7) ?_
          rotate_left
          next => (go_simp; try (first | rfl | exact (Bool.not_not _).symm))
          try simp only [Act.put, List.setIfInBounds_toArray, List.set_cons_zero, List.set_cons_succ]
          refine wpL_q 3 ?_ rfl (Or.inl ⟨by rfl, fun w_ hS_ => ?_⟩) (marks 15 15) ?_
          rotate_left
          next => (go_simp; try (first | rfl | exact (Bool.not_not _).symm))
          try simp only [Act.put, List.setIfInBounds_toArray, List.set_cons_zero, List.set_cons_succ]
          refine wpL_m 4 ?_ rfl (.head _) (Or.inl ⟨by rfl, fun w_ hS_ => ?_⟩) (marks 15 31) ?_
          rotate_left
          next => (subst hS_; go_simp; try (first | rfl | exact (Bool.not_not _).symm))
          try simp only [Act.put, List.setIfInBounds_toArray, List.set_cons_zero, List.set_cons_succ]
          refine wpL_q 5 ?_ rfl (Or.inl ⟨by rfl, fun w_ hS_ => ?_⟩) (marks 15 63) ?_
          rotate_left
          next => (go_simp; try (first | rfl | exact (Bool.not_not _).symm))
          try simp only [Act.put, List.setIfInBounds_toArray, List.set_cons_zero, List.set_cons_succ]
          refine wpL_q 6 ?_ rfl (Or.inl ⟨by rfl, fun w_ hS_ => ?_⟩) (marks 15 127) ?_
          rotate_left
          next => (go_simp; try (first | rfl | exact (Bool.not_not _).symm))
          try simp only [Act.put, List.setIfInBounds_toArray, List.set_cons_zero, List.set_cons_succ]
          refine wpL_q 7 ?_ rfl (Or.inl ⟨by rfl, fun w_ hS_ => ?_⟩) (marks 15 255) ?_
          rotate_left
          next => (go_simp; try (first | rfl | exact (Bool.not_not _).symm))
          try simp only [Act.put, List.setIfInBounds_toArray, List.set_cons_zero, List.set_cons_succ]
          refine wpL_m 8 ?_ rfl (.tail _ (.head _)) (Or.inl ⟨by rfl, fun w_ hS_ => ?_⟩) (marks 15 511) ?_
          rotate_left
          next => (subst hS_; go_simp; try (first | rfl | exact (Bool.not_not _).symm))
          try simp only [Act.put, List.setIfInBounds_toArray, List.set_cons_zero, List.set_cons_succ]
          refine wpL_q 9 ?_ rfl (Or.inl ⟨by rfl, fun w_ hS_ => ?_⟩) (marks 15 1023) ?_
          rotate_left
          next => (go_simp; try (first | rfl | exact (Bool.not_not _).symm))
          try simp only [Act.put, List.setIfInBounds_toArray, List.set_cons_zero, List.set_cons_succ]
          refine wpL_m 10 ?_ rfl (.tail _ (.tail _ (.head _))) (Or.inl ⟨by rfl, fun w_ hS_ => ?_⟩) (marks 15 2047) ?_
          rotate_left
          next => (subst hS_; go_simp; try (first | rfl | exact (Bool.not_not _).symm))
          try simp only [Act.put, List.setIfInBounds_toArray, List.set_cons_zero, List.set_cons_succ]
          refine wpL_q 11 ?_ rfl (Or.inl ⟨by rfl, fun w_ hS_ => ?_⟩) (marks 15 4095) ?_
          rotate_left
          next => (go_simp; try (first | rfl | exact (Bool.not_not _).symm))
          try simp only [Act.put, List.setIfInBounds_toArray, List.set_cons_zero, List.set_cons_succ]
          refine wpL_q 12 ?_ rfl (Or.inl ⟨by rfl, fun w_ hS_ => ?_⟩) (marks 15 8191) ?_
          rotate_left
          next => (go_simp; try (first | rfl | exact (Bool.not_not _).symm))
          try simp only [Act.put, List.setIfInBounds_toArray, List.set_cons_zero, List.set_cons_succ]
          refine wpL_q 13 ?_ rfl (Or.inl ⟨by rfl, fun w_ hS_ => ?_⟩) (marks 15 16383) ?_
          rotate_left
          next => (go_simp; try (first | rfl | exact (Bool.not_not _).symm))
          try simp only [Act.put, List.setIfInBounds_toArray, List.set_cons_zero, List.set_cons_succ]
          refine wpL_o 14 rfl (by rfl) (marks 15 32767) ?_
          ((first | refine wp_store1 (v := _) rfl rfl rfl hw (i := 0) rfl (by simp [Sep.mid_length, Act.eval, Value.cells]; try omega) rfl ?_ | refine wp_store1 (v := _) rfl rfl rfl hw (i := 1) rfl (by simp [Sep.mid_length, Act.eval, Value.cells]; try omega) rfl ?_ | refine wp_store1 (v := _) rfl rfl rfl hw (i := 2) rfl (by simp [Sep.mid_length, Act.eval, Value.cells]; try omega) rfl ?_ | refine wp_store1 (v := _) rfl rfl rfl hw (i := 3) rfl (by simp [Sep.mid_length, Act.eval, Value.cells]; try omega) rfl ?_ | refine wp_store1 (v := _) rfl rfl rfl hw (i := 4) rfl (by simp [Sep.mid_length, Act.eval, Value.cells]; try omega) rfl ?_ | refine wp_storeN (vs := _) rfl rfl rfl hw (i := 0) rfl rfl (by simp [Sep.mid_length, Act.eval, Value.cells]; try omega) (by simp [Value.oneCell', Act.eval, Value.cells]) ?_ | refine wp_storeN (vs := _) rfl rfl rfl hw (i := 1) rfl rfl (by simp [Sep.mid_length, Act.eval, Value.cells]; try omega) (by simp [Value.oneCell', Act.eval, Value.cells]) ?_ | refine wp_storeN (vs := _) rfl rfl rfl hw (i := 2) rfl rfl (by simp [Sep.mid_length, Act.eval, Value.cells]; try omega) (by simp [Value.oneCell', Act.eval, Value.cells]) ?_ | refine wp_storeN (vs := _) rfl rfl rfl hw (i := 3) rfl rfl (by simp [Sep.mid_length, Act.eval, Value.cells]; try omega) (by simp [Value.oneCell', Act.eval, Value.cells]) ?_ | refine wp_storeN (vs := _) rfl rfl rfl hw (i := 4) rfl rfl (by simp [Sep.mid_length, Act.eval, Value.cells]; try omega) (by simp [Value.oneCell', Act.eval, Value.cells]) ?_); intro w_ hw_; clear hw; have hw := hw_; clear hw_; (try simp only [List.map_cons, List.map_nil, List.getD_cons_zero, List.getD_cons_succ, List.getD_nil, List.set_cons_zero, List.set_cons_succ, List.cons_append, List.nil_append, Act.eval, Array.getD_eq_getD_getElem?, List.getElem?_toArray, List.getElem?_cons_succ, List.getElem?_cons_zero, Option.getD_some, Value.cells] at hw); (try simp (disch := first | (simp; done) | (simp; omega)) only [Sep.mid_set, Sep.mid_set2, Sep.mid_set0, Sep.mid_splice, Sep.mid_splice0, List.set_cons_zero, List.set_cons_succ] at hw); (try simp only [Sep.splice, List.take_succ_cons, List.take_zero, List.drop_succ_cons, List.drop_zero, List.length_cons, List.length_nil, Nat.reduceAdd, List.cons_append, List.nil_append] at hw); (try replace hc0 := Sep.Holds.cells hw (i := 0) rfl); (try replace hc1 := Sep.Holds.cells hw (i := 1) rfl); (try replace hc2 := Sep.Holds.cells hw (i := 2) rfl); (try replace hc3 := Sep.Holds.cells hw (i := 3) rfl); (try replace hc4 := Sep.Holds.cells hw (i := 4) rfl); (try replace hc5 := Sep.Holds.cells hw (i := 5) rfl); (try replace hc6 := Sep.Holds.cells hw (i := 6) rfl))
          refine ⟨(SL.drop 14 (by kernel_rfl) (SL.drop 14 (by kernel_rfl) (SL.drop 14 (by kernel_rfl) SL.nil))), ?_⟩
          try simp only [Act.put, List.setIfInBounds_toArray, List.set_cons_zero, List.set_cons_succ]
          all_goals refine wpL_done (by kernel_rfl) ?_ _
          clear hwr gu gn
          obtain ⟨_, _, hbu, gu⟩ := num_at (i := 3) (k := 0) (l := t :: w1) (n := w1.length + 1) hw rfl rfl
          cases hbu
          simp only [Nat.add_zero] at gu
          go_wp2_with (first | (refine wpList_on rfl (wp_bsl1 rfl rfl (by rfl) (by rfl) (by decide) hw ?_); intro b_ w_ hw_; clear hw; have hw := hw_; clear hw_; (try simp only [List.map_cons, List.map_nil, List.getD_cons_zero, List.getD_cons_succ, List.getD_nil, List.set_cons_zero, List.set_cons_succ, List.cons_append, List.nil_append, Act.eval, Array.getD_eq_getD_getElem?, List.getElem?_toArray, List.getElem?_cons_succ, List.getElem?_cons_zero, Option.getD_some, Value.cells] at hw); (try simp (disch := first | (simp; done) | (simp; omega)) only [Sep.mid_set, Sep.mid_set2, Sep.mid_set0, Sep.mid_splice, Sep.mid_splice0, List.set_cons_zero, List.set_cons_succ] at hw); (try simp only [Sep.splice, List.take_succ_cons, List.take_zero, List.drop_succ_cons, List.drop_zero, List.length_cons, List.length_nil, Nat.reduceAdd, List.cons_append, List.nil_append] at hw); (try replace hc0 := Sep.Holds.cells hw (i := 0) rfl); (try replace hc1 := Sep.Holds.cells hw (i := 1) rfl); (try replace hc2 := Sep.Holds.cells hw (i := 2) rfl); (try replace hc3 := Sep.Holds.cells hw (i := 3) rfl); (try replace hc4 := Sep.Holds.cells hw (i := 4) rfl); (try replace hc5 := Sep.Holds.cells hw (i := 5) rfl); (try replace hc6 := Sep.Holds.cells hw (i := 6) rfl)) | (at_builtin; refine wpList_on rfl (wp_appendPt (i := 2) (j := 7) rfl rfl hw rfl rfl rfl (by rfl) (by simp [Value.oneCell']) (by decide) (by rfl) (by have := Hol.out; (try unfold maxLen); omega) (by have := Hol.out; (try unfold maxLen); omega) ?_); intro b2_ cap2_ off2_ w_ hcap2_ hw_; clear hw; have hw := hw_; clear hw_; (try simp only [List.map_cons, List.map_nil, List.getD_cons_zero, List.getD_cons_succ, List.getD_nil, List.set_cons_zero, List.set_cons_succ, List.cons_append, List.nil_append, Act.eval, Array.getD_eq_getD_getElem?, List.getElem?_toArray, List.getElem?_cons_succ, List.getElem?_cons_zero, Option.getD_some, Value.cells] at hw); (try simp (disch := first | (simp; done) | (simp; omega)) only [Sep.mid_set, Sep.mid_set2, Sep.mid_set0, Sep.mid_splice, Sep.mid_splice0, List.set_cons_zero, List.set_cons_succ] at hw); (try simp only [Sep.splice, List.take_succ_cons, List.take_zero, List.drop_succ_cons, List.drop_zero, List.length_cons, List.length_nil, Nat.reduceAdd, List.cons_append, List.nil_append] at hw); (try replace hc0 := Sep.Holds.cells hw (i := 0) rfl); (try replace hc1 := Sep.Holds.cells hw (i := 1) rfl); (try replace hc2 := Sep.Holds.cells hw (i := 2) rfl); (try replace hc3 := Sep.Holds.cells hw (i := 3) rfl); (try replace hc4 := Sep.Holds.cells hw (i := 4) rfl); (try replace hc5 := Sep.Holds.cells hw (i := 5) rfl); (try replace hc6 := Sep.Holds.cells hw (i := 6) rfl)) | (refine wpList_on rfl (wp_sliceFrom (i := 3) (l := 1) rfl rfl rfl hw rfl (by simp) ?_); intro a3_ c3_ hw_; clear hw; have hw := hw_; clear hw_; (try simp only [List.map_cons, List.map_nil, List.getD_cons_zero, List.getD_cons_succ, List.getD_nil, List.set_cons_zero, List.set_cons_succ, List.cons_append, List.nil_append, Act.eval, Array.getD_eq_getD_getElem?, List.getElem?_toArray, List.getElem?_cons_succ, List.getElem?_cons_zero, Option.getD_some, Value.cells] at hw); (try simp (disch := first | (simp; done) | (simp; omega)) only [Sep.mid_set, Sep.mid_set2, Sep.mid_set0, Sep.mid_splice, Sep.mid_splice0, List.set_cons_zero, List.set_cons_succ] at hw); (try simp only [Sep.splice, List.take_succ_cons, List.take_zero, List.drop_succ_cons, List.drop_zero, List.length_cons, List.length_nil, Nat.reduceAdd, List.cons_append, List.nil_append] at hw); (try replace hc0 := Sep.Holds.cells hw (i := 0) rfl); (try replace hc1 := Sep.Holds.cells hw (i := 1) rfl); (try replace hc2 := Sep.Holds.cells hw (i := 2) rfl); (try replace hc3 := Sep.Holds.cells hw (i := 3) rfl); (try replace hc4 := Sep.Holds.cells hw (i := 4) rfl); (try replace hc5 := Sep.Holds.cells hw (i := 5) rfl); (try replace hc6 := Sep.Holds.cells hw (i := 6) rfl)) | (refine wpList_on rfl (wp_sliceFrom (i := 5) (l := 1) rfl rfl rfl hw rfl (by simp) ?_); intro a5_ c5_ hw_; clear hw; have hw := hw_; clear hw_; (try simp only [List.map_cons, List.map_nil, List.getD_cons_zero, List.getD_cons_succ, List.getD_nil, List.set_cons_zero, List.set_cons_succ, List.cons_append, List.nil_append, Act.eval, Array.getD_eq_getD_getElem?, List.getElem?_toArray, List.getElem?_cons_succ, List.getElem?_cons_zero, Option.getD_some, Value.cells] at hw); (try simp (disch := first | (simp; done) | (simp; omega)) only [Sep.mid_set, Sep.mid_set2, Sep.mid_set0, Sep.mid_splice, Sep.mid_splice0, List.set_cons_zero, List.set_cons_succ] at hw); (try simp only [Sep.splice, List.take_succ_cons, List.take_zero, List.drop_succ_cons, List.drop_zero, List.length_cons, List.length_nil, Nat.reduceAdd, List.cons_append, List.nil_append] at hw); (try replace hc0 := Sep.Holds.cells hw (i := 0) rfl); (try replace hc1 := Sep.Holds.cells hw (i := 1) rfl); (try replace hc2 := Sep.Holds.cells hw (i := 2) rfl); (try replace hc3 := Sep.Holds.cells hw (i := 3) rfl); (try replace hc4 := Sep.Holds.cells hw (i := 4) rfl); (try replace hc5 := Sep.Holds.cells hw (i := 5) rfl); (try replace hc6 := Sep.Holds.cells hw (i := 6) rfl)) | ((first | refine wpList_on rfl (wp_store1 (v := _) rfl rfl rfl hw (i := 0) rfl (by simp [Sep.mid_length, Act.eval, Value.cells]; try omega) rfl ?_) | refine wpList_on rfl (wp_store1 (v := _) rfl rfl rfl hw (i := 1) rfl (by simp [Sep.mid_length, Act.eval, Value.cells]; try omega) rfl ?_) | refine wpList_on rfl (wp_store1 (v := _) rfl rfl rfl hw (i := 2) rfl (by simp [Sep.mid_length, Act.eval, Value.cells]; try omega) rfl ?_) | refine wpList_on rfl (wp_store1 (v := _) rfl rfl rfl hw (i := 3) rfl (by simp [Sep.mid_length, Act.eval, Value.cells]; try omega) rfl ?_) | refine wpList_on rfl (wp_store1 (v := _) rfl rfl rfl hw (i := 4) rfl (by simp [Sep.mid_length, Act.eval, Value.cells]; try omega) rfl ?_)); intro w_ hw_; clear hw; have hw := hw_; clear hw_; (try simp only [List.map_cons, List.map_nil, List.getD_cons_zero, List.getD_cons_succ, List.getD_nil, List.set_cons_zero, List.set_cons_succ, List.cons_append, List.nil_append, Act.eval, Array.getD_eq_getD_getElem?, List.getElem?_toArray, List.getElem?_cons_succ, List.getElem?_cons_zero, Option.getD_some, Value.cells] at hw); (try simp (disch := first | (simp; done) | (simp; omega)) only [Sep.mid_set, Sep.mid_set2, Sep.mid_set0, Sep.mid_splice, Sep.mid_splice0, List.set_cons_zero, List.set_cons_succ] at hw); (try simp only [Sep.splice, List.take_succ_cons, List.take_zero, List.drop_succ_cons, List.drop_zero, List.length_cons, List.length_nil, Nat.reduceAdd, List.cons_append, List.nil_append] at hw); (try replace hc0 := Sep.Holds.cells hw (i := 0) rfl); (try replace hc1 := Sep.Holds.cells hw (i := 1) rfl); (try replace hc2 := Sep.Holds.cells hw (i := 2) rfl); (try replace hc3 := Sep.Holds.cells hw (i := 3) rfl); (try replace hc4 := Sep.Holds.cells hw (i := 4) rfl); (try replace hc5 := Sep.Holds.cells hw (i := 5) rfl); (try replace hc6 := Sep.Holds.cells hw (i := 6) rfl)))
          (try simp only [Act.put, List.setIfInBounds_toArray, List.set_cons_zero, List.set_cons_succ])
          go_roundw
          case rel =>
            refine ⟨h1 + x, o ++ [t], w1, wn1, Hgo.out, by have := Hl1.out; simp at this ⊢; omega, Hl2.out, Hb.out, fun y hy => Hx.out y (by simp [hy]), ?_⟩
            have hw : Holds e w_ [X, pt p [.int .i64 (h1 + x), .int .i64 room, .slice a3_ w1.length c3_, v, .slice a5_ wn1.length c5_, vn, .int .i64 (n : Int)] 48, IsInts (.slice (some ⟨b2_, off2_, none⟩) (o.length + 1) cap2_) (o ++ [t]), IsInts (.slice a3_ w1.length c3_) w1, IsInts v d, IsI64s (.slice a5_ wn1.length c5_) wn1, IsI64s vn dn, pt b_ [.int .i64 t] 3] := by
              rw [sl_snoc] at hw; exact hw
            have h_ := Holds.group [X, IsInts (.slice (some ⟨b2_, off2_, none⟩) (o.length + 1) cap2_) (o ++ [t])] _ (hw.sel [0, 2, 1, 3, 4, 5, 6] (by decide))
            have h_ := exL.mk (f := rsParts p n (h1 + x) room w1 d wn1 dn) ⟨_, _, _, _⟩ h_
            exact (Holds.ungroup [X, IsInts (.slice (some ⟨b2_, off2_, none⟩) (o.length + 1) cap2_) (o ++ [t])] [_] h_).sel [0, 2, 1] (by decide)
          case measure => have := Hl1.out; simp [slLen] at this ⊢; omega
set_option maxHeartbeats 4000000 in
theorem fWants (p n : Nat) (held room : Int) (w d : List Int) (g : Int → Int) (t : Int) (hl : w.length ≤ 1000 ∧ d.length ≤ 1000) (e W : World) (X : HProp) (hw : Holds e W [X, IsRS p n held room w d (w.map g) (d.map g)]) :
    Calls Try.prog 19 #[.pointer (some ⟨p, 0, none⟩), .int .i64 t] W fun en w' => en = .returned (.tuple #[.int .i64 (if t ∈ w ∨ t ∈ d then g t else 0), .bool (decide (t ∈ w ∨ t ∈ d))]) ∧ Holds e w' [X, IsRS p n held room w d (w.map g) (d.map g)] := by
  have Hw0 := Sep.hid hw
  obtain ⟨⟨u, v, un, vn⟩, hw⟩ := hw.open' (i := 1) rfl
  (try simp only [List.map_cons, List.map_nil, List.getD_cons_zero, List.getD_cons_succ, List.getD_nil, List.set_cons_zero, List.set_cons_succ, List.cons_append, List.nil_append, Act.eval, Array.getD_eq_getD_getElem?, List.getElem?_toArray, List.getElem?_cons_succ, List.getElem?_cons_zero, Option.getD_some, Value.cells] at hw); (try simp (disch := first | (simp; done) | (simp; omega)) only [Sep.mid_set, Sep.mid_set2, Sep.mid_set0, Sep.mid_splice, Sep.mid_splice0, List.set_cons_zero, List.set_cons_succ] at hw); (try simp only [Sep.splice, List.take_succ_cons, List.take_zero, List.drop_succ_cons, List.drop_zero, List.length_cons, List.length_nil, Nat.reduceAdd, List.cons_append, List.nil_append] at hw)
  have hw := hw.open_ 1 rfl
  (try simp only [List.map_cons, List.map_nil, List.getD_cons_zero, List.getD_cons_succ, List.getD_nil, List.set_cons_zero, List.set_cons_succ, List.cons_append, List.nil_append, Act.eval, Array.getD_eq_getD_getElem?, List.getElem?_toArray, List.getElem?_cons_succ, List.getElem?_cons_zero, Option.getD_some, Value.cells] at hw); (try simp (disch := first | (simp; done) | (simp; omega)) only [Sep.mid_set, Sep.mid_set2, Sep.mid_set0, Sep.mid_splice, Sep.mid_splice0, List.set_cons_zero, List.set_cons_succ] at hw); (try simp only [Sep.splice, List.take_succ_cons, List.take_zero, List.drop_succ_cons, List.drop_zero, List.length_cons, List.length_nil, Nat.reduceAdd, List.cons_append, List.nil_append] at hw)
  have hl1 := hl.1
  have hl2 := hl.2
  clear hl
  obtain ⟨nw, hnw⟩ : ∃ k, w.length = k := ⟨_, rfl⟩
  obtain ⟨nd, hnd⟩ : ∃ k, d.length = k := ⟨_, rfl⟩
  have hw : Holds e W [X, pt p [.int .i64 held, .int .i64 room, u, v, un, vn, .int .i64 (n : Int)] 48, Sl 3 1 u nw (encI w), Sl 3 1 v nd (encI d), Sl 2 1 un nw (encI (w.map g)), Sl 2 1 vn nd (encI (d.map g))] := by
    subst hnw; subst hnd
    have := hw
    unfold IsI64s at this
    rwa [List.length_map, List.length_map] at this
  rw [hnw] at hl1; rw [hnd] at hl2
  have Hnw := Sep.hid hnw; have Hnd := Sep.hid hnd
  clear hnw hnd
  obtain ⟨ua, uc, rfl⟩ := Sl.value (i := 2) rfl hw
  obtain ⟨va, vc, rfl⟩ := Sl.value (i := 3) rfl hw
  obtain ⟨na, nc, rfl⟩ := Sl.value (i := 4) rfl hw
  obtain ⟨ma, mc, rfl⟩ := Sl.value (i := 5) rfl hw
  (try replace hc0 := Sep.Holds.cells hw (i := 0) rfl); (try replace hc1 := Sep.Holds.cells hw (i := 1) rfl); (try replace hc2 := Sep.Holds.cells hw (i := 2) rfl); (try replace hc3 := Sep.Holds.cells hw (i := 3) rfl); (try replace hc4 := Sep.Holds.cells hw (i := 4) rfl); (try replace hc5 := Sep.Holds.cells hw (i := 5) rfl); (try replace hc6 := Sep.Holds.cells hw (i := 6) rfl)
  obtain ⟨A, hA⟩ : ∃ A, A = Ending.returned (.tuple #[.int .i64 (if t ∈ w ∨ t ∈ d then g t else 0), .bool (decide (t ∈ w ∨ t ∈ d))]) := ⟨_, rfl⟩
  rw [← hA]
  have HA := Sep.hid hA; clear hA
  refine Sep.calls_post ?_
  intro Post_ hPost_
  have HP := Sep.hid hPost_
  clear hPost_
  go_enter Try.func19, Try.ntmps19
  go_wp2_with fail
  have Hw1 := Sep.hid hw
  go_loopw [6] (fun i wr => ∃ k : Nat, k ≤ nw ∧ i = .int .i64 k ∧ t ∉ w.take k ∧ wr = W) (fun i _ => nw - (intOf i).toNat)
  case atStart => exact ⟨0, Nat.zero_le _, rfl, by simp, rfl⟩
  case round =>
    obtain ⟨k, hk, rfl, hno, rfl⟩ := hrel
    have Hno := Sep.hid hno; clear hno
    by_cases hlt : k < nw
    · obtain ⟨x, hx⟩ : ∃ x, w[k]? = some x := ⟨_, List.getElem?_eq_getElem (by rw [Hnw.out]; exact hlt)⟩
      obtain ⟨bu, ou, rfl, gu⟩ := num_at (i := 2) hw rfl hx
      obtain ⟨bn, on, rfl, gn⟩ := num_at (i := 4) (x := g x) hw rfl (show (w.map g)[k]? = some (g x) by rw [List.getElem?_map, hx]; rfl)
      have Hx := Sep.hid hx; clear hx
      by_cases hxt : x = t
      · have hm : t ∈ w := by rw [← hxt]; exact List.mem_of_getElem? Hx.out
        have Ha : Hid (A = Ending.returned (.tuple #[.int .i64 (g x), .bool true])) := Sep.hid (by rw [HA.out, if_pos (.inl hm), decide_eq_true (.inl hm), hxt])
        have hxq : (x == t) = true := by simpa using hxt
        clear hxt hm
        go_wp2_with fail
        rw [Ha.out] at HP
        exact HP.out _ _ ⟨rfl, Hw0.out⟩
      · have Hxt := Sep.hid hxt
        have hxq : (x == t) = false := by simpa using hxt
        clear hxt
        go_wp2_with fail
        go_roundw
        case rel => exact ⟨k + 1, by omega, by go_num, by rw [take_snoc Hx.out, List.mem_append]; rintro (h | h); exact Hno.out h; exact Hxt.out (List.mem_singleton.1 h).symm, (by first | trivial | rfl)⟩
        case measure => simp [intOf]; omega
    · have hnw : t ∉ w := by
        have := Hno.out
        rwa [List.take_of_length_le (by rw [Hnw.out]; omega)] at this
      have Hno2 := Sep.hid hnw
      clear hnw Hno
      go_wp2_with fail
      go_loopw [7] (fun i wr2 => ∃ k : Nat, k ≤ nd ∧ i = .int .i64 k ∧ t ∉ d.take k ∧ wr2 = wr) (fun i _ => nd - (intOf i).toNat)
      case atStart => exact ⟨0, Nat.zero_le _, rfl, by simp, rfl⟩
      case round =>
        obtain ⟨k2, hk2, rfl, hno, rfl⟩ := hrel
        have Hno := Sep.hid hno; clear hno
        by_cases hlt2 : k2 < nd
        · obtain ⟨x, hx⟩ : ∃ x, d[k2]? = some x := ⟨_, List.getElem?_eq_getElem (by rw [Hnd.out]; exact hlt2)⟩
          obtain ⟨bu, ou, rfl, gu⟩ := num_at (i := 3) hw rfl hx
          obtain ⟨bn, on, rfl, gn⟩ := num_at (i := 5) (x := g x) hw rfl (show (d.map g)[k2]? = some (g x) by rw [List.getElem?_map, hx]; rfl)
          have Hx := Sep.hid hx; clear hx
          by_cases hxt : x = t
          · have hm : t ∈ d := by rw [← hxt]; exact List.mem_of_getElem? Hx.out
            have Ha : Hid (A = Ending.returned (.tuple #[.int .i64 (g x), .bool true])) := Sep.hid (by rw [HA.out, if_pos (.inr hm), decide_eq_true (.inr hm), hxt])
            have hxq : (x == t) = true := by simpa using hxt
            clear hxt hm
            go_wp2_with fail
            rw [Ha.out] at HP
            exact HP.out _ _ ⟨rfl, Hw0.out⟩
          · have Hxt := Sep.hid hxt
            have hxq : (x == t) = false := by simpa using hxt
            clear hxt
            go_wp2_with fail
            go_roundw
            case rel => exact ⟨k2 + 1, by omega, by go_num, by rw [take_snoc Hx.out, List.mem_append]; rintro (h | h); exact Hno.out h; exact Hxt.out (List.mem_singleton.1 h).symm, (by first | trivial | rfl)⟩
            case measure => simp [intOf]; omega
        · have hnd : t ∉ d := by
            have := Hno.out
            rwa [List.take_of_length_le (by rw [Hnd.out]; omega)] at this
          have Ha : Hid (A = Ending.returned (.tuple #[.int .i64 0, .bool false])) := Sep.hid (by rw [HA.out, if_neg (fun h => h.elim Hno2.out hnd), decide_eq_false (fun h => h.elim Hno2.out hnd)])
          clear hnd
          go_wp2_with fail
          rw [Ha.out] at HP
          exact HP.out _ _ ⟨rfl, Hw0.out⟩
end Go.Proofs.Ytpbpineehbemhaa
