/-
  Do both arenas tell the same? The walk of alike.
-/
import Derived.Test.YtmjpppemdjknoaaRefD
namespace Go.Proofs.Ytmjpppemdjknoaa
set_option linter.unusedSimpArgs false
set_option linter.unusedVariables false
open Go.RowKit Go.Sep Go.RingM

/-- What is read of an arena's head. -/
theorem ra_head {e w : World} {L : List HProp} {i p : Nat} {R : Ring} (hw : Holds e w L) (hi : L[i]? = some (IsRA p R)) : ∃ b, ∀ k, w.cell? ⟨p, k, none⟩ = [Value.slice (some ⟨b, 0, none⟩) R.rows.length R.rows.length, .int .i64 (R.n : Int)][k]? := by
  obtain ⟨x, h⟩ := exL.open_ (hw.focus1 i hi)
  have h := h.open_ 1 rfl
  exact ⟨x.b, fun k => Holds.cells h (i := 1) rfl k⟩
set_option maxRecDepth 20000 in
set_option maxHeartbeats 8000000 in
theorem alike_calls (p r : Nat) (R : Ring) (hbd : R.n ≤ 1000 ∧ R.rows.length ≤ 1000) (e w : World) (X : HProp) (hw : Holds e w [X, IsRing p R, IsRA r R]) :
    Calls Try.prog 11 #[.pointer (some ⟨p, 0, none⟩), .pointer (some ⟨r, 0, none⟩)] w fun en w' => en = .returned (.bool true) ∧ Holds e w' [X, IsRing p R, IsRA r R] := by
  have HW := Sep.hid (ringWf (i := 1) rfl hw).1
  have Hbd := Sep.hid hbd
  obtain ⟨m, hm⟩ : ∃ m, R.rows.length = m := ⟨_, rfl⟩
  obtain ⟨n, hn⟩ : ∃ n, R.n = n := ⟨_, rfl⟩
  have hm1 : m ≤ 1000 := by rw [← hm]; exact hbd.2
  have hn1 : n ≤ 1000 := by rw [← hn]; exact hbd.1
  have Hm := Sep.hid hm; have Hn := Sep.hid hn
  clear hm hn hbd
  refine Sep.calls_post ?_
  intro Post_ hPost_
  have HP := Sep.hid hPost_
  clear hPost_
  go_enter Try.func11, Try.ntmps11
  go_wp2_with fail
  have Hw0 := Sep.hid hw; clear hw
  go_loopw [5] (fun i wr => ∃ z : Int, -1 ≤ z ∧ z ≤ (m : Int) + 1 ∧ i = .int .i64 z ∧ Holds e wr [X, IsRing p R, IsRA r R]) (fun i _ => ((m : Int) + 1 - intOf i).toNat)
  case atStart => exact ⟨-1, by omega, by omega, rfl, Hw0.out⟩
  case round =>
    clear Hw0
    obtain ⟨z, hz1, hz2, rfl, hw⟩ := hrel
    obtain ⟨b, hcr⟩ := ra_head (i := 2) hw rfl
    rw [Hm.out, Hn.out] at hcr
    by_cases hzm : z ≤ (m : Int)
    · obtain ⟨l, hl⟩ : ∃ l, R.row z = l := ⟨_, rfl⟩
      obtain ⟨nl, hnl⟩ : ∃ k, l.length = k := ⟨_, rfl⟩
      have hll : nl ≤ 1000 := by
        rw [← hnl, ← hl]
        unfold Ring.row
        split
        · rename_i hr
          obtain ⟨k, l', rfl, h1, h2⟩ := isRow_get hr
          have := row_len HW.out Hbd.out.1 h1
          have e1 := List.getElem?_eq_some_iff.1 h1
          simp only [Int.toNat_natCast, List.getD_eq_getElem?_getD, h1, Option.getD_some]
          exact this
        · simp
      have Hl := Sep.hid hl; have Hnl := Sep.hid hnl
      have HL : Hid ((ints l).length = nl) := Sep.hid (by rw [ints_length]; exact hnl)
      clear hl hnl
      obtain ⟨y, hy⟩ : ∃ y, R.first z = y := ⟨_, rfl⟩
      have Hy := Sep.hid hy; clear hy
      go_wp2_with fail
      refine (rList_calls p R z e _ _ (hw.focus1 1 rfl)).mono ?_
      rintro en_ w_ ⟨u, rfl, hw_⟩
      clear hw hcr; have hw := Holds.unfocus1 1 (by simp) hw_; clear hw_
      (try simp only [List.map_cons, List.map_nil, List.getD_cons_zero, List.getD_cons_succ, List.getD_nil, List.set_cons_zero, List.set_cons_succ, List.cons_append, List.nil_append, Act.eval, Array.getD_eq_getD_getElem?, List.getElem?_toArray, List.getElem?_cons_succ, List.getElem?_cons_zero, Option.getD_some, Value.cells] at hw); (try simp (disch := first | (simp; done) | (simp; omega)) only [Sep.mid_set, Sep.mid_set2, Sep.mid_set0, Sep.mid_splice, Sep.mid_splice0, List.set_cons_zero, List.set_cons_succ] at hw); (try simp only [Sep.splice, List.take_succ_cons, List.take_zero, List.drop_succ_cons, List.drop_zero, List.length_cons, List.length_nil, Nat.reduceAdd, List.cons_append, List.nil_append] at hw)
      rw [Hl.out] at hw
      have hw : Holds e w_ [X, IsRing p R, IsRA r R, Sl 3 1 u nl (encI (ints l))] := by rw [sl_ints HL]; exact hw
      obtain ⟨ua, uc, rfl⟩ := Sl.value (i := 3) rfl hw
      go_wp2_with fail
      refine (fList r R z e _ _ (hw.focus1 2 rfl)).mono ?_
      rintro en_ w_ ⟨a, c, rfl, hrd, hw_⟩
      clear hw; have hw := Holds.unfocus1 2 (by simp) hw_; clear hw_
      (try simp only [List.map_cons, List.map_nil, List.getD_cons_zero, List.getD_cons_succ, List.getD_nil, List.set_cons_zero, List.set_cons_succ, List.cons_append, List.nil_append, Act.eval, Array.getD_eq_getD_getElem?, List.getElem?_toArray, List.getElem?_cons_succ, List.getElem?_cons_zero, Option.getD_some, Value.cells] at hw); (try simp (disch := first | (simp; done) | (simp; omega)) only [Sep.mid_set, Sep.mid_set2, Sep.mid_set0, Sep.mid_splice, Sep.mid_splice0, List.set_cons_zero, List.set_cons_succ] at hw); (try simp only [Sep.splice, List.take_succ_cons, List.take_zero, List.drop_succ_cons, List.drop_zero, List.length_cons, List.length_nil, Nat.reduceAdd, List.cons_append, List.nil_append] at hw)
      rw [Hl.out] at hrd ⊢
      rw [Hnl.out]
      have Hrd := Sep.hid hrd; clear hrd
      go_wp2_with fail
      refine (same_reads ua a (ints l) (ints l) nl nl uc c HL.out.symm HL.out.symm (by omega) _ (reads_of (i := 3) hw rfl) Hrd.out).mono ?_
      rintro en_ w_ ⟨he_, hd_⟩
      rw [decide_eq_true rfl] at he_; subst he_
      have hw := hw.drewTo hd_
      clear hd_ Hrd
      go_wp2_with fail
      refine (rLen_calls p R z e _ _ (hw.focus1 1 rfl)).mono ?_
      rintro _ w_ ⟨rfl, rfl⟩
      rw [Hl.out, Hnl.out]
      go_wp2_with fail
      refine (fList r R z e _ _ (hw.focus1 2 rfl)).mono ?_
      rintro en_ w_ ⟨a2, c2, rfl, _, hw_⟩
      clear hw; have hw := Holds.unfocus1 2 (by simp) hw_; clear hw_
      (try simp only [List.map_cons, List.map_nil, List.getD_cons_zero, List.getD_cons_succ, List.getD_nil, List.set_cons_zero, List.set_cons_succ, List.cons_append, List.nil_append, Act.eval, Array.getD_eq_getD_getElem?, List.getElem?_toArray, List.getElem?_cons_succ, List.getElem?_cons_zero, Option.getD_some, Value.cells] at hw); (try simp (disch := first | (simp; done) | (simp; omega)) only [Sep.mid_set, Sep.mid_set2, Sep.mid_set0, Sep.mid_splice, Sep.mid_splice0, List.set_cons_zero, List.set_cons_succ] at hw); (try simp only [Sep.splice, List.take_succ_cons, List.take_zero, List.drop_succ_cons, List.drop_zero, List.length_cons, List.length_nil, Nat.reduceAdd, List.cons_append, List.nil_append] at hw)
      rw [Hl.out, Hnl.out]
      go_wp2_with fail
      refine (rFirst_calls p R z e _ _ (hw.focus1 1 rfl)).mono ?_
      rintro en_ w_ ⟨rfl, hw_⟩
      clear hw; have hw := Holds.unfocus1 1 (by simp) hw_; clear hw_
      (try simp only [List.map_cons, List.map_nil, List.getD_cons_zero, List.getD_cons_succ, List.getD_nil, List.set_cons_zero, List.set_cons_succ, List.cons_append, List.nil_append, Act.eval, Array.getD_eq_getD_getElem?, List.getElem?_toArray, List.getElem?_cons_succ, List.getElem?_cons_zero, Option.getD_some, Value.cells] at hw); (try simp (disch := first | (simp; done) | (simp; omega)) only [Sep.mid_set, Sep.mid_set2, Sep.mid_set0, Sep.mid_splice, Sep.mid_splice0, List.set_cons_zero, List.set_cons_succ] at hw); (try simp only [Sep.splice, List.take_succ_cons, List.take_zero, List.drop_succ_cons, List.drop_zero, List.length_cons, List.length_nil, Nat.reduceAdd, List.cons_append, List.nil_append] at hw)
      rw [Hy.out]
      go_wp2_with fail
      refine (fFirst r R z e _ _ (hw.focus1 2 rfl)).mono ?_
      rintro _ w_ ⟨rfl, rfl⟩
      rw [Hy.out]
      go_wp2_with fail
      go_roundw
      case rel => exact ⟨z + 1, by omega, by omega, rfl, hw.sel [0, 1, 2] (by decide)⟩
      case measure => simp [intOf]; omega
    · go_wp2_with fail
      have Hw1 := Sep.hid hw; clear hw hcr
      go_loopw [6] (fun i wr => ∃ z : Int, -1 ≤ z ∧ z ≤ (n : Int) + 1 ∧ i = .int .i64 z ∧ Holds e wr [X, IsRing p R, IsRA r R]) (fun i _ => ((n : Int) + 1 - intOf i).toNat)
      case atStart => exact ⟨-1, by omega, by omega, rfl, Hw1.out⟩
      case round =>
        clear Hw1
        obtain ⟨z2, hz1, hz2, rfl, hw⟩ := hrel
        by_cases hzn : z2 ≤ (n : Int)
        · obtain ⟨b2, hcr⟩ := ra_head (i := 2) hw rfl
          rw [Hm.out, Hn.out] at hcr
          obtain ⟨y, hy⟩ : ∃ y, R.in_ z2 = y := ⟨_, rfl⟩
          have Hy := Sep.hid hy; clear hy
          go_wp2_with fail
          refine (rIn_calls p R z2 e _ _ (hw.focus1 1 rfl)).mono ?_
          rintro _ w_ ⟨rfl, rfl⟩
          rw [Hy.out]
          go_wp2_with fail
          refine (fIn r R HW.out Hbd.out z2 e _ _ (hw.focus1 2 rfl)).mono ?_
          rintro _ w_ ⟨rfl, rfl⟩
          rw [Hy.out]
          go_wp2_with fail
          go_roundw
          case rel => exact ⟨z2 + 1, by omega, by omega, rfl, hw⟩
          case measure => simp [intOf]; omega
        · obtain ⟨⟨b2, vs⟩, hw⟩ := hw.open' (i := 2) rfl
          (try simp only [List.map_cons, List.map_nil, List.getD_cons_zero, List.getD_cons_succ, List.getD_nil, List.set_cons_zero, List.set_cons_succ, List.cons_append, List.nil_append, Act.eval, Array.getD_eq_getD_getElem?, List.getElem?_toArray, List.getElem?_cons_succ, List.getElem?_cons_zero, Option.getD_some, Value.cells] at hw); (try simp (disch := first | (simp; done) | (simp; omega)) only [Sep.mid_set, Sep.mid_set2, Sep.mid_set0, Sep.mid_splice, Sep.mid_splice0, List.set_cons_zero, List.set_cons_succ] at hw); (try simp only [Sep.splice, List.take_succ_cons, List.take_zero, List.drop_succ_cons, List.drop_zero, List.length_cons, List.length_nil, Nat.reduceAdd, List.cons_append, List.nil_append] at hw)
          have hw := hw.open_ 2 rfl
          (try simp only [List.map_cons, List.map_nil, List.getD_cons_zero, List.getD_cons_succ, List.getD_nil, List.set_cons_zero, List.set_cons_succ, List.cons_append, List.nil_append, Act.eval, Array.getD_eq_getD_getElem?, List.getElem?_toArray, List.getElem?_cons_succ, List.getElem?_cons_zero, Option.getD_some, Value.cells] at hw); (try simp (disch := first | (simp; done) | (simp; omega)) only [Sep.mid_set, Sep.mid_set2, Sep.mid_set0, Sep.mid_splice, Sep.mid_splice0, List.set_cons_zero, List.set_cons_succ] at hw); (try simp only [Sep.splice, List.take_succ_cons, List.take_zero, List.drop_succ_cons, List.drop_zero, List.length_cons, List.length_nil, Nat.reduceAdd, List.cons_append, List.nil_append] at hw)
          replace hw : Holds e _ [X, IsRing p R, pt r [.slice (some ⟨b2, 0, none⟩) R.rows.length R.rows.length, .int .i64 (R.n : Int)] 57, pt b2 vs 38, sepL (rowsOf vs R.rows), fct (vs.length = R.rows.length)] := hw
          rw [Hm.out, Hn.out] at hw
          (try replace hc0 := Sep.Holds.cells hw (i := 0) rfl); (try replace hc1 := Sep.Holds.cells hw (i := 1) rfl); (try replace hc2 := Sep.Holds.cells hw (i := 2) rfl); (try replace hc3 := Sep.Holds.cells hw (i := 3) rfl); (try replace hc4 := Sep.Holds.cells hw (i := 4) rfl); (try replace hc5 := Sep.Holds.cells hw (i := 5) rfl); (try replace hc6 := Sep.Holds.cells hw (i := 6) rfl)
          go_wp2_with fail
          refine wp_region_L [1, 10] [(5, (fun w' => Holds e w' [pt r [.slice (some ⟨b2, 0, none⟩) m m, .int .i64 (n : Int)] 57])), (14, (fun w' => Holds e w' [pt r [.slice (some ⟨b2, 0, none⟩) m m, .int .i64 (n : Int)] 57]))] (n := 18) (listed := (marks 18 0)) (by kernel_rfl) rfl (by kernel_rfl) ?conds1 ?_
          case conds1 =>
           intro c hc
           simp only [List.mem_cons, List.not_mem_nil, or_false] at hc
           rcases hc with rfl | rfl
           · exact (by replace hw := hw.drew; exact hw.sel [2] (by decide))
           · exact (by replace hw := hw.drew; exact hw.sel [2] (by decide))
          replace hw := hw.drew
          (try replace hc0 := Sep.Holds.cells hw (i := 0) rfl); (try replace hc1 := Sep.Holds.cells hw (i := 1) rfl); (try replace hc2 := Sep.Holds.cells hw (i := 2) rfl); (try replace hc3 := Sep.Holds.cells hw (i := 3) rfl); (try replace hc4 := Sep.Holds.cells hw (i := 4) rfl); (try replace hc5 := Sep.Holds.cells hw (i := 5) rfl); (try replace hc6 := Sep.Holds.cells hw (i := 6) rfl)
          refine wpL_q 0 ?_ rfl (Or.inl ⟨by rfl, fun w_ hS_ => ?_⟩) (marks 18 1) ?_
          rotate_left
          next => (go_simp; try (first | rfl | exact (Bool.not_not _).symm))
          try simp only [Act.put, List.setIfInBounds_toArray, List.set_cons_zero, List.set_cons_succ]
          refine wpL_q 2 ?_ rfl (Or.inl ⟨by rfl, fun w_ hS_ => ?_⟩) (marks 18 5) ?_
          rotate_left
          next => (go_simp; try (first | rfl | exact (Bool.not_not _).symm))
          try simp only [Act.put, List.setIfInBounds_toArray, List.set_cons_zero, List.set_cons_succ]
          refine wpL_q 3 ?_ rfl (Or.inl ⟨by rfl, fun w_ hS_ => ?_⟩) (marks 18 13) ?_
          rotate_left
          next => (go_simp; try (first | rfl | exact (Bool.not_not _).symm))
          try simp only [Act.put, List.setIfInBounds_toArray, List.set_cons_zero, List.set_cons_succ]
          refine wpL_q 4 ?_ rfl (Or.inl ⟨by rfl, fun w_ hS_ => ?_⟩) (marks 18 29) ?_
          rotate_left
          next => (go_simp; try (first | rfl | exact (Bool.not_not _).symm))
          try simp only [Act.put, List.setIfInBounds_toArray, List.set_cons_zero, List.set_cons_succ]
          refine wpL_m 5 ?_ rfl (.head _) (Or.inl ⟨by rfl, fun w_ hS_ => ?_⟩) (marks 18 61) ?_
          rotate_left
          next => (dsimp only at hS_; (try have q0 := Sep.Holds.cells hS_ (i := 0) rfl); (try have q1 := Sep.Holds.cells hS_ (i := 1) rfl); (try have q2 := Sep.Holds.cells hS_ (i := 2) rfl); (try have q3 := Sep.Holds.cells hS_ (i := 3) rfl); (try have q4 := Sep.Holds.cells hS_ (i := 4) rfl); (try have q5 := Sep.Holds.cells hS_ (i := 5) rfl); (try have q6 := Sep.Holds.cells hS_ (i := 6) rfl); go_simp; try (first | rfl | exact (Bool.not_not _).symm))
          try simp only [Act.put, List.setIfInBounds_toArray, List.set_cons_zero, List.set_cons_succ]
          refine wpL_q 6 ?_ rfl (Or.inl ⟨by rfl, fun w_ hS_ => ?_⟩) (marks 18 125) ?_
          rotate_left
          next => (go_simp; try (first | rfl | exact (Bool.not_not _).symm))
          try simp only [Act.put, List.setIfInBounds_toArray, List.set_cons_zero, List.set_cons_succ]
          refine wpL_o 1 rfl (by rfl) (marks 18 127) ?_
          (go_simp; go_at_call 22; refine (rRows_calls p R e _ _ (hw.focus1 1 rfl)).mono ?_; rintro _ w_ ⟨rfl, rfl⟩; rw [Hm.out])
          refine ⟨(SL.keep (by exact hw.sel [2] (by decide)) (SL.keep (by exact hw.sel [2] (by decide)) SL.nil)), ?_⟩
          try simp only [Act.put, List.setIfInBounds_toArray, List.set_cons_zero, List.set_cons_succ]
          refine wpL_q 7 ?_ rfl (Or.inl ⟨by rfl, fun w_ hS_ => ?_⟩) (marks 18 255) ?_
          rotate_left
          next => (go_simp; try (first | rfl | exact (Bool.not_not _).symm))
          try simp only [Act.put, List.setIfInBounds_toArray, List.set_cons_zero, List.set_cons_succ]
          refine wpL_b 8 ?_ rfl (Or.inl ⟨by rfl, fun w_ hS_ => ?_⟩) (marks 18 511) ?_
          rotate_left
          next => (go_simp; try (first | rfl | exact (Bool.not_not _).symm))
          intro bb_ hg8
          cases bb_
          case' true =>
           (try simp only [decide_eq_true_eq, decide_eq_false_iff_not, beq_iff_eq, beq_eq_false_iff_ne, bne_iff_ne, bne_eq_false_iff_eq, Bool.not_eq_true', Bool.not_eq_false', Int.not_lt, Int.not_le] at hg8)
           first | (cases hg8; done) | (exfalso; omega; done) | skip
           all_goals
            try replace hg8 := Sep.hid hg8
            try simp only [Act.put, List.setIfInBounds_toArray, List.set_cons_zero, List.set_cons_succ]
            refine wpL_q 9 ?_ rfl (Or.inl ⟨by rfl, fun w_ hS_ => ?_⟩) (marks 18 1023) ?_
            rotate_left
            next => (go_simp; try (first | rfl | exact (Bool.not_not _).symm))
            try simp only [Act.put, List.setIfInBounds_toArray, List.set_cons_zero, List.set_cons_succ]
            refine wpL_q 11 ?_ rfl (Or.inl ⟨by rfl, fun w_ hS_ => ?_⟩) (marks 18 3071) ?_
            rotate_left
            next => (go_simp; try (first | rfl | exact (Bool.not_not _).symm))
            try simp only [Act.put, List.setIfInBounds_toArray, List.set_cons_zero, List.set_cons_succ]
            refine wpL_q 12 ?_ rfl (Or.inl ⟨by rfl, fun w_ hS_ => ?_⟩) (marks 18 7167) ?_
            rotate_left
            next => (go_simp; try (first | rfl | exact (Bool.not_not _).symm))
            try simp only [Act.put, List.setIfInBounds_toArray, List.set_cons_zero, List.set_cons_succ]
            refine wpL_q 13 ?_ rfl (Or.inl ⟨by rfl, fun w_ hS_ => ?_⟩) (marks 18 15359) ?_
            rotate_left
            next => (go_simp; try (first | rfl | exact (Bool.not_not _).symm))
            try simp only [Act.put, List.setIfInBounds_toArray, List.set_cons_zero, List.set_cons_succ]
            refine wpL_m 14 ?_ rfl (.tail _ (.head _)) (Or.inl ⟨by rfl, fun w_ hS_ => ?_⟩) (marks 18 31743) ?_
            rotate_left
            next => (dsimp only at hS_; (try have q0 := Sep.Holds.cells hS_ (i := 0) rfl); (try have q1 := Sep.Holds.cells hS_ (i := 1) rfl); (try have q2 := Sep.Holds.cells hS_ (i := 2) rfl); (try have q3 := Sep.Holds.cells hS_ (i := 3) rfl); (try have q4 := Sep.Holds.cells hS_ (i := 4) rfl); (try have q5 := Sep.Holds.cells hS_ (i := 5) rfl); (try have q6 := Sep.Holds.cells hS_ (i := 6) rfl); go_simp; try (first | rfl | exact (Bool.not_not _).symm))
            try simp only [Act.put, List.setIfInBounds_toArray, List.set_cons_zero, List.set_cons_succ]
            refine wpL_o 10 rfl (by rfl) (marks 18 32767) ?_
            (go_simp; go_at_call 23; refine (rNodes_calls p R e _ _ (hw.focus1 1 rfl)).mono ?_; rintro _ w_ ⟨rfl, rfl⟩; rw [Hn.out])
            refine ⟨(SL.drop 10 (by kernel_rfl) (SL.keep (by exact hw.sel [2] (by decide)) SL.nil)), ?_⟩
            try simp only [Act.put, List.setIfInBounds_toArray, List.set_cons_zero, List.set_cons_succ]
            refine wpL_q 15 ?_ rfl (Or.inl ⟨by rfl, fun w_ hS_ => ?_⟩) (marks 18 65535) ?_
            rotate_left
            next => (go_simp; try (first | rfl | exact (Bool.not_not _).symm))
            try simp only [Act.put, List.setIfInBounds_toArray, List.set_cons_zero, List.set_cons_succ]
          case' false =>
           (try simp only [decide_eq_true_eq, decide_eq_false_iff_not, beq_iff_eq, beq_eq_false_iff_ne, bne_iff_ne, bne_eq_false_iff_eq, Bool.not_eq_true', Bool.not_eq_false', Int.not_lt, Int.not_le] at hg8)
           first | (cases hg8; done) | (exfalso; omega; done)
          all_goals
           refine wpL_q 16 ?_ rfl (Or.inl ⟨by rfl, fun w_ hS_ => ?_⟩) (marks 18 131071) ?_
           rotate_left
           next => (go_simp; try (first | rfl | exact (Bool.not_not _).symm))
           try simp only [Act.put, List.setIfInBounds_toArray, List.set_cons_zero, List.set_cons_succ]
           refine wpL_q 17 ?_ rfl (Or.inl ⟨by rfl, fun w_ hS_ => ?_⟩) (marks 18 262143) ?_
           rotate_left
           next => (go_simp; try (first | rfl | exact (Bool.not_not _).symm))
           try simp only [Act.put, List.setIfInBounds_toArray, List.set_cons_zero, List.set_cons_succ]
           all_goals refine wpL_done (by kernel_rfl) ?_ _
          go_wp2_with fail
          rw [← Hm.out, ← Hn.out] at hw
          have h_ := Holds.group [X, IsRing p R] _ hw
          have h_ := exL.mk (f := raParts r R) ⟨b2, vs⟩ h_
          have h_ : Holds e _ [X, IsRing p R, IsRA r R] := Holds.ungroup [X, IsRing p R] [_] h_
          exact HP.out _ _ ⟨rfl, h_⟩
end Go.Proofs.Ytmjpppemdjknoaa
