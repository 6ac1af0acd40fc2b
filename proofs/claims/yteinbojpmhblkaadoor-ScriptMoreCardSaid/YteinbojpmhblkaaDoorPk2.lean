/-
  Part 2 of the proof: contracts of functions and what they lean on (CodeS, CodeM, Ints, CodeO, CodeB, CodeE, CodeC, CodeN, CodeI, CodeK, SepDraw).
-/
import Derived.IntWalk
import Derived.LoopIn
import Derived.BigFrameIn
import Derived.OwnWalkIn
import Derived.Test.YteinbojpmhblkaaDoorPk1
/-
  The walk of the document's Right.
-/
namespace Go.Proofs.YteinbojpmhblkaaDoor
set_option linter.unusedSimpArgs false
set_option linter.unusedVariables false
open Go.RowKit Go.Sep

theorem get_strOf {l : List Nat} {k c : Nat} (h : l[k]? = some c) : (strOf l)[k]? = some (UInt8.ofNat c) := by
  obtain ⟨hk, rfl⟩ := List.getElem?_eq_some_iff.1 h
  have hs : k < (strOf l).size := by rw [size_strOf]; exact hk
  rw [getElem?_pos (strOf l) k hs]
  simp [strOf, ByteArray.getElem_eq_getElem_data]
theorem toNat_ofNat {c : Nat} (h : c ∈ letters) : (UInt8.ofNat c).toNat = c := by
  have := letters_lt h
  simp [UInt8.toNat_ofNat]; omega
set_option maxRecDepth 20000 in
set_option maxHeartbeats 8000000 in
theorem rRight (x : Deed) (long : Int) (e w : World) (X : HProp) (hw : Holds e w [X]) :
    Calls Tryd.prog 49 #[.agg (encA x).toArray, .int .i64 long] w fun en w' => en = .returned (.bool (rightP x long)) ∧ Holds e w' [X] := by
  have hA : encA x = [.int .i64 x.f0, .int .i64 x.f1, .int .i64 x.f2, .int .i64 x.f3] := rfl
  rcases form_cases x.f0 with ⟨hf, _⟩ | ⟨c0, c1, c2, hf, m0, m1, m2⟩
  · have hb : rightP x long = false := by unfold rightP; rw [hf]
    have Hf := Sep.hid hf; clear hf
    rw [hb, hA]; clear hb hA
    have hsz := size_strOf []
    obtain ⟨c0, c1, c2, M0, M1, M2⟩ : ∃ c0 c1 c2, Hid (c0 ∈ letters) ∧ Hid (c1 ∈ letters) ∧ Hid (c2 ∈ letters) := ⟨48, 48, 48, Sep.hid (by decide), Sep.hid (by decide), Sep.hid (by decide)⟩
    have Hb0 : Hid (fitsP c0 x.f1 long = fitsP c0 x.f1 long) := Sep.hid rfl
    have Hb1 : Hid (fitsP c1 x.f2 long = fitsP c1 x.f2 long) := Sep.hid rfl
    refine Sep.calls_post ?_
    intro Post_ hPost_
    have HP := Sep.hid hPost_
    clear hPost_
    go_enter Tryd.func49, Tryd.ntmps49
    go_wp2_with (first | (refine wpList_on rfl (wp_box rfl hw ?_); intro bx_ w_ hw_; clear hw; have hw := hw_; clear hw_; (try simp only [List.map_cons, List.map_nil, List.getD_cons_zero, List.getD_cons_succ, List.getD_nil, List.set_cons_zero, List.set_cons_succ, List.cons_append, List.nil_append, Act.eval, Array.getD_eq_getD_getElem?, List.getElem?_toArray, List.getElem?_cons_succ, List.getElem?_cons_zero, Option.getD_some, Value.cells] at hw); (try simp (disch := first | (simp; done) | (simp; omega)) only [Sep.mid_set, Sep.mid_set2, Sep.mid_set0, Sep.mid_splice, Sep.mid_splice0, List.set_cons_zero, List.set_cons_succ] at hw); (try simp only [Sep.splice, List.take_succ_cons, List.take_zero, List.drop_succ_cons, List.drop_zero, List.length_cons, List.length_nil, Nat.reduceAdd, List.cons_append, List.nil_append] at hw); (try replace hc0 := Sep.Holds.cells hw (i := 0) rfl); (try replace hc1 := Sep.Holds.cells hw (i := 1) rfl); (try replace hc2 := Sep.Holds.cells hw (i := 2) rfl); (try replace hc3 := Sep.Holds.cells hw (i := 3) rfl); (try replace hc4 := Sep.Holds.cells hw (i := 4) rfl); (try replace hc5 := Sep.Holds.cells hw (i := 5) rfl); (try replace hc6 := Sep.Holds.cells hw (i := 6) rfl)))
    refine (rForm x.f0 _).mono ?_
    rintro _ w_ ⟨rfl, rfl⟩
    rw [Hf.out]
    go_wp2_with fail
    refine wp_region_L [9, 17, 25] [(7, (fun w' => w' = w_.drew)), (15, (fun w' => Holds e w' [pt bx_ [.int .i64 x.f0, .int .i64 x.f1, .int .i64 x.f2, .int .i64 x.f3] 82])), (23, (fun w' => Holds e w' [pt bx_ [.int .i64 x.f0, .int .i64 x.f1, .int .i64 x.f2, .int .i64 x.f3] 82]))] (n := 28) (listed := (marks 28 0)) (by kernel_rfl) rfl (by kernel_rfl) ?conds1 ?_
    case conds1 =>
     intro c hc
     simp only [List.mem_cons, List.not_mem_nil, or_false] at hc
     rcases hc with rfl | rfl | rfl
     · rfl
     · exact (by replace hw := hw.drew; exact hw.sel [1] (by decide))
     · exact (by replace hw := hw.drew; exact hw.sel [1] (by decide))
    replace hw := hw.drew
    (try replace hc0 := Sep.Holds.cells hw (i := 0) rfl); (try replace hc1 := Sep.Holds.cells hw (i := 1) rfl); (try replace hc2 := Sep.Holds.cells hw (i := 2) rfl); (try replace hc3 := Sep.Holds.cells hw (i := 3) rfl); (try replace hc4 := Sep.Holds.cells hw (i := 4) rfl); (try replace hc5 := Sep.Holds.cells hw (i := 5) rfl); (try replace hc6 := Sep.Holds.cells hw (i := 6) rfl)
    refine wpL_q 0 ?_ rfl (Or.inl ⟨by rfl, fun w_ hS_ => ?_⟩) (marks 28 1) ?_
    rotate_left
    next => (go_simp; try (first | rfl | exact (Bool.not_not _).symm))
    try simp only [Act.put, List.setIfInBounds_toArray, List.set_cons_zero, List.set_cons_succ]
    refine wpL_q 1 ?_ rfl (Or.inl ⟨by rfl, fun w_ hS_ => ?_⟩) (marks 28 3) ?_
    rotate_left
    next => (go_simp; try (first | rfl | exact (Bool.not_not _).symm))
    try simp only [Act.put, List.setIfInBounds_toArray, List.set_cons_zero, List.set_cons_succ]
    refine wpL_q 2 ?_ rfl (Or.inl ⟨by rfl, fun w_ hS_ => ?_⟩) (marks 28 7) ?_
    rotate_left
    next => (first | (first | (refine Eq.trans (run_indexStr (s := strOf [c0, c1, c2]) (k := 0) (b := UInt8.ofNat c0) Tryd.underlying9 rfl rfl rfl (get_strOf rfl)) ?_; rw [toNat_ofNat M0.out]; done) | (refine Eq.trans (run_indexStr (s := strOf [c0, c1, c2]) (k := 1) (b := UInt8.ofNat c1) Tryd.underlying9 rfl rfl rfl (get_strOf rfl)) ?_; rw [toNat_ofNat M1.out]; done) | (refine Eq.trans (run_indexStr (s := strOf [c0, c1, c2]) (k := 2) (b := UInt8.ofNat c2) Tryd.underlying9 rfl rfl rfl (get_strOf rfl)) ?_; rw [toNat_ofNat M2.out]; done)) | (go_simp; try (first | rfl | exact (Bool.not_not _).symm)))
    try simp only [Act.put, List.setIfInBounds_toArray, List.set_cons_zero, List.set_cons_succ]
    refine wpL_b 3 ?_ rfl (Or.inl ⟨by rfl, fun w_ hS_ => ?_⟩) (marks 28 15) ?_
    rotate_left
    next => (go_simp; try (first | rfl | exact (Bool.not_not _).symm))
    intro bb_ hg3
    cases bb_
    case' true =>
     (try simp only [decide_eq_true_eq, decide_eq_false_iff_not, beq_iff_eq, beq_eq_false_iff_ne, bne_iff_ne, bne_eq_false_iff_eq, Bool.not_eq_true', Bool.not_eq_false', Int.not_lt, Int.not_le] at hg3)
     first | (cases hg3; done) | (exfalso; omega; done)
    case' false =>
     (try simp only [decide_eq_true_eq, decide_eq_false_iff_not, beq_iff_eq, beq_eq_false_iff_ne, bne_iff_ne, bne_eq_false_iff_eq, Bool.not_eq_true', Bool.not_eq_false', Int.not_lt, Int.not_le] at hg3)
     first | (cases hg3; done) | (exfalso; omega; done) | skip
     all_goals
      try replace hg3 := Sep.hid hg3
      try simp only [Act.put, List.setIfInBounds_toArray, List.set_cons_zero, List.set_cons_succ]
      refine wpL_q 4 undef rfl (Or.inr ⟨by rfl, rfl⟩) (marks 28 31) ?_
      try simp only [Act.put, List.setIfInBounds_toArray, List.set_cons_zero, List.set_cons_succ]
      refine wpL_q 5 undef rfl (Or.inr ⟨by rfl, rfl⟩) (marks 28 63) ?_
      try simp only [Act.put, List.setIfInBounds_toArray, List.set_cons_zero, List.set_cons_succ]
      refine wpL_q 6 undef rfl (Or.inr ⟨by rfl, rfl⟩) (marks 28 127) ?_
      try simp only [Act.put, List.setIfInBounds_toArray, List.set_cons_zero, List.set_cons_succ]
      refine wpL_m 7 undef rfl (.head _) (Or.inr ⟨by rfl, rfl⟩) (marks 28 255) ?_
      try simp only [Act.put, List.setIfInBounds_toArray, List.set_cons_zero, List.set_cons_succ]
      refine wpL_q 8 undef rfl (Or.inr ⟨by rfl, rfl⟩) (marks 28 511) ?_
      try simp only [Act.put, List.setIfInBounds_toArray, List.set_cons_zero, List.set_cons_succ]
      refine wpL_s 9 rfl (by rfl) (marks 28 1023) ?_
      try simp only [Act.put, List.setIfInBounds_toArray, List.set_cons_zero, List.set_cons_succ]
    all_goals
     refine wpL_q 10 ?_ rfl (Or.inl ⟨by rfl, fun w_ hS_ => ?_⟩) (marks 28 2047) ?_
     rotate_left
     next => (go_simp; try (first | rfl | exact (Bool.not_not _).symm))
     try simp only [Act.put, List.setIfInBounds_toArray, List.set_cons_zero, List.set_cons_succ]
     refine wpL_b 11 ?_ rfl (Or.inl ⟨by rfl, fun w_ hS_ => ?_⟩) (marks 28 4095) ?_
     rotate_left
     next => (go_simp; try (first | rfl | exact (Bool.not_not _).symm))
     intro bb_ hg11
     cases bb_
     case' true =>
      (try simp only [decide_eq_true_eq, decide_eq_false_iff_not, beq_iff_eq, beq_eq_false_iff_ne, bne_iff_ne, bne_eq_false_iff_eq, Bool.not_eq_true', Bool.not_eq_false', Int.not_lt, Int.not_le] at hg11)
      first | (cases hg11; done) | (exfalso; omega; done)
     case' false =>
      (try simp only [decide_eq_true_eq, decide_eq_false_iff_not, beq_iff_eq, beq_eq_false_iff_ne, bne_iff_ne, bne_eq_false_iff_eq, Bool.not_eq_true', Bool.not_eq_false', Int.not_lt, Int.not_le] at hg11)
      first | (cases hg11; done) | (exfalso; omega; done) | skip
      all_goals
       try replace hg11 := Sep.hid hg11
       try simp only [Act.put, List.setIfInBounds_toArray, List.set_cons_zero, List.set_cons_succ]
       refine wpL_q 12 undef rfl (Or.inr ⟨by rfl, rfl⟩) (marks 28 8191) ?_
       try simp only [Act.put, List.setIfInBounds_toArray, List.set_cons_zero, List.set_cons_succ]
       refine wpL_q 13 undef rfl (Or.inr ⟨by rfl, rfl⟩) (marks 28 16383) ?_
       try simp only [Act.put, List.setIfInBounds_toArray, List.set_cons_zero, List.set_cons_succ]
       refine wpL_q 14 undef rfl (Or.inr ⟨by rfl, rfl⟩) (marks 28 32767) ?_
       try simp only [Act.put, List.setIfInBounds_toArray, List.set_cons_zero, List.set_cons_succ]
       refine wpL_m 15 undef rfl (.tail _ (.head _)) (Or.inr ⟨by rfl, rfl⟩) (marks 28 65535) ?_
       try simp only [Act.put, List.setIfInBounds_toArray, List.set_cons_zero, List.set_cons_succ]
       refine wpL_q 16 undef rfl (Or.inr ⟨by rfl, rfl⟩) (marks 28 131071) ?_
       try simp only [Act.put, List.setIfInBounds_toArray, List.set_cons_zero, List.set_cons_succ]
       refine wpL_s 17 rfl (by rfl) (marks 28 262143) ?_
       try simp only [Act.put, List.setIfInBounds_toArray, List.set_cons_zero, List.set_cons_succ]
     all_goals
      refine wpL_q 18 ?_ rfl (Or.inl ⟨by rfl, fun w_ hS_ => ?_⟩) (marks 28 524287) ?_
      rotate_left
      next => (go_simp; try (first | rfl | exact (Bool.not_not _).symm))
      try simp only [Act.put, List.setIfInBounds_toArray, List.set_cons_zero, List.set_cons_succ]
      refine wpL_b 19 ?_ rfl (Or.inl ⟨by rfl, fun w_ hS_ => ?_⟩) (marks 28 1048575) ?_
      rotate_left
      next => (go_simp; try (first | rfl | exact (Bool.not_not _).symm))
      intro bb_ hg19
      cases bb_
      case' true =>
       (try simp only [decide_eq_true_eq, decide_eq_false_iff_not, beq_iff_eq, beq_eq_false_iff_ne, bne_iff_ne, bne_eq_false_iff_eq, Bool.not_eq_true', Bool.not_eq_false', Int.not_lt, Int.not_le] at hg19)
       first | (cases hg19; done) | (exfalso; omega; done)
      case' false =>
       (try simp only [decide_eq_true_eq, decide_eq_false_iff_not, beq_iff_eq, beq_eq_false_iff_ne, bne_iff_ne, bne_eq_false_iff_eq, Bool.not_eq_true', Bool.not_eq_false', Int.not_lt, Int.not_le] at hg19)
       first | (cases hg19; done) | (exfalso; omega; done) | skip
       all_goals
        try replace hg19 := Sep.hid hg19
        try simp only [Act.put, List.setIfInBounds_toArray, List.set_cons_zero, List.set_cons_succ]
        refine wpL_q 20 undef rfl (Or.inr ⟨by rfl, rfl⟩) (marks 28 2097151) ?_
        try simp only [Act.put, List.setIfInBounds_toArray, List.set_cons_zero, List.set_cons_succ]
        refine wpL_q 21 undef rfl (Or.inr ⟨by rfl, rfl⟩) (marks 28 4194303) ?_
        try simp only [Act.put, List.setIfInBounds_toArray, List.set_cons_zero, List.set_cons_succ]
        refine wpL_q 22 undef rfl (Or.inr ⟨by rfl, rfl⟩) (marks 28 8388607) ?_
        try simp only [Act.put, List.setIfInBounds_toArray, List.set_cons_zero, List.set_cons_succ]
        refine wpL_m 23 undef rfl (.tail _ (.tail _ (.head _))) (Or.inr ⟨by rfl, rfl⟩) (marks 28 16777215) ?_
        try simp only [Act.put, List.setIfInBounds_toArray, List.set_cons_zero, List.set_cons_succ]
        refine wpL_q 24 undef rfl (Or.inr ⟨by rfl, rfl⟩) (marks 28 33554431) ?_
        try simp only [Act.put, List.setIfInBounds_toArray, List.set_cons_zero, List.set_cons_succ]
        refine wpL_s 25 rfl (by rfl) (marks 28 67108863) ?_
        try simp only [Act.put, List.setIfInBounds_toArray, List.set_cons_zero, List.set_cons_succ]
      all_goals
       refine wpL_q 26 ?_ rfl (Or.inl ⟨by rfl, fun w_ hS_ => ?_⟩) (marks 28 134217727) ?_
       rotate_left
       next => (go_simp; try (first | rfl | exact (Bool.not_not _).symm))
       try simp only [Act.put, List.setIfInBounds_toArray, List.set_cons_zero, List.set_cons_succ]
       refine wpL_q 27 ?_ rfl (Or.inl ⟨by rfl, fun w_ hS_ => ?_⟩) (marks 28 268435455) ?_
       rotate_left
       next => (go_simp; try (first | rfl | exact (Bool.not_not _).symm))
       try simp only [Act.put, List.setIfInBounds_toArray, List.set_cons_zero, List.set_cons_succ]
       all_goals refine wpL_done (by kernel_rfl) ?_ _
    go_wp2_with fail
    exact HP.out _ _ ⟨rfl, hw.sel [0] (by decide)⟩
  · have hr : rightP x long = (fitsP c0 x.f1 long && (fitsP c1 x.f2 long && fitsP c2 x.f3 long)) := by unfold rightP; rw [hf]
    have Hf := Sep.hid hf; clear hf
    have M0 := Sep.hid m0; have M1 := Sep.hid m1; have M2 := Sep.hid m2
    clear m0 m1 m2
    have hsz := size_strOf [c0, c1, c2]
    cases hb0 : fitsP c0 x.f1 long with
    | false =>
      have hb : rightP x long = false := by rw [hr, hb0]; rfl
      have Hb0 := Sep.hid hb0
      rw [hb, hA]; clear hb hA hr hb0
      have Hb1 : Hid (fitsP c1 x.f2 long = fitsP c1 x.f2 long) := Sep.hid rfl
      refine Sep.calls_post ?_
      intro Post_ hPost_
      have HP := Sep.hid hPost_
      clear hPost_
      go_enter Tryd.func49, Tryd.ntmps49
      go_wp2_with (first | (refine wpList_on rfl (wp_box rfl hw ?_); intro bx_ w_ hw_; clear hw; have hw := hw_; clear hw_; (try simp only [List.map_cons, List.map_nil, List.getD_cons_zero, List.getD_cons_succ, List.getD_nil, List.set_cons_zero, List.set_cons_succ, List.cons_append, List.nil_append, Act.eval, Array.getD_eq_getD_getElem?, List.getElem?_toArray, List.getElem?_cons_succ, List.getElem?_cons_zero, Option.getD_some, Value.cells] at hw); (try simp (disch := first | (simp; done) | (simp; omega)) only [Sep.mid_set, Sep.mid_set2, Sep.mid_set0, Sep.mid_splice, Sep.mid_splice0, List.set_cons_zero, List.set_cons_succ] at hw); (try simp only [Sep.splice, List.take_succ_cons, List.take_zero, List.drop_succ_cons, List.drop_zero, List.length_cons, List.length_nil, Nat.reduceAdd, List.cons_append, List.nil_append] at hw); (try replace hc0 := Sep.Holds.cells hw (i := 0) rfl); (try replace hc1 := Sep.Holds.cells hw (i := 1) rfl); (try replace hc2 := Sep.Holds.cells hw (i := 2) rfl); (try replace hc3 := Sep.Holds.cells hw (i := 3) rfl); (try replace hc4 := Sep.Holds.cells hw (i := 4) rfl); (try replace hc5 := Sep.Holds.cells hw (i := 5) rfl); (try replace hc6 := Sep.Holds.cells hw (i := 6) rfl)))
      refine (rForm x.f0 _).mono ?_
      rintro _ w_ ⟨rfl, rfl⟩
      rw [Hf.out]
      go_wp2_with fail
      refine wp_region_L [9, 17, 25] [(7, (fun w' => w' = w_.drew)), (15, (fun w' => Holds e w' [pt bx_ [.int .i64 x.f0, .int .i64 x.f1, .int .i64 x.f2, .int .i64 x.f3] 82])), (23, (fun w' => Holds e w' [pt bx_ [.int .i64 x.f0, .int .i64 x.f1, .int .i64 x.f2, .int .i64 x.f3] 82]))] (n := 28) (listed := (marks 28 0)) (by kernel_rfl) rfl (by kernel_rfl) ?conds2 ?_
      case conds2 =>
       intro c hc
       simp only [List.mem_cons, List.not_mem_nil, or_false] at hc
       rcases hc with rfl | rfl | rfl
       · rfl
       · exact (by replace hw := hw.drew; exact hw.sel [1] (by decide))
       · exact (by replace hw := hw.drew; exact hw.sel [1] (by decide))
      replace hw := hw.drew
      (try replace hc0 := Sep.Holds.cells hw (i := 0) rfl); (try replace hc1 := Sep.Holds.cells hw (i := 1) rfl); (try replace hc2 := Sep.Holds.cells hw (i := 2) rfl); (try replace hc3 := Sep.Holds.cells hw (i := 3) rfl); (try replace hc4 := Sep.Holds.cells hw (i := 4) rfl); (try replace hc5 := Sep.Holds.cells hw (i := 5) rfl); (try replace hc6 := Sep.Holds.cells hw (i := 6) rfl)
      refine wpL_q 0 ?_ rfl (Or.inl ⟨by rfl, fun w_ hS_ => ?_⟩) (marks 28 1) ?_
      rotate_left
      next => (go_simp; try (first | rfl | exact (Bool.not_not _).symm))
      try simp only [Act.put, List.setIfInBounds_toArray, List.set_cons_zero, List.set_cons_succ]
      refine wpL_q 1 ?_ rfl (Or.inl ⟨by rfl, fun w_ hS_ => ?_⟩) (marks 28 3) ?_
      rotate_left
      next => (go_simp; try (first | rfl | exact (Bool.not_not _).symm))
      try simp only [Act.put, List.setIfInBounds_toArray, List.set_cons_zero, List.set_cons_succ]
      refine wpL_q 2 ?_ rfl (Or.inl ⟨by rfl, fun w_ hS_ => ?_⟩) (marks 28 7) ?_
      rotate_left
      next => (first | (first | (refine Eq.trans (run_indexStr (s := strOf [c0, c1, c2]) (k := 0) (b := UInt8.ofNat c0) Tryd.underlying9 rfl rfl rfl (get_strOf rfl)) ?_; rw [toNat_ofNat M0.out]; done) | (refine Eq.trans (run_indexStr (s := strOf [c0, c1, c2]) (k := 1) (b := UInt8.ofNat c1) Tryd.underlying9 rfl rfl rfl (get_strOf rfl)) ?_; rw [toNat_ofNat M1.out]; done) | (refine Eq.trans (run_indexStr (s := strOf [c0, c1, c2]) (k := 2) (b := UInt8.ofNat c2) Tryd.underlying9 rfl rfl rfl (get_strOf rfl)) ?_; rw [toNat_ofNat M2.out]; done)) | (go_simp; try (first | rfl | exact (Bool.not_not _).symm)))
      try simp only [Act.put, List.setIfInBounds_toArray, List.set_cons_zero, List.set_cons_succ]
      refine wpL_b 3 ?_ rfl (Or.inl ⟨by rfl, fun w_ hS_ => ?_⟩) (marks 28 15) ?_
      rotate_left
      next => (go_simp; try (first | rfl | exact (Bool.not_not _).symm))
      intro bb_ hg3
      cases bb_
      case' true =>
       (try simp only [decide_eq_true_eq, decide_eq_false_iff_not, beq_iff_eq, beq_eq_false_iff_ne, bne_iff_ne, bne_eq_false_iff_eq, Bool.not_eq_true', Bool.not_eq_false', Int.not_lt, Int.not_le] at hg3)
       first | (cases hg3; done) | (exfalso; omega; done) | skip
       all_goals
        try replace hg3 := Sep.hid hg3
        try simp only [Act.put, List.setIfInBounds_toArray, List.set_cons_zero, List.set_cons_succ]
        refine wpL_q 4 ?_ rfl (Or.inl ⟨by rfl, fun w_ hS_ => ?_⟩) (marks 28 31) ?_
        rotate_left
        next => (go_simp; try (first | rfl | exact (Bool.not_not _).symm))
        try simp only [Act.put, List.setIfInBounds_toArray, List.set_cons_zero, List.set_cons_succ]
        refine wpL_q 5 ?_ rfl (Or.inl ⟨by rfl, fun w_ hS_ => ?_⟩) (marks 28 63) ?_
        rotate_left
        next => (first | (first | (refine Eq.trans (run_indexStr (s := strOf [c0, c1, c2]) (k := 0) (b := UInt8.ofNat c0) Tryd.underlying9 rfl rfl rfl (get_strOf rfl)) ?_; rw [toNat_ofNat M0.out]; done) | (refine Eq.trans (run_indexStr (s := strOf [c0, c1, c2]) (k := 1) (b := UInt8.ofNat c1) Tryd.underlying9 rfl rfl rfl (get_strOf rfl)) ?_; rw [toNat_ofNat M1.out]; done) | (refine Eq.trans (run_indexStr (s := strOf [c0, c1, c2]) (k := 2) (b := UInt8.ofNat c2) Tryd.underlying9 rfl rfl rfl (get_strOf rfl)) ?_; rw [toNat_ofNat M2.out]; done)) | (go_simp; try (first | rfl | exact (Bool.not_not _).symm)))
        try simp only [Act.put, List.setIfInBounds_toArray, List.set_cons_zero, List.set_cons_succ]
        refine wpL_q 6 ?_ rfl (Or.inl ⟨by rfl, fun w_ hS_ => ?_⟩) (marks 28 127) ?_
        rotate_left
        next => (go_simp; try (first | rfl | exact (Bool.not_not _).symm))
        try simp only [Act.put, List.setIfInBounds_toArray, List.set_cons_zero, List.set_cons_succ]
        refine wpL_m 7 ?_ rfl (.head _) (Or.inl ⟨by rfl, fun w_ hS_ => ?_⟩) (marks 28 255) ?_
        rotate_left
        next => (subst hS_; first | (first | (refine Eq.trans (run_indexStr (s := strOf [c0, c1, c2]) (k := 0) (b := UInt8.ofNat c0) Tryd.underlying9 rfl rfl rfl (get_strOf rfl)) ?_; rw [toNat_ofNat M0.out]; done) | (refine Eq.trans (run_indexStr (s := strOf [c0, c1, c2]) (k := 1) (b := UInt8.ofNat c1) Tryd.underlying9 rfl rfl rfl (get_strOf rfl)) ?_; rw [toNat_ofNat M1.out]; done) | (refine Eq.trans (run_indexStr (s := strOf [c0, c1, c2]) (k := 2) (b := UInt8.ofNat c2) Tryd.underlying9 rfl rfl rfl (get_strOf rfl)) ?_; rw [toNat_ofNat M2.out]; done)) | (go_simp; try (first | rfl | exact (Bool.not_not _).symm)))
        try simp only [Act.put, List.setIfInBounds_toArray, List.set_cons_zero, List.set_cons_succ]
        refine wpL_q 8 ?_ rfl (Or.inl ⟨by rfl, fun w_ hS_ => ?_⟩) (marks 28 511) ?_
        rotate_left
        next => (go_simp; try (first | rfl | exact (Bool.not_not _).symm))
        try simp only [Act.put, List.setIfInBounds_toArray, List.set_cons_zero, List.set_cons_succ]
        refine wpL_o 9 rfl (by rfl) (marks 28 1023) ?_
        (go_simp; go_at_call 56; refine (rFits c0 M0.out x.f1 long _).mono ?_; rintro _ w_ ⟨rfl, rfl⟩; rw [Hb0.out])
        refine ⟨(SL.drop 9 (by kernel_rfl) (SL.keep (by exact hw.sel [1] (by decide)) (SL.keep (by exact hw.sel [1] (by decide)) SL.nil))), ?_⟩
        try simp only [Act.put, List.setIfInBounds_toArray, List.set_cons_zero, List.set_cons_succ]
      case' false =>
       (try simp only [decide_eq_true_eq, decide_eq_false_iff_not, beq_iff_eq, beq_eq_false_iff_ne, bne_iff_ne, bne_eq_false_iff_eq, Bool.not_eq_true', Bool.not_eq_false', Int.not_lt, Int.not_le] at hg3)
       first | (cases hg3; done) | (exfalso; omega; done)
      all_goals
       refine wpL_q 10 ?_ rfl (Or.inl ⟨by rfl, fun w_ hS_ => ?_⟩) (marks 28 2047) ?_
       rotate_left
       next => (go_simp; try (first | rfl | exact (Bool.not_not _).symm))
       try simp only [Act.put, List.setIfInBounds_toArray, List.set_cons_zero, List.set_cons_succ]
       refine wpL_b 11 ?_ rfl (Or.inl ⟨by rfl, fun w_ hS_ => ?_⟩) (marks 28 4095) ?_
       rotate_left
       next => (go_simp; try (first | rfl | exact (Bool.not_not _).symm))
       intro bb_ hg11
       cases bb_
       case' true =>
        (try simp only [decide_eq_true_eq, decide_eq_false_iff_not, beq_iff_eq, beq_eq_false_iff_ne, bne_iff_ne, bne_eq_false_iff_eq, Bool.not_eq_true', Bool.not_eq_false', Int.not_lt, Int.not_le] at hg11)
        first | (cases hg11; done) | (exfalso; omega; done)
       case' false =>
        (try simp only [decide_eq_true_eq, decide_eq_false_iff_not, beq_iff_eq, beq_eq_false_iff_ne, bne_iff_ne, bne_eq_false_iff_eq, Bool.not_eq_true', Bool.not_eq_false', Int.not_lt, Int.not_le] at hg11)
        first | (cases hg11; done) | (exfalso; omega; done) | skip
        all_goals
         try replace hg11 := Sep.hid hg11
         try simp only [Act.put, List.setIfInBounds_toArray, List.set_cons_zero, List.set_cons_succ]
         refine wpL_q 12 undef rfl (Or.inr ⟨by rfl, rfl⟩) (marks 28 8191) ?_
         try simp only [Act.put, List.setIfInBounds_toArray, List.set_cons_zero, List.set_cons_succ]
         refine wpL_q 13 undef rfl (Or.inr ⟨by rfl, rfl⟩) (marks 28 16383) ?_
         try simp only [Act.put, List.setIfInBounds_toArray, List.set_cons_zero, List.set_cons_succ]
         refine wpL_q 14 undef rfl (Or.inr ⟨by rfl, rfl⟩) (marks 28 32767) ?_
         try simp only [Act.put, List.setIfInBounds_toArray, List.set_cons_zero, List.set_cons_succ]
         refine wpL_m 15 undef rfl (.tail _ (.head _)) (Or.inr ⟨by rfl, rfl⟩) (marks 28 65535) ?_
         try simp only [Act.put, List.setIfInBounds_toArray, List.set_cons_zero, List.set_cons_succ]
         refine wpL_q 16 undef rfl (Or.inr ⟨by rfl, rfl⟩) (marks 28 131071) ?_
         try simp only [Act.put, List.setIfInBounds_toArray, List.set_cons_zero, List.set_cons_succ]
         refine wpL_s 17 rfl (by rfl) (marks 28 262143) ?_
         try simp only [Act.put, List.setIfInBounds_toArray, List.set_cons_zero, List.set_cons_succ]
       all_goals
        refine wpL_q 18 ?_ rfl (Or.inl ⟨by rfl, fun w_ hS_ => ?_⟩) (marks 28 524287) ?_
        rotate_left
        next => (go_simp; try (first | rfl | exact (Bool.not_not _).symm))
        try simp only [Act.put, List.setIfInBounds_toArray, List.set_cons_zero, List.set_cons_succ]
        refine wpL_b 19 ?_ rfl (Or.inl ⟨by rfl, fun w_ hS_ => ?_⟩) (marks 28 1048575) ?_
        rotate_left
        next => (go_simp; try (first | rfl | exact (Bool.not_not _).symm))
        intro bb_ hg19
        cases bb_
        case' true =>
         (try simp only [decide_eq_true_eq, decide_eq_false_iff_not, beq_iff_eq, beq_eq_false_iff_ne, bne_iff_ne, bne_eq_false_iff_eq, Bool.not_eq_true', Bool.not_eq_false', Int.not_lt, Int.not_le] at hg19)
         first | (cases hg19; done) | (exfalso; omega; done)
        case' false =>
         (try simp only [decide_eq_true_eq, decide_eq_false_iff_not, beq_iff_eq, beq_eq_false_iff_ne, bne_iff_ne, bne_eq_false_iff_eq, Bool.not_eq_true', Bool.not_eq_false', Int.not_lt, Int.not_le] at hg19)
         first | (cases hg19; done) | (exfalso; omega; done) | skip
         all_goals
          try replace hg19 := Sep.hid hg19
          try simp only [Act.put, List.setIfInBounds_toArray, List.set_cons_zero, List.set_cons_succ]
          refine wpL_q 20 undef rfl (Or.inr ⟨by rfl, rfl⟩) (marks 28 2097151) ?_
          try simp only [Act.put, List.setIfInBounds_toArray, List.set_cons_zero, List.set_cons_succ]
          refine wpL_q 21 undef rfl (Or.inr ⟨by rfl, rfl⟩) (marks 28 4194303) ?_
          try simp only [Act.put, List.setIfInBounds_toArray, List.set_cons_zero, List.set_cons_succ]
          refine wpL_q 22 undef rfl (Or.inr ⟨by rfl, rfl⟩) (marks 28 8388607) ?_
          try simp only [Act.put, List.setIfInBounds_toArray, List.set_cons_zero, List.set_cons_succ]
          refine wpL_m 23 undef rfl (.tail _ (.tail _ (.head _))) (Or.inr ⟨by rfl, rfl⟩) (marks 28 16777215) ?_
          try simp only [Act.put, List.setIfInBounds_toArray, List.set_cons_zero, List.set_cons_succ]
          refine wpL_q 24 undef rfl (Or.inr ⟨by rfl, rfl⟩) (marks 28 33554431) ?_
          try simp only [Act.put, List.setIfInBounds_toArray, List.set_cons_zero, List.set_cons_succ]
          refine wpL_s 25 rfl (by rfl) (marks 28 67108863) ?_
          try simp only [Act.put, List.setIfInBounds_toArray, List.set_cons_zero, List.set_cons_succ]
        all_goals
         refine wpL_q 26 ?_ rfl (Or.inl ⟨by rfl, fun w_ hS_ => ?_⟩) (marks 28 134217727) ?_
         rotate_left
         next => (go_simp; try (first | rfl | exact (Bool.not_not _).symm))
         try simp only [Act.put, List.setIfInBounds_toArray, List.set_cons_zero, List.set_cons_succ]
         refine wpL_q 27 ?_ rfl (Or.inl ⟨by rfl, fun w_ hS_ => ?_⟩) (marks 28 268435455) ?_
         rotate_left
         next => (go_simp; try (first | rfl | exact (Bool.not_not _).symm))
         try simp only [Act.put, List.setIfInBounds_toArray, List.set_cons_zero, List.set_cons_succ]
         all_goals refine wpL_done (by kernel_rfl) ?_ _
      go_wp2_with fail
      exact HP.out _ _ ⟨rfl, hw.sel [0] (by decide)⟩
    | true =>
      cases hb1 : fitsP c1 x.f2 long with
      | false =>
        have hb : rightP x long = false := by rw [hr, hb0, hb1]; rfl
        have Hb0 := Sep.hid hb0; have Hb1 := Sep.hid hb1
        rw [hb, hA]; clear hb hA hr hb0 hb1
        refine Sep.calls_post ?_
        intro Post_ hPost_
        have HP := Sep.hid hPost_
        clear hPost_
        go_enter Tryd.func49, Tryd.ntmps49
        go_wp2_with (first | (refine wpList_on rfl (wp_box rfl hw ?_); intro bx_ w_ hw_; clear hw; have hw := hw_; clear hw_; (try simp only [List.map_cons, List.map_nil, List.getD_cons_zero, List.getD_cons_succ, List.getD_nil, List.set_cons_zero, List.set_cons_succ, List.cons_append, List.nil_append, Act.eval, Array.getD_eq_getD_getElem?, List.getElem?_toArray, List.getElem?_cons_succ, List.getElem?_cons_zero, Option.getD_some, Value.cells] at hw); (try simp (disch := first | (simp; done) | (simp; omega)) only [Sep.mid_set, Sep.mid_set2, Sep.mid_set0, Sep.mid_splice, Sep.mid_splice0, List.set_cons_zero, List.set_cons_succ] at hw); (try simp only [Sep.splice, List.take_succ_cons, List.take_zero, List.drop_succ_cons, List.drop_zero, List.length_cons, List.length_nil, Nat.reduceAdd, List.cons_append, List.nil_append] at hw); (try replace hc0 := Sep.Holds.cells hw (i := 0) rfl); (try replace hc1 := Sep.Holds.cells hw (i := 1) rfl); (try replace hc2 := Sep.Holds.cells hw (i := 2) rfl); (try replace hc3 := Sep.Holds.cells hw (i := 3) rfl); (try replace hc4 := Sep.Holds.cells hw (i := 4) rfl); (try replace hc5 := Sep.Holds.cells hw (i := 5) rfl); (try replace hc6 := Sep.Holds.cells hw (i := 6) rfl)))
        refine (rForm x.f0 _).mono ?_
        rintro _ w_ ⟨rfl, rfl⟩
        rw [Hf.out]
        go_wp2_with fail
        refine wp_region_L [9, 17, 25] [(7, (fun w' => w' = w_.drew)), (15, (fun w' => Holds e w' [pt bx_ [.int .i64 x.f0, .int .i64 x.f1, .int .i64 x.f2, .int .i64 x.f3] 82])), (23, (fun w' => Holds e w' [pt bx_ [.int .i64 x.f0, .int .i64 x.f1, .int .i64 x.f2, .int .i64 x.f3] 82]))] (n := 28) (listed := (marks 28 0)) (by kernel_rfl) rfl (by kernel_rfl) ?conds3 ?_
        case conds3 =>
         intro c hc
         simp only [List.mem_cons, List.not_mem_nil, or_false] at hc
         rcases hc with rfl | rfl | rfl
         · rfl
         · exact (by replace hw := hw.drew; exact hw.sel [1] (by decide))
         · exact (by replace hw := hw.drew; exact hw.sel [1] (by decide))
        replace hw := hw.drew
        (try replace hc0 := Sep.Holds.cells hw (i := 0) rfl); (try replace hc1 := Sep.Holds.cells hw (i := 1) rfl); (try replace hc2 := Sep.Holds.cells hw (i := 2) rfl); (try replace hc3 := Sep.Holds.cells hw (i := 3) rfl); (try replace hc4 := Sep.Holds.cells hw (i := 4) rfl); (try replace hc5 := Sep.Holds.cells hw (i := 5) rfl); (try replace hc6 := Sep.Holds.cells hw (i := 6) rfl)
        refine wpL_q 0 ?_ rfl (Or.inl ⟨by rfl, fun w_ hS_ => ?_⟩) (marks 28 1) ?_
        rotate_left
        next => (go_simp; try (first | rfl | exact (Bool.not_not _).symm))
        try simp only [Act.put, List.setIfInBounds_toArray, List.set_cons_zero, List.set_cons_succ]
        refine wpL_q 1 ?_ rfl (Or.inl ⟨by rfl, fun w_ hS_ => ?_⟩) (marks 28 3) ?_
        rotate_left
        next => (go_simp; try (first | rfl | exact (Bool.not_not _).symm))
        try simp only [Act.put, List.setIfInBounds_toArray, List.set_cons_zero, List.set_cons_succ]
        refine wpL_q 2 ?_ rfl (Or.inl ⟨by rfl, fun w_ hS_ => ?_⟩) (marks 28 7) ?_
        rotate_left
        next => (first | (first | (refine Eq.trans (run_indexStr (s := strOf [c0, c1, c2]) (k := 0) (b := UInt8.ofNat c0) Tryd.underlying9 rfl rfl rfl (get_strOf rfl)) ?_; rw [toNat_ofNat M0.out]; done) | (refine Eq.trans (run_indexStr (s := strOf [c0, c1, c2]) (k := 1) (b := UInt8.ofNat c1) Tryd.underlying9 rfl rfl rfl (get_strOf rfl)) ?_; rw [toNat_ofNat M1.out]; done) | (refine Eq.trans (run_indexStr (s := strOf [c0, c1, c2]) (k := 2) (b := UInt8.ofNat c2) Tryd.underlying9 rfl rfl rfl (get_strOf rfl)) ?_; rw [toNat_ofNat M2.out]; done)) | (go_simp; try (first | rfl | exact (Bool.not_not _).symm)))
        try simp only [Act.put, List.setIfInBounds_toArray, List.set_cons_zero, List.set_cons_succ]
        refine wpL_b 3 ?_ rfl (Or.inl ⟨by rfl, fun w_ hS_ => ?_⟩) (marks 28 15) ?_
        rotate_left
        next => (go_simp; try (first | rfl | exact (Bool.not_not _).symm))
        intro bb_ hg3
        cases bb_
        case' true =>
         (try simp only [decide_eq_true_eq, decide_eq_false_iff_not, beq_iff_eq, beq_eq_false_iff_ne, bne_iff_ne, bne_eq_false_iff_eq, Bool.not_eq_true', Bool.not_eq_false', Int.not_lt, Int.not_le] at hg3)
         first | (cases hg3; done) | (exfalso; omega; done) | skip
         all_goals
          try replace hg3 := Sep.hid hg3
          try simp only [Act.put, List.setIfInBounds_toArray, List.set_cons_zero, List.set_cons_succ]
          refine wpL_q 4 ?_ rfl (Or.inl ⟨by rfl, fun w_ hS_ => ?_⟩) (marks 28 31) ?_
          rotate_left
          next => (go_simp; try (first | rfl | exact (Bool.not_not _).symm))
          try simp only [Act.put, List.setIfInBounds_toArray, List.set_cons_zero, List.set_cons_succ]
          refine wpL_q 5 ?_ rfl (Or.inl ⟨by rfl, fun w_ hS_ => ?_⟩) (marks 28 63) ?_
          rotate_left
          next => (first | (first | (refine Eq.trans (run_indexStr (s := strOf [c0, c1, c2]) (k := 0) (b := UInt8.ofNat c0) Tryd.underlying9 rfl rfl rfl (get_strOf rfl)) ?_; rw [toNat_ofNat M0.out]; done) | (refine Eq.trans (run_indexStr (s := strOf [c0, c1, c2]) (k := 1) (b := UInt8.ofNat c1) Tryd.underlying9 rfl rfl rfl (get_strOf rfl)) ?_; rw [toNat_ofNat M1.out]; done) | (refine Eq.trans (run_indexStr (s := strOf [c0, c1, c2]) (k := 2) (b := UInt8.ofNat c2) Tryd.underlying9 rfl rfl rfl (get_strOf rfl)) ?_; rw [toNat_ofNat M2.out]; done)) | (go_simp; try (first | rfl | exact (Bool.not_not _).symm)))
          try simp only [Act.put, List.setIfInBounds_toArray, List.set_cons_zero, List.set_cons_succ]
          refine wpL_q 6 ?_ rfl (Or.inl ⟨by rfl, fun w_ hS_ => ?_⟩) (marks 28 127) ?_
          rotate_left
          next => (go_simp; try (first | rfl | exact (Bool.not_not _).symm))
          try simp only [Act.put, List.setIfInBounds_toArray, List.set_cons_zero, List.set_cons_succ]
          refine wpL_m 7 ?_ rfl (.head _) (Or.inl ⟨by rfl, fun w_ hS_ => ?_⟩) (marks 28 255) ?_
          rotate_left
          next => (subst hS_; first | (first | (refine Eq.trans (run_indexStr (s := strOf [c0, c1, c2]) (k := 0) (b := UInt8.ofNat c0) Tryd.underlying9 rfl rfl rfl (get_strOf rfl)) ?_; rw [toNat_ofNat M0.out]; done) | (refine Eq.trans (run_indexStr (s := strOf [c0, c1, c2]) (k := 1) (b := UInt8.ofNat c1) Tryd.underlying9 rfl rfl rfl (get_strOf rfl)) ?_; rw [toNat_ofNat M1.out]; done) | (refine Eq.trans (run_indexStr (s := strOf [c0, c1, c2]) (k := 2) (b := UInt8.ofNat c2) Tryd.underlying9 rfl rfl rfl (get_strOf rfl)) ?_; rw [toNat_ofNat M2.out]; done)) | (go_simp; try (first | rfl | exact (Bool.not_not _).symm)))
          try simp only [Act.put, List.setIfInBounds_toArray, List.set_cons_zero, List.set_cons_succ]
          refine wpL_q 8 ?_ rfl (Or.inl ⟨by rfl, fun w_ hS_ => ?_⟩) (marks 28 511) ?_
          rotate_left
          next => (go_simp; try (first | rfl | exact (Bool.not_not _).symm))
          try simp only [Act.put, List.setIfInBounds_toArray, List.set_cons_zero, List.set_cons_succ]
          refine wpL_o 9 rfl (by rfl) (marks 28 1023) ?_
          (go_simp; go_at_call 56; refine (rFits c0 M0.out x.f1 long _).mono ?_; rintro _ w_ ⟨rfl, rfl⟩; rw [Hb0.out])
          refine ⟨(SL.drop 9 (by kernel_rfl) (SL.keep (by exact hw.sel [1] (by decide)) (SL.keep (by exact hw.sel [1] (by decide)) SL.nil))), ?_⟩
          try simp only [Act.put, List.setIfInBounds_toArray, List.set_cons_zero, List.set_cons_succ]
        case' false =>
         (try simp only [decide_eq_true_eq, decide_eq_false_iff_not, beq_iff_eq, beq_eq_false_iff_ne, bne_iff_ne, bne_eq_false_iff_eq, Bool.not_eq_true', Bool.not_eq_false', Int.not_lt, Int.not_le] at hg3)
         first | (cases hg3; done) | (exfalso; omega; done)
        all_goals
         refine wpL_q 10 ?_ rfl (Or.inl ⟨by rfl, fun w_ hS_ => ?_⟩) (marks 28 2047) ?_
         rotate_left
         next => (go_simp; try (first | rfl | exact (Bool.not_not _).symm))
         try simp only [Act.put, List.setIfInBounds_toArray, List.set_cons_zero, List.set_cons_succ]
         refine wpL_b 11 ?_ rfl (Or.inl ⟨by rfl, fun w_ hS_ => ?_⟩) (marks 28 4095) ?_
         rotate_left
         next => (go_simp; try (first | rfl | exact (Bool.not_not _).symm))
         intro bb_ hg11
         cases bb_
         case' true =>
          (try simp only [decide_eq_true_eq, decide_eq_false_iff_not, beq_iff_eq, beq_eq_false_iff_ne, bne_iff_ne, bne_eq_false_iff_eq, Bool.not_eq_true', Bool.not_eq_false', Int.not_lt, Int.not_le] at hg11)
          first | (cases hg11; done) | (exfalso; omega; done) | skip
          all_goals
           try replace hg11 := Sep.hid hg11
           try simp only [Act.put, List.setIfInBounds_toArray, List.set_cons_zero, List.set_cons_succ]
           refine wpL_q 12 ?_ rfl (Or.inl ⟨by rfl, fun w_ hS_ => ?_⟩) (marks 28 8191) ?_
           rotate_left
           next => (go_simp; try (first | rfl | exact (Bool.not_not _).symm))
           try simp only [Act.put, List.setIfInBounds_toArray, List.set_cons_zero, List.set_cons_succ]
           refine wpL_q 13 ?_ rfl (Or.inl ⟨by rfl, fun w_ hS_ => ?_⟩) (marks 28 16383) ?_
           rotate_left
           next => (first | (first | (refine Eq.trans (run_indexStr (s := strOf [c0, c1, c2]) (k := 0) (b := UInt8.ofNat c0) Tryd.underlying9 rfl rfl rfl (get_strOf rfl)) ?_; rw [toNat_ofNat M0.out]; done) | (refine Eq.trans (run_indexStr (s := strOf [c0, c1, c2]) (k := 1) (b := UInt8.ofNat c1) Tryd.underlying9 rfl rfl rfl (get_strOf rfl)) ?_; rw [toNat_ofNat M1.out]; done) | (refine Eq.trans (run_indexStr (s := strOf [c0, c1, c2]) (k := 2) (b := UInt8.ofNat c2) Tryd.underlying9 rfl rfl rfl (get_strOf rfl)) ?_; rw [toNat_ofNat M2.out]; done)) | (go_simp; try (first | rfl | exact (Bool.not_not _).symm)))
           try simp only [Act.put, List.setIfInBounds_toArray, List.set_cons_zero, List.set_cons_succ]
           refine wpL_q 14 ?_ rfl (Or.inl ⟨by rfl, fun w_ hS_ => ?_⟩) (marks 28 32767) ?_
           rotate_left
           next => (go_simp; try (first | rfl | exact (Bool.not_not _).symm))
           try simp only [Act.put, List.setIfInBounds_toArray, List.set_cons_zero, List.set_cons_succ]
           refine wpL_m 15 ?_ rfl (.tail _ (.head _)) (Or.inl ⟨by rfl, fun w_ hS_ => ?_⟩) (marks 28 65535) ?_
           rotate_left
           next => (dsimp only at hS_; (try have q0 := Sep.Holds.cells hS_ (i := 0) rfl); (try have q1 := Sep.Holds.cells hS_ (i := 1) rfl); (try have q2 := Sep.Holds.cells hS_ (i := 2) rfl); (try have q3 := Sep.Holds.cells hS_ (i := 3) rfl); (try have q4 := Sep.Holds.cells hS_ (i := 4) rfl); (try have q5 := Sep.Holds.cells hS_ (i := 5) rfl); (try have q6 := Sep.Holds.cells hS_ (i := 6) rfl); first | (first | (refine Eq.trans (run_indexStr (s := strOf [c0, c1, c2]) (k := 0) (b := UInt8.ofNat c0) Tryd.underlying9 rfl rfl rfl (get_strOf rfl)) ?_; rw [toNat_ofNat M0.out]; done) | (refine Eq.trans (run_indexStr (s := strOf [c0, c1, c2]) (k := 1) (b := UInt8.ofNat c1) Tryd.underlying9 rfl rfl rfl (get_strOf rfl)) ?_; rw [toNat_ofNat M1.out]; done) | (refine Eq.trans (run_indexStr (s := strOf [c0, c1, c2]) (k := 2) (b := UInt8.ofNat c2) Tryd.underlying9 rfl rfl rfl (get_strOf rfl)) ?_; rw [toNat_ofNat M2.out]; done)) | (go_simp; try (first | rfl | exact (Bool.not_not _).symm)))
           try simp only [Act.put, List.setIfInBounds_toArray, List.set_cons_zero, List.set_cons_succ]
           refine wpL_q 16 ?_ rfl (Or.inl ⟨by rfl, fun w_ hS_ => ?_⟩) (marks 28 131071) ?_
           rotate_left
           next => (go_simp; try (first | rfl | exact (Bool.not_not _).symm))
           try simp only [Act.put, List.setIfInBounds_toArray, List.set_cons_zero, List.set_cons_succ]
           refine wpL_o 17 rfl (by rfl) (marks 28 262143) ?_
           (go_simp; go_at_call 56; refine (rFits c1 M1.out x.f2 long _).mono ?_; rintro _ w_ ⟨rfl, rfl⟩; rw [Hb1.out])
           refine ⟨(SL.drop 9 (by kernel_rfl) (SL.drop 17 (by kernel_rfl) (SL.keep (by exact hw.sel [1] (by decide)) SL.nil))), ?_⟩
           try simp only [Act.put, List.setIfInBounds_toArray, List.set_cons_zero, List.set_cons_succ]
         case' false =>
          (try simp only [decide_eq_true_eq, decide_eq_false_iff_not, beq_iff_eq, beq_eq_false_iff_ne, bne_iff_ne, bne_eq_false_iff_eq, Bool.not_eq_true', Bool.not_eq_false', Int.not_lt, Int.not_le] at hg11)
          first | (cases hg11; done) | (exfalso; omega; done)
         all_goals
          refine wpL_q 18 ?_ rfl (Or.inl ⟨by rfl, fun w_ hS_ => ?_⟩) (marks 28 524287) ?_
          rotate_left
          next => (go_simp; try (first | rfl | exact (Bool.not_not _).symm))
          try simp only [Act.put, List.setIfInBounds_toArray, List.set_cons_zero, List.set_cons_succ]
          refine wpL_b 19 ?_ rfl (Or.inl ⟨by rfl, fun w_ hS_ => ?_⟩) (marks 28 1048575) ?_
          rotate_left
          next => (go_simp; try (first | rfl | exact (Bool.not_not _).symm))
          intro bb_ hg19
          cases bb_
          case' true =>
           (try simp only [decide_eq_true_eq, decide_eq_false_iff_not, beq_iff_eq, beq_eq_false_iff_ne, bne_iff_ne, bne_eq_false_iff_eq, Bool.not_eq_true', Bool.not_eq_false', Int.not_lt, Int.not_le] at hg19)
           first | (cases hg19; done) | (exfalso; omega; done)
          case' false =>
           (try simp only [decide_eq_true_eq, decide_eq_false_iff_not, beq_iff_eq, beq_eq_false_iff_ne, bne_iff_ne, bne_eq_false_iff_eq, Bool.not_eq_true', Bool.not_eq_false', Int.not_lt, Int.not_le] at hg19)
           first | (cases hg19; done) | (exfalso; omega; done) | skip
           all_goals
            try replace hg19 := Sep.hid hg19
            try simp only [Act.put, List.setIfInBounds_toArray, List.set_cons_zero, List.set_cons_succ]
            refine wpL_q 20 undef rfl (Or.inr ⟨by rfl, rfl⟩) (marks 28 2097151) ?_
            try simp only [Act.put, List.setIfInBounds_toArray, List.set_cons_zero, List.set_cons_succ]
            refine wpL_q 21 undef rfl (Or.inr ⟨by rfl, rfl⟩) (marks 28 4194303) ?_
            try simp only [Act.put, List.setIfInBounds_toArray, List.set_cons_zero, List.set_cons_succ]
            refine wpL_q 22 undef rfl (Or.inr ⟨by rfl, rfl⟩) (marks 28 8388607) ?_
            try simp only [Act.put, List.setIfInBounds_toArray, List.set_cons_zero, List.set_cons_succ]
            refine wpL_m 23 undef rfl (.tail _ (.tail _ (.head _))) (Or.inr ⟨by rfl, rfl⟩) (marks 28 16777215) ?_
            try simp only [Act.put, List.setIfInBounds_toArray, List.set_cons_zero, List.set_cons_succ]
            refine wpL_q 24 undef rfl (Or.inr ⟨by rfl, rfl⟩) (marks 28 33554431) ?_
            try simp only [Act.put, List.setIfInBounds_toArray, List.set_cons_zero, List.set_cons_succ]
            refine wpL_s 25 rfl (by rfl) (marks 28 67108863) ?_
            try simp only [Act.put, List.setIfInBounds_toArray, List.set_cons_zero, List.set_cons_succ]
          all_goals
           refine wpL_q 26 ?_ rfl (Or.inl ⟨by rfl, fun w_ hS_ => ?_⟩) (marks 28 134217727) ?_
           rotate_left
           next => (go_simp; try (first | rfl | exact (Bool.not_not _).symm))
           try simp only [Act.put, List.setIfInBounds_toArray, List.set_cons_zero, List.set_cons_succ]
           refine wpL_q 27 ?_ rfl (Or.inl ⟨by rfl, fun w_ hS_ => ?_⟩) (marks 28 268435455) ?_
           rotate_left
           next => (go_simp; try (first | rfl | exact (Bool.not_not _).symm))
           try simp only [Act.put, List.setIfInBounds_toArray, List.set_cons_zero, List.set_cons_succ]
           all_goals refine wpL_done (by kernel_rfl) ?_ _
        go_wp2_with fail
        exact HP.out _ _ ⟨rfl, hw.sel [0] (by decide)⟩
      | true =>
        have hb : rightP x long = fitsP c2 x.f3 long := by rw [hr, hb0, hb1]; rfl
        have Hb0 := Sep.hid hb0; have Hb1 := Sep.hid hb1
        rw [hb, hA]; clear hb hA hr hb0 hb1
        refine Sep.calls_post ?_
        intro Post_ hPost_
        have HP := Sep.hid hPost_
        clear hPost_
        go_enter Tryd.func49, Tryd.ntmps49
        go_wp2_with (first | (refine wpList_on rfl (wp_box rfl hw ?_); intro bx_ w_ hw_; clear hw; have hw := hw_; clear hw_; (try simp only [List.map_cons, List.map_nil, List.getD_cons_zero, List.getD_cons_succ, List.getD_nil, List.set_cons_zero, List.set_cons_succ, List.cons_append, List.nil_append, Act.eval, Array.getD_eq_getD_getElem?, List.getElem?_toArray, List.getElem?_cons_succ, List.getElem?_cons_zero, Option.getD_some, Value.cells] at hw); (try simp (disch := first | (simp; done) | (simp; omega)) only [Sep.mid_set, Sep.mid_set2, Sep.mid_set0, Sep.mid_splice, Sep.mid_splice0, List.set_cons_zero, List.set_cons_succ] at hw); (try simp only [Sep.splice, List.take_succ_cons, List.take_zero, List.drop_succ_cons, List.drop_zero, List.length_cons, List.length_nil, Nat.reduceAdd, List.cons_append, List.nil_append] at hw); (try replace hc0 := Sep.Holds.cells hw (i := 0) rfl); (try replace hc1 := Sep.Holds.cells hw (i := 1) rfl); (try replace hc2 := Sep.Holds.cells hw (i := 2) rfl); (try replace hc3 := Sep.Holds.cells hw (i := 3) rfl); (try replace hc4 := Sep.Holds.cells hw (i := 4) rfl); (try replace hc5 := Sep.Holds.cells hw (i := 5) rfl); (try replace hc6 := Sep.Holds.cells hw (i := 6) rfl)))
        refine (rForm x.f0 _).mono ?_
        rintro _ w_ ⟨rfl, rfl⟩
        rw [Hf.out]
        go_wp2_with fail
        refine wp_region_L [9, 17, 25] [(7, (fun w' => w' = w_.drew)), (15, (fun w' => Holds e w' [pt bx_ [.int .i64 x.f0, .int .i64 x.f1, .int .i64 x.f2, .int .i64 x.f3] 82])), (23, (fun w' => Holds e w' [pt bx_ [.int .i64 x.f0, .int .i64 x.f1, .int .i64 x.f2, .int .i64 x.f3] 82]))] (n := 28) (listed := (marks 28 0)) (by kernel_rfl) rfl (by kernel_rfl) ?conds4 ?_
        case conds4 =>
         intro c hc
         simp only [List.mem_cons, List.not_mem_nil, or_false] at hc
         rcases hc with rfl | rfl | rfl
         · rfl
         · exact (by replace hw := hw.drew; exact hw.sel [1] (by decide))
         · exact (by replace hw := hw.drew; exact hw.sel [1] (by decide))
        replace hw := hw.drew
        (try replace hc0 := Sep.Holds.cells hw (i := 0) rfl); (try replace hc1 := Sep.Holds.cells hw (i := 1) rfl); (try replace hc2 := Sep.Holds.cells hw (i := 2) rfl); (try replace hc3 := Sep.Holds.cells hw (i := 3) rfl); (try replace hc4 := Sep.Holds.cells hw (i := 4) rfl); (try replace hc5 := Sep.Holds.cells hw (i := 5) rfl); (try replace hc6 := Sep.Holds.cells hw (i := 6) rfl)
        refine wpL_q 0 ?_ rfl (Or.inl ⟨by rfl, fun w_ hS_ => ?_⟩) (marks 28 1) ?_
        rotate_left
        next => (go_simp; try (first | rfl | exact (Bool.not_not _).symm))
        try simp only [Act.put, List.setIfInBounds_toArray, List.set_cons_zero, List.set_cons_succ]
        refine wpL_q 1 ?_ rfl (Or.inl ⟨by rfl, fun w_ hS_ => ?_⟩) (marks 28 3) ?_
        rotate_left
        next => (go_simp; try (first | rfl | exact (Bool.not_not _).symm))
        try simp only [Act.put, List.setIfInBounds_toArray, List.set_cons_zero, List.set_cons_succ]
        refine wpL_q 2 ?_ rfl (Or.inl ⟨by rfl, fun w_ hS_ => ?_⟩) (marks 28 7) ?_
        rotate_left
        next => (first | (first | (refine Eq.trans (run_indexStr (s := strOf [c0, c1, c2]) (k := 0) (b := UInt8.ofNat c0) Tryd.underlying9 rfl rfl rfl (get_strOf rfl)) ?_; rw [toNat_ofNat M0.out]; done) | (refine Eq.trans (run_indexStr (s := strOf [c0, c1, c2]) (k := 1) (b := UInt8.ofNat c1) Tryd.underlying9 rfl rfl rfl (get_strOf rfl)) ?_; rw [toNat_ofNat M1.out]; done) | (refine Eq.trans (run_indexStr (s := strOf [c0, c1, c2]) (k := 2) (b := UInt8.ofNat c2) Tryd.underlying9 rfl rfl rfl (get_strOf rfl)) ?_; rw [toNat_ofNat M2.out]; done)) | (go_simp; try (first | rfl | exact (Bool.not_not _).symm)))
        try simp only [Act.put, List.setIfInBounds_toArray, List.set_cons_zero, List.set_cons_succ]
        refine wpL_b 3 ?_ rfl (Or.inl ⟨by rfl, fun w_ hS_ => ?_⟩) (marks 28 15) ?_
        rotate_left
        next => (go_simp; try (first | rfl | exact (Bool.not_not _).symm))
        intro bb_ hg3
        cases bb_
        case' true =>
         (try simp only [decide_eq_true_eq, decide_eq_false_iff_not, beq_iff_eq, beq_eq_false_iff_ne, bne_iff_ne, bne_eq_false_iff_eq, Bool.not_eq_true', Bool.not_eq_false', Int.not_lt, Int.not_le] at hg3)
         first | (cases hg3; done) | (exfalso; omega; done) | skip
         all_goals
          try replace hg3 := Sep.hid hg3
          try simp only [Act.put, List.setIfInBounds_toArray, List.set_cons_zero, List.set_cons_succ]
          refine wpL_q 4 ?_ rfl (Or.inl ⟨by rfl, fun w_ hS_ => ?_⟩) (marks 28 31) ?_
          rotate_left
          next => (go_simp; try (first | rfl | exact (Bool.not_not _).symm))
          try simp only [Act.put, List.setIfInBounds_toArray, List.set_cons_zero, List.set_cons_succ]
          refine wpL_q 5 ?_ rfl (Or.inl ⟨by rfl, fun w_ hS_ => ?_⟩) (marks 28 63) ?_
          rotate_left
          next => (first | (first | (refine Eq.trans (run_indexStr (s := strOf [c0, c1, c2]) (k := 0) (b := UInt8.ofNat c0) Tryd.underlying9 rfl rfl rfl (get_strOf rfl)) ?_; rw [toNat_ofNat M0.out]; done) | (refine Eq.trans (run_indexStr (s := strOf [c0, c1, c2]) (k := 1) (b := UInt8.ofNat c1) Tryd.underlying9 rfl rfl rfl (get_strOf rfl)) ?_; rw [toNat_ofNat M1.out]; done) | (refine Eq.trans (run_indexStr (s := strOf [c0, c1, c2]) (k := 2) (b := UInt8.ofNat c2) Tryd.underlying9 rfl rfl rfl (get_strOf rfl)) ?_; rw [toNat_ofNat M2.out]; done)) | (go_simp; try (first | rfl | exact (Bool.not_not _).symm)))
          try simp only [Act.put, List.setIfInBounds_toArray, List.set_cons_zero, List.set_cons_succ]
          refine wpL_q 6 ?_ rfl (Or.inl ⟨by rfl, fun w_ hS_ => ?_⟩) (marks 28 127) ?_
          rotate_left
          next => (go_simp; try (first | rfl | exact (Bool.not_not _).symm))
          try simp only [Act.put, List.setIfInBounds_toArray, List.set_cons_zero, List.set_cons_succ]
          refine wpL_m 7 ?_ rfl (.head _) (Or.inl ⟨by rfl, fun w_ hS_ => ?_⟩) (marks 28 255) ?_
          rotate_left
          next => (subst hS_; first | (first | (refine Eq.trans (run_indexStr (s := strOf [c0, c1, c2]) (k := 0) (b := UInt8.ofNat c0) Tryd.underlying9 rfl rfl rfl (get_strOf rfl)) ?_; rw [toNat_ofNat M0.out]; done) | (refine Eq.trans (run_indexStr (s := strOf [c0, c1, c2]) (k := 1) (b := UInt8.ofNat c1) Tryd.underlying9 rfl rfl rfl (get_strOf rfl)) ?_; rw [toNat_ofNat M1.out]; done) | (refine Eq.trans (run_indexStr (s := strOf [c0, c1, c2]) (k := 2) (b := UInt8.ofNat c2) Tryd.underlying9 rfl rfl rfl (get_strOf rfl)) ?_; rw [toNat_ofNat M2.out]; done)) | (go_simp; try (first | rfl | exact (Bool.not_not _).symm)))
          try simp only [Act.put, List.setIfInBounds_toArray, List.set_cons_zero, List.set_cons_succ]
          refine wpL_q 8 ?_ rfl (Or.inl ⟨by rfl, fun w_ hS_ => ?_⟩) (marks 28 511) ?_
          rotate_left
          next => (go_simp; try (first | rfl | exact (Bool.not_not _).symm))
          try simp only [Act.put, List.setIfInBounds_toArray, List.set_cons_zero, List.set_cons_succ]
          refine wpL_o 9 rfl (by rfl) (marks 28 1023) ?_
          (go_simp; go_at_call 56; refine (rFits c0 M0.out x.f1 long _).mono ?_; rintro _ w_ ⟨rfl, rfl⟩; rw [Hb0.out])
          refine ⟨(SL.drop 9 (by kernel_rfl) (SL.keep (by exact hw.sel [1] (by decide)) (SL.keep (by exact hw.sel [1] (by decide)) SL.nil))), ?_⟩
          try simp only [Act.put, List.setIfInBounds_toArray, List.set_cons_zero, List.set_cons_succ]
        case' false =>
         (try simp only [decide_eq_true_eq, decide_eq_false_iff_not, beq_iff_eq, beq_eq_false_iff_ne, bne_iff_ne, bne_eq_false_iff_eq, Bool.not_eq_true', Bool.not_eq_false', Int.not_lt, Int.not_le] at hg3)
         first | (cases hg3; done) | (exfalso; omega; done)
        all_goals
         refine wpL_q 10 ?_ rfl (Or.inl ⟨by rfl, fun w_ hS_ => ?_⟩) (marks 28 2047) ?_
         rotate_left
         next => (go_simp; try (first | rfl | exact (Bool.not_not _).symm))
         try simp only [Act.put, List.setIfInBounds_toArray, List.set_cons_zero, List.set_cons_succ]
         refine wpL_b 11 ?_ rfl (Or.inl ⟨by rfl, fun w_ hS_ => ?_⟩) (marks 28 4095) ?_
         rotate_left
         next => (go_simp; try (first | rfl | exact (Bool.not_not _).symm))
         intro bb_ hg11
         cases bb_
         case' true =>
          (try simp only [decide_eq_true_eq, decide_eq_false_iff_not, beq_iff_eq, beq_eq_false_iff_ne, bne_iff_ne, bne_eq_false_iff_eq, Bool.not_eq_true', Bool.not_eq_false', Int.not_lt, Int.not_le] at hg11)
          first | (cases hg11; done) | (exfalso; omega; done) | skip
          all_goals
           try replace hg11 := Sep.hid hg11
           try simp only [Act.put, List.setIfInBounds_toArray, List.set_cons_zero, List.set_cons_succ]
           refine wpL_q 12 ?_ rfl (Or.inl ⟨by rfl, fun w_ hS_ => ?_⟩) (marks 28 8191) ?_
           rotate_left
           next => (go_simp; try (first | rfl | exact (Bool.not_not _).symm))
           try simp only [Act.put, List.setIfInBounds_toArray, List.set_cons_zero, List.set_cons_succ]
           refine wpL_q 13 ?_ rfl (Or.inl ⟨by rfl, fun w_ hS_ => ?_⟩) (marks 28 16383) ?_
           rotate_left
           next => (first | (first | (refine Eq.trans (run_indexStr (s := strOf [c0, c1, c2]) (k := 0) (b := UInt8.ofNat c0) Tryd.underlying9 rfl rfl rfl (get_strOf rfl)) ?_; rw [toNat_ofNat M0.out]; done) | (refine Eq.trans (run_indexStr (s := strOf [c0, c1, c2]) (k := 1) (b := UInt8.ofNat c1) Tryd.underlying9 rfl rfl rfl (get_strOf rfl)) ?_; rw [toNat_ofNat M1.out]; done) | (refine Eq.trans (run_indexStr (s := strOf [c0, c1, c2]) (k := 2) (b := UInt8.ofNat c2) Tryd.underlying9 rfl rfl rfl (get_strOf rfl)) ?_; rw [toNat_ofNat M2.out]; done)) | (go_simp; try (first | rfl | exact (Bool.not_not _).symm)))
           try simp only [Act.put, List.setIfInBounds_toArray, List.set_cons_zero, List.set_cons_succ]
           refine wpL_q 14 ?_ rfl (Or.inl ⟨by rfl, fun w_ hS_ => ?_⟩) (marks 28 32767) ?_
           rotate_left
           next => (go_simp; try (first | rfl | exact (Bool.not_not _).symm))
           try simp only [Act.put, List.setIfInBounds_toArray, List.set_cons_zero, List.set_cons_succ]
           refine wpL_m 15 ?_ rfl (.tail _ (.head _)) (Or.inl ⟨by rfl, fun w_ hS_ => ?_⟩) (marks 28 65535) ?_
           rotate_left
           next => (dsimp only at hS_; (try have q0 := Sep.Holds.cells hS_ (i := 0) rfl); (try have q1 := Sep.Holds.cells hS_ (i := 1) rfl); (try have q2 := Sep.Holds.cells hS_ (i := 2) rfl); (try have q3 := Sep.Holds.cells hS_ (i := 3) rfl); (try have q4 := Sep.Holds.cells hS_ (i := 4) rfl); (try have q5 := Sep.Holds.cells hS_ (i := 5) rfl); (try have q6 := Sep.Holds.cells hS_ (i := 6) rfl); first | (first | (refine Eq.trans (run_indexStr (s := strOf [c0, c1, c2]) (k := 0) (b := UInt8.ofNat c0) Tryd.underlying9 rfl rfl rfl (get_strOf rfl)) ?_; rw [toNat_ofNat M0.out]; done) | (refine Eq.trans (run_indexStr (s := strOf [c0, c1, c2]) (k := 1) (b := UInt8.ofNat c1) Tryd.underlying9 rfl rfl rfl (get_strOf rfl)) ?_; rw [toNat_ofNat M1.out]; done) | (refine Eq.trans (run_indexStr (s := strOf [c0, c1, c2]) (k := 2) (b := UInt8.ofNat c2) Tryd.underlying9 rfl rfl rfl (get_strOf rfl)) ?_; rw [toNat_ofNat M2.out]; done)) | (go_simp; try (first | rfl | exact (Bool.not_not _).symm)))
           try simp only [Act.put, List.setIfInBounds_toArray, List.set_cons_zero, List.set_cons_succ]
           refine wpL_q 16 ?_ rfl (Or.inl ⟨by rfl, fun w_ hS_ => ?_⟩) (marks 28 131071) ?_
           rotate_left
           next => (go_simp; try (first | rfl | exact (Bool.not_not _).symm))
           try simp only [Act.put, List.setIfInBounds_toArray, List.set_cons_zero, List.set_cons_succ]
           refine wpL_o 17 rfl (by rfl) (marks 28 262143) ?_
           (go_simp; go_at_call 56; refine (rFits c1 M1.out x.f2 long _).mono ?_; rintro _ w_ ⟨rfl, rfl⟩; rw [Hb1.out])
           refine ⟨(SL.drop 9 (by kernel_rfl) (SL.drop 17 (by kernel_rfl) (SL.keep (by exact hw.sel [1] (by decide)) SL.nil))), ?_⟩
           try simp only [Act.put, List.setIfInBounds_toArray, List.set_cons_zero, List.set_cons_succ]
         case' false =>
          (try simp only [decide_eq_true_eq, decide_eq_false_iff_not, beq_iff_eq, beq_eq_false_iff_ne, bne_iff_ne, bne_eq_false_iff_eq, Bool.not_eq_true', Bool.not_eq_false', Int.not_lt, Int.not_le] at hg11)
          first | (cases hg11; done) | (exfalso; omega; done)
         all_goals
          refine wpL_q 18 ?_ rfl (Or.inl ⟨by rfl, fun w_ hS_ => ?_⟩) (marks 28 524287) ?_
          rotate_left
          next => (go_simp; try (first | rfl | exact (Bool.not_not _).symm))
          try simp only [Act.put, List.setIfInBounds_toArray, List.set_cons_zero, List.set_cons_succ]
          refine wpL_b 19 ?_ rfl (Or.inl ⟨by rfl, fun w_ hS_ => ?_⟩) (marks 28 1048575) ?_
          rotate_left
          next => (go_simp; try (first | rfl | exact (Bool.not_not _).symm))
          intro bb_ hg19
          cases bb_
          case' true =>
           (try simp only [decide_eq_true_eq, decide_eq_false_iff_not, beq_iff_eq, beq_eq_false_iff_ne, bne_iff_ne, bne_eq_false_iff_eq, Bool.not_eq_true', Bool.not_eq_false', Int.not_lt, Int.not_le] at hg19)
           first | (cases hg19; done) | (exfalso; omega; done) | skip
           all_goals
            try replace hg19 := Sep.hid hg19
            try simp only [Act.put, List.setIfInBounds_toArray, List.set_cons_zero, List.set_cons_succ]
            refine wpL_q 20 ?_ rfl (Or.inl ⟨by rfl, fun w_ hS_ => ?_⟩) (marks 28 2097151) ?_
            rotate_left
            next => (go_simp; try (first | rfl | exact (Bool.not_not _).symm))
            try simp only [Act.put, List.setIfInBounds_toArray, List.set_cons_zero, List.set_cons_succ]
            refine wpL_q 21 ?_ rfl (Or.inl ⟨by rfl, fun w_ hS_ => ?_⟩) (marks 28 4194303) ?_
            rotate_left
            next => (first | (first | (refine Eq.trans (run_indexStr (s := strOf [c0, c1, c2]) (k := 0) (b := UInt8.ofNat c0) Tryd.underlying9 rfl rfl rfl (get_strOf rfl)) ?_; rw [toNat_ofNat M0.out]; done) | (refine Eq.trans (run_indexStr (s := strOf [c0, c1, c2]) (k := 1) (b := UInt8.ofNat c1) Tryd.underlying9 rfl rfl rfl (get_strOf rfl)) ?_; rw [toNat_ofNat M1.out]; done) | (refine Eq.trans (run_indexStr (s := strOf [c0, c1, c2]) (k := 2) (b := UInt8.ofNat c2) Tryd.underlying9 rfl rfl rfl (get_strOf rfl)) ?_; rw [toNat_ofNat M2.out]; done)) | (go_simp; try (first | rfl | exact (Bool.not_not _).symm)))
            try simp only [Act.put, List.setIfInBounds_toArray, List.set_cons_zero, List.set_cons_succ]
            refine wpL_q 22 ?_ rfl (Or.inl ⟨by rfl, fun w_ hS_ => ?_⟩) (marks 28 8388607) ?_
            rotate_left
            next => (go_simp; try (first | rfl | exact (Bool.not_not _).symm))
            try simp only [Act.put, List.setIfInBounds_toArray, List.set_cons_zero, List.set_cons_succ]
            refine wpL_m 23 ?_ rfl (.tail _ (.tail _ (.head _))) (Or.inl ⟨by rfl, fun w_ hS_ => ?_⟩) (marks 28 16777215) ?_
            rotate_left
            next => (dsimp only at hS_; (try have q0 := Sep.Holds.cells hS_ (i := 0) rfl); (try have q1 := Sep.Holds.cells hS_ (i := 1) rfl); (try have q2 := Sep.Holds.cells hS_ (i := 2) rfl); (try have q3 := Sep.Holds.cells hS_ (i := 3) rfl); (try have q4 := Sep.Holds.cells hS_ (i := 4) rfl); (try have q5 := Sep.Holds.cells hS_ (i := 5) rfl); (try have q6 := Sep.Holds.cells hS_ (i := 6) rfl); first | (first | (refine Eq.trans (run_indexStr (s := strOf [c0, c1, c2]) (k := 0) (b := UInt8.ofNat c0) Tryd.underlying9 rfl rfl rfl (get_strOf rfl)) ?_; rw [toNat_ofNat M0.out]; done) | (refine Eq.trans (run_indexStr (s := strOf [c0, c1, c2]) (k := 1) (b := UInt8.ofNat c1) Tryd.underlying9 rfl rfl rfl (get_strOf rfl)) ?_; rw [toNat_ofNat M1.out]; done) | (refine Eq.trans (run_indexStr (s := strOf [c0, c1, c2]) (k := 2) (b := UInt8.ofNat c2) Tryd.underlying9 rfl rfl rfl (get_strOf rfl)) ?_; rw [toNat_ofNat M2.out]; done)) | (go_simp; try (first | rfl | exact (Bool.not_not _).symm)))
            try simp only [Act.put, List.setIfInBounds_toArray, List.set_cons_zero, List.set_cons_succ]
            refine wpL_q 24 ?_ rfl (Or.inl ⟨by rfl, fun w_ hS_ => ?_⟩) (marks 28 33554431) ?_
            rotate_left
            next => (go_simp; try (first | rfl | exact (Bool.not_not _).symm))
            try simp only [Act.put, List.setIfInBounds_toArray, List.set_cons_zero, List.set_cons_succ]
            refine wpL_o 25 rfl (by rfl) (marks 28 67108863) ?_
            (go_simp; go_at_call 56; refine (rFits c2 M2.out x.f3 long _).mono ?_; rintro _ w_ ⟨rfl, rfl⟩)
            refine ⟨(SL.drop 9 (by kernel_rfl) (SL.drop 17 (by kernel_rfl) (SL.drop 25 (by kernel_rfl) SL.nil))), ?_⟩
            try simp only [Act.put, List.setIfInBounds_toArray, List.set_cons_zero, List.set_cons_succ]
          case' false =>
           (try simp only [decide_eq_true_eq, decide_eq_false_iff_not, beq_iff_eq, beq_eq_false_iff_ne, bne_iff_ne, bne_eq_false_iff_eq, Bool.not_eq_true', Bool.not_eq_false', Int.not_lt, Int.not_le] at hg19)
           first | (cases hg19; done) | (exfalso; omega; done)
          all_goals
           refine wpL_q 26 ?_ rfl (Or.inl ⟨by rfl, fun w_ hS_ => ?_⟩) (marks 28 134217727) ?_
           rotate_left
           next => (go_simp; try (first | rfl | exact (Bool.not_not _).symm))
           try simp only [Act.put, List.setIfInBounds_toArray, List.set_cons_zero, List.set_cons_succ]
           refine wpL_q 27 ?_ rfl (Or.inl ⟨by rfl, fun w_ hS_ => ?_⟩) (marks 28 268435455) ?_
           rotate_left
           next => (go_simp; try (first | rfl | exact (Bool.not_not _).symm))
           try simp only [Act.put, List.setIfInBounds_toArray, List.set_cons_zero, List.set_cons_succ]
           all_goals refine wpL_done (by kernel_rfl) ?_ _
        go_wp2_with fail
        exact HP.out _ _ ⟨rfl, hw.sel [0] (by decide)⟩
end Go.Proofs.YteinbojpmhblkaaDoor
/-
  The walks of May, the program's and the document's, over instructions that are read.
-/
namespace Go.Proofs.YteinbojpmhblkaaDoor
set_option linter.unusedSimpArgs false
set_option linter.unusedVariables false
open Go.RowKit Go.Sep
set_option maxRecDepth 20000

/-- Instructions that can be read. -/
def ReadsA (w : World) (a : Option Addr) (l : List Deed) : Prop := ∀ (k : Nat) (x : Deed), l[k]? = some x → ∃ p : Addr, a = some p ∧ ∀ (j : Nat) (c : Value), (encA x)[j]? = some c → w.cell? ((p.add (k * 4)).add j) = some c
def RdA (e : World) (X : HProp) (a : Option Addr) (l : List Deed) : Prop := ∀ (w : World) (L : List HProp) (i : Nat), Holds e w L → L[i]? = some X → ReadsA w a l
theorem Tops.sep {e : World} {A : HProp} {M : List HProp} (h : Tops e A) : Tops e (sepL (A :: M)) := by
  intro w L i hw hi
  have hil := (List.getElem?_eq_some_iff.1 hi).1
  exact h w _ i (hw.open_ i hi) (by rw [List.getElem?_append_left (by simpa using hil), List.getElem?_set_self hil])
theorem RdA.sep {e : World} {A : HProp} {M : List HProp} {a : Option Addr} {l : List Deed} (h : RdA e A a l) : RdA e (sepL (A :: M)) a l := by
  intro w L i hw hi
  have hil := (List.getElem?_eq_some_iff.1 hi).1
  exact h w _ i (hw.open_ i hi) (by rw [List.getElem?_append_left (by simpa using hil), List.getElem?_set_self hil])
def badP (l : List Deed) (n : Int) : Bool := l.any (fun x => !rightP x n)
theorem take_bad {l : List Deed} {k : Nat} {x : Deed} {n : Int} (h : badP (l.take k) n = false) (hx : l[k]? = some x) (hr : rightP x n = true) : badP (l.take (k + 1)) n = false := by
  unfold badP at h ⊢
  rw [List.take_add_one, hx]
  simp only [Option.toList_some, List.any_append, h, List.any_cons, List.any_nil, hr]; rfl
theorem bad_at {l : List Deed} {k : Nat} {x : Deed} {n : Int} (hx : l[k]? = some x) (hr : rightP x n = false) : badP l n = true := by
  unfold badP
  rw [List.any_eq_true]
  exact ⟨x, List.mem_of_getElem? hx, by rw [hr]; rfl⟩
set_option maxHeartbeats 4000000 in
theorem oMay1 (x : Deed) (bx n ca : Nat) (a : Option Addr) (e w : World) (X : HProp) (hT : Tops e X) (hw : Holds e w [X, pt bx [.slice a n ca] 57]) :
    Calls Tryd.prog 46 #[.agg (encA x).toArray, .pointer (some ⟨bx, 0, none⟩)] w fun en w' => en = .returned (.bool (!rightP x n)) ∧ Holds e w' [X, pt bx [.slice a n ca] 57] := by
  have hA : encA x = [.int .i64 x.f0, .int .i64 x.f1, .int .i64 x.f2, .int .i64 x.f3] := rfl
  rw [hA]; clear hA
  have HT := Sep.hid hT; clear hT
  refine Sep.calls_post ?_
  intro Post_ hPost_
  have HP := Sep.hid hPost_
  clear hPost_
  go_enter Tryd.func46, Tryd.ntmps46
  go_wp2_with (first | (refine wpList_on rfl (wp_box rfl hw ?_); intro b_ w_ hw_; clear hw; have hw := hw_; clear hw_; (try simp only [List.map_cons, List.map_nil, List.getD_cons_zero, List.getD_cons_succ, List.getD_nil, List.set_cons_zero, List.set_cons_succ, List.cons_append, List.nil_append, Act.eval, Array.getD_eq_getD_getElem?, List.getElem?_toArray, List.getElem?_cons_succ, List.getElem?_cons_zero, Option.getD_some, Value.cells] at hw); (try simp (disch := first | (simp; done) | (simp; omega)) only [Sep.mid_set, Sep.mid_set2, Sep.mid_set0, Sep.mid_splice, Sep.mid_splice0, List.set_cons_zero, List.set_cons_succ] at hw); (try simp only [Sep.splice, List.take_succ_cons, List.take_zero, List.drop_succ_cons, List.drop_zero, List.length_cons, List.length_nil, Nat.reduceAdd, List.cons_append, List.nil_append] at hw); (try replace hc0 := Sep.Holds.cells hw (i := 0) rfl); (try replace hc1 := Sep.Holds.cells hw (i := 1) rfl); (try replace hc2 := Sep.Holds.cells hw (i := 2) rfl); (try replace hc3 := Sep.Holds.cells hw (i := 3) rfl); (try replace hc4 := Sep.Holds.cells hw (i := 4) rfl); (try replace hc5 := Sep.Holds.cells hw (i := 5) rfl); (try replace hc6 := Sep.Holds.cells hw (i := 6) rfl)))
  refine (oRight x n e _ _ HT.out.sep hw.focus0).mono ?_
  rintro _ w_ ⟨rfl, hw_⟩
  clear hw; (try clear hc0); (try clear hc1); (try clear hc2); (try clear hc3); (try clear hc4); (try clear hc5); (try clear hc6); have hw := Holds.unfocus0 hw_; clear hw_
  (try simp only [List.map_cons, List.map_nil, List.getD_cons_zero, List.getD_cons_succ, List.getD_nil, List.set_cons_zero, List.set_cons_succ, List.cons_append, List.nil_append, Act.eval, Array.getD_eq_getD_getElem?, List.getElem?_toArray, List.getElem?_cons_succ, List.getElem?_cons_zero, Option.getD_some, Value.cells] at hw); (try simp (disch := first | (simp; done) | (simp; omega)) only [Sep.mid_set, Sep.mid_set2, Sep.mid_set0, Sep.mid_splice, Sep.mid_splice0, List.set_cons_zero, List.set_cons_succ] at hw); (try simp only [Sep.splice, List.take_succ_cons, List.take_zero, List.drop_succ_cons, List.drop_zero, List.length_cons, List.length_nil, Nat.reduceAdd, List.cons_append, List.nil_append] at hw)
  go_wp2_with fail
  exact HP.out _ _ ⟨rfl, hw.sel [0, 1] (by decide)⟩
set_option maxHeartbeats 4000000 in
theorem oIndex (l : List Deed) (n ca bx : Nat) (a : Option Addr) (hn : Hid (l.length = n)) (hn2 : n ≤ 1000000) (e w : World) (X : HProp) (hT : Tops e X) (hR : RdA e X a l) (hw : Holds e w [X, pt bx [.slice a n ca] 57]) :
    Calls Tryd.prog 52 #[.slice a n ca, .func (.func 46) #[] #[.pointer (some ⟨bx, 0, none⟩)]] w fun en w' => (∃ k : Int, en = .returned (.int .i64 k) ∧ decide (0 ≤ k) = badP l n) ∧ Holds e w' [X, pt bx [.slice a n ca] 57] := by
  have HT := Sep.hid hT; clear hT
  have HR := Sep.hid hR; clear hR
  refine Sep.calls_post ?_
  intro Post_ hPost_
  have HP := Sep.hid hPost_
  clear hPost_
  go_enter Tryd.func52, Tryd.ntmps52
  go_wp2_with fail
  have Hw0 := Sep.hid hw; clear hw; (try clear hc0); (try clear hc1); (try clear hc2); (try clear hc3); (try clear hc4); (try clear hc5); (try clear hc6)
  go_loopw [8] (fun i wr => ∃ k : Nat, k ≤ n ∧ i = .int .i64 k ∧ Hid (badP (l.take k) n = false) ∧ Holds e wr [X, pt bx [.slice a n ca] 57]) (fun i _ => n - (intOf i).toNat)
  case atStart => exact ⟨0, Nat.zero_le _, rfl, Sep.hid (by simp [badP]), Hw0.out⟩
  case round =>
    clear Hw0
    obtain ⟨k, hk, rfl, Hno, hw⟩ := hrel
    by_cases hlt : k < n
    · obtain ⟨x, hx⟩ : ∃ x, l[k]? = some x := ⟨_, List.getElem?_eq_getElem (by rw [hn.out]; exact hlt)⟩
      obtain ⟨p, rfl, hc⟩ := HR.out _ _ 0 hw rfl k x hx
      have Hc := Sep.hid hc; clear hc
      have Hx := Sep.hid hx; clear hx
      go_wp2_with (first | (refine wpList_on rfl (wp_of_run (run_loadAd (vs := encA x) rfl rfl rfl Hc.out) ?_); (try simp only [Act.put, List.setIfInBounds_toArray, List.set_cons_zero, List.set_cons_succ])))
      refine (oMay1 x bx n ca _ e _ X HT.out hw).mono ?_
      rintro _ w_ ⟨rfl, hw_⟩
      clear hw; (try clear hc0); (try clear hc1); (try clear hc2); (try clear hc3); (try clear hc4); (try clear hc5); (try clear hc6); have hw := hw_; clear hw_
      cases hr : rightP x n with
      | true =>
        have Hr := Sep.hid hr; clear hr
        go_wp2_with fail
        go_roundw
        case rel => exact ⟨k + 1, by omega, by go_num, Sep.hid (take_bad Hno.out Hx.out Hr.out), hw⟩
        case measure => simp [intOf]; omega
      | false =>
        have Hr := Sep.hid hr; clear hr
        go_wp2_with fail
        exact HP.out _ _ ⟨⟨_, rfl, by rw [bad_at Hx.out Hr.out]; simp⟩, hw⟩
    · have hke : n = k := by omega
      subst hke
      have Hb : Hid (badP l n = false) := Sep.hid (by have h := Hno.out; rwa [List.take_of_length_le (by rw [hn.out]; omega)] at h)
      go_wp2_with fail
      exact HP.out _ _ ⟨⟨_, rfl, by rw [Hb.out]; decide⟩, hw⟩
set_option maxHeartbeats 4000000 in
theorem oContains (l : List Deed) (n ca bx : Nat) (a : Option Addr) (hn : Hid (l.length = n)) (hn2 : n ≤ 1000000) (e w : World) (X : HProp) (hT : Tops e X) (hR : RdA e X a l) (hw : Holds e w [X, pt bx [.slice a n ca] 57]) :
    Calls Tryd.prog 45 #[.slice a n ca, .func (.func 46) #[] #[.pointer (some ⟨bx, 0, none⟩)]] w fun en w' => en = .returned (.bool (badP l n)) ∧ Holds e w' [X, pt bx [.slice a n ca] 57] := by
  refine Sep.calls_post ?_
  intro Post_ hPost_
  have HP := Sep.hid hPost_
  clear hPost_
  go_enter Tryd.func45, Tryd.ntmps45
  go_wp2_with fail
  refine (oIndex l n ca bx a hn hn2 e _ X hT hR hw).mono ?_
  rintro _ w_ ⟨⟨k, rfl, hk⟩, hw_⟩
  have Hk := Sep.hid hk; clear hk
  go_wp2_with fail
  exact HP.out _ _ ⟨by rw [← Hk.out]; rfl, hw_⟩
theorem may_bad (l : List Deed) : mayP l = (decide (1 ≤ l.length ∧ l.length ≤ 24) && !badP l l.length) := by
  unfold mayP badP
  rw [List.not_any_eq_all_not]
  simp
set_option maxHeartbeats 4000000 in
theorem oMay (l : List Deed) (n ca : Nat) (a : Option Addr) (hn : Hid (l.length = n)) (e w : World) (X : HProp) (hT : Tops e X) (hR : RdA e X a l) (hw : Holds e w [X]) :
    Calls Tryd.prog 32 #[.slice a n ca] w fun en w' => en = .returned (.bool (mayP l)) ∧ Holds e w' [X] := by
  have HT := Sep.hid hT; clear hT
  have HR := Sep.hid hR; clear hR
  have hmf : ∀ (fn : Fn) (first cap : Array Value) (w : World), (Instr.makeFunc fn first cap).run Tryd.prog w = .ok (.func fn first cap) w := fun _ _ _ _ => rfl
  have Hb : Hid (mayP l = (decide (1 ≤ n ∧ n ≤ 24) && !badP l n)) := Sep.hid (by rw [may_bad, hn.out])
  by_cases h1 : (1 : Int) ≤ n
  · by_cases h2 : (n : Int) ≤ 24
    · refine Sep.calls_post ?_
      intro Post_ hPost_
      have HP := Sep.hid hPost_
      clear hPost_
      go_enter Tryd.func32, Tryd.ntmps32
      go_wp2_with (first | (refine wpList_on rfl (wp_box rfl hw ?_); intro bx_ w_ hw_; clear hw; have hw := hw_; clear hw_; (try simp only [List.map_cons, List.map_nil, List.getD_cons_zero, List.getD_cons_succ, List.getD_nil, List.set_cons_zero, List.set_cons_succ, List.cons_append, List.nil_append, Act.eval, Array.getD_eq_getD_getElem?, List.getElem?_toArray, List.getElem?_cons_succ, List.getElem?_cons_zero, Option.getD_some, Value.cells] at hw); (try simp (disch := first | (simp; done) | (simp; omega)) only [Sep.mid_set, Sep.mid_set2, Sep.mid_set0, Sep.mid_splice, Sep.mid_splice0, List.set_cons_zero, List.set_cons_succ] at hw); (try simp only [Sep.splice, List.take_succ_cons, List.take_zero, List.drop_succ_cons, List.drop_zero, List.length_cons, List.length_nil, Nat.reduceAdd, List.cons_append, List.nil_append] at hw); (try replace hc0 := Sep.Holds.cells hw (i := 0) rfl); (try replace hc1 := Sep.Holds.cells hw (i := 1) rfl); (try replace hc2 := Sep.Holds.cells hw (i := 2) rfl); (try replace hc3 := Sep.Holds.cells hw (i := 3) rfl); (try replace hc4 := Sep.Holds.cells hw (i := 4) rfl); (try replace hc5 := Sep.Holds.cells hw (i := 5) rfl); (try replace hc6 := Sep.Holds.cells hw (i := 6) rfl)))
      refine (oContains l n ca bx_ a hn (by omega) e _ X HT.out HR.out hw).mono ?_
      rintro _ w_ ⟨rfl, hw_⟩
      clear hw; (try clear hc0); (try clear hc1); (try clear hc2); (try clear hc3); (try clear hc4); (try clear hc5); (try clear hc6); have hw := hw_; clear hw_
      go_wp2_with fail
      exact HP.out _ _ ⟨by rw [Hb.out, decide_eq_true (by omega)]; rfl, hw.sel [0] (by decide)⟩
    · refine Sep.calls_post ?_
      intro Post_ hPost_
      have HP := Sep.hid hPost_
      clear hPost_
      go_enter Tryd.func32, Tryd.ntmps32
      go_wp2_with (first | (refine wpList_on rfl (wp_box rfl hw ?_); intro bx_ w_ hw_; clear hw; have hw := hw_; clear hw_; (try simp only [List.map_cons, List.map_nil, List.getD_cons_zero, List.getD_cons_succ, List.getD_nil, List.set_cons_zero, List.set_cons_succ, List.cons_append, List.nil_append, Act.eval, Array.getD_eq_getD_getElem?, List.getElem?_toArray, List.getElem?_cons_succ, List.getElem?_cons_zero, Option.getD_some, Value.cells] at hw); (try simp (disch := first | (simp; done) | (simp; omega)) only [Sep.mid_set, Sep.mid_set2, Sep.mid_set0, Sep.mid_splice, Sep.mid_splice0, List.set_cons_zero, List.set_cons_succ] at hw); (try simp only [Sep.splice, List.take_succ_cons, List.take_zero, List.drop_succ_cons, List.drop_zero, List.length_cons, List.length_nil, Nat.reduceAdd, List.cons_append, List.nil_append] at hw); (try replace hc0 := Sep.Holds.cells hw (i := 0) rfl); (try replace hc1 := Sep.Holds.cells hw (i := 1) rfl); (try replace hc2 := Sep.Holds.cells hw (i := 2) rfl); (try replace hc3 := Sep.Holds.cells hw (i := 3) rfl); (try replace hc4 := Sep.Holds.cells hw (i := 4) rfl); (try replace hc5 := Sep.Holds.cells hw (i := 5) rfl); (try replace hc6 := Sep.Holds.cells hw (i := 6) rfl)))
      exact HP.out _ _ ⟨by rw [Hb.out, decide_eq_false (by omega)]; rfl, hw.sel [0] (by decide)⟩
  · refine Sep.calls_post ?_
    intro Post_ hPost_
    have HP := Sep.hid hPost_
    clear hPost_
    go_enter Tryd.func32, Tryd.ntmps32
    go_wp2_with (first | (refine wpList_on rfl (wp_box rfl hw ?_); intro bx_ w_ hw_; clear hw; have hw := hw_; clear hw_; (try simp only [List.map_cons, List.map_nil, List.getD_cons_zero, List.getD_cons_succ, List.getD_nil, List.set_cons_zero, List.set_cons_succ, List.cons_append, List.nil_append, Act.eval, Array.getD_eq_getD_getElem?, List.getElem?_toArray, List.getElem?_cons_succ, List.getElem?_cons_zero, Option.getD_some, Value.cells] at hw); (try simp (disch := first | (simp; done) | (simp; omega)) only [Sep.mid_set, Sep.mid_set2, Sep.mid_set0, Sep.mid_splice, Sep.mid_splice0, List.set_cons_zero, List.set_cons_succ] at hw); (try simp only [Sep.splice, List.take_succ_cons, List.take_zero, List.drop_succ_cons, List.drop_zero, List.length_cons, List.length_nil, Nat.reduceAdd, List.cons_append, List.nil_append] at hw); (try replace hc0 := Sep.Holds.cells hw (i := 0) rfl); (try replace hc1 := Sep.Holds.cells hw (i := 1) rfl); (try replace hc2 := Sep.Holds.cells hw (i := 2) rfl); (try replace hc3 := Sep.Holds.cells hw (i := 3) rfl); (try replace hc4 := Sep.Holds.cells hw (i := 4) rfl); (try replace hc5 := Sep.Holds.cells hw (i := 5) rfl); (try replace hc6 := Sep.Holds.cells hw (i := 6) rfl)))
    exact HP.out _ _ ⟨by rw [Hb.out, decide_eq_false (by omega)]; rfl, hw.sel [0] (by decide)⟩
set_option maxHeartbeats 4000000 in
theorem rMay (l : List Deed) (n ca : Nat) (a : Option Addr) (hn : Hid (l.length = n)) (hn2 : n ≤ 1000000) (e w : World) (X : HProp) (hR : RdA e X a l) (hw : Holds e w [X]) :
    Calls Tryd.prog 36 #[.slice a n ca] w fun en w' => en = .returned (.bool (mayP l)) ∧ Holds e w' [X] := by
  have HR := Sep.hid hR; clear hR
  have Hb : Hid (mayP l = (decide (1 ≤ n ∧ n ≤ 24) && !badP l n)) := Sep.hid (by rw [may_bad, hn.out])
  refine Sep.calls_post ?_
  intro Post_ hPost_
  have HP := Sep.hid hPost_
  clear hPost_
  go_enter Tryd.func36, Tryd.ntmps36
  go_wp2_with fail
  have Hw0 := Sep.hid hw; clear hw; (try clear hc0); (try clear hc1); (try clear hc2); (try clear hc3); (try clear hc4); (try clear hc5); (try clear hc6)
  go_loopw [3] (fun i wr => ∃ k : Nat, k ≤ n ∧ i = .int .i64 k ∧ Hid (badP (l.take k) n = false) ∧ Holds e wr [X]) (fun i _ => n - (intOf i).toNat)
  case atStart => exact ⟨0, Nat.zero_le _, rfl, Sep.hid (by simp [badP]), Hw0.out⟩
  case round =>
    clear Hw0
    obtain ⟨k, hk, rfl, Hno, hw⟩ := hrel
    by_cases hlt : k < n
    · obtain ⟨x, hx⟩ : ∃ x, l[k]? = some x := ⟨_, List.getElem?_eq_getElem (by rw [hn.out]; exact hlt)⟩
      obtain ⟨p, rfl, hc⟩ := HR.out _ _ 0 hw rfl k x hx
      have Hc := Sep.hid hc; clear hc
      have Hx := Sep.hid hx; clear hx
      go_wp2_with (first | (refine wpList_on rfl (wp_of_run (run_loadAd (vs := encA x) rfl rfl rfl Hc.out) ?_); (try simp only [Act.put, List.setIfInBounds_toArray, List.set_cons_zero, List.set_cons_succ])))
      refine (rRight x n e _ X hw).mono ?_
      rintro _ w_ ⟨rfl, hw_⟩
      clear hw; (try clear hc0); (try clear hc1); (try clear hc2); (try clear hc3); (try clear hc4); (try clear hc5); (try clear hc6); have hw := hw_; clear hw_
      cases hr : rightP x n with
      | true =>
        have Hr := Sep.hid hr; clear hr
        go_wp2_with fail
        go_roundw
        case rel => exact ⟨k + 1, by omega, by go_num, Sep.hid (take_bad Hno.out Hx.out Hr.out), hw⟩
        case measure => simp [intOf]; omega
      | false =>
        have Hr := Sep.hid hr; clear hr
        go_wp2_with fail
        exact HP.out _ _ ⟨by rw [Hb.out, bad_at Hx.out Hr.out]; simp, hw⟩
    · have hke : n = k := by omega
      subst hke
      have Hb2 : Hid (badP l n = false) := Sep.hid (by have h := Hno.out; rwa [List.take_of_length_le (by rw [hn.out]; omega)] at h)
      have Hb3 : Hid (mayP l = decide (1 ≤ n ∧ n ≤ 24)) := Sep.hid (by rw [Hb.out, Hb2.out]; simp)
      by_cases h1 : (1 : Int) ≤ n
      · go_wp2_with fail
        have e1 : decide (1 ≤ n ∧ n ≤ 24) = decide (n ≤ 24) := by
          have : 1 ≤ n := by omega
          simp [this]
        exact HP.out _ _ ⟨by rw [Hb3.out, e1]; first | rfl | (simp; omega), hw⟩
      · go_wp2_with fail
        exact HP.out _ _ ⟨by rw [Hb3.out, decide_eq_false (by omega)], hw⟩
end Go.Proofs.YteinbojpmhblkaaDoor
/-
  Slices of whole numbers, and the walk of Same.
-/
namespace Go.Proofs.YteinbojpmhblkaaDoor
set_option linter.unusedSimpArgs false
set_option linter.unusedVariables false
open Go.RowKit Go.Sep

theorem Sl.value {e w : World} {L : List HProp} {i n sz : Nat} {v : Value} {cs : List Value} {T : TypeId} (hi : L[i]? = some (Sl T sz v n cs)) (hw : Holds e w L) : ∃ a cap, v = .slice a n cap := by
  refine hw.fact hi (fun h hh => ?_)
  rcases hh.2 with ⟨h1, h2⟩ | ⟨b, cap, pre, post, h1, _⟩
  · exact ⟨none, 0, by rw [h1, h2]⟩
  · exact ⟨_, _, h1⟩


def encI (l : List Int) : List Value := l.map (Value.int .i64)
theorem encI_length (l : List Int) : (encI l).length = l.length := by simp [encI]
theorem encI_append (l m : List Int) : encI (l ++ m) = encI l ++ encI m := by simp [encI]
theorem encI_one (l : List Int) : ∀ v ∈ encI l, v.oneCell' = true := by simp [encI, Value.oneCell']
/-- A slice of whole numbers. -/
def IsInts (v : Value) (l : List Int) : HProp := Sl 3 1 v l.length (encI l)
theorem sl_snoc (v : Value) (l : List Int) (t : Int) : Sl 3 1 v (l.length + 1) (encI l ++ [.int .i64 t]) = IsInts v (l ++ [t]) := by
  unfold IsInts
  rw [encI_append, List.length_append]
  rfl
def slLen : Value → Nat
  | .slice _ n _ => n
  | _ => 0
theorem encI_get {l : List Int} {k : Nat} {x : Int} (h : l[k]? = some x) : (encI l)[k]? = some (.int .i64 x) := by simp [encI, h]

end Go.Proofs.YteinbojpmhblkaaDoor
/-
  The walks of Own, and of Same, the program's and the document's; of SameBytes.
-/
namespace Go.Proofs.YteinbojpmhblkaaDoor
set_option linter.unusedSimpArgs false
set_option linter.unusedVariables false
open Go.RowKit Go.Sep
set_option maxRecDepth 20000

def encAs (l : List Deed) : List Value := l.flatMap encA
theorem encA_len (x : Deed) : (encA x).length = 4 := rfl
theorem encAs_length (l : List Deed) : (encAs l).length = l.length * 4 := flat_len encA_len l
theorem encAs_append (l m : List Deed) : encAs (l ++ m) = encAs l ++ encAs m := by simp [encAs]
theorem encAs_one (l : List Deed) : ∀ v ∈ encAs l, v.oneCell' = true := by
  intro v hv
  obtain ⟨x, _, hx⟩ := List.mem_flatMap.1 hv
  exact encA_one x v hx
theorem encAs_snoc (l : List Deed) (x : Deed) : encAs (l ++ [x]) = encAs l ++ encA x := by rw [encAs_append]; simp [encAs]
/-- A slice of instructions. -/
def IsAs (T : TypeId) (v : Value) (l : List Deed) : HProp := Sl T 4 v l.length (encAs l)
theorem takeA {l : List Deed} {k : Nat} {x : Deed} (h : l[k]? = some x) : l.take (k + 1) = l.take k ++ [x] := by
  rw [List.take_add_one, h]; rfl
theorem readsA {T : TypeId} {e w : World} {L : List HProp} {i n ca : Nat} {a : Option Addr} {l : List Deed} (hw : Holds e w L) (hi : L[i]? = some (Sl T 4 (.slice a n ca) n (encAs l))) : ReadsA w a l := by
  intro k x hx
  have hk : k < l.length := (List.getElem?_eq_some_iff.1 hx).1
  have hln : (encAs l).length = n * 4 := hw.fact hi (fun _ h => h.1)
  have hln2 := encAs_length l
  rcases hw.openSl hi with ⟨_, h2, _⟩ | ⟨b, cap, pre, post, hv', _, _, _, hw'⟩
  · omega
  · cases hv'
    have hil : i < L.length := (List.getElem?_eq_some_iff.1 hi).1
    refine ⟨_, rfl, fun j c hj => ?_⟩
    have hj4 : j < 4 := (List.getElem?_eq_some_iff.1 hj).1
    have e1 : ((⟨b, pre.length, none⟩ : Addr).add (k * 4)).add j = ⟨b, pre.length + (k * 4 + j), none⟩ := by
      rw [Go.Deep.add_add]; unfold Addr.add; split <;> simp_all
    rw [e1, hw'.cells (List.getElem?_set_self hil), Sep.mid_get _ _ _ _ (by omega)]
    unfold encAs
    rw [flat_get encA_len hx hj4]; exact hj
theorem rdA {T : TypeId} {e : World} {n ca : Nat} {a : Option Addr} {l : List Deed} : RdA e (Sl T 4 (.slice a n ca) n (encAs l)) a l := fun _ _ _ hw hi => readsA hw hi
set_option maxHeartbeats 4000000 in
theorem own_calls (l : List Deed) (n ca : Nat) (a : Option Addr) (hn : Hid (l.length = n)) (hn2 : n ≤ 100000) (e w : World) (X : HProp) (hR : RdA e X a l) (hw : Holds e w [X]) :
    Calls Tryd.prog 24 #[.slice a n ca] w fun en w' => ∃ u, en = .returned u ∧ Holds e w' [X, IsAs 82 u l] := by
  have HR := Sep.hid hR; clear hR
  refine Sep.calls_post ?_
  intro Post_ hPost_
  have HP := Sep.hid hPost_
  clear hPost_
  go_enter Tryd.func24, Tryd.ntmps24
  go_wp2_with (refine wpList_on rfl (wp_bsl0 rfl hw ?_); intro b_ w_ hw_; replace hw_ := hw_.newSl (i := 1) rfl 4 0 rfl (by decide); clear hw; have hw := hw_; clear hw_; (try simp only [List.map_cons, List.map_nil, List.getD_cons_zero, List.getD_cons_succ, List.getD_nil, List.set_cons_zero, List.set_cons_succ, List.cons_append, List.nil_append, Act.eval, Array.getD_eq_getD_getElem?, List.getElem?_toArray, List.getElem?_cons_succ, List.getElem?_cons_zero, Option.getD_some, Value.cells] at hw); (try simp (disch := first | (simp; done) | (simp; omega)) only [Sep.mid_set, Sep.mid_set2, Sep.mid_set0, Sep.mid_splice, Sep.mid_splice0, List.set_cons_zero, List.set_cons_succ] at hw); (try simp only [Sep.splice, List.take_succ_cons, List.take_zero, List.drop_succ_cons, List.drop_zero, List.length_cons, List.length_nil, Nat.reduceAdd, List.cons_append, List.nil_append] at hw); (try replace hc0 := Sep.Holds.cells hw (i := 0) rfl); (try replace hc1 := Sep.Holds.cells hw (i := 1) rfl); (try replace hc2 := Sep.Holds.cells hw (i := 2) rfl); (try replace hc3 := Sep.Holds.cells hw (i := 3) rfl); (try replace hc4 := Sep.Holds.cells hw (i := 4) rfl); (try replace hc5 := Sep.Holds.cells hw (i := 5) rfl); (try replace hc6 := Sep.Holds.cells hw (i := 6) rfl))
  have Hw0 := Sep.hid hw; clear hw; (try clear hc0); (try clear hc1); (try clear hc2); (try clear hc3); (try clear hc4); (try clear hc5); (try clear hc6)
  go_loopw [9, 3] (fun i o wr => ∃ (k : Nat) (c : List Deed), k ≤ n ∧ i = .int .i64 k ∧ Hid (c = l.take k) ∧ Hid (c.length = k) ∧ Holds e wr [X, Sl 82 4 o k (encAs c)]) (fun i _ _ => n - (intOf i).toNat)
  case atStart => exact ⟨0, [], Nat.zero_le _, rfl, Sep.hid rfl, Sep.hid rfl, Hw0.out⟩
  case round =>
    clear Hw0
    obtain ⟨k, c, hk, rfl, Hc, Hck, hw⟩ := hrel
    obtain ⟨oa, oc, rfl⟩ := Sl.value (i := 1) rfl hw
    by_cases hlt : k < n
    · obtain ⟨x, hx⟩ : ∃ x, l[k]? = some x := ⟨_, List.getElem?_eq_getElem (by rw [hn.out]; exact hlt)⟩
      obtain ⟨p, rfl, hcc⟩ := HR.out _ _ 0 hw rfl k x hx
      have Hcc := Sep.hid hcc; clear hcc
      have Hx := Sep.hid hx; clear hx
      go_wp2_with (first | (refine wpList_on rfl (wp_of_run (run_loadAd (vs := encA x) rfl rfl rfl Hcc.out) ?_); (try simp only [Act.put, List.setIfInBounds_toArray, List.set_cons_zero, List.set_cons_succ])) | (refine wpList_on rfl (wp_alloc rfl hw ?_); intro b_ w_ hw_; clear hw; have hw := hw_; clear hw_; (try simp only [List.map_cons, List.map_nil, List.getD_cons_zero, List.getD_cons_succ, List.getD_nil, List.set_cons_zero, List.set_cons_succ, List.cons_append, List.nil_append, Act.eval, Array.getD_eq_getD_getElem?, List.getElem?_toArray, List.getElem?_cons_succ, List.getElem?_cons_zero, Option.getD_some, Value.cells] at hw); (try simp (disch := first | (simp; done) | (simp; omega)) only [Sep.mid_set, Sep.mid_set2, Sep.mid_set0, Sep.mid_splice, Sep.mid_splice0, List.set_cons_zero, List.set_cons_succ] at hw); (try simp only [Sep.splice, List.take_succ_cons, List.take_zero, List.drop_succ_cons, List.drop_zero, List.length_cons, List.length_nil, Nat.reduceAdd, List.cons_append, List.nil_append] at hw); (try replace hc0 := Sep.Holds.cells hw (i := 0) rfl); (try replace hc1 := Sep.Holds.cells hw (i := 1) rfl); (try replace hc2 := Sep.Holds.cells hw (i := 2) rfl); (try replace hc3 := Sep.Holds.cells hw (i := 3) rfl); (try replace hc4 := Sep.Holds.cells hw (i := 4) rfl); (try replace hc5 := Sep.Holds.cells hw (i := 5) rfl); (try replace hc6 := Sep.Holds.cells hw (i := 6) rfl)) | (refine wpList_on rfl (wp_storeAll (vs := encA x) rfl rfl (by rfl) hw (i := 2) rfl rfl rfl (encA_one x) ?_); intro w_ hw_; clear hw; have hw := hw_; clear hw_; (try simp only [List.map_cons, List.map_nil, List.getD_cons_zero, List.getD_cons_succ, List.getD_nil, List.set_cons_zero, List.set_cons_succ, List.cons_append, List.nil_append, Act.eval, Array.getD_eq_getD_getElem?, List.getElem?_toArray, List.getElem?_cons_succ, List.getElem?_cons_zero, Option.getD_some, Value.cells] at hw); (try simp (disch := first | (simp; done) | (simp; omega)) only [Sep.mid_set, Sep.mid_set2, Sep.mid_set0, Sep.mid_splice, Sep.mid_splice0, List.set_cons_zero, List.set_cons_succ] at hw); (try simp only [Sep.splice, List.take_succ_cons, List.take_zero, List.drop_succ_cons, List.drop_zero, List.length_cons, List.length_nil, Nat.reduceAdd, List.cons_append, List.nil_append] at hw); (try replace hc0 := Sep.Holds.cells hw (i := 0) rfl); (try replace hc1 := Sep.Holds.cells hw (i := 1) rfl); (try replace hc2 := Sep.Holds.cells hw (i := 2) rfl); (try replace hc3 := Sep.Holds.cells hw (i := 3) rfl); (try replace hc4 := Sep.Holds.cells hw (i := 4) rfl); (try replace hc5 := Sep.Holds.cells hw (i := 5) rfl); (try replace hc6 := Sep.Holds.cells hw (i := 6) rfl)) | (refine wpList_on rfl (wp_loadN (vs := encA x) rfl rfl hw (i := 2) rfl rfl (by intro j v hj; simpa using hj) ?_); (try simp only [Act.put, List.setIfInBounds_toArray, List.set_cons_zero, List.set_cons_succ])) | (refine wpList_on rfl (wp_bsl1 rfl rfl (by rfl) (by rfl) (by decide) hw ?_); intro b_ w_ hw_; clear hw; have hw := hw_; clear hw_; (try simp only [List.map_cons, List.map_nil, List.getD_cons_zero, List.getD_cons_succ, List.getD_nil, List.set_cons_zero, List.set_cons_succ, List.cons_append, List.nil_append, Act.eval, Array.getD_eq_getD_getElem?, List.getElem?_toArray, List.getElem?_cons_succ, List.getElem?_cons_zero, Option.getD_some, Value.cells] at hw); (try simp (disch := first | (simp; done) | (simp; omega)) only [Sep.mid_set, Sep.mid_set2, Sep.mid_set0, Sep.mid_splice, Sep.mid_splice0, List.set_cons_zero, List.set_cons_succ] at hw); (try simp only [Sep.splice, List.take_succ_cons, List.take_zero, List.drop_succ_cons, List.drop_zero, List.length_cons, List.length_nil, Nat.reduceAdd, List.cons_append, List.nil_append] at hw); (try replace hc0 := Sep.Holds.cells hw (i := 0) rfl); (try replace hc1 := Sep.Holds.cells hw (i := 1) rfl); (try replace hc2 := Sep.Holds.cells hw (i := 2) rfl); (try replace hc3 := Sep.Holds.cells hw (i := 3) rfl); (try replace hc4 := Sep.Holds.cells hw (i := 4) rfl); (try replace hc5 := Sep.Holds.cells hw (i := 5) rfl); (try replace hc6 := Sep.Holds.cells hw (i := 6) rfl)) | (at_builtin; refine wpList_on rfl (wp_appendPt (i := 1) (j := 3) rfl rfl hw rfl rfl rfl (by rfl) (encA_one x) (by decide) (by rfl) (by (try unfold maxLen); omega) (by (try unfold maxLen); omega) ?_); intro b2_ cap2_ off2_ w_ hcap2_ hw_; clear hw; have hw := hw_; clear hw_; (try simp only [List.map_cons, List.map_nil, List.getD_cons_zero, List.getD_cons_succ, List.getD_nil, List.set_cons_zero, List.set_cons_succ, List.cons_append, List.nil_append, Act.eval, Array.getD_eq_getD_getElem?, List.getElem?_toArray, List.getElem?_cons_succ, List.getElem?_cons_zero, Option.getD_some, Value.cells] at hw); (try simp (disch := first | (simp; done) | (simp; omega)) only [Sep.mid_set, Sep.mid_set2, Sep.mid_set0, Sep.mid_splice, Sep.mid_splice0, List.set_cons_zero, List.set_cons_succ] at hw); (try simp only [Sep.splice, List.take_succ_cons, List.take_zero, List.drop_succ_cons, List.drop_zero, List.length_cons, List.length_nil, Nat.reduceAdd, List.cons_append, List.nil_append] at hw); (try replace hc0 := Sep.Holds.cells hw (i := 0) rfl); (try replace hc1 := Sep.Holds.cells hw (i := 1) rfl); (try replace hc2 := Sep.Holds.cells hw (i := 2) rfl); (try replace hc3 := Sep.Holds.cells hw (i := 3) rfl); (try replace hc4 := Sep.Holds.cells hw (i := 4) rfl); (try replace hc5 := Sep.Holds.cells hw (i := 5) rfl); (try replace hc6 := Sep.Holds.cells hw (i := 6) rfl)))
      go_roundw
      case rel =>
        refine ⟨k + 1, c ++ [x], by omega, by go_num, Sep.hid (by rw [takeA Hx.out, ← Hc.out]), Sep.hid (by simp [Hck.out]), ?_⟩
        rw [encAs_snoc]
        exact (hw.sel [0, 1] (by decide))
      case measure => simp [intOf]; omega
    · have hke : n = k := by omega
      subst hke
      have Hd : Hid (c = l) := Sep.hid (by rw [Hc.out, List.take_of_length_le (by rw [hn.out]; omega)])
      go_wp2_with fail
      refine HP.out _ _ ⟨_, rfl, ?_⟩
      unfold IsAs
      rw [Hd.out] at hw
      rw [hn.out]
      exact hw
theorem noGuardA : Tryd.prog.eqGuardType Tryd.prog.depth 82 = false := by kernel_rfl
theorem noGuardB : Tryd.prog.eqGuardType Tryd.prog.depth 56 = false := by kernel_rfl
set_option maxHeartbeats 400000 in
theorem eqA (s t : Deed) (w : World) : (binOp .eql 82 (.agg (encA s).toArray) (.agg (encA t).toArray)).run Tryd.prog w = .ok (.bool (decide (s = t))) w := by
  have h : decide (s = t) = (decide (s.f0 = t.f0) && (decide (s.f1 = t.f1) && (decide (s.f2 = t.f2) && decide (s.f3 = t.f3)))) := by
    obtain ⟨s0, s1, s2, s3⟩ := s
    obtain ⟨t0, t1, t2, t3⟩ := t
    rw [Bool.eq_iff_iff]; simp [Deed.mk.injEq]
  rw [h]
  unfold encA
  go_simp
  exact ifokV (ifokV (ifokV ifokV1))
set_option maxHeartbeats 400000 in
theorem eqB (s t : Deed) (w : World) : (binOp .eql 56 (.agg (encA s).toArray) (.agg (encA t).toArray)).run Tryd.prog w = .ok (.bool (decide (s = t))) w := by
  have h : decide (s = t) = (decide (s.f0 = t.f0) && (decide (s.f1 = t.f1) && (decide (s.f2 = t.f2) && decide (s.f3 = t.f3)))) := by
    obtain ⟨s0, s1, s2, s3⟩ := s
    obtain ⟨t0, t1, t2, t3⟩ := t
    rw [Bool.eq_iff_iff]; simp [Deed.mk.injEq]
  rw [h]
  unfold encA
  go_simp
  exact ifokV (ifokV (ifokV ifokV1))
set_option maxHeartbeats 4000000 in
theorem sameA (a b : Option Addr) (l m : List Deed) (n1 n2 ca cb : Nat) (h1 : n1 = l.length) (h2 : n2 = m.length) (hL : n1 ≤ 1000000) (w : World) (ha : ReadsA w a l) (hb : ReadsA w b m) :
    Calls Tryd.prog 37 #[.slice a n1 ca, .slice b n2 cb] w fun en w' => en = .returned (.bool (decide (l = m))) ∧ Drew w w' := by
  have Ha := Sep.hid ha; have Hb := Sep.hid hb; clear ha hb
  by_cases hlen : n1 = n2
  · have hne : ((n1 : Int) != (n2 : Int)) = false := by simp [hlen]
    subst hlen
    have H1 := Sep.hid h1; have H2 := Sep.hid h2; clear h1 h2
    refine Sep.calls_post ?_
    intro Post_ hPost_
    have HP := Sep.hid hPost_
    clear hPost_
    go_enter Tryd.func37, Tryd.ntmps37
    go_wp2_with fail
    go_loopw [5] (fun i wr => ∃ k : Nat, k ≤ n1 ∧ i = .int .i64 k ∧ l.take k = m.take k ∧ Drew w wr) (fun i _ => n1 - (intOf i).toNat)
    case atStart => exact ⟨0, Nat.zero_le _, rfl, by simp, Drew.refl _⟩
    case round =>
      obtain ⟨k, hk, rfl, heq, hd⟩ := hrel
      have Heq := Sep.hid heq; clear heq
      have HD := Sep.hid hd; clear hd
      by_cases hlt : k < n1
      · obtain ⟨x, hx⟩ : ∃ x, l[k]? = some x := ⟨_, List.getElem?_eq_getElem (by rw [← H1.out]; exact hlt)⟩
        obtain ⟨y, hy⟩ : ∃ y, m[k]? = some y := ⟨_, List.getElem?_eq_getElem (by rw [← H2.out]; exact hlt)⟩
        obtain ⟨ba, rfl, gx⟩ := Ha.out k x hx
        obtain ⟨bb, rfl, gy⟩ := Hb.out k y hy
        have Hcx : Hid (∀ (j : Nat) (v : Value), (encA x)[j]? = some v → wr.drew.cell? ((ba.add (k * 4)).add j) = some v) := Sep.hid (fun j v hj => (HD.out.cell _).trans (gx j v hj))
        have Hcy : Hid (∀ (j : Nat) (v : Value), (encA y)[j]? = some v → wr.drew.cell? ((bb.add (k * 4)).add j) = some v) := Sep.hid (fun j v hj => (HD.out.cell _).trans (gy j v hj))
        clear gx gy
        have hw : Holds wr wr [] := ⟨Env.refl _, fun _ _ => none, by simp, by simp, by simp⟩
        have Hx := Sep.hid hx; clear hx
        have Hy := Sep.hid hy; clear hy
        by_cases hxy : x = y
        · have Hb : Hid ((!decide (x = y)) = false) := Sep.hid (by simp [hxy])
          have Hxy := Sep.hid hxy; clear hxy
          go_wp2_with fail
          refine wp_region_L [] [(3, (fun w' => w' = wr.drew)), (7, (fun w' => w' = wr.drew))] (n := 9) (listed := #[false, false, false, false, false, false, false, false, false]) (by kernel_rfl) rfl rfl ?conds1 ?_
          case conds1 =>
           intro c hc
           simp only [List.mem_cons, List.not_mem_nil, or_false] at hc
           rcases hc with rfl | rfl
           · rfl
           · rfl
          replace hw := hw.drew
          refine wpL_take 0 (C := fun _ => True) (v := ?v2) rfl (by kernel_rfl) (by kernel_rfl) (by kernel_rfl) (by kernel_rfl) (fun _ _ _ h => h) (.inl fun _ => trivial) (Or.inl ⟨by rfl, fun w_ hS_ => ?hy2⟩) (listed' := #[true, false, false, false, false, false, false, false, false]) (by kernel_rfl) ?rest2
          case hy2 => (go_simp; try rfl)
          case' rest2 => try simp only [Act.put, List.setIfInBounds_toArray, List.set_cons_zero, List.set_cons_succ]
          refine wpL_take 1 (C := fun _ => True) (v := ?v3) rfl (by kernel_rfl) (by kernel_rfl) (by kernel_rfl) (by kernel_rfl) (fun _ _ _ h => h) (.inl fun _ => trivial) (Or.inl ⟨by rfl, fun w_ hS_ => ?hy3⟩) (listed' := #[true, true, false, false, false, false, false, false, false]) (by kernel_rfl) ?rest3
          case hy3 => (go_simp; try rfl)
          case' rest3 => try simp only [Act.put, List.setIfInBounds_toArray, List.set_cons_zero, List.set_cons_succ]
          refine wpL_take 2 (C := fun _ => True) (v := ?v4) rfl (by kernel_rfl) (by kernel_rfl) (by kernel_rfl) (by kernel_rfl) (fun _ _ _ h => h) (.inl fun _ => trivial) (Or.inl ⟨by rfl, fun w_ hS_ => ?hy4⟩) (listed' := #[true, true, true, false, false, false, false, false, false]) (by kernel_rfl) ?rest4
          case hy4 => (go_simp; try rfl)
          case' rest4 => try simp only [Act.put, List.setIfInBounds_toArray, List.set_cons_zero, List.set_cons_succ]
          refine wpL_take 3 (C := (fun w' => w' = wr.drew)) (v := ?v5) rfl (by kernel_rfl) (by kernel_rfl) (by kernel_rfl) (by kernel_rfl) (fun _ _ _ h => h) (.inr (.head _)) (Or.inl ⟨by rfl, fun w_ hS_ => ?hy5⟩) (listed' := #[true, true, true, true, false, false, false, false, false]) (by kernel_rfl) ?rest5
          case hy5 => (subst hS_; first | (first | (refine Eq.trans (run_ne (cs := (encA x).toArray) (ds := (encA y).toArray) (b := decide (x = y)) rfl rfl rfl noGuardA (eqA x y _)) ?_; first | (rw [Hb.out]; done) | (rw [Hb.out]; rfl)) | (refine Eq.trans (run_loadAd (vs := encA x) (ad := ba.add (k * 4)) rfl rfl rfl Hcx.out) ?_; rfl) | (refine Eq.trans (run_loadAd (vs := encA y) (ad := bb.add (k * 4)) rfl rfl rfl Hcy.out) ?_; rfl)) | (go_simp; try rfl))
          case' rest5 => try simp only [Act.put, List.setIfInBounds_toArray, List.set_cons_zero, List.set_cons_succ]
          refine wpL_take 4 (C := fun _ => True) (v := ?v6) rfl (by kernel_rfl) (by kernel_rfl) (by kernel_rfl) (by kernel_rfl) (fun _ _ _ h => h) (.inl fun _ => trivial) (Or.inl ⟨by rfl, fun w_ hS_ => ?hy6⟩) (listed' := #[true, true, true, true, true, false, false, false, false]) (by kernel_rfl) ?rest6
          case hy6 => (go_simp; try rfl)
          case' rest6 => try simp only [Act.put, List.setIfInBounds_toArray, List.set_cons_zero, List.set_cons_succ]
          refine wpL_take 5 (C := fun _ => True) (v := ?v7) rfl (by kernel_rfl) (by kernel_rfl) (by kernel_rfl) (by kernel_rfl) (fun _ _ _ h => h) (.inl fun _ => trivial) (Or.inl ⟨by rfl, fun w_ hS_ => ?hy7⟩) (listed' := #[true, true, true, true, true, true, false, false, false]) (by kernel_rfl) ?rest7
          case hy7 => (go_simp; try rfl)
          case' rest7 => try simp only [Act.put, List.setIfInBounds_toArray, List.set_cons_zero, List.set_cons_succ]
          refine wpL_take 6 (C := fun _ => True) (v := ?v8) rfl (by kernel_rfl) (by kernel_rfl) (by kernel_rfl) (by kernel_rfl) (fun _ _ _ h => h) (.inl fun _ => trivial) (Or.inl ⟨by rfl, fun w_ hS_ => ?hy8⟩) (listed' := #[true, true, true, true, true, true, true, false, false]) (by kernel_rfl) ?rest8
          case hy8 => (go_simp; try rfl)
          case' rest8 => try simp only [Act.put, List.setIfInBounds_toArray, List.set_cons_zero, List.set_cons_succ]
          refine wpL_take 7 (C := (fun w' => w' = wr.drew)) (v := ?v9) rfl (by kernel_rfl) (by kernel_rfl) (by kernel_rfl) (by kernel_rfl) (fun _ _ _ h => h) (.inr (.tail _ (.head _))) (Or.inl ⟨by rfl, fun w_ hS_ => ?hy9⟩) (listed' := #[true, true, true, true, true, true, true, true, false]) (by kernel_rfl) ?rest9
          case hy9 => (subst hS_; first | (first | (refine Eq.trans (run_ne (cs := (encA x).toArray) (ds := (encA y).toArray) (b := decide (x = y)) rfl rfl rfl noGuardA (eqA x y _)) ?_; first | (rw [Hb.out]; done) | (rw [Hb.out]; rfl)) | (refine Eq.trans (run_loadAd (vs := encA x) (ad := ba.add (k * 4)) rfl rfl rfl Hcx.out) ?_; rfl) | (refine Eq.trans (run_loadAd (vs := encA y) (ad := bb.add (k * 4)) rfl rfl rfl Hcy.out) ?_; rfl)) | (go_simp; try rfl))
          case' rest9 => try simp only [Act.put, List.setIfInBounds_toArray, List.set_cons_zero, List.set_cons_succ]
          refine wpL_take 8 (C := fun _ => True) (v := ?v10) rfl (by kernel_rfl) (by kernel_rfl) (by kernel_rfl) (by kernel_rfl) (fun _ _ _ h => h) (.inl fun _ => trivial) (Or.inl ⟨by rfl, fun w_ hS_ => ?hy10⟩) (listed' := #[true, true, true, true, true, true, true, true, true]) (by kernel_rfl) ?rest10
          case hy10 => (first | (first | (refine Eq.trans (run_ne (cs := (encA x).toArray) (ds := (encA y).toArray) (b := decide (x = y)) rfl rfl rfl noGuardA (eqA x y _)) ?_; first | (rw [Hb.out]; done) | (rw [Hb.out]; rfl)) | (refine Eq.trans (run_loadAd (vs := encA x) (ad := ba.add (k * 4)) rfl rfl rfl Hcx.out) ?_; rfl) | (refine Eq.trans (run_loadAd (vs := encA y) (ad := bb.add (k * 4)) rfl rfl rfl Hcy.out) ?_; rfl)) | (go_simp; try rfl))
          case' rest10 => try simp only [Act.put, List.setIfInBounds_toArray, List.set_cons_zero, List.set_cons_succ]
          refine wpL_done (by kernel_rfl) ?_ _
          go_wp2
          go_roundw
          case rel => exact ⟨k + 1, by omega, by go_num, by rw [List.take_add_one, List.take_add_one, Heq.out, Hx.out, Hy.out, Hxy.out], HD.out.drew⟩
          case measure => simp [intOf]; omega
        · have Hb : Hid ((!decide (x = y)) = true) := Sep.hid (by simp [hxy])
          have hd : decide (l = m) = false := by
            simp only [decide_eq_false_iff_not]
            rintro rfl
            have := Hx.out.symm.trans Hy.out
            simp at this
            exact hxy this
          have Hd := Sep.hid hd; clear hd
          clear hxy
          go_wp2_with fail
          refine wp_region_L [] [(3, (fun w' => w' = wr.drew)), (7, (fun w' => w' = wr.drew))] (n := 9) (listed := #[false, false, false, false, false, false, false, false, false]) (by kernel_rfl) rfl rfl ?conds11 ?_
          case conds11 =>
           intro c hc
           simp only [List.mem_cons, List.not_mem_nil, or_false] at hc
           rcases hc with rfl | rfl
           · rfl
           · rfl
          replace hw := hw.drew
          refine wpL_take 0 (C := fun _ => True) (v := ?v12) rfl (by kernel_rfl) (by kernel_rfl) (by kernel_rfl) (by kernel_rfl) (fun _ _ _ h => h) (.inl fun _ => trivial) (Or.inl ⟨by rfl, fun w_ hS_ => ?hy12⟩) (listed' := #[true, false, false, false, false, false, false, false, false]) (by kernel_rfl) ?rest12
          case hy12 => (go_simp; try rfl)
          case' rest12 => try simp only [Act.put, List.setIfInBounds_toArray, List.set_cons_zero, List.set_cons_succ]
          refine wpL_take 1 (C := fun _ => True) (v := ?v13) rfl (by kernel_rfl) (by kernel_rfl) (by kernel_rfl) (by kernel_rfl) (fun _ _ _ h => h) (.inl fun _ => trivial) (Or.inl ⟨by rfl, fun w_ hS_ => ?hy13⟩) (listed' := #[true, true, false, false, false, false, false, false, false]) (by kernel_rfl) ?rest13
          case hy13 => (go_simp; try rfl)
          case' rest13 => try simp only [Act.put, List.setIfInBounds_toArray, List.set_cons_zero, List.set_cons_succ]
          refine wpL_take 2 (C := fun _ => True) (v := ?v14) rfl (by kernel_rfl) (by kernel_rfl) (by kernel_rfl) (by kernel_rfl) (fun _ _ _ h => h) (.inl fun _ => trivial) (Or.inl ⟨by rfl, fun w_ hS_ => ?hy14⟩) (listed' := #[true, true, true, false, false, false, false, false, false]) (by kernel_rfl) ?rest14
          case hy14 => (go_simp; try rfl)
          case' rest14 => try simp only [Act.put, List.setIfInBounds_toArray, List.set_cons_zero, List.set_cons_succ]
          refine wpL_take 3 (C := (fun w' => w' = wr.drew)) (v := ?v15) rfl (by kernel_rfl) (by kernel_rfl) (by kernel_rfl) (by kernel_rfl) (fun _ _ _ h => h) (.inr (.head _)) (Or.inl ⟨by rfl, fun w_ hS_ => ?hy15⟩) (listed' := #[true, true, true, true, false, false, false, false, false]) (by kernel_rfl) ?rest15
          case hy15 => (subst hS_; first | (first | (refine Eq.trans (run_ne (cs := (encA x).toArray) (ds := (encA y).toArray) (b := decide (x = y)) rfl rfl rfl noGuardA (eqA x y _)) ?_; first | (rw [Hb.out]; done) | (rw [Hb.out]; rfl)) | (refine Eq.trans (run_loadAd (vs := encA x) (ad := ba.add (k * 4)) rfl rfl rfl Hcx.out) ?_; rfl) | (refine Eq.trans (run_loadAd (vs := encA y) (ad := bb.add (k * 4)) rfl rfl rfl Hcy.out) ?_; rfl)) | (go_simp; try rfl))
          case' rest15 => try simp only [Act.put, List.setIfInBounds_toArray, List.set_cons_zero, List.set_cons_succ]
          refine wpL_take 4 (C := fun _ => True) (v := ?v16) rfl (by kernel_rfl) (by kernel_rfl) (by kernel_rfl) (by kernel_rfl) (fun _ _ _ h => h) (.inl fun _ => trivial) (Or.inl ⟨by rfl, fun w_ hS_ => ?hy16⟩) (listed' := #[true, true, true, true, true, false, false, false, false]) (by kernel_rfl) ?rest16
          case hy16 => (go_simp; try rfl)
          case' rest16 => try simp only [Act.put, List.setIfInBounds_toArray, List.set_cons_zero, List.set_cons_succ]
          refine wpL_take 5 (C := fun _ => True) (v := ?v17) rfl (by kernel_rfl) (by kernel_rfl) (by kernel_rfl) (by kernel_rfl) (fun _ _ _ h => h) (.inl fun _ => trivial) (Or.inl ⟨by rfl, fun w_ hS_ => ?hy17⟩) (listed' := #[true, true, true, true, true, true, false, false, false]) (by kernel_rfl) ?rest17
          case hy17 => (go_simp; try rfl)
          case' rest17 => try simp only [Act.put, List.setIfInBounds_toArray, List.set_cons_zero, List.set_cons_succ]
          refine wpL_take 6 (C := fun _ => True) (v := ?v18) rfl (by kernel_rfl) (by kernel_rfl) (by kernel_rfl) (by kernel_rfl) (fun _ _ _ h => h) (.inl fun _ => trivial) (Or.inl ⟨by rfl, fun w_ hS_ => ?hy18⟩) (listed' := #[true, true, true, true, true, true, true, false, false]) (by kernel_rfl) ?rest18
          case hy18 => (go_simp; try rfl)
          case' rest18 => try simp only [Act.put, List.setIfInBounds_toArray, List.set_cons_zero, List.set_cons_succ]
          refine wpL_take 7 (C := (fun w' => w' = wr.drew)) (v := ?v19) rfl (by kernel_rfl) (by kernel_rfl) (by kernel_rfl) (by kernel_rfl) (fun _ _ _ h => h) (.inr (.tail _ (.head _))) (Or.inl ⟨by rfl, fun w_ hS_ => ?hy19⟩) (listed' := #[true, true, true, true, true, true, true, true, false]) (by kernel_rfl) ?rest19
          case hy19 => (subst hS_; first | (first | (refine Eq.trans (run_ne (cs := (encA x).toArray) (ds := (encA y).toArray) (b := decide (x = y)) rfl rfl rfl noGuardA (eqA x y _)) ?_; first | (rw [Hb.out]; done) | (rw [Hb.out]; rfl)) | (refine Eq.trans (run_loadAd (vs := encA x) (ad := ba.add (k * 4)) rfl rfl rfl Hcx.out) ?_; rfl) | (refine Eq.trans (run_loadAd (vs := encA y) (ad := bb.add (k * 4)) rfl rfl rfl Hcy.out) ?_; rfl)) | (go_simp; try rfl))
          case' rest19 => try simp only [Act.put, List.setIfInBounds_toArray, List.set_cons_zero, List.set_cons_succ]
          refine wpL_take 8 (C := fun _ => True) (v := ?v20) rfl (by kernel_rfl) (by kernel_rfl) (by kernel_rfl) (by kernel_rfl) (fun _ _ _ h => h) (.inl fun _ => trivial) (Or.inl ⟨by rfl, fun w_ hS_ => ?hy20⟩) (listed' := #[true, true, true, true, true, true, true, true, true]) (by kernel_rfl) ?rest20
          case hy20 => (first | (first | (refine Eq.trans (run_ne (cs := (encA x).toArray) (ds := (encA y).toArray) (b := decide (x = y)) rfl rfl rfl noGuardA (eqA x y _)) ?_; first | (rw [Hb.out]; done) | (rw [Hb.out]; rfl)) | (refine Eq.trans (run_loadAd (vs := encA x) (ad := ba.add (k * 4)) rfl rfl rfl Hcx.out) ?_; rfl) | (refine Eq.trans (run_loadAd (vs := encA y) (ad := bb.add (k * 4)) rfl rfl rfl Hcy.out) ?_; rfl)) | (go_simp; try rfl))
          case' rest20 => try simp only [Act.put, List.setIfInBounds_toArray, List.set_cons_zero, List.set_cons_succ]
          refine wpL_done (by kernel_rfl) ?_ _
          go_wp2
          exact HP.out _ _ ⟨by rw [Hd.out]; rfl, HD.out.drew⟩
      · have hke : k = n1 := by omega
        have hd : decide (l = m) = true := by
          simp only [decide_eq_true_eq]
          have h := Heq.out
          rw [hke, List.take_of_length_le (by rw [← H1.out]; omega), List.take_of_length_le (by rw [← H2.out]; omega)] at h
          exact h
        have Hd := Sep.hid hd; clear hd hke
        go_wp2
        exact HP.out _ _ ⟨by rw [Hd.out]; rfl, HD.out⟩
  · have hne : ((n1 : Int) != (n2 : Int)) = true := by simp; omega
    have hd : decide (l = m) = false := by simp only [decide_eq_false_iff_not]; rintro rfl; exact hlen (h1.trans h2.symm)
    have Hd := Sep.hid hd; clear hd hlen h1 h2
    refine Sep.calls_post ?_
    intro Post_ hPost_
    have HP := Sep.hid hPost_
    clear hPost_
    go_enter Tryd.func37, Tryd.ntmps37
    go_wp2
    exact HP.out _ _ ⟨by rw [Hd.out]; rfl, Drew.refl _⟩
set_option maxHeartbeats 4000000 in
theorem equalA (a b : Option Addr) (l m : List Deed) (n1 n2 ca cb : Nat) (h1 : n1 = l.length) (h2 : n2 = m.length) (hL : n1 ≤ 1000000) (w : World) (ha : ReadsA w a l) (hb : ReadsA w b m) :
    Calls Tryd.prog 50 #[.slice a n1 ca, .slice b n2 cb] w fun en w' => en = .returned (.bool (decide (l = m))) ∧ Drew w w' := by
  have Ha := Sep.hid ha; have Hb := Sep.hid hb; clear ha hb
  by_cases hlen : n1 = n2
  · have hne : ((n1 : Int) != (n2 : Int)) = false := by simp [hlen]
    subst hlen
    have H1 := Sep.hid h1; have H2 := Sep.hid h2; clear h1 h2
    refine Sep.calls_post ?_
    intro Post_ hPost_
    have HP := Sep.hid hPost_
    clear hPost_
    go_enter Tryd.func50, Tryd.ntmps50
    go_wp2_with fail
    go_loopw [13] (fun i wr => ∃ k : Nat, k ≤ n1 ∧ i = .int .i64 k ∧ l.take k = m.take k ∧ Drew w wr) (fun i _ => n1 - (intOf i).toNat)
    case atStart => exact ⟨0, Nat.zero_le _, rfl, by simp, Drew.refl _⟩
    case round =>
      obtain ⟨k, hk, rfl, heq, hd⟩ := hrel
      have Heq := Sep.hid heq; clear heq
      have HD := Sep.hid hd; clear hd
      by_cases hlt : k < n1
      · obtain ⟨x, hx⟩ : ∃ x, l[k]? = some x := ⟨_, List.getElem?_eq_getElem (by rw [← H1.out]; exact hlt)⟩
        obtain ⟨y, hy⟩ : ∃ y, m[k]? = some y := ⟨_, List.getElem?_eq_getElem (by rw [← H2.out]; exact hlt)⟩
        obtain ⟨ba, rfl, gx⟩ := Ha.out k x hx
        obtain ⟨bb, rfl, gy⟩ := Hb.out k y hy
        have Hcx : Hid (∀ (j : Nat) (v : Value), (encA x)[j]? = some v → wr.drew.cell? ((ba.add (k * 4)).add j) = some v) := Sep.hid (fun j v hj => (HD.out.cell _).trans (gx j v hj))
        have Hcy : Hid (∀ (j : Nat) (v : Value), (encA y)[j]? = some v → wr.drew.cell? ((bb.add (k * 4)).add j) = some v) := Sep.hid (fun j v hj => (HD.out.cell _).trans (gy j v hj))
        clear gx gy
        have hw : Holds wr wr [] := ⟨Env.refl _, fun _ _ => none, by simp, by simp, by simp⟩
        have Hx := Sep.hid hx; clear hx
        have Hy := Sep.hid hy; clear hy
        by_cases hxy : x = y
        · have Hb : Hid ((!decide (x = y)) = false) := Sep.hid (by simp [hxy])
          have Hxy := Sep.hid hxy; clear hxy
          go_wp2_with fail
          refine wp_region_L [] [(3, (fun w' => w' = wr.drew)), (7, (fun w' => w' = wr.drew))] (n := 9) (listed := #[false, false, false, false, false, false, false, false, false]) (by kernel_rfl) rfl rfl ?conds21 ?_
          case conds21 =>
           intro c hc
           simp only [List.mem_cons, List.not_mem_nil, or_false] at hc
           rcases hc with rfl | rfl
           · rfl
           · rfl
          replace hw := hw.drew
          refine wpL_take 0 (C := fun _ => True) (v := ?v22) rfl (by kernel_rfl) (by kernel_rfl) (by kernel_rfl) (by kernel_rfl) (fun _ _ _ h => h) (.inl fun _ => trivial) (Or.inl ⟨by rfl, fun w_ hS_ => ?hy22⟩) (listed' := #[true, false, false, false, false, false, false, false, false]) (by kernel_rfl) ?rest22
          case hy22 => (go_simp; try rfl)
          case' rest22 => try simp only [Act.put, List.setIfInBounds_toArray, List.set_cons_zero, List.set_cons_succ]
          refine wpL_take 1 (C := fun _ => True) (v := ?v23) rfl (by kernel_rfl) (by kernel_rfl) (by kernel_rfl) (by kernel_rfl) (fun _ _ _ h => h) (.inl fun _ => trivial) (Or.inl ⟨by rfl, fun w_ hS_ => ?hy23⟩) (listed' := #[true, true, false, false, false, false, false, false, false]) (by kernel_rfl) ?rest23
          case hy23 => (go_simp; try rfl)
          case' rest23 => try simp only [Act.put, List.setIfInBounds_toArray, List.set_cons_zero, List.set_cons_succ]
          refine wpL_take 2 (C := fun _ => True) (v := ?v24) rfl (by kernel_rfl) (by kernel_rfl) (by kernel_rfl) (by kernel_rfl) (fun _ _ _ h => h) (.inl fun _ => trivial) (Or.inl ⟨by rfl, fun w_ hS_ => ?hy24⟩) (listed' := #[true, true, true, false, false, false, false, false, false]) (by kernel_rfl) ?rest24
          case hy24 => (go_simp; try rfl)
          case' rest24 => try simp only [Act.put, List.setIfInBounds_toArray, List.set_cons_zero, List.set_cons_succ]
          refine wpL_take 3 (C := (fun w' => w' = wr.drew)) (v := ?v25) rfl (by kernel_rfl) (by kernel_rfl) (by kernel_rfl) (by kernel_rfl) (fun _ _ _ h => h) (.inr (.head _)) (Or.inl ⟨by rfl, fun w_ hS_ => ?hy25⟩) (listed' := #[true, true, true, true, false, false, false, false, false]) (by kernel_rfl) ?rest25
          case hy25 => (subst hS_; first | (first | (refine Eq.trans (run_ne (cs := (encA x).toArray) (ds := (encA y).toArray) (b := decide (x = y)) rfl rfl rfl noGuardB (eqB x y _)) ?_; first | (rw [Hb.out]; done) | (rw [Hb.out]; rfl)) | (refine Eq.trans (run_loadAd (vs := encA x) (ad := ba.add (k * 4)) rfl rfl rfl Hcx.out) ?_; rfl) | (refine Eq.trans (run_loadAd (vs := encA y) (ad := bb.add (k * 4)) rfl rfl rfl Hcy.out) ?_; rfl)) | (go_simp; try rfl))
          case' rest25 => try simp only [Act.put, List.setIfInBounds_toArray, List.set_cons_zero, List.set_cons_succ]
          refine wpL_take 4 (C := fun _ => True) (v := ?v26) rfl (by kernel_rfl) (by kernel_rfl) (by kernel_rfl) (by kernel_rfl) (fun _ _ _ h => h) (.inl fun _ => trivial) (Or.inl ⟨by rfl, fun w_ hS_ => ?hy26⟩) (listed' := #[true, true, true, true, true, false, false, false, false]) (by kernel_rfl) ?rest26
          case hy26 => (go_simp; try rfl)
          case' rest26 => try simp only [Act.put, List.setIfInBounds_toArray, List.set_cons_zero, List.set_cons_succ]
          refine wpL_take 5 (C := fun _ => True) (v := ?v27) rfl (by kernel_rfl) (by kernel_rfl) (by kernel_rfl) (by kernel_rfl) (fun _ _ _ h => h) (.inl fun _ => trivial) (Or.inl ⟨by rfl, fun w_ hS_ => ?hy27⟩) (listed' := #[true, true, true, true, true, true, false, false, false]) (by kernel_rfl) ?rest27
          case hy27 => (go_simp; try rfl)
          case' rest27 => try simp only [Act.put, List.setIfInBounds_toArray, List.set_cons_zero, List.set_cons_succ]
          refine wpL_take 6 (C := fun _ => True) (v := ?v28) rfl (by kernel_rfl) (by kernel_rfl) (by kernel_rfl) (by kernel_rfl) (fun _ _ _ h => h) (.inl fun _ => trivial) (Or.inl ⟨by rfl, fun w_ hS_ => ?hy28⟩) (listed' := #[true, true, true, true, true, true, true, false, false]) (by kernel_rfl) ?rest28
          case hy28 => (go_simp; try rfl)
          case' rest28 => try simp only [Act.put, List.setIfInBounds_toArray, List.set_cons_zero, List.set_cons_succ]
          refine wpL_take 7 (C := (fun w' => w' = wr.drew)) (v := ?v29) rfl (by kernel_rfl) (by kernel_rfl) (by kernel_rfl) (by kernel_rfl) (fun _ _ _ h => h) (.inr (.tail _ (.head _))) (Or.inl ⟨by rfl, fun w_ hS_ => ?hy29⟩) (listed' := #[true, true, true, true, true, true, true, true, false]) (by kernel_rfl) ?rest29
          case hy29 => (subst hS_; first | (first | (refine Eq.trans (run_ne (cs := (encA x).toArray) (ds := (encA y).toArray) (b := decide (x = y)) rfl rfl rfl noGuardB (eqB x y _)) ?_; first | (rw [Hb.out]; done) | (rw [Hb.out]; rfl)) | (refine Eq.trans (run_loadAd (vs := encA x) (ad := ba.add (k * 4)) rfl rfl rfl Hcx.out) ?_; rfl) | (refine Eq.trans (run_loadAd (vs := encA y) (ad := bb.add (k * 4)) rfl rfl rfl Hcy.out) ?_; rfl)) | (go_simp; try rfl))
          case' rest29 => try simp only [Act.put, List.setIfInBounds_toArray, List.set_cons_zero, List.set_cons_succ]
          refine wpL_take 8 (C := fun _ => True) (v := ?v30) rfl (by kernel_rfl) (by kernel_rfl) (by kernel_rfl) (by kernel_rfl) (fun _ _ _ h => h) (.inl fun _ => trivial) (Or.inl ⟨by rfl, fun w_ hS_ => ?hy30⟩) (listed' := #[true, true, true, true, true, true, true, true, true]) (by kernel_rfl) ?rest30
          case hy30 => (first | (first | (refine Eq.trans (run_ne (cs := (encA x).toArray) (ds := (encA y).toArray) (b := decide (x = y)) rfl rfl rfl noGuardB (eqB x y _)) ?_; first | (rw [Hb.out]; done) | (rw [Hb.out]; rfl)) | (refine Eq.trans (run_loadAd (vs := encA x) (ad := ba.add (k * 4)) rfl rfl rfl Hcx.out) ?_; rfl) | (refine Eq.trans (run_loadAd (vs := encA y) (ad := bb.add (k * 4)) rfl rfl rfl Hcy.out) ?_; rfl)) | (go_simp; try rfl))
          case' rest30 => try simp only [Act.put, List.setIfInBounds_toArray, List.set_cons_zero, List.set_cons_succ]
          refine wpL_done (by kernel_rfl) ?_ _
          go_wp2
          go_roundw
          case rel => exact ⟨k + 1, by omega, by go_num, by rw [List.take_add_one, List.take_add_one, Heq.out, Hx.out, Hy.out, Hxy.out], HD.out.drew⟩
          case measure => simp [intOf]; omega
        · have Hb : Hid ((!decide (x = y)) = true) := Sep.hid (by simp [hxy])
          have hd : decide (l = m) = false := by
            simp only [decide_eq_false_iff_not]
            rintro rfl
            have := Hx.out.symm.trans Hy.out
            simp at this
            exact hxy this
          have Hd := Sep.hid hd; clear hd
          clear hxy
          go_wp2_with fail
          refine wp_region_L [] [(3, (fun w' => w' = wr.drew)), (7, (fun w' => w' = wr.drew))] (n := 9) (listed := #[false, false, false, false, false, false, false, false, false]) (by kernel_rfl) rfl rfl ?conds31 ?_
          case conds31 =>
           intro c hc
           simp only [List.mem_cons, List.not_mem_nil, or_false] at hc
           rcases hc with rfl | rfl
           · rfl
           · rfl
          replace hw := hw.drew
          refine wpL_take 0 (C := fun _ => True) (v := ?v32) rfl (by kernel_rfl) (by kernel_rfl) (by kernel_rfl) (by kernel_rfl) (fun _ _ _ h => h) (.inl fun _ => trivial) (Or.inl ⟨by rfl, fun w_ hS_ => ?hy32⟩) (listed' := #[true, false, false, false, false, false, false, false, false]) (by kernel_rfl) ?rest32
          case hy32 => (go_simp; try rfl)
          case' rest32 => try simp only [Act.put, List.setIfInBounds_toArray, List.set_cons_zero, List.set_cons_succ]
          refine wpL_take 1 (C := fun _ => True) (v := ?v33) rfl (by kernel_rfl) (by kernel_rfl) (by kernel_rfl) (by kernel_rfl) (fun _ _ _ h => h) (.inl fun _ => trivial) (Or.inl ⟨by rfl, fun w_ hS_ => ?hy33⟩) (listed' := #[true, true, false, false, false, false, false, false, false]) (by kernel_rfl) ?rest33
          case hy33 => (go_simp; try rfl)
          case' rest33 => try simp only [Act.put, List.setIfInBounds_toArray, List.set_cons_zero, List.set_cons_succ]
          refine wpL_take 2 (C := fun _ => True) (v := ?v34) rfl (by kernel_rfl) (by kernel_rfl) (by kernel_rfl) (by kernel_rfl) (fun _ _ _ h => h) (.inl fun _ => trivial) (Or.inl ⟨by rfl, fun w_ hS_ => ?hy34⟩) (listed' := #[true, true, true, false, false, false, false, false, false]) (by kernel_rfl) ?rest34
          case hy34 => (go_simp; try rfl)
          case' rest34 => try simp only [Act.put, List.setIfInBounds_toArray, List.set_cons_zero, List.set_cons_succ]
          refine wpL_take 3 (C := (fun w' => w' = wr.drew)) (v := ?v35) rfl (by kernel_rfl) (by kernel_rfl) (by kernel_rfl) (by kernel_rfl) (fun _ _ _ h => h) (.inr (.head _)) (Or.inl ⟨by rfl, fun w_ hS_ => ?hy35⟩) (listed' := #[true, true, true, true, false, false, false, false, false]) (by kernel_rfl) ?rest35
          case hy35 => (subst hS_; first | (first | (refine Eq.trans (run_ne (cs := (encA x).toArray) (ds := (encA y).toArray) (b := decide (x = y)) rfl rfl rfl noGuardB (eqB x y _)) ?_; first | (rw [Hb.out]; done) | (rw [Hb.out]; rfl)) | (refine Eq.trans (run_loadAd (vs := encA x) (ad := ba.add (k * 4)) rfl rfl rfl Hcx.out) ?_; rfl) | (refine Eq.trans (run_loadAd (vs := encA y) (ad := bb.add (k * 4)) rfl rfl rfl Hcy.out) ?_; rfl)) | (go_simp; try rfl))
          case' rest35 => try simp only [Act.put, List.setIfInBounds_toArray, List.set_cons_zero, List.set_cons_succ]
          refine wpL_take 4 (C := fun _ => True) (v := ?v36) rfl (by kernel_rfl) (by kernel_rfl) (by kernel_rfl) (by kernel_rfl) (fun _ _ _ h => h) (.inl fun _ => trivial) (Or.inl ⟨by rfl, fun w_ hS_ => ?hy36⟩) (listed' := #[true, true, true, true, true, false, false, false, false]) (by kernel_rfl) ?rest36
          case hy36 => (go_simp; try rfl)
          case' rest36 => try simp only [Act.put, List.setIfInBounds_toArray, List.set_cons_zero, List.set_cons_succ]
          refine wpL_take 5 (C := fun _ => True) (v := ?v37) rfl (by kernel_rfl) (by kernel_rfl) (by kernel_rfl) (by kernel_rfl) (fun _ _ _ h => h) (.inl fun _ => trivial) (Or.inl ⟨by rfl, fun w_ hS_ => ?hy37⟩) (listed' := #[true, true, true, true, true, true, false, false, false]) (by kernel_rfl) ?rest37
          case hy37 => (go_simp; try rfl)
          case' rest37 => try simp only [Act.put, List.setIfInBounds_toArray, List.set_cons_zero, List.set_cons_succ]
          refine wpL_take 6 (C := fun _ => True) (v := ?v38) rfl (by kernel_rfl) (by kernel_rfl) (by kernel_rfl) (by kernel_rfl) (fun _ _ _ h => h) (.inl fun _ => trivial) (Or.inl ⟨by rfl, fun w_ hS_ => ?hy38⟩) (listed' := #[true, true, true, true, true, true, true, false, false]) (by kernel_rfl) ?rest38
          case hy38 => (go_simp; try rfl)
          case' rest38 => try simp only [Act.put, List.setIfInBounds_toArray, List.set_cons_zero, List.set_cons_succ]
          refine wpL_take 7 (C := (fun w' => w' = wr.drew)) (v := ?v39) rfl (by kernel_rfl) (by kernel_rfl) (by kernel_rfl) (by kernel_rfl) (fun _ _ _ h => h) (.inr (.tail _ (.head _))) (Or.inl ⟨by rfl, fun w_ hS_ => ?hy39⟩) (listed' := #[true, true, true, true, true, true, true, true, false]) (by kernel_rfl) ?rest39
          case hy39 => (subst hS_; first | (first | (refine Eq.trans (run_ne (cs := (encA x).toArray) (ds := (encA y).toArray) (b := decide (x = y)) rfl rfl rfl noGuardB (eqB x y _)) ?_; first | (rw [Hb.out]; done) | (rw [Hb.out]; rfl)) | (refine Eq.trans (run_loadAd (vs := encA x) (ad := ba.add (k * 4)) rfl rfl rfl Hcx.out) ?_; rfl) | (refine Eq.trans (run_loadAd (vs := encA y) (ad := bb.add (k * 4)) rfl rfl rfl Hcy.out) ?_; rfl)) | (go_simp; try rfl))
          case' rest39 => try simp only [Act.put, List.setIfInBounds_toArray, List.set_cons_zero, List.set_cons_succ]
          refine wpL_take 8 (C := fun _ => True) (v := ?v40) rfl (by kernel_rfl) (by kernel_rfl) (by kernel_rfl) (by kernel_rfl) (fun _ _ _ h => h) (.inl fun _ => trivial) (Or.inl ⟨by rfl, fun w_ hS_ => ?hy40⟩) (listed' := #[true, true, true, true, true, true, true, true, true]) (by kernel_rfl) ?rest40
          case hy40 => (first | (first | (refine Eq.trans (run_ne (cs := (encA x).toArray) (ds := (encA y).toArray) (b := decide (x = y)) rfl rfl rfl noGuardB (eqB x y _)) ?_; first | (rw [Hb.out]; done) | (rw [Hb.out]; rfl)) | (refine Eq.trans (run_loadAd (vs := encA x) (ad := ba.add (k * 4)) rfl rfl rfl Hcx.out) ?_; rfl) | (refine Eq.trans (run_loadAd (vs := encA y) (ad := bb.add (k * 4)) rfl rfl rfl Hcy.out) ?_; rfl)) | (go_simp; try rfl))
          case' rest40 => try simp only [Act.put, List.setIfInBounds_toArray, List.set_cons_zero, List.set_cons_succ]
          refine wpL_done (by kernel_rfl) ?_ _
          go_wp2
          exact HP.out _ _ ⟨by rw [Hd.out]; rfl, HD.out.drew⟩
      · have hke : k = n1 := by omega
        have hd : decide (l = m) = true := by
          simp only [decide_eq_true_eq]
          have h := Heq.out
          rw [hke, List.take_of_length_le (by rw [← H1.out]; omega), List.take_of_length_le (by rw [← H2.out]; omega)] at h
          exact h
        have Hd := Sep.hid hd; clear hd hke
        go_wp2
        exact HP.out _ _ ⟨by rw [Hd.out]; rfl, HD.out⟩
  · have hne : ((n1 : Int) != (n2 : Int)) = true := by simp; omega
    have hd : decide (l = m) = false := by simp only [decide_eq_false_iff_not]; rintro rfl; exact hlen (h1.trans h2.symm)
    have Hd := Sep.hid hd; clear hd hlen h1 h2
    refine Sep.calls_post ?_
    intro Post_ hPost_
    have HP := Sep.hid hPost_
    clear hPost_
    go_enter Tryd.func50, Tryd.ntmps50
    go_wp2
    exact HP.out _ _ ⟨by rw [Hd.out]; rfl, Drew.refl _⟩
set_option maxHeartbeats 400000 in
theorem oSame (a b : Option Addr) (l m : List Deed) (n1 n2 ca cb : Nat) (h1 : n1 = l.length) (h2 : n2 = m.length) (hL : n1 ≤ 1000000) (w : World) (ha : ReadsA w a l) (hb : ReadsA w b m) :
    Calls Tryd.prog 39 #[.slice a n1 ca, .slice b n2 cb] w fun en w' => en = .returned (.bool (decide (l = m))) ∧ Drew w w' := by
  have H := Sep.hid (equalA a b l m n1 n2 ca cb h1 h2 hL w ha hb)
  clear h1 h2 ha hb
  refine Sep.calls_post ?_
  intro Post_ hPost_
  have HP := Sep.hid hPost_
  clear hPost_
  go_enter Tryd.func39, Tryd.ntmps39
  go_wp2_with fail
  refine H.out.mono ?_
  rintro _ w_ ⟨rfl, hd⟩
  go_wp2_with fail
  exact HP.out _ _ ⟨rfl, hd⟩
end Go.Proofs.YteinbojpmhblkaaDoor
/-
  Bytes: how they lie, Same of them; the walk of Bytes.
-/
namespace Go.Proofs.YteinbojpmhblkaaDoor
set_option linter.unusedSimpArgs false
set_option linter.unusedVariables false
open Go.RowKit Go.Sep
set_option maxRecDepth 20000

def encB (l : List Int) : List Value := l.map (Value.int .u8)
theorem encB_length (l : List Int) : (encB l).length = l.length := by simp [encB]
theorem encB_append (l m : List Int) : encB (l ++ m) = encB l ++ encB m := by simp [encB]
theorem encB_one (l : List Int) : ∀ v ∈ encB l, v.oneCell' = true := by simp [encB, Value.oneCell']
theorem encB_get {l : List Int} {k : Nat} {x : Int} (h : l[k]? = some x) : (encB l)[k]? = some (.int .u8 x) := by simp [encB, h]
/-- Bytes that can be read. -/
def ReadsB (w : World) (a : Option Addr) (l : List Int) : Prop := ∀ (k : Nat) (x : Int), l[k]? = some x → ∃ p : Addr, a = some p ∧ w.cell? (p.add k) = some (.int .u8 x)
def RdB (e : World) (X : HProp) (a : Option Addr) (l : List Int) : Prop := ∀ (w : World) (L : List HProp) (i : Nat), Holds e w L → L[i]? = some X → ReadsB w a l
theorem RdB.sep {e : World} {A : HProp} {M : List HProp} {a : Option Addr} {l : List Int} (h : RdB e A a l) : RdB e (sepL (A :: M)) a l := by
  intro w L i hw hi
  have hil := (List.getElem?_eq_some_iff.1 hi).1
  exact h w _ i (hw.open_ i hi) (by rw [List.getElem?_append_left (by simpa using hil), List.getElem?_set_self hil])
theorem readsB {e w : World} {L : List HProp} {i n ca : Nat} {a : Option Addr} {l : List Int} (hw : Holds e w L) (hi : L[i]? = some (Sl 5 1 (.slice a n ca) n (encB l))) : ReadsB w a l := by
  intro k x hx
  have hk : k < l.length := (List.getElem?_eq_some_iff.1 hx).1
  have hln : (encB l).length = n * 1 := hw.fact hi (fun _ h => h.1)
  have hln2 := encB_length l
  rcases hw.openSl hi with ⟨_, h2, _⟩ | ⟨b, cap, pre, post, hv', _, _, _, hw'⟩
  · omega
  · cases hv'
    have hil : i < L.length := (List.getElem?_eq_some_iff.1 hi).1
    refine ⟨_, rfl, ?_⟩
    have e1 : (⟨b, pre.length, none⟩ : Addr).add k = ⟨b, pre.length + k, none⟩ := by unfold Addr.add; split <;> simp_all
    rw [e1, hw'.cells (List.getElem?_set_self hil), Sep.mid_get _ _ _ _ (by omega)]
    exact encB_get hx
theorem rdB {e : World} {n ca : Nat} {a : Option Addr} {l : List Int} : RdB e (Sl 5 1 (.slice a n ca) n (encB l)) a l := fun _ _ _ hw hi => readsB hw hi
def IsB (v : Value) (l : List Int) : HProp := Sl 5 1 v l.length (encB l)
theorem takeB {l : List Int} {k : Nat} {x : Int} (h : l[k]? = some x) : l.take (k + 1) = l.take k ++ [x] := by
  rw [List.take_add_one, h]; rfl

/-- The eight bytes of a number, the great ones ahead. -/
def be8 (n : Int) : List Int := [IntKind.u64.wrap n / 72057594037927936 % 256, IntKind.u64.wrap n / 281474976710656 % 256, IntKind.u64.wrap n / 1099511627776 % 256, IntKind.u64.wrap n / 4294967296 % 256, IntKind.u64.wrap n / 16777216 % 256, IntKind.u64.wrap n / 65536 % 256, IntKind.u64.wrap n / 256 % 256, IntKind.u64.wrap n % 256]
def atI : Nat → Int | 0 => 56 | 1 => 48 | 2 => 40 | 3 => 32 | 4 => 24 | 5 => 16 | 6 => 8 | 7 => 0 | _ => -8
def encIns (x : Deed) : List Int := [x.f0 % 256, x.f1 % 256, x.f2 % 256] ++ be8 x.f3
def bytesP (l : List Deed) : List Int := (l.length : Int) % 256 :: l.flatMap encIns
theorem encIns_len (x : Deed) : (encIns x).length = 11 := rfl
theorem bytesP_len (l : List Deed) : (bytesP l).length = 1 + l.length * 11 := by
  unfold bytesP; rw [List.length_cons, flat_len encIns_len]; omega
set_option maxRecDepth 20000 in
set_option maxHeartbeats 8000000 in
theorem oBytes (l : List Deed) (n ca : Nat) (a : Option Addr) (hn : Hid (l.length = n)) (e w : World) (X : HProp) (hT : Tops e X) (hR : RdA e X a l) (hm : mayP l = true) (hw : Holds e w [X]) :
    Calls Tryd.prog 21 #[.slice a n ca] w fun en w' => ∃ v, en = .returned (.tuple #[v, .int .i64 0]) ∧ Holds e w' [X, IsB v (bytesP l)] := by
  have Hn24 : Hid (1 ≤ n ∧ n ≤ 24) := Sep.hid (by
    unfold mayP at hm; rw [Bool.and_eq_true, decide_eq_true_eq, hn.out] at hm; exact hm.1)
  have hmay := fun w hw => oMay l n ca a hn e w X hT hR hw
  rw [hm] at hmay; clear hm
  have HR := Sep.hid hR; clear hR hT
  refine Sep.calls_post ?_
  intro Post_ hPost_
  have HP := Sep.hid hPost_
  clear hPost_
  go_enter Tryd.func21, Tryd.ntmps21
  go_wp2_with fail
  refine (hmay _ hw).mono ?_
  rintro _ w_ ⟨rfl, hw_⟩
  clear hw hmay; have hw := hw_; clear hw_
  go_wp2_with (refine wpList_on rfl (wp_bsl1 rfl rfl (by rfl) (by rfl) (by decide) hw ?_); intro b_ w_ hw_; replace hw_ := hw_.newSl (i := 1) rfl 1 1 rfl (by decide); clear hw; have hw := hw_; clear hw_; (try simp only [List.map_cons, List.map_nil, List.getD_cons_zero, List.getD_cons_succ, List.getD_nil, List.set_cons_zero, List.set_cons_succ, List.cons_append, List.nil_append, Act.eval, Array.getD_eq_getD_getElem?, List.getElem?_toArray, List.getElem?_cons_succ, List.getElem?_cons_zero, Option.getD_some, Value.cells] at hw); (try simp (disch := first | (simp; done) | (simp; omega)) only [Sep.mid_set, Sep.mid_set2, Sep.mid_set0, Sep.mid_splice, Sep.mid_splice0, List.set_cons_zero, List.set_cons_succ] at hw); (try simp only [Sep.splice, List.take_succ_cons, List.take_zero, List.drop_succ_cons, List.drop_zero, List.length_cons, List.length_nil, Nat.reduceAdd, List.cons_append, List.nil_append] at hw); (try replace hc0 := Sep.Holds.cells hw (i := 0) rfl); (try replace hc1 := Sep.Holds.cells hw (i := 1) rfl); (try replace hc2 := Sep.Holds.cells hw (i := 2) rfl); (try replace hc3 := Sep.Holds.cells hw (i := 3) rfl); (try replace hc4 := Sep.Holds.cells hw (i := 4) rfl); (try replace hc5 := Sep.Holds.cells hw (i := 5) rfl); (try replace hc6 := Sep.Holds.cells hw (i := 6) rfl))
  have Hw0 := Sep.hid hw; clear hw; (try clear hc0); (try clear hc1); (try clear hc2); (try clear hc3); (try clear hc4); (try clear hc5); (try clear hc6)
  go_loopw [17, 4] (fun i o wr => ∃ (k : Nat) (c : List Int), k ≤ n ∧ i = .int .i64 k ∧ Hid (c = (n : Int) % 256 :: (l.take k).flatMap encIns) ∧ Hid (c.length = 1 + k * 11) ∧ Holds e wr [X, Sl 5 1 o (1 + k * 11) (encB c)]) (fun i _ _ => n - (intOf i).toNat)
  case atStart => exact ⟨0, [(n : Int) % 256], Nat.zero_le _, rfl, Sep.hid rfl, Sep.hid rfl, Hw0.out⟩
  case round =>
    clear Hw0
    obtain ⟨k, c, hk, rfl, Hc, Hcl, hw⟩ := hrel
    obtain ⟨oa, oc, rfl⟩ := Sl.value (i := 1) rfl hw
    by_cases hlt : k < n
    · obtain ⟨x, hx⟩ : ∃ x, l[k]? = some x := ⟨_, List.getElem?_eq_getElem (by rw [hn.out]; exact hlt)⟩
      obtain ⟨p, rfl, hcc⟩ := HR.out _ _ 0 hw rfl k x hx
      have Hcc := Sep.hid hcc; clear hcc
      have Hx := Sep.hid hx; clear hx
      have hA : encA x = [.int .i64 x.f0, .int .i64 x.f1, .int .i64 x.f2, .int .i64 x.f3] := rfl
      have hk24 : k ≤ 24 := by have := Hn24.out; omega
      go_wp2_with (first | (refine wpList_on rfl (wp_of_run (run_loadAd (vs := encA x) rfl rfl rfl Hcc.out) ?_); (try simp only [Act.put, List.setIfInBounds_toArray, List.set_cons_zero, List.set_cons_succ]); rw [hA]) | (refine wpList_on rfl (wp_alloc rfl hw ?_); intro b6_ w_ hw_; clear hw; have hw := hw_; clear hw_; (try simp only [List.map_cons, List.map_nil, List.getD_cons_zero, List.getD_cons_succ, List.getD_nil, List.set_cons_zero, List.set_cons_succ, List.cons_append, List.nil_append, Act.eval, Array.getD_eq_getD_getElem?, List.getElem?_toArray, List.getElem?_cons_succ, List.getElem?_cons_zero, Option.getD_some, Value.cells] at hw); (try simp (disch := first | (simp; done) | (simp; omega)) only [Sep.mid_set, Sep.mid_set2, Sep.mid_set0, Sep.mid_splice, Sep.mid_splice0, List.set_cons_zero, List.set_cons_succ] at hw); (try simp only [Sep.splice, List.take_succ_cons, List.take_zero, List.drop_succ_cons, List.drop_zero, List.length_cons, List.length_nil, Nat.reduceAdd, List.cons_append, List.nil_append] at hw); (try replace hc0 := Sep.Holds.cells hw (i := 0) rfl); (try replace hc1 := Sep.Holds.cells hw (i := 1) rfl); (try replace hc2 := Sep.Holds.cells hw (i := 2) rfl); (try replace hc3 := Sep.Holds.cells hw (i := 3) rfl); (try replace hc4 := Sep.Holds.cells hw (i := 4) rfl); (try replace hc5 := Sep.Holds.cells hw (i := 5) rfl); (try replace hc6 := Sep.Holds.cells hw (i := 6) rfl)) | (refine wpList_on rfl (wp_storeAll (vs := [.int .i64 x.f0, .int .i64 x.f1, .int .i64 x.f2, .int .i64 x.f3]) rfl rfl (by rfl) hw (i := 2) rfl rfl rfl (by simp [Value.oneCell']) ?_); intro w_ hw_; clear hw; have hw := hw_; clear hw_; (try simp only [List.map_cons, List.map_nil, List.getD_cons_zero, List.getD_cons_succ, List.getD_nil, List.set_cons_zero, List.set_cons_succ, List.cons_append, List.nil_append, Act.eval, Array.getD_eq_getD_getElem?, List.getElem?_toArray, List.getElem?_cons_succ, List.getElem?_cons_zero, Option.getD_some, Value.cells] at hw); (try simp (disch := first | (simp; done) | (simp; omega)) only [Sep.mid_set, Sep.mid_set2, Sep.mid_set0, Sep.mid_splice, Sep.mid_splice0, List.set_cons_zero, List.set_cons_succ] at hw); (try simp only [Sep.splice, List.take_succ_cons, List.take_zero, List.drop_succ_cons, List.drop_zero, List.length_cons, List.length_nil, Nat.reduceAdd, List.cons_append, List.nil_append] at hw); (try replace hc0 := Sep.Holds.cells hw (i := 0) rfl); (try replace hc1 := Sep.Holds.cells hw (i := 1) rfl); (try replace hc2 := Sep.Holds.cells hw (i := 2) rfl); (try replace hc3 := Sep.Holds.cells hw (i := 3) rfl); (try replace hc4 := Sep.Holds.cells hw (i := 4) rfl); (try replace hc5 := Sep.Holds.cells hw (i := 5) rfl); (try replace hc6 := Sep.Holds.cells hw (i := 6) rfl)) | (refine wpList_on rfl (wp_buildSlice [.int .u8 (x.f0 % 256), .int .u8 (x.f1 % 256), .int .u8 (x.f2 % 256)] rfl hw (by decide) (by go_simp) rfl ?_); intro b3_ w_ hw_; clear hw; have hw := hw_; clear hw_; (try simp only [List.map_cons, List.map_nil, List.getD_cons_zero, List.getD_cons_succ, List.getD_nil, List.set_cons_zero, List.set_cons_succ, List.cons_append, List.nil_append, Act.eval, Array.getD_eq_getD_getElem?, List.getElem?_toArray, List.getElem?_cons_succ, List.getElem?_cons_zero, Option.getD_some, Value.cells] at hw); (try simp (disch := first | (simp; done) | (simp; omega)) only [Sep.mid_set, Sep.mid_set2, Sep.mid_set0, Sep.mid_splice, Sep.mid_splice0, List.set_cons_zero, List.set_cons_succ] at hw); (try simp only [Sep.splice, List.take_succ_cons, List.take_zero, List.drop_succ_cons, List.drop_zero, List.length_cons, List.length_nil, Nat.reduceAdd, List.cons_append, List.nil_append] at hw); (try replace hc0 := Sep.Holds.cells hw (i := 0) rfl); (try replace hc1 := Sep.Holds.cells hw (i := 1) rfl); (try replace hc2 := Sep.Holds.cells hw (i := 2) rfl); (try replace hc3 := Sep.Holds.cells hw (i := 3) rfl); (try replace hc4 := Sep.Holds.cells hw (i := 4) rfl); (try replace hc5 := Sep.Holds.cells hw (i := 5) rfl); (try replace hc6 := Sep.Holds.cells hw (i := 6) rfl)) | (at_builtin; refine wpList_on rfl (wp_appendPt (i := 1) (j := 3) rfl rfl hw rfl rfl rfl rfl (by simp [Value.oneCell']) (by decide) (by rfl) (by (try unfold maxLen); omega) (by (try unfold maxLen); omega) ?_); intro b2_ cap2_ off2_ w_ hcap2_ hw_; clear hw; have hw := hw_; clear hw_; (try simp only [List.map_cons, List.map_nil, List.getD_cons_zero, List.getD_cons_succ, List.getD_nil, List.set_cons_zero, List.set_cons_succ, List.cons_append, List.nil_append, Act.eval, Array.getD_eq_getD_getElem?, List.getElem?_toArray, List.getElem?_cons_succ, List.getElem?_cons_zero, Option.getD_some, Value.cells] at hw); (try simp (disch := first | (simp; done) | (simp; omega)) only [Sep.mid_set, Sep.mid_set2, Sep.mid_set0, Sep.mid_splice, Sep.mid_splice0, List.set_cons_zero, List.set_cons_succ] at hw); (try simp only [Sep.splice, List.take_succ_cons, List.take_zero, List.drop_succ_cons, List.drop_zero, List.length_cons, List.length_nil, Nat.reduceAdd, List.cons_append, List.nil_append] at hw); (try replace hc0 := Sep.Holds.cells hw (i := 0) rfl); (try replace hc1 := Sep.Holds.cells hw (i := 1) rfl); (try replace hc2 := Sep.Holds.cells hw (i := 2) rfl); (try replace hc3 := Sep.Holds.cells hw (i := 3) rfl); (try replace hc4 := Sep.Holds.cells hw (i := 4) rfl); (try replace hc5 := Sep.Holds.cells hw (i := 5) rfl); (try replace hc6 := Sep.Holds.cells hw (i := 6) rfl)))
      have hw := hw.sel [0, 1, 2] (by decide)
      (try simp only [List.map_cons, List.map_nil, List.getD_cons_zero, List.getD_cons_succ, List.getD_nil, List.set_cons_zero, List.set_cons_succ, List.cons_append, List.nil_append, Act.eval, Array.getD_eq_getD_getElem?, List.getElem?_toArray, List.getElem?_cons_succ, List.getElem?_cons_zero, Option.getD_some, Value.cells] at hw); (try simp (disch := first | (simp; done) | (simp; omega)) only [Sep.mid_set, Sep.mid_set2, Sep.mid_set0, Sep.mid_splice, Sep.mid_splice0, List.set_cons_zero, List.set_cons_succ] at hw); (try simp only [Sep.splice, List.take_succ_cons, List.take_zero, List.drop_succ_cons, List.drop_zero, List.length_cons, List.length_nil, Nat.reduceAdd, List.cons_append, List.nil_append] at hw)
      have hw : Holds e w_ [X, Sl 5 1 (.slice (some ⟨b2_, off2_, none⟩) (1 + k * 11 + 3) cap2_) (1 + k * 11 + 3) (encB (c ++ [x.f0 % 256, x.f1 % 256, x.f2 % 256])), pt b6_ [.int .i64 x.f0, .int .i64 x.f1, .int .i64 x.f2, .int .i64 x.f3] 56] := by rw [encB_append]; exact hw
      generalize hc3 : c ++ [x.f0 % 256, x.f1 % 256, x.f2 % 256] = c3 at *
      have Hc3 := Sep.hid hc3; clear hc3
      have Hw0 := Sep.hid hw; clear hw; (try clear hc0); (try clear hc1); (try clear hc2); (try clear hc3); (try clear hc4); (try clear hc5); (try clear hc6)
      go_loopw [7, 4] (fun i o wr => ∃ (j : Nat) (c2 : List Int), j ≤ 8 ∧ i = .int .i64 (atI j) ∧ Hid (c2 = c3 ++ (be8 x.f3).take j) ∧ Holds e wr [X, Sl 5 1 o (1 + k * 11 + 3 + j) (encB c2), pt b6_ [.int .i64 x.f0, .int .i64 x.f1, .int .i64 x.f2, .int .i64 x.f3] 56]) (fun i _ _ => (intOf i + 8).toNat)
      case atStart => exact ⟨0, c3, Nat.zero_le _, rfl, Sep.hid (by simp), Hw0.out⟩
      case round =>
        clear Hw0
        obtain ⟨j, c2, hj, hi7, Hc2, hw⟩ := hrel
        obtain ⟨oa2, oc2, rfl⟩ := Sl.value (i := 1) rfl hw
        match j, hj with
        | 0, _ =>
          obtain rfl : u7 = .int .i64 56 := hi7
          (try replace hc0 := Sep.Holds.cells hw (i := 0) rfl); (try replace hc1 := Sep.Holds.cells hw (i := 1) rfl); (try replace hc2 := Sep.Holds.cells hw (i := 2) rfl); (try replace hc3 := Sep.Holds.cells hw (i := 3) rfl); (try replace hc4 := Sep.Holds.cells hw (i := 4) rfl); (try replace hc5 := Sep.Holds.cells hw (i := 5) rfl); (try replace hc6 := Sep.Holds.cells hw (i := 6) rfl)
          go_wp2_with (first | (refine wpList_on rfl (wp_bsl1 rfl rfl (by rfl) (by rfl) (by decide) hw ?_); intro b_ w_ hw_; clear hw; have hw := hw_; clear hw_; (try simp only [List.map_cons, List.map_nil, List.getD_cons_zero, List.getD_cons_succ, List.getD_nil, List.set_cons_zero, List.set_cons_succ, List.cons_append, List.nil_append, Act.eval, Array.getD_eq_getD_getElem?, List.getElem?_toArray, List.getElem?_cons_succ, List.getElem?_cons_zero, Option.getD_some, Value.cells] at hw); (try simp (disch := first | (simp; done) | (simp; omega)) only [Sep.mid_set, Sep.mid_set2, Sep.mid_set0, Sep.mid_splice, Sep.mid_splice0, List.set_cons_zero, List.set_cons_succ] at hw); (try simp only [Sep.splice, List.take_succ_cons, List.take_zero, List.drop_succ_cons, List.drop_zero, List.length_cons, List.length_nil, Nat.reduceAdd, List.cons_append, List.nil_append] at hw); (try replace hc0 := Sep.Holds.cells hw (i := 0) rfl); (try replace hc1 := Sep.Holds.cells hw (i := 1) rfl); (try replace hc2 := Sep.Holds.cells hw (i := 2) rfl); (try replace hc3 := Sep.Holds.cells hw (i := 3) rfl); (try replace hc4 := Sep.Holds.cells hw (i := 4) rfl); (try replace hc5 := Sep.Holds.cells hw (i := 5) rfl); (try replace hc6 := Sep.Holds.cells hw (i := 6) rfl)) | (at_builtin; refine wpList_on rfl (wp_appendPt (i := 1) (j := 3) rfl rfl hw rfl rfl rfl (by rfl) (by simp [Value.oneCell']) (by decide) (by rfl) (by (try unfold maxLen); omega) (by (try unfold maxLen); omega) ?_); intro b2_ cap2_ off2_ w_ hcap2_ hw_; clear hw; have hw := hw_; clear hw_; (try simp only [List.map_cons, List.map_nil, List.getD_cons_zero, List.getD_cons_succ, List.getD_nil, List.set_cons_zero, List.set_cons_succ, List.cons_append, List.nil_append, Act.eval, Array.getD_eq_getD_getElem?, List.getElem?_toArray, List.getElem?_cons_succ, List.getElem?_cons_zero, Option.getD_some, Value.cells] at hw); (try simp (disch := first | (simp; done) | (simp; omega)) only [Sep.mid_set, Sep.mid_set2, Sep.mid_set0, Sep.mid_splice, Sep.mid_splice0, List.set_cons_zero, List.set_cons_succ] at hw); (try simp only [Sep.splice, List.take_succ_cons, List.take_zero, List.drop_succ_cons, List.drop_zero, List.length_cons, List.length_nil, Nat.reduceAdd, List.cons_append, List.nil_append] at hw); (try replace hc0 := Sep.Holds.cells hw (i := 0) rfl); (try replace hc1 := Sep.Holds.cells hw (i := 1) rfl); (try replace hc2 := Sep.Holds.cells hw (i := 2) rfl); (try replace hc3 := Sep.Holds.cells hw (i := 3) rfl); (try replace hc4 := Sep.Holds.cells hw (i := 4) rfl); (try replace hc5 := Sep.Holds.cells hw (i := 5) rfl); (try replace hc6 := Sep.Holds.cells hw (i := 6) rfl)))
          go_roundw
          case rel =>
            refine ⟨0 + 1, c2 ++ [(be8 x.f3).getD 0 0], by decide, rfl, Sep.hid (by rw [Hc2.out, List.append_assoc]; rfl), ?_⟩
            rw [encB_append]
            exact hw.sel [0, 1, 2] (by decide)
          case measure => simp [intOf]
        | 1, _ =>
          obtain rfl : u7 = .int .i64 48 := hi7
          (try replace hc0 := Sep.Holds.cells hw (i := 0) rfl); (try replace hc1 := Sep.Holds.cells hw (i := 1) rfl); (try replace hc2 := Sep.Holds.cells hw (i := 2) rfl); (try replace hc3 := Sep.Holds.cells hw (i := 3) rfl); (try replace hc4 := Sep.Holds.cells hw (i := 4) rfl); (try replace hc5 := Sep.Holds.cells hw (i := 5) rfl); (try replace hc6 := Sep.Holds.cells hw (i := 6) rfl)
          go_wp2_with (first | (refine wpList_on rfl (wp_bsl1 rfl rfl (by rfl) (by rfl) (by decide) hw ?_); intro b_ w_ hw_; clear hw; have hw := hw_; clear hw_; (try simp only [List.map_cons, List.map_nil, List.getD_cons_zero, List.getD_cons_succ, List.getD_nil, List.set_cons_zero, List.set_cons_succ, List.cons_append, List.nil_append, Act.eval, Array.getD_eq_getD_getElem?, List.getElem?_toArray, List.getElem?_cons_succ, List.getElem?_cons_zero, Option.getD_some, Value.cells] at hw); (try simp (disch := first | (simp; done) | (simp; omega)) only [Sep.mid_set, Sep.mid_set2, Sep.mid_set0, Sep.mid_splice, Sep.mid_splice0, List.set_cons_zero, List.set_cons_succ] at hw); (try simp only [Sep.splice, List.take_succ_cons, List.take_zero, List.drop_succ_cons, List.drop_zero, List.length_cons, List.length_nil, Nat.reduceAdd, List.cons_append, List.nil_append] at hw); (try replace hc0 := Sep.Holds.cells hw (i := 0) rfl); (try replace hc1 := Sep.Holds.cells hw (i := 1) rfl); (try replace hc2 := Sep.Holds.cells hw (i := 2) rfl); (try replace hc3 := Sep.Holds.cells hw (i := 3) rfl); (try replace hc4 := Sep.Holds.cells hw (i := 4) rfl); (try replace hc5 := Sep.Holds.cells hw (i := 5) rfl); (try replace hc6 := Sep.Holds.cells hw (i := 6) rfl)) | (at_builtin; refine wpList_on rfl (wp_appendPt (i := 1) (j := 3) rfl rfl hw rfl rfl rfl (by rfl) (by simp [Value.oneCell']) (by decide) (by rfl) (by (try unfold maxLen); omega) (by (try unfold maxLen); omega) ?_); intro b2_ cap2_ off2_ w_ hcap2_ hw_; clear hw; have hw := hw_; clear hw_; (try simp only [List.map_cons, List.map_nil, List.getD_cons_zero, List.getD_cons_succ, List.getD_nil, List.set_cons_zero, List.set_cons_succ, List.cons_append, List.nil_append, Act.eval, Array.getD_eq_getD_getElem?, List.getElem?_toArray, List.getElem?_cons_succ, List.getElem?_cons_zero, Option.getD_some, Value.cells] at hw); (try simp (disch := first | (simp; done) | (simp; omega)) only [Sep.mid_set, Sep.mid_set2, Sep.mid_set0, Sep.mid_splice, Sep.mid_splice0, List.set_cons_zero, List.set_cons_succ] at hw); (try simp only [Sep.splice, List.take_succ_cons, List.take_zero, List.drop_succ_cons, List.drop_zero, List.length_cons, List.length_nil, Nat.reduceAdd, List.cons_append, List.nil_append] at hw); (try replace hc0 := Sep.Holds.cells hw (i := 0) rfl); (try replace hc1 := Sep.Holds.cells hw (i := 1) rfl); (try replace hc2 := Sep.Holds.cells hw (i := 2) rfl); (try replace hc3 := Sep.Holds.cells hw (i := 3) rfl); (try replace hc4 := Sep.Holds.cells hw (i := 4) rfl); (try replace hc5 := Sep.Holds.cells hw (i := 5) rfl); (try replace hc6 := Sep.Holds.cells hw (i := 6) rfl)))
          go_roundw
          case rel =>
            refine ⟨1 + 1, c2 ++ [(be8 x.f3).getD 1 0], by decide, rfl, Sep.hid (by rw [Hc2.out, List.append_assoc]; rfl), ?_⟩
            rw [encB_append]
            exact hw.sel [0, 1, 2] (by decide)
          case measure => simp [intOf]
        | 2, _ =>
          obtain rfl : u7 = .int .i64 40 := hi7
          (try replace hc0 := Sep.Holds.cells hw (i := 0) rfl); (try replace hc1 := Sep.Holds.cells hw (i := 1) rfl); (try replace hc2 := Sep.Holds.cells hw (i := 2) rfl); (try replace hc3 := Sep.Holds.cells hw (i := 3) rfl); (try replace hc4 := Sep.Holds.cells hw (i := 4) rfl); (try replace hc5 := Sep.Holds.cells hw (i := 5) rfl); (try replace hc6 := Sep.Holds.cells hw (i := 6) rfl)
          go_wp2_with (first | (refine wpList_on rfl (wp_bsl1 rfl rfl (by rfl) (by rfl) (by decide) hw ?_); intro b_ w_ hw_; clear hw; have hw := hw_; clear hw_; (try simp only [List.map_cons, List.map_nil, List.getD_cons_zero, List.getD_cons_succ, List.getD_nil, List.set_cons_zero, List.set_cons_succ, List.cons_append, List.nil_append, Act.eval, Array.getD_eq_getD_getElem?, List.getElem?_toArray, List.getElem?_cons_succ, List.getElem?_cons_zero, Option.getD_some, Value.cells] at hw); (try simp (disch := first | (simp; done) | (simp; omega)) only [Sep.mid_set, Sep.mid_set2, Sep.mid_set0, Sep.mid_splice, Sep.mid_splice0, List.set_cons_zero, List.set_cons_succ] at hw); (try simp only [Sep.splice, List.take_succ_cons, List.take_zero, List.drop_succ_cons, List.drop_zero, List.length_cons, List.length_nil, Nat.reduceAdd, List.cons_append, List.nil_append] at hw); (try replace hc0 := Sep.Holds.cells hw (i := 0) rfl); (try replace hc1 := Sep.Holds.cells hw (i := 1) rfl); (try replace hc2 := Sep.Holds.cells hw (i := 2) rfl); (try replace hc3 := Sep.Holds.cells hw (i := 3) rfl); (try replace hc4 := Sep.Holds.cells hw (i := 4) rfl); (try replace hc5 := Sep.Holds.cells hw (i := 5) rfl); (try replace hc6 := Sep.Holds.cells hw (i := 6) rfl)) | (at_builtin; refine wpList_on rfl (wp_appendPt (i := 1) (j := 3) rfl rfl hw rfl rfl rfl (by rfl) (by simp [Value.oneCell']) (by decide) (by rfl) (by (try unfold maxLen); omega) (by (try unfold maxLen); omega) ?_); intro b2_ cap2_ off2_ w_ hcap2_ hw_; clear hw; have hw := hw_; clear hw_; (try simp only [List.map_cons, List.map_nil, List.getD_cons_zero, List.getD_cons_succ, List.getD_nil, List.set_cons_zero, List.set_cons_succ, List.cons_append, List.nil_append, Act.eval, Array.getD_eq_getD_getElem?, List.getElem?_toArray, List.getElem?_cons_succ, List.getElem?_cons_zero, Option.getD_some, Value.cells] at hw); (try simp (disch := first | (simp; done) | (simp; omega)) only [Sep.mid_set, Sep.mid_set2, Sep.mid_set0, Sep.mid_splice, Sep.mid_splice0, List.set_cons_zero, List.set_cons_succ] at hw); (try simp only [Sep.splice, List.take_succ_cons, List.take_zero, List.drop_succ_cons, List.drop_zero, List.length_cons, List.length_nil, Nat.reduceAdd, List.cons_append, List.nil_append] at hw); (try replace hc0 := Sep.Holds.cells hw (i := 0) rfl); (try replace hc1 := Sep.Holds.cells hw (i := 1) rfl); (try replace hc2 := Sep.Holds.cells hw (i := 2) rfl); (try replace hc3 := Sep.Holds.cells hw (i := 3) rfl); (try replace hc4 := Sep.Holds.cells hw (i := 4) rfl); (try replace hc5 := Sep.Holds.cells hw (i := 5) rfl); (try replace hc6 := Sep.Holds.cells hw (i := 6) rfl)))
          go_roundw
          case rel =>
            refine ⟨2 + 1, c2 ++ [(be8 x.f3).getD 2 0], by decide, rfl, Sep.hid (by rw [Hc2.out, List.append_assoc]; rfl), ?_⟩
            rw [encB_append]
            exact hw.sel [0, 1, 2] (by decide)
          case measure => simp [intOf]
        | 3, _ =>
          obtain rfl : u7 = .int .i64 32 := hi7
          (try replace hc0 := Sep.Holds.cells hw (i := 0) rfl); (try replace hc1 := Sep.Holds.cells hw (i := 1) rfl); (try replace hc2 := Sep.Holds.cells hw (i := 2) rfl); (try replace hc3 := Sep.Holds.cells hw (i := 3) rfl); (try replace hc4 := Sep.Holds.cells hw (i := 4) rfl); (try replace hc5 := Sep.Holds.cells hw (i := 5) rfl); (try replace hc6 := Sep.Holds.cells hw (i := 6) rfl)
          go_wp2_with (first | (refine wpList_on rfl (wp_bsl1 rfl rfl (by rfl) (by rfl) (by decide) hw ?_); intro b_ w_ hw_; clear hw; have hw := hw_; clear hw_; (try simp only [List.map_cons, List.map_nil, List.getD_cons_zero, List.getD_cons_succ, List.getD_nil, List.set_cons_zero, List.set_cons_succ, List.cons_append, List.nil_append, Act.eval, Array.getD_eq_getD_getElem?, List.getElem?_toArray, List.getElem?_cons_succ, List.getElem?_cons_zero, Option.getD_some, Value.cells] at hw); (try simp (disch := first | (simp; done) | (simp; omega)) only [Sep.mid_set, Sep.mid_set2, Sep.mid_set0, Sep.mid_splice, Sep.mid_splice0, List.set_cons_zero, List.set_cons_succ] at hw); (try simp only [Sep.splice, List.take_succ_cons, List.take_zero, List.drop_succ_cons, List.drop_zero, List.length_cons, List.length_nil, Nat.reduceAdd, List.cons_append, List.nil_append] at hw); (try replace hc0 := Sep.Holds.cells hw (i := 0) rfl); (try replace hc1 := Sep.Holds.cells hw (i := 1) rfl); (try replace hc2 := Sep.Holds.cells hw (i := 2) rfl); (try replace hc3 := Sep.Holds.cells hw (i := 3) rfl); (try replace hc4 := Sep.Holds.cells hw (i := 4) rfl); (try replace hc5 := Sep.Holds.cells hw (i := 5) rfl); (try replace hc6 := Sep.Holds.cells hw (i := 6) rfl)) | (at_builtin; refine wpList_on rfl (wp_appendPt (i := 1) (j := 3) rfl rfl hw rfl rfl rfl (by rfl) (by simp [Value.oneCell']) (by decide) (by rfl) (by (try unfold maxLen); omega) (by (try unfold maxLen); omega) ?_); intro b2_ cap2_ off2_ w_ hcap2_ hw_; clear hw; have hw := hw_; clear hw_; (try simp only [List.map_cons, List.map_nil, List.getD_cons_zero, List.getD_cons_succ, List.getD_nil, List.set_cons_zero, List.set_cons_succ, List.cons_append, List.nil_append, Act.eval, Array.getD_eq_getD_getElem?, List.getElem?_toArray, List.getElem?_cons_succ, List.getElem?_cons_zero, Option.getD_some, Value.cells] at hw); (try simp (disch := first | (simp; done) | (simp; omega)) only [Sep.mid_set, Sep.mid_set2, Sep.mid_set0, Sep.mid_splice, Sep.mid_splice0, List.set_cons_zero, List.set_cons_succ] at hw); (try simp only [Sep.splice, List.take_succ_cons, List.take_zero, List.drop_succ_cons, List.drop_zero, List.length_cons, List.length_nil, Nat.reduceAdd, List.cons_append, List.nil_append] at hw); (try replace hc0 := Sep.Holds.cells hw (i := 0) rfl); (try replace hc1 := Sep.Holds.cells hw (i := 1) rfl); (try replace hc2 := Sep.Holds.cells hw (i := 2) rfl); (try replace hc3 := Sep.Holds.cells hw (i := 3) rfl); (try replace hc4 := Sep.Holds.cells hw (i := 4) rfl); (try replace hc5 := Sep.Holds.cells hw (i := 5) rfl); (try replace hc6 := Sep.Holds.cells hw (i := 6) rfl)))
          go_roundw
          case rel =>
            refine ⟨3 + 1, c2 ++ [(be8 x.f3).getD 3 0], by decide, rfl, Sep.hid (by rw [Hc2.out, List.append_assoc]; rfl), ?_⟩
            rw [encB_append]
            exact hw.sel [0, 1, 2] (by decide)
          case measure => simp [intOf]
        | 4, _ =>
          obtain rfl : u7 = .int .i64 24 := hi7
          (try replace hc0 := Sep.Holds.cells hw (i := 0) rfl); (try replace hc1 := Sep.Holds.cells hw (i := 1) rfl); (try replace hc2 := Sep.Holds.cells hw (i := 2) rfl); (try replace hc3 := Sep.Holds.cells hw (i := 3) rfl); (try replace hc4 := Sep.Holds.cells hw (i := 4) rfl); (try replace hc5 := Sep.Holds.cells hw (i := 5) rfl); (try replace hc6 := Sep.Holds.cells hw (i := 6) rfl)
          go_wp2_with (first | (refine wpList_on rfl (wp_bsl1 rfl rfl (by rfl) (by rfl) (by decide) hw ?_); intro b_ w_ hw_; clear hw; have hw := hw_; clear hw_; (try simp only [List.map_cons, List.map_nil, List.getD_cons_zero, List.getD_cons_succ, List.getD_nil, List.set_cons_zero, List.set_cons_succ, List.cons_append, List.nil_append, Act.eval, Array.getD_eq_getD_getElem?, List.getElem?_toArray, List.getElem?_cons_succ, List.getElem?_cons_zero, Option.getD_some, Value.cells] at hw); (try simp (disch := first | (simp; done) | (simp; omega)) only [Sep.mid_set, Sep.mid_set2, Sep.mid_set0, Sep.mid_splice, Sep.mid_splice0, List.set_cons_zero, List.set_cons_succ] at hw); (try simp only [Sep.splice, List.take_succ_cons, List.take_zero, List.drop_succ_cons, List.drop_zero, List.length_cons, List.length_nil, Nat.reduceAdd, List.cons_append, List.nil_append] at hw); (try replace hc0 := Sep.Holds.cells hw (i := 0) rfl); (try replace hc1 := Sep.Holds.cells hw (i := 1) rfl); (try replace hc2 := Sep.Holds.cells hw (i := 2) rfl); (try replace hc3 := Sep.Holds.cells hw (i := 3) rfl); (try replace hc4 := Sep.Holds.cells hw (i := 4) rfl); (try replace hc5 := Sep.Holds.cells hw (i := 5) rfl); (try replace hc6 := Sep.Holds.cells hw (i := 6) rfl)) | (at_builtin; refine wpList_on rfl (wp_appendPt (i := 1) (j := 3) rfl rfl hw rfl rfl rfl (by rfl) (by simp [Value.oneCell']) (by decide) (by rfl) (by (try unfold maxLen); omega) (by (try unfold maxLen); omega) ?_); intro b2_ cap2_ off2_ w_ hcap2_ hw_; clear hw; have hw := hw_; clear hw_; (try simp only [List.map_cons, List.map_nil, List.getD_cons_zero, List.getD_cons_succ, List.getD_nil, List.set_cons_zero, List.set_cons_succ, List.cons_append, List.nil_append, Act.eval, Array.getD_eq_getD_getElem?, List.getElem?_toArray, List.getElem?_cons_succ, List.getElem?_cons_zero, Option.getD_some, Value.cells] at hw); (try simp (disch := first | (simp; done) | (simp; omega)) only [Sep.mid_set, Sep.mid_set2, Sep.mid_set0, Sep.mid_splice, Sep.mid_splice0, List.set_cons_zero, List.set_cons_succ] at hw); (try simp only [Sep.splice, List.take_succ_cons, List.take_zero, List.drop_succ_cons, List.drop_zero, List.length_cons, List.length_nil, Nat.reduceAdd, List.cons_append, List.nil_append] at hw); (try replace hc0 := Sep.Holds.cells hw (i := 0) rfl); (try replace hc1 := Sep.Holds.cells hw (i := 1) rfl); (try replace hc2 := Sep.Holds.cells hw (i := 2) rfl); (try replace hc3 := Sep.Holds.cells hw (i := 3) rfl); (try replace hc4 := Sep.Holds.cells hw (i := 4) rfl); (try replace hc5 := Sep.Holds.cells hw (i := 5) rfl); (try replace hc6 := Sep.Holds.cells hw (i := 6) rfl)))
          go_roundw
          case rel =>
            refine ⟨4 + 1, c2 ++ [(be8 x.f3).getD 4 0], by decide, rfl, Sep.hid (by rw [Hc2.out, List.append_assoc]; rfl), ?_⟩
            rw [encB_append]
            exact hw.sel [0, 1, 2] (by decide)
          case measure => simp [intOf]
        | 5, _ =>
          obtain rfl : u7 = .int .i64 16 := hi7
          (try replace hc0 := Sep.Holds.cells hw (i := 0) rfl); (try replace hc1 := Sep.Holds.cells hw (i := 1) rfl); (try replace hc2 := Sep.Holds.cells hw (i := 2) rfl); (try replace hc3 := Sep.Holds.cells hw (i := 3) rfl); (try replace hc4 := Sep.Holds.cells hw (i := 4) rfl); (try replace hc5 := Sep.Holds.cells hw (i := 5) rfl); (try replace hc6 := Sep.Holds.cells hw (i := 6) rfl)
          go_wp2_with (first | (refine wpList_on rfl (wp_bsl1 rfl rfl (by rfl) (by rfl) (by decide) hw ?_); intro b_ w_ hw_; clear hw; have hw := hw_; clear hw_; (try simp only [List.map_cons, List.map_nil, List.getD_cons_zero, List.getD_cons_succ, List.getD_nil, List.set_cons_zero, List.set_cons_succ, List.cons_append, List.nil_append, Act.eval, Array.getD_eq_getD_getElem?, List.getElem?_toArray, List.getElem?_cons_succ, List.getElem?_cons_zero, Option.getD_some, Value.cells] at hw); (try simp (disch := first | (simp; done) | (simp; omega)) only [Sep.mid_set, Sep.mid_set2, Sep.mid_set0, Sep.mid_splice, Sep.mid_splice0, List.set_cons_zero, List.set_cons_succ] at hw); (try simp only [Sep.splice, List.take_succ_cons, List.take_zero, List.drop_succ_cons, List.drop_zero, List.length_cons, List.length_nil, Nat.reduceAdd, List.cons_append, List.nil_append] at hw); (try replace hc0 := Sep.Holds.cells hw (i := 0) rfl); (try replace hc1 := Sep.Holds.cells hw (i := 1) rfl); (try replace hc2 := Sep.Holds.cells hw (i := 2) rfl); (try replace hc3 := Sep.Holds.cells hw (i := 3) rfl); (try replace hc4 := Sep.Holds.cells hw (i := 4) rfl); (try replace hc5 := Sep.Holds.cells hw (i := 5) rfl); (try replace hc6 := Sep.Holds.cells hw (i := 6) rfl)) | (at_builtin; refine wpList_on rfl (wp_appendPt (i := 1) (j := 3) rfl rfl hw rfl rfl rfl (by rfl) (by simp [Value.oneCell']) (by decide) (by rfl) (by (try unfold maxLen); omega) (by (try unfold maxLen); omega) ?_); intro b2_ cap2_ off2_ w_ hcap2_ hw_; clear hw; have hw := hw_; clear hw_; (try simp only [List.map_cons, List.map_nil, List.getD_cons_zero, List.getD_cons_succ, List.getD_nil, List.set_cons_zero, List.set_cons_succ, List.cons_append, List.nil_append, Act.eval, Array.getD_eq_getD_getElem?, List.getElem?_toArray, List.getElem?_cons_succ, List.getElem?_cons_zero, Option.getD_some, Value.cells] at hw); (try simp (disch := first | (simp; done) | (simp; omega)) only [Sep.mid_set, Sep.mid_set2, Sep.mid_set0, Sep.mid_splice, Sep.mid_splice0, List.set_cons_zero, List.set_cons_succ] at hw); (try simp only [Sep.splice, List.take_succ_cons, List.take_zero, List.drop_succ_cons, List.drop_zero, List.length_cons, List.length_nil, Nat.reduceAdd, List.cons_append, List.nil_append] at hw); (try replace hc0 := Sep.Holds.cells hw (i := 0) rfl); (try replace hc1 := Sep.Holds.cells hw (i := 1) rfl); (try replace hc2 := Sep.Holds.cells hw (i := 2) rfl); (try replace hc3 := Sep.Holds.cells hw (i := 3) rfl); (try replace hc4 := Sep.Holds.cells hw (i := 4) rfl); (try replace hc5 := Sep.Holds.cells hw (i := 5) rfl); (try replace hc6 := Sep.Holds.cells hw (i := 6) rfl)))
          go_roundw
          case rel =>
            refine ⟨5 + 1, c2 ++ [(be8 x.f3).getD 5 0], by decide, rfl, Sep.hid (by rw [Hc2.out, List.append_assoc]; rfl), ?_⟩
            rw [encB_append]
            exact hw.sel [0, 1, 2] (by decide)
          case measure => simp [intOf]
        | 6, _ =>
          obtain rfl : u7 = .int .i64 8 := hi7
          (try replace hc0 := Sep.Holds.cells hw (i := 0) rfl); (try replace hc1 := Sep.Holds.cells hw (i := 1) rfl); (try replace hc2 := Sep.Holds.cells hw (i := 2) rfl); (try replace hc3 := Sep.Holds.cells hw (i := 3) rfl); (try replace hc4 := Sep.Holds.cells hw (i := 4) rfl); (try replace hc5 := Sep.Holds.cells hw (i := 5) rfl); (try replace hc6 := Sep.Holds.cells hw (i := 6) rfl)
          go_wp2_with (first | (refine wpList_on rfl (wp_bsl1 rfl rfl (by rfl) (by rfl) (by decide) hw ?_); intro b_ w_ hw_; clear hw; have hw := hw_; clear hw_; (try simp only [List.map_cons, List.map_nil, List.getD_cons_zero, List.getD_cons_succ, List.getD_nil, List.set_cons_zero, List.set_cons_succ, List.cons_append, List.nil_append, Act.eval, Array.getD_eq_getD_getElem?, List.getElem?_toArray, List.getElem?_cons_succ, List.getElem?_cons_zero, Option.getD_some, Value.cells] at hw); (try simp (disch := first | (simp; done) | (simp; omega)) only [Sep.mid_set, Sep.mid_set2, Sep.mid_set0, Sep.mid_splice, Sep.mid_splice0, List.set_cons_zero, List.set_cons_succ] at hw); (try simp only [Sep.splice, List.take_succ_cons, List.take_zero, List.drop_succ_cons, List.drop_zero, List.length_cons, List.length_nil, Nat.reduceAdd, List.cons_append, List.nil_append] at hw); (try replace hc0 := Sep.Holds.cells hw (i := 0) rfl); (try replace hc1 := Sep.Holds.cells hw (i := 1) rfl); (try replace hc2 := Sep.Holds.cells hw (i := 2) rfl); (try replace hc3 := Sep.Holds.cells hw (i := 3) rfl); (try replace hc4 := Sep.Holds.cells hw (i := 4) rfl); (try replace hc5 := Sep.Holds.cells hw (i := 5) rfl); (try replace hc6 := Sep.Holds.cells hw (i := 6) rfl)) | (at_builtin; refine wpList_on rfl (wp_appendPt (i := 1) (j := 3) rfl rfl hw rfl rfl rfl (by rfl) (by simp [Value.oneCell']) (by decide) (by rfl) (by (try unfold maxLen); omega) (by (try unfold maxLen); omega) ?_); intro b2_ cap2_ off2_ w_ hcap2_ hw_; clear hw; have hw := hw_; clear hw_; (try simp only [List.map_cons, List.map_nil, List.getD_cons_zero, List.getD_cons_succ, List.getD_nil, List.set_cons_zero, List.set_cons_succ, List.cons_append, List.nil_append, Act.eval, Array.getD_eq_getD_getElem?, List.getElem?_toArray, List.getElem?_cons_succ, List.getElem?_cons_zero, Option.getD_some, Value.cells] at hw); (try simp (disch := first | (simp; done) | (simp; omega)) only [Sep.mid_set, Sep.mid_set2, Sep.mid_set0, Sep.mid_splice, Sep.mid_splice0, List.set_cons_zero, List.set_cons_succ] at hw); (try simp only [Sep.splice, List.take_succ_cons, List.take_zero, List.drop_succ_cons, List.drop_zero, List.length_cons, List.length_nil, Nat.reduceAdd, List.cons_append, List.nil_append] at hw); (try replace hc0 := Sep.Holds.cells hw (i := 0) rfl); (try replace hc1 := Sep.Holds.cells hw (i := 1) rfl); (try replace hc2 := Sep.Holds.cells hw (i := 2) rfl); (try replace hc3 := Sep.Holds.cells hw (i := 3) rfl); (try replace hc4 := Sep.Holds.cells hw (i := 4) rfl); (try replace hc5 := Sep.Holds.cells hw (i := 5) rfl); (try replace hc6 := Sep.Holds.cells hw (i := 6) rfl)))
          go_roundw
          case rel =>
            refine ⟨6 + 1, c2 ++ [(be8 x.f3).getD 6 0], by decide, rfl, Sep.hid (by rw [Hc2.out, List.append_assoc]; rfl), ?_⟩
            rw [encB_append]
            exact hw.sel [0, 1, 2] (by decide)
          case measure => simp [intOf]
        | 7, _ =>
          obtain rfl : u7 = .int .i64 0 := hi7
          (try replace hc0 := Sep.Holds.cells hw (i := 0) rfl); (try replace hc1 := Sep.Holds.cells hw (i := 1) rfl); (try replace hc2 := Sep.Holds.cells hw (i := 2) rfl); (try replace hc3 := Sep.Holds.cells hw (i := 3) rfl); (try replace hc4 := Sep.Holds.cells hw (i := 4) rfl); (try replace hc5 := Sep.Holds.cells hw (i := 5) rfl); (try replace hc6 := Sep.Holds.cells hw (i := 6) rfl)
          go_wp2_with (first | (refine wpList_on rfl (wp_bsl1 rfl rfl (by rfl) (by rfl) (by decide) hw ?_); intro b_ w_ hw_; clear hw; have hw := hw_; clear hw_; (try simp only [List.map_cons, List.map_nil, List.getD_cons_zero, List.getD_cons_succ, List.getD_nil, List.set_cons_zero, List.set_cons_succ, List.cons_append, List.nil_append, Act.eval, Array.getD_eq_getD_getElem?, List.getElem?_toArray, List.getElem?_cons_succ, List.getElem?_cons_zero, Option.getD_some, Value.cells] at hw); (try simp (disch := first | (simp; done) | (simp; omega)) only [Sep.mid_set, Sep.mid_set2, Sep.mid_set0, Sep.mid_splice, Sep.mid_splice0, List.set_cons_zero, List.set_cons_succ] at hw); (try simp only [Sep.splice, List.take_succ_cons, List.take_zero, List.drop_succ_cons, List.drop_zero, List.length_cons, List.length_nil, Nat.reduceAdd, List.cons_append, List.nil_append] at hw); (try replace hc0 := Sep.Holds.cells hw (i := 0) rfl); (try replace hc1 := Sep.Holds.cells hw (i := 1) rfl); (try replace hc2 := Sep.Holds.cells hw (i := 2) rfl); (try replace hc3 := Sep.Holds.cells hw (i := 3) rfl); (try replace hc4 := Sep.Holds.cells hw (i := 4) rfl); (try replace hc5 := Sep.Holds.cells hw (i := 5) rfl); (try replace hc6 := Sep.Holds.cells hw (i := 6) rfl)) | (at_builtin; refine wpList_on rfl (wp_appendPt (i := 1) (j := 3) rfl rfl hw rfl rfl rfl (by rfl) (by simp [Value.oneCell']) (by decide) (by rfl) (by (try unfold maxLen); omega) (by (try unfold maxLen); omega) ?_); intro b2_ cap2_ off2_ w_ hcap2_ hw_; clear hw; have hw := hw_; clear hw_; (try simp only [List.map_cons, List.map_nil, List.getD_cons_zero, List.getD_cons_succ, List.getD_nil, List.set_cons_zero, List.set_cons_succ, List.cons_append, List.nil_append, Act.eval, Array.getD_eq_getD_getElem?, List.getElem?_toArray, List.getElem?_cons_succ, List.getElem?_cons_zero, Option.getD_some, Value.cells] at hw); (try simp (disch := first | (simp; done) | (simp; omega)) only [Sep.mid_set, Sep.mid_set2, Sep.mid_set0, Sep.mid_splice, Sep.mid_splice0, List.set_cons_zero, List.set_cons_succ] at hw); (try simp only [Sep.splice, List.take_succ_cons, List.take_zero, List.drop_succ_cons, List.drop_zero, List.length_cons, List.length_nil, Nat.reduceAdd, List.cons_append, List.nil_append] at hw); (try replace hc0 := Sep.Holds.cells hw (i := 0) rfl); (try replace hc1 := Sep.Holds.cells hw (i := 1) rfl); (try replace hc2 := Sep.Holds.cells hw (i := 2) rfl); (try replace hc3 := Sep.Holds.cells hw (i := 3) rfl); (try replace hc4 := Sep.Holds.cells hw (i := 4) rfl); (try replace hc5 := Sep.Holds.cells hw (i := 5) rfl); (try replace hc6 := Sep.Holds.cells hw (i := 6) rfl)))
          go_roundw
          case rel =>
            refine ⟨7 + 1, c2 ++ [(be8 x.f3).getD 7 0], by decide, rfl, Sep.hid (by rw [Hc2.out, List.append_assoc]; rfl), ?_⟩
            rw [encB_append]
            exact hw.sel [0, 1, 2] (by decide)
          case measure => simp [intOf]
        | 8, _ =>
          obtain rfl : u7 = .int .i64 (-8) := hi7
          have Hc4 : Hid (c2 = c ++ encIns x) := Sep.hid (by rw [Hc2.out, ← Hc3.out, List.append_assoc]; rfl)
          go_wp2_with fail
          go_roundw
          case rel =>
            refine ⟨k + 1, c2, by omega, by go_num, Sep.hid (by rw [Hc4.out, takeA Hx.out, List.flatMap_append, ← List.cons_append, ← Hc.out]; simp), Sep.hid (by rw [Hc4.out, List.length_append, Hcl.out, encIns_len]; omega), ?_⟩
            rw [show 1 + (k + 1) * 11 = 1 + k * 11 + 3 + 8 by omega]
            exact hw.sel [0, 1] (by decide)
          case measure => simp [intOf]; omega
    · have hke : n = k := by omega
      subst hke
      have Hd : Hid (c = bytesP l) := Sep.hid (by rw [Hc.out, List.take_of_length_le (by rw [hn.out]; omega)]; unfold bytesP; rw [hn.out])
      go_wp2_with fail
      refine HP.out _ _ ⟨_, rfl, ?_⟩
      unfold IsB
      rw [bytesP_len, hn.out, ← Hd.out]
      exact hw
end Go.Proofs.YteinbojpmhblkaaDoor
/-
  The walks of the document's Eight and Bytes; of Bytes where it refuses.
-/
namespace Go.Proofs.YteinbojpmhblkaaDoor
set_option linter.unusedSimpArgs false
set_option linter.unusedVariables false
open Go.RowKit Go.Sep
set_option maxRecDepth 20000

set_option maxHeartbeats 800000 in
theorem oBytes_no (l : List Deed) (n ca : Nat) (a : Option Addr) (hn : Hid (l.length = n)) (e w : World) (X : HProp) (hT : Tops e X) (hR : RdA e X a l) (hm : mayP l = false) (hw : Holds e w [X]) :
    Calls Tryd.prog 21 #[.slice a n ca] w fun en w' => en = .returned (.tuple #[.slice none 0 0, .int .i64 1]) ∧ Holds e w' [X] := by
  have hmay := fun w hw => oMay l n ca a hn e w X hT hR hw
  rw [hm] at hmay; clear hm hT hR
  refine Sep.calls_post ?_
  intro Post_ hPost_
  have HP := Sep.hid hPost_
  clear hPost_
  go_enter Tryd.func21, Tryd.ntmps21
  go_wp2_with fail
  refine (hmay _ hw).mono ?_
  rintro _ w_ ⟨rfl, hw_⟩
  clear hw hmay; have hw := hw_; clear hw_
  go_wp2_with fail
  exact HP.out _ _ ⟨rfl, hw⟩
def divN (u : Int) : Nat → Int | 0 => u | j + 1 => divN u j / 256
def be8L (u : Int) : List Int := [divN u 7 % 256, divN u 6 % 256, divN u 5 % 256, divN u 4 % 256, divN u 3 % 256, divN u 2 % 256, divN u 1 % 256, divN u 0 % 256]
def outJ (u : Int) (j : Nat) : List Int := List.replicate (8 - j) 0 ++ (be8L u).drop (8 - j)
theorem be8L_eq (n : Int) : be8L (IntKind.u64.wrap n) = be8 n := by
  unfold be8L be8
  simp only [divN]
  generalize IntKind.u64.wrap n = u
  simp only [List.cons.injEq, and_true]
  refine ⟨?_, ?_, ?_, ?_, ?_, ?_⟩ <;> omega
theorem divN_in {u : Int} (hu : 0 ≤ u ∧ u ≤ 18446744073709551615) : ∀ j, 0 ≤ divN u j ∧ divN u j ≤ 18446744073709551615
  | 0 => hu
  | j + 1 => by have := divN_in hu j; unfold divN; omega
set_option maxHeartbeats 8000000 in
theorem reight (u : Int) (hu : 0 ≤ u ∧ u ≤ 18446744073709551615) (e w : World) (X : HProp) (hw : Holds e w [X]) :
    Calls Tryd.prog 41 #[.int .u64 u] w fun en w' => ∃ b, en = .returned (.slice (some ⟨b, 0, none⟩) 8 8) ∧ Holds e w' [X, pt b (encB (be8L u)) 5] := by
  have Hu := Sep.hid hu; clear hu
  refine Sep.calls_post ?_
  intro Post_ hPost_
  have HP := Sep.hid hPost_
  clear hPost_
  go_enter Tryd.func41, Tryd.ntmps41
  go_wp2_with (refine wpList_on rfl (wp_make1 (n := 8) rfl rfl rfl rfl (by decide) (by decide) hw ?_); intro bk_ w_ hw_; clear hw; have hw := hw_; clear hw_; (try simp only [List.map_cons, List.map_nil, List.getD_cons_zero, List.getD_cons_succ, List.getD_nil, List.set_cons_zero, List.set_cons_succ, List.cons_append, List.nil_append, Act.eval, Array.getD_eq_getD_getElem?, List.getElem?_toArray, List.getElem?_cons_succ, List.getElem?_cons_zero, Option.getD_some, Value.cells] at hw); (try simp (disch := first | (simp; done) | (simp; omega)) only [Sep.mid_set, Sep.mid_set2, Sep.mid_set0, Sep.mid_splice, Sep.mid_splice0, List.set_cons_zero, List.set_cons_succ] at hw); (try simp only [Sep.splice, List.take_succ_cons, List.take_zero, List.drop_succ_cons, List.drop_zero, List.length_cons, List.length_nil, Nat.reduceAdd, List.cons_append, List.nil_append] at hw); (try replace hc0 := Sep.Holds.cells hw (i := 0) rfl); (try replace hc1 := Sep.Holds.cells hw (i := 1) rfl); (try replace hc2 := Sep.Holds.cells hw (i := 2) rfl); (try replace hc3 := Sep.Holds.cells hw (i := 3) rfl); (try replace hc4 := Sep.Holds.cells hw (i := 4) rfl); (try replace hc5 := Sep.Holds.cells hw (i := 5) rfl); (try replace hc6 := Sep.Holds.cells hw (i := 6) rfl))
  have hw : Holds e w_ [X, pt bk_ (encB (outJ u 0)) 5] := hw
  have Hw0 := Sep.hid hw; clear hw; (try clear hc0); (try clear hc1); (try clear hc2); (try clear hc3); (try clear hc4); (try clear hc5); (try clear hc6)
  go_loopw [4, 0] (fun i x wr => ∃ (j : Nat), j ≤ 8 ∧ i = .int .i64 (7 - (j : Int)) ∧ x = .int .u64 (divN u j) ∧ Holds e wr [X, pt bk_ (encB (outJ u j)) 5]) (fun i _ _ => (intOf i + 1).toNat)
  case atStart => exact ⟨0, Nat.zero_le _, rfl, rfl, Hw0.out⟩
  case round =>
    clear Hw0
    obtain ⟨j, hj, hi4, hu0, hw⟩ := hrel
    match j, hj with
    | 0, _ =>
      obtain rfl : u4 = .int .i64 7 := hi4
      obtain rfl : u0 = .int .u64 (divN u 0) := hu0
      have hd := divN_in Hu.out 0
      have Hq : Hid (IntKind.u64.wrap ((divN u 0).tdiv 256) = divN u 0 / 256) := Sep.hid (IntWalk.u64_quo _ _ ⟨hd.1, hd.2, by decide⟩)
      have Hm : Hid ((divN u 0).tmod 256 % 256 = divN u 0 % 256) := Sep.hid (by rw [IntWalk.rem_in _ _ hd.1]; omega)
      clear hd
      go_wp2_with (first | (refine wpList_on rfl (wp_store1 (v := _) (off := 7) rfl rfl rfl hw (i := 1) rfl (show 7 < 8 by decide) rfl ?_); intro w_ hw_; clear hw; have hw := hw_; clear hw_; (try simp only [List.map_cons, List.map_nil, List.getD_cons_zero, List.getD_cons_succ, List.getD_nil, List.set_cons_zero, List.set_cons_succ, List.cons_append, List.nil_append, Act.eval, Array.getD_eq_getD_getElem?, List.getElem?_toArray, List.getElem?_cons_succ, List.getElem?_cons_zero, Option.getD_some, Value.cells] at hw); (try simp (disch := first | (simp; done) | (simp; omega)) only [Sep.mid_set, Sep.mid_set2, Sep.mid_set0, Sep.mid_splice, Sep.mid_splice0, List.set_cons_zero, List.set_cons_succ] at hw); (try simp only [Sep.splice, List.take_succ_cons, List.take_zero, List.drop_succ_cons, List.drop_zero, List.length_cons, List.length_nil, Nat.reduceAdd, List.cons_append, List.nil_append] at hw); (try replace hc0 := Sep.Holds.cells hw (i := 0) rfl); (try replace hc1 := Sep.Holds.cells hw (i := 1) rfl); (try replace hc2 := Sep.Holds.cells hw (i := 2) rfl); (try replace hc3 := Sep.Holds.cells hw (i := 3) rfl); (try replace hc4 := Sep.Holds.cells hw (i := 4) rfl); (try replace hc5 := Sep.Holds.cells hw (i := 5) rfl); (try replace hc6 := Sep.Holds.cells hw (i := 6) rfl)))
      go_roundw
      case rel =>
        refine ⟨0 + 1, by decide, rfl, by rw [Hq.out]; rfl, ?_⟩
        simp only [Act.eval, Array.getD_eq_getD_getElem?, List.getElem?_toArray, List.getElem?_cons_succ, List.getElem?_cons_zero, Option.getD_some, Hm.out] at hw
        exact hw
      case measure => simp [intOf]
    | 1, _ =>
      obtain rfl : u4 = .int .i64 6 := hi4
      obtain rfl : u0 = .int .u64 (divN u 1) := hu0
      have hd := divN_in Hu.out 1
      have Hq : Hid (IntKind.u64.wrap ((divN u 1).tdiv 256) = divN u 1 / 256) := Sep.hid (IntWalk.u64_quo _ _ ⟨hd.1, hd.2, by decide⟩)
      have Hm : Hid ((divN u 1).tmod 256 % 256 = divN u 1 % 256) := Sep.hid (by rw [IntWalk.rem_in _ _ hd.1]; omega)
      clear hd
      go_wp2_with (first | (refine wpList_on rfl (wp_store1 (v := _) (off := 6) rfl rfl rfl hw (i := 1) rfl (show 6 < 8 by decide) rfl ?_); intro w_ hw_; clear hw; have hw := hw_; clear hw_; (try simp only [List.map_cons, List.map_nil, List.getD_cons_zero, List.getD_cons_succ, List.getD_nil, List.set_cons_zero, List.set_cons_succ, List.cons_append, List.nil_append, Act.eval, Array.getD_eq_getD_getElem?, List.getElem?_toArray, List.getElem?_cons_succ, List.getElem?_cons_zero, Option.getD_some, Value.cells] at hw); (try simp (disch := first | (simp; done) | (simp; omega)) only [Sep.mid_set, Sep.mid_set2, Sep.mid_set0, Sep.mid_splice, Sep.mid_splice0, List.set_cons_zero, List.set_cons_succ] at hw); (try simp only [Sep.splice, List.take_succ_cons, List.take_zero, List.drop_succ_cons, List.drop_zero, List.length_cons, List.length_nil, Nat.reduceAdd, List.cons_append, List.nil_append] at hw); (try replace hc0 := Sep.Holds.cells hw (i := 0) rfl); (try replace hc1 := Sep.Holds.cells hw (i := 1) rfl); (try replace hc2 := Sep.Holds.cells hw (i := 2) rfl); (try replace hc3 := Sep.Holds.cells hw (i := 3) rfl); (try replace hc4 := Sep.Holds.cells hw (i := 4) rfl); (try replace hc5 := Sep.Holds.cells hw (i := 5) rfl); (try replace hc6 := Sep.Holds.cells hw (i := 6) rfl)))
      go_roundw
      case rel =>
        refine ⟨1 + 1, by decide, rfl, by rw [Hq.out]; rfl, ?_⟩
        simp only [Act.eval, Array.getD_eq_getD_getElem?, List.getElem?_toArray, List.getElem?_cons_succ, List.getElem?_cons_zero, Option.getD_some, Hm.out] at hw
        exact hw
      case measure => simp [intOf]
    | 2, _ =>
      obtain rfl : u4 = .int .i64 5 := hi4
      obtain rfl : u0 = .int .u64 (divN u 2) := hu0
      have hd := divN_in Hu.out 2
      have Hq : Hid (IntKind.u64.wrap ((divN u 2).tdiv 256) = divN u 2 / 256) := Sep.hid (IntWalk.u64_quo _ _ ⟨hd.1, hd.2, by decide⟩)
      have Hm : Hid ((divN u 2).tmod 256 % 256 = divN u 2 % 256) := Sep.hid (by rw [IntWalk.rem_in _ _ hd.1]; omega)
      clear hd
      go_wp2_with (first | (refine wpList_on rfl (wp_store1 (v := _) (off := 5) rfl rfl rfl hw (i := 1) rfl (show 5 < 8 by decide) rfl ?_); intro w_ hw_; clear hw; have hw := hw_; clear hw_; (try simp only [List.map_cons, List.map_nil, List.getD_cons_zero, List.getD_cons_succ, List.getD_nil, List.set_cons_zero, List.set_cons_succ, List.cons_append, List.nil_append, Act.eval, Array.getD_eq_getD_getElem?, List.getElem?_toArray, List.getElem?_cons_succ, List.getElem?_cons_zero, Option.getD_some, Value.cells] at hw); (try simp (disch := first | (simp; done) | (simp; omega)) only [Sep.mid_set, Sep.mid_set2, Sep.mid_set0, Sep.mid_splice, Sep.mid_splice0, List.set_cons_zero, List.set_cons_succ] at hw); (try simp only [Sep.splice, List.take_succ_cons, List.take_zero, List.drop_succ_cons, List.drop_zero, List.length_cons, List.length_nil, Nat.reduceAdd, List.cons_append, List.nil_append] at hw); (try replace hc0 := Sep.Holds.cells hw (i := 0) rfl); (try replace hc1 := Sep.Holds.cells hw (i := 1) rfl); (try replace hc2 := Sep.Holds.cells hw (i := 2) rfl); (try replace hc3 := Sep.Holds.cells hw (i := 3) rfl); (try replace hc4 := Sep.Holds.cells hw (i := 4) rfl); (try replace hc5 := Sep.Holds.cells hw (i := 5) rfl); (try replace hc6 := Sep.Holds.cells hw (i := 6) rfl)))
      go_roundw
      case rel =>
        refine ⟨2 + 1, by decide, rfl, by rw [Hq.out]; rfl, ?_⟩
        simp only [Act.eval, Array.getD_eq_getD_getElem?, List.getElem?_toArray, List.getElem?_cons_succ, List.getElem?_cons_zero, Option.getD_some, Hm.out] at hw
        exact hw
      case measure => simp [intOf]
    | 3, _ =>
      obtain rfl : u4 = .int .i64 4 := hi4
      obtain rfl : u0 = .int .u64 (divN u 3) := hu0
      have hd := divN_in Hu.out 3
      have Hq : Hid (IntKind.u64.wrap ((divN u 3).tdiv 256) = divN u 3 / 256) := Sep.hid (IntWalk.u64_quo _ _ ⟨hd.1, hd.2, by decide⟩)
      have Hm : Hid ((divN u 3).tmod 256 % 256 = divN u 3 % 256) := Sep.hid (by rw [IntWalk.rem_in _ _ hd.1]; omega)
      clear hd
      go_wp2_with (first | (refine wpList_on rfl (wp_store1 (v := _) (off := 4) rfl rfl rfl hw (i := 1) rfl (show 4 < 8 by decide) rfl ?_); intro w_ hw_; clear hw; have hw := hw_; clear hw_; (try simp only [List.map_cons, List.map_nil, List.getD_cons_zero, List.getD_cons_succ, List.getD_nil, List.set_cons_zero, List.set_cons_succ, List.cons_append, List.nil_append, Act.eval, Array.getD_eq_getD_getElem?, List.getElem?_toArray, List.getElem?_cons_succ, List.getElem?_cons_zero, Option.getD_some, Value.cells] at hw); (try simp (disch := first | (simp; done) | (simp; omega)) only [Sep.mid_set, Sep.mid_set2, Sep.mid_set0, Sep.mid_splice, Sep.mid_splice0, List.set_cons_zero, List.set_cons_succ] at hw); (try simp only [Sep.splice, List.take_succ_cons, List.take_zero, List.drop_succ_cons, List.drop_zero, List.length_cons, List.length_nil, Nat.reduceAdd, List.cons_append, List.nil_append] at hw); (try replace hc0 := Sep.Holds.cells hw (i := 0) rfl); (try replace hc1 := Sep.Holds.cells hw (i := 1) rfl); (try replace hc2 := Sep.Holds.cells hw (i := 2) rfl); (try replace hc3 := Sep.Holds.cells hw (i := 3) rfl); (try replace hc4 := Sep.Holds.cells hw (i := 4) rfl); (try replace hc5 := Sep.Holds.cells hw (i := 5) rfl); (try replace hc6 := Sep.Holds.cells hw (i := 6) rfl)))
      go_roundw
      case rel =>
        refine ⟨3 + 1, by decide, rfl, by rw [Hq.out]; rfl, ?_⟩
        simp only [Act.eval, Array.getD_eq_getD_getElem?, List.getElem?_toArray, List.getElem?_cons_succ, List.getElem?_cons_zero, Option.getD_some, Hm.out] at hw
        exact hw
      case measure => simp [intOf]
    | 4, _ =>
      obtain rfl : u4 = .int .i64 3 := hi4
      obtain rfl : u0 = .int .u64 (divN u 4) := hu0
      have hd := divN_in Hu.out 4
      have Hq : Hid (IntKind.u64.wrap ((divN u 4).tdiv 256) = divN u 4 / 256) := Sep.hid (IntWalk.u64_quo _ _ ⟨hd.1, hd.2, by decide⟩)
      have Hm : Hid ((divN u 4).tmod 256 % 256 = divN u 4 % 256) := Sep.hid (by rw [IntWalk.rem_in _ _ hd.1]; omega)
      clear hd
      go_wp2_with (first | (refine wpList_on rfl (wp_store1 (v := _) (off := 3) rfl rfl rfl hw (i := 1) rfl (show 3 < 8 by decide) rfl ?_); intro w_ hw_; clear hw; have hw := hw_; clear hw_; (try simp only [List.map_cons, List.map_nil, List.getD_cons_zero, List.getD_cons_succ, List.getD_nil, List.set_cons_zero, List.set_cons_succ, List.cons_append, List.nil_append, Act.eval, Array.getD_eq_getD_getElem?, List.getElem?_toArray, List.getElem?_cons_succ, List.getElem?_cons_zero, Option.getD_some, Value.cells] at hw); (try simp (disch := first | (simp; done) | (simp; omega)) only [Sep.mid_set, Sep.mid_set2, Sep.mid_set0, Sep.mid_splice, Sep.mid_splice0, List.set_cons_zero, List.set_cons_succ] at hw); (try simp only [Sep.splice, List.take_succ_cons, List.take_zero, List.drop_succ_cons, List.drop_zero, List.length_cons, List.length_nil, Nat.reduceAdd, List.cons_append, List.nil_append] at hw); (try replace hc0 := Sep.Holds.cells hw (i := 0) rfl); (try replace hc1 := Sep.Holds.cells hw (i := 1) rfl); (try replace hc2 := Sep.Holds.cells hw (i := 2) rfl); (try replace hc3 := Sep.Holds.cells hw (i := 3) rfl); (try replace hc4 := Sep.Holds.cells hw (i := 4) rfl); (try replace hc5 := Sep.Holds.cells hw (i := 5) rfl); (try replace hc6 := Sep.Holds.cells hw (i := 6) rfl)))
      go_roundw
      case rel =>
        refine ⟨4 + 1, by decide, rfl, by rw [Hq.out]; rfl, ?_⟩
        simp only [Act.eval, Array.getD_eq_getD_getElem?, List.getElem?_toArray, List.getElem?_cons_succ, List.getElem?_cons_zero, Option.getD_some, Hm.out] at hw
        exact hw
      case measure => simp [intOf]
    | 5, _ =>
      obtain rfl : u4 = .int .i64 2 := hi4
      obtain rfl : u0 = .int .u64 (divN u 5) := hu0
      have hd := divN_in Hu.out 5
      have Hq : Hid (IntKind.u64.wrap ((divN u 5).tdiv 256) = divN u 5 / 256) := Sep.hid (IntWalk.u64_quo _ _ ⟨hd.1, hd.2, by decide⟩)
      have Hm : Hid ((divN u 5).tmod 256 % 256 = divN u 5 % 256) := Sep.hid (by rw [IntWalk.rem_in _ _ hd.1]; omega)
      clear hd
      go_wp2_with (first | (refine wpList_on rfl (wp_store1 (v := _) (off := 2) rfl rfl rfl hw (i := 1) rfl (show 2 < 8 by decide) rfl ?_); intro w_ hw_; clear hw; have hw := hw_; clear hw_; (try simp only [List.map_cons, List.map_nil, List.getD_cons_zero, List.getD_cons_succ, List.getD_nil, List.set_cons_zero, List.set_cons_succ, List.cons_append, List.nil_append, Act.eval, Array.getD_eq_getD_getElem?, List.getElem?_toArray, List.getElem?_cons_succ, List.getElem?_cons_zero, Option.getD_some, Value.cells] at hw); (try simp (disch := first | (simp; done) | (simp; omega)) only [Sep.mid_set, Sep.mid_set2, Sep.mid_set0, Sep.mid_splice, Sep.mid_splice0, List.set_cons_zero, List.set_cons_succ] at hw); (try simp only [Sep.splice, List.take_succ_cons, List.take_zero, List.drop_succ_cons, List.drop_zero, List.length_cons, List.length_nil, Nat.reduceAdd, List.cons_append, List.nil_append] at hw); (try replace hc0 := Sep.Holds.cells hw (i := 0) rfl); (try replace hc1 := Sep.Holds.cells hw (i := 1) rfl); (try replace hc2 := Sep.Holds.cells hw (i := 2) rfl); (try replace hc3 := Sep.Holds.cells hw (i := 3) rfl); (try replace hc4 := Sep.Holds.cells hw (i := 4) rfl); (try replace hc5 := Sep.Holds.cells hw (i := 5) rfl); (try replace hc6 := Sep.Holds.cells hw (i := 6) rfl)))
      go_roundw
      case rel =>
        refine ⟨5 + 1, by decide, rfl, by rw [Hq.out]; rfl, ?_⟩
        simp only [Act.eval, Array.getD_eq_getD_getElem?, List.getElem?_toArray, List.getElem?_cons_succ, List.getElem?_cons_zero, Option.getD_some, Hm.out] at hw
        exact hw
      case measure => simp [intOf]
    | 6, _ =>
      obtain rfl : u4 = .int .i64 1 := hi4
      obtain rfl : u0 = .int .u64 (divN u 6) := hu0
      have hd := divN_in Hu.out 6
      have Hq : Hid (IntKind.u64.wrap ((divN u 6).tdiv 256) = divN u 6 / 256) := Sep.hid (IntWalk.u64_quo _ _ ⟨hd.1, hd.2, by decide⟩)
      have Hm : Hid ((divN u 6).tmod 256 % 256 = divN u 6 % 256) := Sep.hid (by rw [IntWalk.rem_in _ _ hd.1]; omega)
      clear hd
      go_wp2_with (first | (refine wpList_on rfl (wp_store1 (v := _) (off := 1) rfl rfl rfl hw (i := 1) rfl (show 1 < 8 by decide) rfl ?_); intro w_ hw_; clear hw; have hw := hw_; clear hw_; (try simp only [List.map_cons, List.map_nil, List.getD_cons_zero, List.getD_cons_succ, List.getD_nil, List.set_cons_zero, List.set_cons_succ, List.cons_append, List.nil_append, Act.eval, Array.getD_eq_getD_getElem?, List.getElem?_toArray, List.getElem?_cons_succ, List.getElem?_cons_zero, Option.getD_some, Value.cells] at hw); (try simp (disch := first | (simp; done) | (simp; omega)) only [Sep.mid_set, Sep.mid_set2, Sep.mid_set0, Sep.mid_splice, Sep.mid_splice0, List.set_cons_zero, List.set_cons_succ] at hw); (try simp only [Sep.splice, List.take_succ_cons, List.take_zero, List.drop_succ_cons, List.drop_zero, List.length_cons, List.length_nil, Nat.reduceAdd, List.cons_append, List.nil_append] at hw); (try replace hc0 := Sep.Holds.cells hw (i := 0) rfl); (try replace hc1 := Sep.Holds.cells hw (i := 1) rfl); (try replace hc2 := Sep.Holds.cells hw (i := 2) rfl); (try replace hc3 := Sep.Holds.cells hw (i := 3) rfl); (try replace hc4 := Sep.Holds.cells hw (i := 4) rfl); (try replace hc5 := Sep.Holds.cells hw (i := 5) rfl); (try replace hc6 := Sep.Holds.cells hw (i := 6) rfl)))
      go_roundw
      case rel =>
        refine ⟨6 + 1, by decide, rfl, by rw [Hq.out]; rfl, ?_⟩
        simp only [Act.eval, Array.getD_eq_getD_getElem?, List.getElem?_toArray, List.getElem?_cons_succ, List.getElem?_cons_zero, Option.getD_some, Hm.out] at hw
        exact hw
      case measure => simp [intOf]
    | 7, _ =>
      obtain rfl : u4 = .int .i64 0 := hi4
      obtain rfl : u0 = .int .u64 (divN u 7) := hu0
      have hd := divN_in Hu.out 7
      have Hq : Hid (IntKind.u64.wrap ((divN u 7).tdiv 256) = divN u 7 / 256) := Sep.hid (IntWalk.u64_quo _ _ ⟨hd.1, hd.2, by decide⟩)
      have Hm : Hid ((divN u 7).tmod 256 % 256 = divN u 7 % 256) := Sep.hid (by rw [IntWalk.rem_in _ _ hd.1]; omega)
      clear hd
      go_wp2_with (first | (refine wpList_on rfl (wp_store1 (v := _) (off := 0) rfl rfl rfl hw (i := 1) rfl (show 0 < 8 by decide) rfl ?_); intro w_ hw_; clear hw; have hw := hw_; clear hw_; (try simp only [List.map_cons, List.map_nil, List.getD_cons_zero, List.getD_cons_succ, List.getD_nil, List.set_cons_zero, List.set_cons_succ, List.cons_append, List.nil_append, Act.eval, Array.getD_eq_getD_getElem?, List.getElem?_toArray, List.getElem?_cons_succ, List.getElem?_cons_zero, Option.getD_some, Value.cells] at hw); (try simp (disch := first | (simp; done) | (simp; omega)) only [Sep.mid_set, Sep.mid_set2, Sep.mid_set0, Sep.mid_splice, Sep.mid_splice0, List.set_cons_zero, List.set_cons_succ] at hw); (try simp only [Sep.splice, List.take_succ_cons, List.take_zero, List.drop_succ_cons, List.drop_zero, List.length_cons, List.length_nil, Nat.reduceAdd, List.cons_append, List.nil_append] at hw); (try replace hc0 := Sep.Holds.cells hw (i := 0) rfl); (try replace hc1 := Sep.Holds.cells hw (i := 1) rfl); (try replace hc2 := Sep.Holds.cells hw (i := 2) rfl); (try replace hc3 := Sep.Holds.cells hw (i := 3) rfl); (try replace hc4 := Sep.Holds.cells hw (i := 4) rfl); (try replace hc5 := Sep.Holds.cells hw (i := 5) rfl); (try replace hc6 := Sep.Holds.cells hw (i := 6) rfl)))
      go_roundw
      case rel =>
        refine ⟨7 + 1, by decide, rfl, by rw [Hq.out]; rfl, ?_⟩
        simp only [Act.eval, Array.getD_eq_getD_getElem?, List.getElem?_toArray, List.getElem?_cons_succ, List.getElem?_cons_zero, Option.getD_some, Hm.out] at hw
        exact hw
      case measure => simp [intOf]
    | 8, _ =>
      obtain rfl : u4 = .int .i64 (-1) := hi4
      obtain rfl : u0 = .int .u64 (divN u 8) := hu0
      go_wp2_with fail
      exact HP.out _ _ ⟨_, rfl, hw⟩
set_option maxHeartbeats 800000 in
theorem rEight (n : Int) (e w : World) (X : HProp) (hw : Holds e w [X]) :
    Calls Tryd.prog 22 #[.int .i64 n] w fun en w' => ∃ b, en = .returned (.slice (some ⟨b, 0, none⟩) 8 8) ∧ Holds e w' [X, pt b (encB (be8 n)) 5] := by
  have Hu : Hid (0 ≤ IntKind.u64.wrap n ∧ IntKind.u64.wrap n ≤ 18446744073709551615) := Sep.hid (by
    have h1 : IntKind.u64.wrap n = n % 18446744073709551616 := IntKind.wrap_u64 n
    rw [h1]; omega)
  have Hb := Sep.hid (be8L_eq n)
  refine Sep.calls_post ?_
  intro Post_ hPost_
  have HP := Sep.hid hPost_
  clear hPost_
  go_enter Tryd.func22, Tryd.ntmps22
  go_wp2_with fail
  refine (reight (IntKind.u64.wrap n) Hu.out e _ X hw).mono ?_
  rintro _ w_ ⟨b, rfl, hw_⟩
  rw [Hb.out] at hw_
  go_wp2_with fail
  exact HP.out _ _ ⟨b, rfl, hw_⟩
end Go.Proofs.YteinbojpmhblkaaDoor
/-
  The walk of the document's Bytes.
-/
namespace Go.Proofs.YteinbojpmhblkaaDoor
set_option linter.unusedSimpArgs false
set_option linter.unusedVariables false
open Go.RowKit Go.Sep
set_option maxRecDepth 20000

set_option maxHeartbeats 800000 in
theorem rBytes_no (l : List Deed) (n ca : Nat) (a : Option Addr) (hn : Hid (l.length = n)) (hn2 : n ≤ 1000000) (e w : World) (X : HProp) (hR : RdA e X a l) (hm : mayP l = false) (hw : Holds e w [X]) :
    Calls Tryd.prog 23 #[.slice a n ca] w fun en w' => en = .returned (.tuple #[.slice none 0 0, .int .i64 1]) ∧ Holds e w' [X] := by
  have hmay := fun w hw => rMay l n ca a hn hn2 e w X hR hw
  rw [hm] at hmay; clear hm hR
  refine Sep.calls_post ?_
  intro Post_ hPost_
  have HP := Sep.hid hPost_
  clear hPost_
  go_enter Tryd.func23, Tryd.ntmps23
  go_wp2_with fail
  refine (hmay _ hw).mono ?_
  rintro _ w_ ⟨rfl, hw_⟩
  clear hw hmay; have hw := hw_; clear hw_
  go_wp2_with fail
  exact HP.out _ _ ⟨rfl, hw⟩
set_option maxRecDepth 20000 in
set_option maxHeartbeats 8000000 in
theorem rBytes (l : List Deed) (n ca : Nat) (a : Option Addr) (hn : Hid (l.length = n)) (e w : World) (X : HProp) (hR : RdA e X a l) (hm : mayP l = true) (hw : Holds e w [X]) :
    Calls Tryd.prog 23 #[.slice a n ca] w fun en w' => ∃ v, en = .returned (.tuple #[v, .int .i64 0]) ∧ Holds e w' [X, IsB v (bytesP l)] := by
  have Hn24 : Hid (1 ≤ n ∧ n ≤ 24) := Sep.hid (by
    unfold mayP at hm; rw [Bool.and_eq_true, decide_eq_true_eq, hn.out] at hm; exact hm.1)
  have hmay := fun w hw => rMay l n ca a hn (by have := Hn24.out; omega) e w X hR hw
  rw [hm] at hmay; clear hm
  have HR := Sep.hid hR; clear hR
  refine Sep.calls_post ?_
  intro Post_ hPost_
  have HP := Sep.hid hPost_
  clear hPost_
  go_enter Tryd.func23, Tryd.ntmps23
  go_wp2_with fail
  refine (hmay _ hw).mono ?_
  rintro _ w_ ⟨rfl, hw_⟩
  clear hw hmay; have hw := hw_; clear hw_
  go_wp2_with (refine wpList_on rfl (wp_bsl1 rfl rfl (by rfl) (by rfl) (by decide) hw ?_); intro b_ w_ hw_; replace hw_ := hw_.newSl (i := 1) rfl 1 1 rfl (by decide); clear hw; have hw := hw_; clear hw_; (try simp only [List.map_cons, List.map_nil, List.getD_cons_zero, List.getD_cons_succ, List.getD_nil, List.set_cons_zero, List.set_cons_succ, List.cons_append, List.nil_append, Act.eval, Array.getD_eq_getD_getElem?, List.getElem?_toArray, List.getElem?_cons_succ, List.getElem?_cons_zero, Option.getD_some, Value.cells] at hw); (try simp (disch := first | (simp; done) | (simp; omega)) only [Sep.mid_set, Sep.mid_set2, Sep.mid_set0, Sep.mid_splice, Sep.mid_splice0, List.set_cons_zero, List.set_cons_succ] at hw); (try simp only [Sep.splice, List.take_succ_cons, List.take_zero, List.drop_succ_cons, List.drop_zero, List.length_cons, List.length_nil, Nat.reduceAdd, List.cons_append, List.nil_append] at hw); (try replace hc0 := Sep.Holds.cells hw (i := 0) rfl); (try replace hc1 := Sep.Holds.cells hw (i := 1) rfl); (try replace hc2 := Sep.Holds.cells hw (i := 2) rfl); (try replace hc3 := Sep.Holds.cells hw (i := 3) rfl); (try replace hc4 := Sep.Holds.cells hw (i := 4) rfl); (try replace hc5 := Sep.Holds.cells hw (i := 5) rfl); (try replace hc6 := Sep.Holds.cells hw (i := 6) rfl))
  have Hw0 := Sep.hid hw; clear hw; (try clear hc0); (try clear hc1); (try clear hc2); (try clear hc3); (try clear hc4); (try clear hc5); (try clear hc6)
  go_loopw [5, 4] (fun i o wr => ∃ (k : Nat) (c : List Int), k ≤ n ∧ i = .int .i64 k ∧ Hid (c = (n : Int) % 256 :: (l.take k).flatMap encIns) ∧ Hid (c.length = 1 + k * 11) ∧ Holds e wr [X, Sl 5 1 o (1 + k * 11) (encB c)]) (fun i _ _ => n - (intOf i).toNat)
  case atStart => exact ⟨0, [(n : Int) % 256], Nat.zero_le _, rfl, Sep.hid rfl, Sep.hid rfl, Hw0.out⟩
  case round =>
    clear Hw0
    obtain ⟨k, c, hk, rfl, Hc, Hcl, hw⟩ := hrel
    obtain ⟨oa, oc, rfl⟩ := Sl.value (i := 1) rfl hw
    by_cases hlt : k < n
    · obtain ⟨x, hx⟩ : ∃ x, l[k]? = some x := ⟨_, List.getElem?_eq_getElem (by rw [hn.out]; exact hlt)⟩
      obtain ⟨p, rfl, hcc⟩ := HR.out _ _ 0 hw rfl k x hx
      have hcc2 := HR.out
      have Hg : Hid (∀ w', Holds e w' [X] → w'.cell? (p.add (k * 4)) = some (.int .i64 x.f0) ∧ w'.cell? ⟨(p.add (k * 4)).block, (p.add (k * 4)).off + 1, none⟩ = some (.int .i64 x.f1) ∧ w'.cell? ⟨(p.add (k * 4)).block, (p.add (k * 4)).off + 2, none⟩ = some (.int .i64 x.f2) ∧ w'.cell? ⟨(p.add (k * 4)).block, (p.add (k * 4)).off + 3, none⟩ = some (.int .i64 x.f3)) := Sep.hid (fun w' hw' => by
        obtain ⟨p2, hp2, hc⟩ := hcc2 w' [X] 0 hw' rfl k x hx
        cases hp2
        have h0 := hc 0 _ rfl
        rw [show ((p.add (k * 4)).add 0) = p.add (k * 4) by rw [Go.Deep.add_add]; rfl] at h0
        exact ⟨h0, hc 1 _ rfl, hc 2 _ rfl, hc 3 _ rfl⟩)
      clear hcc hcc2
      have Hx := Sep.hid hx; clear hx
      have hk24 : k ≤ 24 := by have := Hn24.out; omega
      obtain ⟨g0, g1, g2, g3⟩ := Hg.out _ (hw.sel [0] (by decide))
      go_wp2_with fail
      refine wp_region_L [19, 20] [(5, (fun w' => w' = wr.drew)), (11, (fun w' => w' = wr.drew)), (17, (fun w' => w' = wr.drew))] (n := 22) (listed := (marks 22 0)) (by kernel_rfl) rfl (by kernel_rfl) ?conds1 ?_
      case conds1 =>
       intro c hc
       simp only [List.mem_cons, List.not_mem_nil, or_false] at hc
       rcases hc with rfl | rfl | rfl
       · rfl
       · rfl
       · rfl
      replace hw := hw.drew
      refine wpL_q 0 ?_ rfl (Or.inl ⟨by rfl, fun w_ hS_ => ?_⟩) (marks 22 1) ?_
      rotate_left
      next => (go_simp; try (first | rfl | exact (Bool.not_not _).symm))
      try simp only [Act.put, List.setIfInBounds_toArray, List.set_cons_zero, List.set_cons_succ]
      refine wpL_q 1 ?_ rfl (Or.inl ⟨by rfl, fun w_ hS_ => ?_⟩) (marks 22 3) ?_
      rotate_left
      next => (go_simp; try (first | rfl | exact (Bool.not_not _).symm))
      try simp only [Act.put, List.setIfInBounds_toArray, List.set_cons_zero, List.set_cons_succ]
      refine wpL_q 2 ?_ rfl (Or.inl ⟨by rfl, fun w_ hS_ => ?_⟩) (marks 22 7) ?_
      rotate_left
      next => (go_simp; try (first | rfl | exact (Bool.not_not _).symm))
      try simp only [Act.put, List.setIfInBounds_toArray, List.set_cons_zero, List.set_cons_succ]
      refine wpL_q 3 ?_ rfl (Or.inl ⟨by rfl, fun w_ hS_ => ?_⟩) (marks 22 15) ?_
      rotate_left
      next => (go_simp; try (first | rfl | exact (Bool.not_not _).symm))
      try simp only [Act.put, List.setIfInBounds_toArray, List.set_cons_zero, List.set_cons_succ]
      refine wpL_q 4 ?_ rfl (Or.inl ⟨by rfl, fun w_ hS_ => ?_⟩) (marks 22 31) ?_
      rotate_left
      next => (go_simp; try (first | rfl | exact (Bool.not_not _).symm))
      try simp only [Act.put, List.setIfInBounds_toArray, List.set_cons_zero, List.set_cons_succ]
      refine wpL_m 5 ?_ rfl (.head _) (Or.inl ⟨by rfl, fun w_ hS_ => ?_⟩) (marks 22 63) ?_
      rotate_left
      next => (subst hS_; go_simp; try (first | rfl | exact (Bool.not_not _).symm))
      try simp only [Act.put, List.setIfInBounds_toArray, List.set_cons_zero, List.set_cons_succ]
      refine wpL_q 6 ?_ rfl (Or.inl ⟨by rfl, fun w_ hS_ => ?_⟩) (marks 22 127) ?_
      rotate_left
      next => (go_simp; try (first | rfl | exact (Bool.not_not _).symm))
      try simp only [Act.put, List.setIfInBounds_toArray, List.set_cons_zero, List.set_cons_succ]
      refine wpL_q 7 ?_ rfl (Or.inl ⟨by rfl, fun w_ hS_ => ?_⟩) (marks 22 255) ?_
      rotate_left
      next => (go_simp; try (first | rfl | exact (Bool.not_not _).symm))
      try simp only [Act.put, List.setIfInBounds_toArray, List.set_cons_zero, List.set_cons_succ]
      refine wpL_q 8 ?_ rfl (Or.inl ⟨by rfl, fun w_ hS_ => ?_⟩) (marks 22 511) ?_
      rotate_left
      next => (go_simp; try (first | rfl | exact (Bool.not_not _).symm))
      try simp only [Act.put, List.setIfInBounds_toArray, List.set_cons_zero, List.set_cons_succ]
      refine wpL_q 9 ?_ rfl (Or.inl ⟨by rfl, fun w_ hS_ => ?_⟩) (marks 22 1023) ?_
      rotate_left
      next => (go_simp; try (first | rfl | exact (Bool.not_not _).symm))
      try simp only [Act.put, List.setIfInBounds_toArray, List.set_cons_zero, List.set_cons_succ]
      refine wpL_q 10 ?_ rfl (Or.inl ⟨by rfl, fun w_ hS_ => ?_⟩) (marks 22 2047) ?_
      rotate_left
      next => (go_simp; try (first | rfl | exact (Bool.not_not _).symm))
      try simp only [Act.put, List.setIfInBounds_toArray, List.set_cons_zero, List.set_cons_succ]
      refine wpL_m 11 ?_ rfl (.tail _ (.head _)) (Or.inl ⟨by rfl, fun w_ hS_ => ?_⟩) (marks 22 4095) ?_
      rotate_left
      next => (subst hS_; go_simp; try (first | rfl | exact (Bool.not_not _).symm))
      try simp only [Act.put, List.setIfInBounds_toArray, List.set_cons_zero, List.set_cons_succ]
      refine wpL_q 12 ?_ rfl (Or.inl ⟨by rfl, fun w_ hS_ => ?_⟩) (marks 22 8191) ?_
      rotate_left
      next => (go_simp; try (first | rfl | exact (Bool.not_not _).symm))
      try simp only [Act.put, List.setIfInBounds_toArray, List.set_cons_zero, List.set_cons_succ]
      refine wpL_q 13 ?_ rfl (Or.inl ⟨by rfl, fun w_ hS_ => ?_⟩) (marks 22 16383) ?_
      rotate_left
      next => (go_simp; try (first | rfl | exact (Bool.not_not _).symm))
      try simp only [Act.put, List.setIfInBounds_toArray, List.set_cons_zero, List.set_cons_succ]
      refine wpL_q 14 ?_ rfl (Or.inl ⟨by rfl, fun w_ hS_ => ?_⟩) (marks 22 32767) ?_
      rotate_left
      next => (go_simp; try (first | rfl | exact (Bool.not_not _).symm))
      try simp only [Act.put, List.setIfInBounds_toArray, List.set_cons_zero, List.set_cons_succ]
      refine wpL_q 15 ?_ rfl (Or.inl ⟨by rfl, fun w_ hS_ => ?_⟩) (marks 22 65535) ?_
      rotate_left
      next => (go_simp; try (first | rfl | exact (Bool.not_not _).symm))
      try simp only [Act.put, List.setIfInBounds_toArray, List.set_cons_zero, List.set_cons_succ]
      refine wpL_q 16 ?_ rfl (Or.inl ⟨by rfl, fun w_ hS_ => ?_⟩) (marks 22 131071) ?_
      rotate_left
      next => (go_simp; try (first | rfl | exact (Bool.not_not _).symm))
      try simp only [Act.put, List.setIfInBounds_toArray, List.set_cons_zero, List.set_cons_succ]
      refine wpL_m 17 ?_ rfl (.tail _ (.tail _ (.head _))) (Or.inl ⟨by rfl, fun w_ hS_ => ?_⟩) (marks 22 262143) ?_
      rotate_left
      next => (subst hS_; go_simp; try (first | rfl | exact (Bool.not_not _).symm))
      try simp only [Act.put, List.setIfInBounds_toArray, List.set_cons_zero, List.set_cons_succ]
      refine wpL_q 18 ?_ rfl (Or.inl ⟨by rfl, fun w_ hS_ => ?_⟩) (marks 22 524287) ?_
      rotate_left
      next => (go_simp; try (first | rfl | exact (Bool.not_not _).symm))
      try simp only [Act.put, List.setIfInBounds_toArray, List.set_cons_zero, List.set_cons_succ]
      refine wpL_o 19 rfl (by rfl) (marks 22 1048575) ?_
      (refine wp_buildSlice [.int .u8 (x.f0 % 256), .int .u8 (x.f1 % 256), .int .u8 (x.f2 % 256)] rfl hw (by decide) (by go_simp; exact ⟨IntKind.wrap_u8 _, IntKind.wrap_u8 _, IntKind.wrap_u8 _⟩) rfl ?_; intro b3_ w_ hw_; clear hw; have hw := hw_; clear hw_; (try simp only [List.map_cons, List.map_nil, List.getD_cons_zero, List.getD_cons_succ, List.getD_nil, List.set_cons_zero, List.set_cons_succ, List.cons_append, List.nil_append, Act.eval, Array.getD_eq_getD_getElem?, List.getElem?_toArray, List.getElem?_cons_succ, List.getElem?_cons_zero, Option.getD_some, Value.cells] at hw); (try simp (disch := first | (simp; done) | (simp; omega)) only [Sep.mid_set, Sep.mid_set2, Sep.mid_set0, Sep.mid_splice, Sep.mid_splice0, List.set_cons_zero, List.set_cons_succ] at hw); (try simp only [Sep.splice, List.take_succ_cons, List.take_zero, List.drop_succ_cons, List.drop_zero, List.length_cons, List.length_nil, Nat.reduceAdd, List.cons_append, List.nil_append] at hw); (try replace hc0 := Sep.Holds.cells hw (i := 0) rfl); (try replace hc1 := Sep.Holds.cells hw (i := 1) rfl); (try replace hc2 := Sep.Holds.cells hw (i := 2) rfl); (try replace hc3 := Sep.Holds.cells hw (i := 3) rfl); (try replace hc4 := Sep.Holds.cells hw (i := 4) rfl); (try replace hc5 := Sep.Holds.cells hw (i := 5) rfl); (try replace hc6 := Sep.Holds.cells hw (i := 6) rfl))
      refine ⟨(SL.drop 19 (by kernel_rfl) (SL.drop 19 (by kernel_rfl) (SL.drop 19 (by kernel_rfl) SL.nil))), ?_⟩
      try simp only [Act.put, List.setIfInBounds_toArray, List.set_cons_zero, List.set_cons_succ]
      refine wpL_o 20 rfl (by rfl) (marks 22 2097151) ?_
      (refine wp_appendPt (i := 1) (j := 2) rfl rfl hw rfl rfl rfl rfl (by simp [Value.oneCell']) (by decide) (by rfl) (by (try unfold maxLen); omega) (by (try unfold maxLen); omega) ?_; intro b2_ cap2_ off2_ w_ hcap2_ hw_; clear hw; have hw := hw_; clear hw_; (try simp only [List.map_cons, List.map_nil, List.getD_cons_zero, List.getD_cons_succ, List.getD_nil, List.set_cons_zero, List.set_cons_succ, List.cons_append, List.nil_append, Act.eval, Array.getD_eq_getD_getElem?, List.getElem?_toArray, List.getElem?_cons_succ, List.getElem?_cons_zero, Option.getD_some, Value.cells] at hw); (try simp (disch := first | (simp; done) | (simp; omega)) only [Sep.mid_set, Sep.mid_set2, Sep.mid_set0, Sep.mid_splice, Sep.mid_splice0, List.set_cons_zero, List.set_cons_succ] at hw); (try simp only [Sep.splice, List.take_succ_cons, List.take_zero, List.drop_succ_cons, List.drop_zero, List.length_cons, List.length_nil, Nat.reduceAdd, List.cons_append, List.nil_append] at hw); (try replace hc0 := Sep.Holds.cells hw (i := 0) rfl); (try replace hc1 := Sep.Holds.cells hw (i := 1) rfl); (try replace hc2 := Sep.Holds.cells hw (i := 2) rfl); (try replace hc3 := Sep.Holds.cells hw (i := 3) rfl); (try replace hc4 := Sep.Holds.cells hw (i := 4) rfl); (try replace hc5 := Sep.Holds.cells hw (i := 5) rfl); (try replace hc6 := Sep.Holds.cells hw (i := 6) rfl))
      refine ⟨(SL.drop 19 (by kernel_rfl) (SL.drop 19 (by kernel_rfl) (SL.drop 19 (by kernel_rfl) SL.nil))), ?_⟩
      try simp only [Act.put, List.setIfInBounds_toArray, List.set_cons_zero, List.set_cons_succ]
      refine wpL_q 21 ?_ rfl (Or.inl ⟨by rfl, fun w_ hS_ => ?_⟩) (marks 22 4194303) ?_
      rotate_left
      next => (go_simp; try (first | rfl | exact (Bool.not_not _).symm))
      try simp only [Act.put, List.setIfInBounds_toArray, List.set_cons_zero, List.set_cons_succ]
      all_goals refine wpL_done (by kernel_rfl) ?_ _
      clear g0 g1 g2 g3
      obtain ⟨g0, g1, g2, g3⟩ := Hg.out _ (hw.sel [0] (by decide))
      go_wp2_with fail
      refine (rEight x.f3 e _ _ hw.focus0).mono ?_
      rintro _ w_ ⟨b8, rfl, hw_⟩
      clear hw g0 g1 g2 g3; (try clear hc0); (try clear hc1); (try clear hc2); (try clear hc3); (try clear hc4); (try clear hc5); (try clear hc6); have hw := Holds.unfocus0 hw_; clear hw_
      (try simp only [List.map_cons, List.map_nil, List.getD_cons_zero, List.getD_cons_succ, List.getD_nil, List.set_cons_zero, List.set_cons_succ, List.cons_append, List.nil_append, Act.eval, Array.getD_eq_getD_getElem?, List.getElem?_toArray, List.getElem?_cons_succ, List.getElem?_cons_zero, Option.getD_some, Value.cells] at hw); (try simp (disch := first | (simp; done) | (simp; omega)) only [Sep.mid_set, Sep.mid_set2, Sep.mid_set0, Sep.mid_splice, Sep.mid_splice0, List.set_cons_zero, List.set_cons_succ] at hw); (try simp only [Sep.splice, List.take_succ_cons, List.take_zero, List.drop_succ_cons, List.drop_zero, List.length_cons, List.length_nil, Nat.reduceAdd, List.cons_append, List.nil_append] at hw)
      go_wp2_with (at_builtin; refine wpList_on rfl (wp_appendPt (i := 1) (j := 3) rfl rfl hw rfl rfl rfl rfl (encB_one _) (by decide) (by rfl) (by (try unfold maxLen); omega) (by (try unfold maxLen); omega) ?_); intro b2_ cap2_ off2_ w_ hcap2_ hw_; clear hw; have hw := hw_; clear hw_; (try simp only [List.map_cons, List.map_nil, List.getD_cons_zero, List.getD_cons_succ, List.getD_nil, List.set_cons_zero, List.set_cons_succ, List.cons_append, List.nil_append, Act.eval, Array.getD_eq_getD_getElem?, List.getElem?_toArray, List.getElem?_cons_succ, List.getElem?_cons_zero, Option.getD_some, Value.cells] at hw); (try simp (disch := first | (simp; done) | (simp; omega)) only [Sep.mid_set, Sep.mid_set2, Sep.mid_set0, Sep.mid_splice, Sep.mid_splice0, List.set_cons_zero, List.set_cons_succ] at hw); (try simp only [Sep.splice, List.take_succ_cons, List.take_zero, List.drop_succ_cons, List.drop_zero, List.length_cons, List.length_nil, Nat.reduceAdd, List.cons_append, List.nil_append] at hw); (try replace hc0 := Sep.Holds.cells hw (i := 0) rfl); (try replace hc1 := Sep.Holds.cells hw (i := 1) rfl); (try replace hc2 := Sep.Holds.cells hw (i := 2) rfl); (try replace hc3 := Sep.Holds.cells hw (i := 3) rfl); (try replace hc4 := Sep.Holds.cells hw (i := 4) rfl); (try replace hc5 := Sep.Holds.cells hw (i := 5) rfl); (try replace hc6 := Sep.Holds.cells hw (i := 6) rfl))
      go_roundw
      case rel =>
        refine ⟨k + 1, c ++ encIns x, by omega, by go_num, Sep.hid (by rw [takeA Hx.out, List.flatMap_append, ← List.cons_append, ← Hc.out]; simp), Sep.hid (by rw [List.length_append, Hcl.out, encIns_len]; omega), ?_⟩
        rw [show 1 + (k + 1) * 11 = 1 + k * 11 + 3 + 8 by omega, encB_append]
        unfold encIns
        rw [encB_append, ← List.append_assoc]
        exact hw.sel [0, 1] (by decide)
      case measure => simp [intOf]; omega
    · have hke : n = k := by omega
      subst hke
      have Hd : Hid (c = bytesP l) := Sep.hid (by rw [Hc.out, List.take_of_length_le (by rw [hn.out]; omega)]; unfold bytesP; rw [hn.out])
      go_wp2_with fail
      refine HP.out _ _ ⟨_, rfl, ?_⟩
      unfold IsB
      rw [bytesP_len, hn.out, ← Hd.out]
      exact hw
end Go.Proofs.YteinbojpmhblkaaDoor
/-
  The walks of SameBytes, of the document's Num, and of instr.
-/
namespace Go.Proofs.YteinbojpmhblkaaDoor
set_option linter.unusedSimpArgs false
set_option linter.unusedVariables false
open Go.RowKit Go.Sep
set_option maxRecDepth 20000

set_option maxHeartbeats 4000000 in
theorem sameB (a b : Option Addr) (l m : List Int) (n1 n2 ca cb : Nat) (h1 : n1 = l.length) (h2 : n2 = m.length) (hL : n1 ≤ 1000000) (w : World) (ha : ReadsB w a l) (hb : ReadsB w b m) :
    Calls Tryd.prog 17 #[.slice a n1 ca, .slice b n2 cb] w fun en w' => en = .returned (.bool (decide (l = m))) ∧ Drew w w' := by
  have Ha := Sep.hid ha; have Hb := Sep.hid hb; clear ha hb
  by_cases hlen : n1 = n2
  · have hne : ((n1 : Int) != (n2 : Int)) = false := by simp [hlen]
    subst hlen
    have H1 := Sep.hid h1; have H2 := Sep.hid h2; clear h1 h2
    refine Sep.calls_post ?_
    intro Post_ hPost_
    have HP := Sep.hid hPost_
    clear hPost_
    go_enter Tryd.func17, Tryd.ntmps17
    go_wp2_with fail
    go_loopw [5] (fun i wr => ∃ k : Nat, k ≤ n1 ∧ i = .int .i64 k ∧ l.take k = m.take k ∧ Drew w wr) (fun i _ => n1 - (intOf i).toNat)
    case atStart => exact ⟨0, Nat.zero_le _, rfl, by simp, Drew.refl _⟩
    case round =>
      obtain ⟨k, hk, rfl, heq, hd⟩ := hrel
      have Heq := Sep.hid heq; clear heq
      have HD := Sep.hid hd; clear hd
      by_cases hlt : k < n1
      · obtain ⟨x, hx⟩ : ∃ x, l[k]? = some x := ⟨_, List.getElem?_eq_getElem (by rw [← H1.out]; exact hlt)⟩
        obtain ⟨y, hy⟩ : ∃ y, m[k]? = some y := ⟨_, List.getElem?_eq_getElem (by rw [← H2.out]; exact hlt)⟩
        obtain ⟨pa, rfl, gx⟩ := Ha.out k x hx
        obtain ⟨pb, rfl, gy⟩ := Hb.out k y hy
        rw [← HD.out.cell] at gx gy
        have hw : Holds wr wr [] := ⟨Env.refl _, fun _ _ => none, by simp, by simp, by simp⟩
        have Hx := Sep.hid hx; clear hx
        have Hy := Sep.hid hy; clear hy
        by_cases hxy : x = y
        · have h0 : (x != y) = false := by simp [hxy]
          have Hxy := Sep.hid hxy; clear hxy
          go_wp2_with fail
          refine wp_region_L [] [(3, (fun w' => w' = wr.drew)), (7, (fun w' => w' = wr.drew))] (n := 9) (listed := #[false, false, false, false, false, false, false, false, false]) (by kernel_rfl) rfl rfl ?conds1 ?_
          case conds1 =>
           intro c hc
           simp only [List.mem_cons, List.not_mem_nil, or_false] at hc
           rcases hc with rfl | rfl
           · rfl
           · rfl
          replace hw := hw.drew
          refine wpL_take 0 (C := fun _ => True) (v := ?v2) rfl (by kernel_rfl) (by kernel_rfl) (by kernel_rfl) (by kernel_rfl) (fun _ _ _ h => h) (.inl fun _ => trivial) (Or.inl ⟨by rfl, fun w_ hS_ => ?hy2⟩) (listed' := #[true, false, false, false, false, false, false, false, false]) (by kernel_rfl) ?rest2
          case hy2 => (go_simp; try rfl)
          case' rest2 => try simp only [Act.put, List.setIfInBounds_toArray, List.set_cons_zero, List.set_cons_succ]
          refine wpL_take 1 (C := fun _ => True) (v := ?v3) rfl (by kernel_rfl) (by kernel_rfl) (by kernel_rfl) (by kernel_rfl) (fun _ _ _ h => h) (.inl fun _ => trivial) (Or.inl ⟨by rfl, fun w_ hS_ => ?hy3⟩) (listed' := #[true, true, false, false, false, false, false, false, false]) (by kernel_rfl) ?rest3
          case hy3 => (go_simp; try rfl)
          case' rest3 => try simp only [Act.put, List.setIfInBounds_toArray, List.set_cons_zero, List.set_cons_succ]
          refine wpL_take 2 (C := fun _ => True) (v := ?v4) rfl (by kernel_rfl) (by kernel_rfl) (by kernel_rfl) (by kernel_rfl) (fun _ _ _ h => h) (.inl fun _ => trivial) (Or.inl ⟨by rfl, fun w_ hS_ => ?hy4⟩) (listed' := #[true, true, true, false, false, false, false, false, false]) (by kernel_rfl) ?rest4
          case hy4 => (go_simp; try rfl)
          case' rest4 => try simp only [Act.put, List.setIfInBounds_toArray, List.set_cons_zero, List.set_cons_succ]
          refine wpL_take 3 (C := (fun w' => w' = wr.drew)) (v := ?v5) rfl (by kernel_rfl) (by kernel_rfl) (by kernel_rfl) (by kernel_rfl) (fun _ _ _ h => h) (.inr (.head _)) (Or.inl ⟨by rfl, fun w_ hS_ => ?hy5⟩) (listed' := #[true, true, true, true, false, false, false, false, false]) (by kernel_rfl) ?rest5
          case hy5 => (subst hS_; go_simp; try rfl)
          case' rest5 => try simp only [Act.put, List.setIfInBounds_toArray, List.set_cons_zero, List.set_cons_succ]
          refine wpL_take 4 (C := fun _ => True) (v := ?v6) rfl (by kernel_rfl) (by kernel_rfl) (by kernel_rfl) (by kernel_rfl) (fun _ _ _ h => h) (.inl fun _ => trivial) (Or.inl ⟨by rfl, fun w_ hS_ => ?hy6⟩) (listed' := #[true, true, true, true, true, false, false, false, false]) (by kernel_rfl) ?rest6
          case hy6 => (go_simp; try rfl)
          case' rest6 => try simp only [Act.put, List.setIfInBounds_toArray, List.set_cons_zero, List.set_cons_succ]
          refine wpL_take 5 (C := fun _ => True) (v := ?v7) rfl (by kernel_rfl) (by kernel_rfl) (by kernel_rfl) (by kernel_rfl) (fun _ _ _ h => h) (.inl fun _ => trivial) (Or.inl ⟨by rfl, fun w_ hS_ => ?hy7⟩) (listed' := #[true, true, true, true, true, true, false, false, false]) (by kernel_rfl) ?rest7
          case hy7 => (go_simp; try rfl)
          case' rest7 => try simp only [Act.put, List.setIfInBounds_toArray, List.set_cons_zero, List.set_cons_succ]
          refine wpL_take 6 (C := fun _ => True) (v := ?v8) rfl (by kernel_rfl) (by kernel_rfl) (by kernel_rfl) (by kernel_rfl) (fun _ _ _ h => h) (.inl fun _ => trivial) (Or.inl ⟨by rfl, fun w_ hS_ => ?hy8⟩) (listed' := #[true, true, true, true, true, true, true, false, false]) (by kernel_rfl) ?rest8
          case hy8 => (go_simp; try rfl)
          case' rest8 => try simp only [Act.put, List.setIfInBounds_toArray, List.set_cons_zero, List.set_cons_succ]
          refine wpL_take 7 (C := (fun w' => w' = wr.drew)) (v := ?v9) rfl (by kernel_rfl) (by kernel_rfl) (by kernel_rfl) (by kernel_rfl) (fun _ _ _ h => h) (.inr (.tail _ (.head _))) (Or.inl ⟨by rfl, fun w_ hS_ => ?hy9⟩) (listed' := #[true, true, true, true, true, true, true, true, false]) (by kernel_rfl) ?rest9
          case hy9 => (subst hS_; go_simp; try rfl)
          case' rest9 => try simp only [Act.put, List.setIfInBounds_toArray, List.set_cons_zero, List.set_cons_succ]
          refine wpL_take 8 (C := fun _ => True) (v := ?v10) rfl (by kernel_rfl) (by kernel_rfl) (by kernel_rfl) (by kernel_rfl) (fun _ _ _ h => h) (.inl fun _ => trivial) (Or.inl ⟨by rfl, fun w_ hS_ => ?hy10⟩) (listed' := #[true, true, true, true, true, true, true, true, true]) (by kernel_rfl) ?rest10
          case hy10 => (go_simp; try rfl)
          case' rest10 => try simp only [Act.put, List.setIfInBounds_toArray, List.set_cons_zero, List.set_cons_succ]
          refine wpL_done (by kernel_rfl) ?_ _
          go_wp2
          go_roundw
          case rel => exact ⟨k + 1, by omega, by go_num, by rw [List.take_add_one, List.take_add_one, Heq.out, Hx.out, Hy.out, Hxy.out], HD.out.drew⟩
          case measure => simp [intOf]; omega
        · have h0 : (x != y) = true := by simp [hxy]
          have hd : decide (l = m) = false := by
            simp only [decide_eq_false_iff_not]
            rintro rfl
            have := Hx.out.symm.trans Hy.out
            simp at this
            exact hxy this
          have Hd := Sep.hid hd; clear hd
          clear hxy
          go_wp2_with fail
          refine wp_region_L [] [(3, (fun w' => w' = wr.drew)), (7, (fun w' => w' = wr.drew))] (n := 9) (listed := #[false, false, false, false, false, false, false, false, false]) (by kernel_rfl) rfl rfl ?conds11 ?_
          case conds11 =>
           intro c hc
           simp only [List.mem_cons, List.not_mem_nil, or_false] at hc
           rcases hc with rfl | rfl
           · rfl
           · rfl
          replace hw := hw.drew
          refine wpL_take 0 (C := fun _ => True) (v := ?v12) rfl (by kernel_rfl) (by kernel_rfl) (by kernel_rfl) (by kernel_rfl) (fun _ _ _ h => h) (.inl fun _ => trivial) (Or.inl ⟨by rfl, fun w_ hS_ => ?hy12⟩) (listed' := #[true, false, false, false, false, false, false, false, false]) (by kernel_rfl) ?rest12
          case hy12 => (go_simp; try rfl)
          case' rest12 => try simp only [Act.put, List.setIfInBounds_toArray, List.set_cons_zero, List.set_cons_succ]
          refine wpL_take 1 (C := fun _ => True) (v := ?v13) rfl (by kernel_rfl) (by kernel_rfl) (by kernel_rfl) (by kernel_rfl) (fun _ _ _ h => h) (.inl fun _ => trivial) (Or.inl ⟨by rfl, fun w_ hS_ => ?hy13⟩) (listed' := #[true, true, false, false, false, false, false, false, false]) (by kernel_rfl) ?rest13
          case hy13 => (go_simp; try rfl)
          case' rest13 => try simp only [Act.put, List.setIfInBounds_toArray, List.set_cons_zero, List.set_cons_succ]
          refine wpL_take 2 (C := fun _ => True) (v := ?v14) rfl (by kernel_rfl) (by kernel_rfl) (by kernel_rfl) (by kernel_rfl) (fun _ _ _ h => h) (.inl fun _ => trivial) (Or.inl ⟨by rfl, fun w_ hS_ => ?hy14⟩) (listed' := #[true, true, true, false, false, false, false, false, false]) (by kernel_rfl) ?rest14
          case hy14 => (go_simp; try rfl)
          case' rest14 => try simp only [Act.put, List.setIfInBounds_toArray, List.set_cons_zero, List.set_cons_succ]
          refine wpL_take 3 (C := (fun w' => w' = wr.drew)) (v := ?v15) rfl (by kernel_rfl) (by kernel_rfl) (by kernel_rfl) (by kernel_rfl) (fun _ _ _ h => h) (.inr (.head _)) (Or.inl ⟨by rfl, fun w_ hS_ => ?hy15⟩) (listed' := #[true, true, true, true, false, false, false, false, false]) (by kernel_rfl) ?rest15
          case hy15 => (subst hS_; go_simp; try rfl)
          case' rest15 => try simp only [Act.put, List.setIfInBounds_toArray, List.set_cons_zero, List.set_cons_succ]
          refine wpL_take 4 (C := fun _ => True) (v := ?v16) rfl (by kernel_rfl) (by kernel_rfl) (by kernel_rfl) (by kernel_rfl) (fun _ _ _ h => h) (.inl fun _ => trivial) (Or.inl ⟨by rfl, fun w_ hS_ => ?hy16⟩) (listed' := #[true, true, true, true, true, false, false, false, false]) (by kernel_rfl) ?rest16
          case hy16 => (go_simp; try rfl)
          case' rest16 => try simp only [Act.put, List.setIfInBounds_toArray, List.set_cons_zero, List.set_cons_succ]
          refine wpL_take 5 (C := fun _ => True) (v := ?v17) rfl (by kernel_rfl) (by kernel_rfl) (by kernel_rfl) (by kernel_rfl) (fun _ _ _ h => h) (.inl fun _ => trivial) (Or.inl ⟨by rfl, fun w_ hS_ => ?hy17⟩) (listed' := #[true, true, true, true, true, true, false, false, false]) (by kernel_rfl) ?rest17
          case hy17 => (go_simp; try rfl)
          case' rest17 => try simp only [Act.put, List.setIfInBounds_toArray, List.set_cons_zero, List.set_cons_succ]
          refine wpL_take 6 (C := fun _ => True) (v := ?v18) rfl (by kernel_rfl) (by kernel_rfl) (by kernel_rfl) (by kernel_rfl) (fun _ _ _ h => h) (.inl fun _ => trivial) (Or.inl ⟨by rfl, fun w_ hS_ => ?hy18⟩) (listed' := #[true, true, true, true, true, true, true, false, false]) (by kernel_rfl) ?rest18
          case hy18 => (go_simp; try rfl)
          case' rest18 => try simp only [Act.put, List.setIfInBounds_toArray, List.set_cons_zero, List.set_cons_succ]
          refine wpL_take 7 (C := (fun w' => w' = wr.drew)) (v := ?v19) rfl (by kernel_rfl) (by kernel_rfl) (by kernel_rfl) (by kernel_rfl) (fun _ _ _ h => h) (.inr (.tail _ (.head _))) (Or.inl ⟨by rfl, fun w_ hS_ => ?hy19⟩) (listed' := #[true, true, true, true, true, true, true, true, false]) (by kernel_rfl) ?rest19
          case hy19 => (subst hS_; go_simp; try rfl)
          case' rest19 => try simp only [Act.put, List.setIfInBounds_toArray, List.set_cons_zero, List.set_cons_succ]
          refine wpL_take 8 (C := fun _ => True) (v := ?v20) rfl (by kernel_rfl) (by kernel_rfl) (by kernel_rfl) (by kernel_rfl) (fun _ _ _ h => h) (.inl fun _ => trivial) (Or.inl ⟨by rfl, fun w_ hS_ => ?hy20⟩) (listed' := #[true, true, true, true, true, true, true, true, true]) (by kernel_rfl) ?rest20
          case hy20 => (go_simp; try rfl)
          case' rest20 => try simp only [Act.put, List.setIfInBounds_toArray, List.set_cons_zero, List.set_cons_succ]
          refine wpL_done (by kernel_rfl) ?_ _
          go_wp2
          exact HP.out _ _ ⟨by rw [Hd.out]; rfl, HD.out.drew⟩
      · have hke : k = n1 := by omega
        have hd : decide (l = m) = true := by
          simp only [decide_eq_true_eq]
          have h := Heq.out
          rw [hke, List.take_of_length_le (by rw [← H1.out]; omega), List.take_of_length_le (by rw [← H2.out]; omega)] at h
          exact h
        have Hd := Sep.hid hd; clear hd hke
        go_wp2
        exact HP.out _ _ ⟨by rw [Hd.out]; rfl, HD.out⟩
  · have hne : ((n1 : Int) != (n2 : Int)) = true := by simp; omega
    have hd : decide (l = m) = false := by simp only [decide_eq_false_iff_not]; rintro rfl; exact hlen (h1.trans h2.symm)
    have Hd := Sep.hid hd; clear hd hlen h1 h2
    refine Sep.calls_post ?_
    intro Post_ hPost_
    have HP := Sep.hid hPost_
    clear hPost_
    go_enter Tryd.func17, Tryd.ntmps17
    go_wp2
    exact HP.out _ _ ⟨by rw [Hd.out]; rfl, Drew.refl _⟩

/-- Bytes that are ones. -/
def Bys (l : List Int) : Prop := ∀ x ∈ l, 0 ≤ x ∧ x ≤ 255
def numU (l : List Int) : Int := l.foldl (fun u c => 256 * u + c) 0
theorem numU_snoc (l : List Int) (c : Int) : numU (l ++ [c]) = 256 * numU l + c := by simp [numU]
theorem fold_in : ∀ (l : List Int) (u : Int), 0 ≤ u → Bys l → 0 ≤ l.foldl (fun u c => 256 * u + c) u ∧ l.foldl (fun u c => 256 * u + c) u + 1 ≤ (u + 1) * 256 ^ l.length
  | [], u, hu, _ => by simp; exact hu
  | c :: l, u, hu, hb => by
    have h2 := hb c (by simp)
    have h1 := fold_in l (256 * u + c) (by omega) (fun x hx => hb x (List.mem_cons_of_mem _ hx))
    rw [List.foldl_cons, List.length_cons, Int.pow_succ]
    refine ⟨h1.1, Int.le_trans h1.2 ?_⟩
    have h3 : (256 * u + c + 1) * 256 ^ l.length ≤ ((u + 1) * 256) * 256 ^ l.length := Int.mul_le_mul_of_nonneg_right (by omega) (Int.le_of_lt (Int.pow_pos (by decide)))
    rw [Int.mul_comm (256 ^ l.length) 256, ← Int.mul_assoc]
    exact h3
theorem numU_in {l : List Int} (h : Bys l) : 0 ≤ numU l ∧ numU l < 256 ^ l.length := by
  have h1 := fold_in l 0 (Int.le_refl _) h
  unfold numU
  refine ⟨h1.1, ?_⟩
  have h2 := h1.2
  rw [Int.zero_add, Int.one_mul] at h2
  omega
def numP (l : List Int) : Int := wrap64 (numU l)
def insP (l : List Int) : Deed := ⟨l[0]?.getD 0, l[1]?.getD 0, l[2]?.getD 0, numP ((l.drop 3).take 8)⟩
set_option maxHeartbeats 4000000 in
theorem rNum (a : Option Addr) (l : List Int) (n ca : Nat) (h8 : 8 ≤ n) (hn : Hid (l.length = n)) (hb : Bys l) (w : World) (ha : ReadsB w a l) :
    Calls Tryd.prog 28 #[.slice a n ca] w fun en w' => en = .returned (.int .i64 (numP (l.take 8))) ∧ w' = w := by
  have Ha := Sep.hid ha; clear ha
  have Hb := Sep.hid hb; clear hb
  refine Sep.calls_post ?_
  intro Post_ hPost_
  have HP := Sep.hid hPost_
  clear hPost_
  go_enter Tryd.func28, Tryd.ntmps28
  go_wp2_with fail
  go_loopw [4, 3] (fun i u wr => ∃ k : Nat, k ≤ 8 ∧ i = .int .i64 k ∧ u = .int .u64 (numU (l.take k)) ∧ wr = w) (fun i _ _ => 8 - (intOf i).toNat)
  case atStart => exact ⟨0, Nat.zero_le _, rfl, rfl, rfl⟩
  case round =>
    obtain ⟨k, hk, rfl, rfl, rfl⟩ := hrel
    by_cases hlt : k < 8
    · obtain ⟨x, hx⟩ : ∃ x, l[k]? = some x := ⟨_, List.getElem?_eq_getElem (by rw [hn.out]; omega)⟩
      obtain ⟨p, rfl, gx⟩ := Ha.out k x hx
      have Hx := Sep.hid hx; clear hx
      have Hbk : Hid (0 ≤ 256 * numU (l.take k) ∧ 0 ≤ 256 * numU (l.take k) + x ∧ 256 * numU (l.take k) + x ≤ 18446744073709551615 ∧ 0 ≤ x ∧ x ≤ 255) := Sep.hid (by
        have h1 := numU_in (l := l.take k) (fun y hy => Hb.out y (List.mem_of_mem_take hy))
        have h2 := Hb.out x (List.mem_of_getElem? Hx.out)
        have h3 : (256 : Int) ^ (l.take k).length ≤ 72057594037927936 := by
          have h4 : (l.take k).length ≤ 7 := by rw [List.length_take]; omega
          have h5 : (256 : Nat) ^ (l.take k).length ≤ 256 ^ 7 := Nat.pow_le_pow_right (by decide) h4
          have h6 : ((256 ^ (l.take k).length : Nat) : Int) ≤ ((256 ^ 7 : Nat) : Int) := Int.ofNat_le.2 h5
          simpa using h6
        omega)
      go_wp2_with fail
      go_roundw
      case rel =>
        refine ⟨k + 1, by omega, by go_num, ?_, by trivial⟩
        rw [takeB Hx.out, numU_snoc, IntWalk.u64_in _ ⟨Hbk.out.1, by have := Hbk.out; omega⟩, IntWalk.u64_in x ⟨Hbk.out.2.2.2.1, by have := Hbk.out; omega⟩, IntWalk.u64_in _ ⟨Hbk.out.2.1, Hbk.out.2.2.1⟩]
      case measure => simp [intOf]; omega
    · have hke : k = 8 := by omega
      subst hke
      go_wp2_with fail
      exact HP.out _ _ ⟨rfl, by trivial⟩
end Go.Proofs.YteinbojpmhblkaaDoor
/-
  The walk of instr.
-/
namespace Go.Proofs.YteinbojpmhblkaaDoor
set_option linter.unusedSimpArgs false
set_option linter.unusedVariables false
open Go.RowKit Go.Sep
set_option maxRecDepth 20000

theorem or_step (U x : Int) (h0 : 0 ≤ U) (hU : U < 72057594037927936) (hx : 0 ≤ x ∧ x ≤ 255) : bits .or .i64 (wrap64 (wrap64 U * 256)) (wrap64 x) = wrap64 (256 * U + x) := by
  obtain ⟨u, rfl⟩ : ∃ u : Nat, U = u := ⟨U.toNat, by omega⟩
  obtain ⟨c, rfl⟩ : ∃ c : Nat, x = c := ⟨x.toNat, by omega⟩
  have hc : c < 256 := by omega
  have hu : u < 72057594037927936 := by omega
  have e1 : BitVec.ofInt 64 (wrap64 (wrap64 (u : Int) * 256)) = BitVec.ofNat 64 (256 * u) := by
    apply BitVec.eq_of_toNat_eq
    rw [BitVec.toNat_ofInt, BitVec.toNat_ofNat]
    unfold wrap64
    omega
  have e2 : BitVec.ofInt 64 (wrap64 (c : Int)) = BitVec.ofNat 64 c := by
    apply BitVec.eq_of_toNat_eq
    rw [BitVec.toNat_ofInt, BitVec.toNat_ofNat]
    unfold wrap64
    omega
  have e3 : (BitVec.ofNat 64 (256 * u) ||| BitVec.ofNat 64 c).toNat = 256 * u + c := by
    rw [BitVec.toNat_or, BitVec.toNat_ofNat, BitVec.toNat_ofNat, Nat.mod_eq_of_lt (by omega), Nat.mod_eq_of_lt (by omega)]
    exact (Nat.two_pow_add_eq_or_of_lt (i := 8) hc u).symm
  have e4 : bits .or .i64 (wrap64 (wrap64 (u : Int) * 256)) (wrap64 (c : Int)) = IntKind.i64.wrap ((BitVec.ofInt 64 (wrap64 (wrap64 (u : Int) * 256)) ||| BitVec.ofInt 64 (wrap64 (c : Int))).toNat : Int) := rfl
  rw [e4, e1, e2, e3, IntWalk.i64_left]
  simp
theorem Bys.drop {l : List Int} (h : Bys l) (k : Nat) : Bys (l.drop k) := fun x hx => h x (List.mem_of_mem_drop hx)
theorem Bys.take {l : List Int} (h : Bys l) (k : Nat) : Bys (l.take k) := fun x hx => h x (List.mem_of_mem_take hx)
theorem numU_small {l : List Int} (h : Bys l) (hl : l.length ≤ 7) : 0 ≤ numU l ∧ numU l < 72057594037927936 := by
  have h1 := numU_in h
  have h5 : (256 : Nat) ^ l.length ≤ 256 ^ 7 := Nat.pow_le_pow_right (by decide) hl
  have h6 : ((256 ^ l.length : Nat) : Int) ≤ ((256 ^ 7 : Nat) : Int) := Int.ofNat_le.2 h5
  have h7 : (256 : Int) ^ l.length ≤ 72057594037927936 := by simpa using h6
  omega
set_option maxRecDepth 20000 in
set_option maxHeartbeats 8000000 in
theorem oInstr (a : Option Addr) (l : List Int) (ca : Nat) (hl : Hid (l.length = 11)) (hca : 11 ≤ ca) (hb : Bys l) (e w : World) (X : HProp) (hR : RdB e X a l) (hw : Holds e w [X]) :
    Calls Tryd.prog 43 #[.slice a 11 ca] w fun en w' => en = .returned (.agg (encA (insP l)).toArray) ∧ Holds e w' [X] := by
  have HR := Sep.hid hR; clear hR
  have Hb := Sep.hid hb; clear hb
  obtain ⟨p, rfl⟩ : ∃ p, a = some p := by
    obtain ⟨p, hp, _⟩ := HR.out _ _ 0 hw rfl 0 _ (List.getElem?_eq_getElem (by rw [hl.out]; decide))
    exact ⟨p, hp⟩
  have Hg : Hid (∀ w', Holds e w' [X] → w'.cell? p = some (.int .u8 (l[0]?.getD 0)) ∧ w'.cell? ⟨p.block, p.off + 1, none⟩ = some (.int .u8 (l[1]?.getD 0)) ∧ w'.cell? ⟨p.block, p.off + 2, none⟩ = some (.int .u8 (l[2]?.getD 0))) := Sep.hid (fun w' hw' => by
    have key : ∀ k, k < 11 → w'.cell? (p.add k) = some (.int .u8 (l[k]?.getD 0)) := fun k hk => by
      have hk' : l[k]? = some (l[k]?.getD 0) := by rw [List.getElem?_eq_getElem (by rw [hl.out]; exact hk)]; rfl
      obtain ⟨p2, hp2, hc⟩ := HR.out w' [X] 0 hw' rfl k _ hk'
      cases hp2; exact hc
    exact ⟨key 0 (by decide), key 1 (by decide), key 2 (by decide)⟩)
  have hc3 : ¬ ca = 3 := by omega
  have Hw8 : Hid (∀ k, k < 3 → IntKind.i64.wrap (l[k]?.getD 0) = l[k]?.getD 0) := Sep.hid (fun k hk => by
    have hk' : l[k]? = some (l[k]?.getD 0) := by rw [List.getElem?_eq_getElem (by rw [hl.out]; omega)]; rfl
    have := Hb.out _ (List.mem_of_getElem? hk')
    exact IntWalk.i64_in _ (by omega))
  refine Sep.calls_post ?_
  intro Post_ hPost_
  have HP := Sep.hid hPost_
  clear hPost_
  go_enter Tryd.func43, Tryd.ntmps43
  go_wp2_with (refine wpList_on rfl (wp_alloc rfl hw ?_); intro b2_ w_ hw_; clear hw; have hw := hw_; clear hw_; (try simp only [List.map_cons, List.map_nil, List.getD_cons_zero, List.getD_cons_succ, List.getD_nil, List.set_cons_zero, List.set_cons_succ, List.cons_append, List.nil_append, Act.eval, Array.getD_eq_getD_getElem?, List.getElem?_toArray, List.getElem?_cons_succ, List.getElem?_cons_zero, Option.getD_some, Value.cells] at hw); (try simp (disch := first | (simp; done) | (simp; omega)) only [Sep.mid_set, Sep.mid_set2, Sep.mid_set0, Sep.mid_splice, Sep.mid_splice0, List.set_cons_zero, List.set_cons_succ] at hw); (try simp only [Sep.splice, List.take_succ_cons, List.take_zero, List.drop_succ_cons, List.drop_zero, List.length_cons, List.length_nil, Nat.reduceAdd, List.cons_append, List.nil_append] at hw); (try replace hc0 := Sep.Holds.cells hw (i := 0) rfl); (try replace hc1 := Sep.Holds.cells hw (i := 1) rfl); (try replace hc2 := Sep.Holds.cells hw (i := 2) rfl); (try replace hc3 := Sep.Holds.cells hw (i := 3) rfl); (try replace hc4 := Sep.Holds.cells hw (i := 4) rfl); (try replace hc5 := Sep.Holds.cells hw (i := 5) rfl); (try replace hc6 := Sep.Holds.cells hw (i := 6) rfl))
  refine wp_region_L [13, 14] [(2, (fun w' => Holds e w' [X])), (6, (fun w' => Holds e w' [X])), (10, (fun w' => Holds e w' [X]))] (n := 15) (listed := (marks 15 0)) (by kernel_rfl) rfl (by kernel_rfl) ?conds1 ?_
  case conds1 =>
   intro c hc
   simp only [List.mem_cons, List.not_mem_nil, or_false] at hc
   rcases hc with rfl | rfl | rfl
   · exact (by replace hw := hw.drew; exact hw.sel [0] (by decide))
   · exact (by replace hw := hw.drew; exact hw.sel [0] (by decide))
   · exact (by replace hw := hw.drew; exact hw.sel [0] (by decide))
  replace hw := hw.drew
  (try replace hc0 := Sep.Holds.cells hw (i := 0) rfl); (try replace hc1 := Sep.Holds.cells hw (i := 1) rfl); (try replace hc2 := Sep.Holds.cells hw (i := 2) rfl); (try replace hc3 := Sep.Holds.cells hw (i := 3) rfl); (try replace hc4 := Sep.Holds.cells hw (i := 4) rfl); (try replace hc5 := Sep.Holds.cells hw (i := 5) rfl); (try replace hc6 := Sep.Holds.cells hw (i := 6) rfl)
  refine wpL_q 0 ?_ rfl (Or.inl ⟨by rfl, fun w_ hS_ => ?_⟩) (marks 15 1) ?_
  rotate_left
  next => (go_simp; try (first | rfl | exact (Bool.not_not _).symm))
  try simp only [Act.put, List.setIfInBounds_toArray, List.set_cons_zero, List.set_cons_succ]
  refine wpL_q 1 ?_ rfl (Or.inl ⟨by rfl, fun w_ hS_ => ?_⟩) (marks 15 3) ?_
  rotate_left
  next => (go_simp; try (first | rfl | exact (Bool.not_not _).symm))
  try simp only [Act.put, List.setIfInBounds_toArray, List.set_cons_zero, List.set_cons_succ]
  refine wpL_m 2 ?_ rfl (.head _) (Or.inl ⟨by rfl, fun w_ hS_ => ?_⟩) (marks 15 7) ?_
  rotate_left
  next => (dsimp only at hS_; (try have q0 := Sep.Holds.cells hS_ (i := 0) rfl); (try have q1 := Sep.Holds.cells hS_ (i := 1) rfl); (try have q2 := Sep.Holds.cells hS_ (i := 2) rfl); (try have q3 := Sep.Holds.cells hS_ (i := 3) rfl); (try have q4 := Sep.Holds.cells hS_ (i := 4) rfl); (try have q5 := Sep.Holds.cells hS_ (i := 5) rfl); (try have q6 := Sep.Holds.cells hS_ (i := 6) rfl); first | ((obtain ⟨g0, g1, g2⟩ := Hg.out _ hS_; go_simp; (try rfl); done)) | (go_simp; try (first | rfl | exact (Bool.not_not _).symm)))
  try simp only [Act.put, List.setIfInBounds_toArray, List.set_cons_zero, List.set_cons_succ]
  refine wpL_q 3 ?_ rfl (Or.inl ⟨by rfl, fun w_ hS_ => ?_⟩) (marks 15 15) ?_
  rotate_left
  next => (go_simp; try (first | rfl | exact (Bool.not_not _).symm))
  try simp only [Act.put, List.setIfInBounds_toArray, List.set_cons_zero, List.set_cons_succ]
  refine wpL_q 4 ?_ rfl (Or.inl ⟨by rfl, fun w_ hS_ => ?_⟩) (marks 15 31) ?_
  rotate_left
  next => (go_simp; try (first | rfl | exact (Bool.not_not _).symm))
  try simp only [Act.put, List.setIfInBounds_toArray, List.set_cons_zero, List.set_cons_succ]
  refine wpL_q 5 ?_ rfl (Or.inl ⟨by rfl, fun w_ hS_ => ?_⟩) (marks 15 63) ?_
  rotate_left
  next => (go_simp; try (first | rfl | exact (Bool.not_not _).symm))
  try simp only [Act.put, List.setIfInBounds_toArray, List.set_cons_zero, List.set_cons_succ]
  refine wpL_m 6 ?_ rfl (.tail _ (.head _)) (Or.inl ⟨by rfl, fun w_ hS_ => ?_⟩) (marks 15 127) ?_
  rotate_left
  next => (dsimp only at hS_; (try have q0 := Sep.Holds.cells hS_ (i := 0) rfl); (try have q1 := Sep.Holds.cells hS_ (i := 1) rfl); (try have q2 := Sep.Holds.cells hS_ (i := 2) rfl); (try have q3 := Sep.Holds.cells hS_ (i := 3) rfl); (try have q4 := Sep.Holds.cells hS_ (i := 4) rfl); (try have q5 := Sep.Holds.cells hS_ (i := 5) rfl); (try have q6 := Sep.Holds.cells hS_ (i := 6) rfl); first | ((obtain ⟨g0, g1, g2⟩ := Hg.out _ hS_; go_simp; (try rfl); done)) | (go_simp; try (first | rfl | exact (Bool.not_not _).symm)))
  try simp only [Act.put, List.setIfInBounds_toArray, List.set_cons_zero, List.set_cons_succ]
  refine wpL_q 7 ?_ rfl (Or.inl ⟨by rfl, fun w_ hS_ => ?_⟩) (marks 15 255) ?_
  rotate_left
  next => (go_simp; try (first | rfl | exact (Bool.not_not _).symm))
  try simp only [Act.put, List.setIfInBounds_toArray, List.set_cons_zero, List.set_cons_succ]
  refine wpL_q 8 ?_ rfl (Or.inl ⟨by rfl, fun w_ hS_ => ?_⟩) (marks 15 511) ?_
  rotate_left
  next => (go_simp; try (first | rfl | exact (Bool.not_not _).symm))
  try simp only [Act.put, List.setIfInBounds_toArray, List.set_cons_zero, List.set_cons_succ]
  refine wpL_q 9 ?_ rfl (Or.inl ⟨by rfl, fun w_ hS_ => ?_⟩) (marks 15 1023) ?_
  rotate_left
  next => (go_simp; try (first | rfl | exact (Bool.not_not _).symm))
  try simp only [Act.put, List.setIfInBounds_toArray, List.set_cons_zero, List.set_cons_succ]
  refine wpL_m 10 ?_ rfl (.tail _ (.tail _ (.head _))) (Or.inl ⟨by rfl, fun w_ hS_ => ?_⟩) (marks 15 2047) ?_
  rotate_left
  next => (dsimp only at hS_; (try have q0 := Sep.Holds.cells hS_ (i := 0) rfl); (try have q1 := Sep.Holds.cells hS_ (i := 1) rfl); (try have q2 := Sep.Holds.cells hS_ (i := 2) rfl); (try have q3 := Sep.Holds.cells hS_ (i := 3) rfl); (try have q4 := Sep.Holds.cells hS_ (i := 4) rfl); (try have q5 := Sep.Holds.cells hS_ (i := 5) rfl); (try have q6 := Sep.Holds.cells hS_ (i := 6) rfl); first | ((obtain ⟨g0, g1, g2⟩ := Hg.out _ hS_; go_simp; (try rfl); done)) | (go_simp; try (first | rfl | exact (Bool.not_not _).symm)))
  try simp only [Act.put, List.setIfInBounds_toArray, List.set_cons_zero, List.set_cons_succ]
  refine wpL_q 11 ?_ rfl (Or.inl ⟨by rfl, fun w_ hS_ => ?_⟩) (marks 15 4095) ?_
  rotate_left
  next => (go_simp; try (first | rfl | exact (Bool.not_not _).symm))
  try simp only [Act.put, List.setIfInBounds_toArray, List.set_cons_zero, List.set_cons_succ]
  refine wpL_q 12 ?_ rfl (Or.inl ⟨by rfl, fun w_ hS_ => ?_⟩) (marks 15 8191) ?_
  rotate_left
  next => (go_simp; try (first | rfl | exact (Bool.not_not _).symm))
  try simp only [Act.put, List.setIfInBounds_toArray, List.set_cons_zero, List.set_cons_succ]
  refine wpL_o 13 rfl (by rfl) (marks 15 16383) ?_
  (refine wp_alloc rfl hw ?_; intro b3_ w_ hw_; clear hw; have hw := hw_; clear hw_; (try simp only [List.map_cons, List.map_nil, List.getD_cons_zero, List.getD_cons_succ, List.getD_nil, List.set_cons_zero, List.set_cons_succ, List.cons_append, List.nil_append, Act.eval, Array.getD_eq_getD_getElem?, List.getElem?_toArray, List.getElem?_cons_succ, List.getElem?_cons_zero, Option.getD_some, Value.cells] at hw); (try simp (disch := first | (simp; done) | (simp; omega)) only [Sep.mid_set, Sep.mid_set2, Sep.mid_set0, Sep.mid_splice, Sep.mid_splice0, List.set_cons_zero, List.set_cons_succ] at hw); (try simp only [Sep.splice, List.take_succ_cons, List.take_zero, List.drop_succ_cons, List.drop_zero, List.length_cons, List.length_nil, Nat.reduceAdd, List.cons_append, List.nil_append] at hw); (try replace hc0 := Sep.Holds.cells hw (i := 0) rfl); (try replace hc1 := Sep.Holds.cells hw (i := 1) rfl); (try replace hc2 := Sep.Holds.cells hw (i := 2) rfl); (try replace hc3 := Sep.Holds.cells hw (i := 3) rfl); (try replace hc4 := Sep.Holds.cells hw (i := 4) rfl); (try replace hc5 := Sep.Holds.cells hw (i := 5) rfl); (try replace hc6 := Sep.Holds.cells hw (i := 6) rfl))
  refine ⟨(SL.keep (by exact hw.sel [0] (by decide)) (SL.keep (by exact hw.sel [0] (by decide)) (SL.keep (by exact hw.sel [0] (by decide)) SL.nil))), ?_⟩
  try simp only [Act.put, List.setIfInBounds_toArray, List.set_cons_zero, List.set_cons_succ]
  refine wpL_o 14 rfl (by rfl) (marks 15 32767) ?_
  (refine wp_storeAll (vs := [.int .i64 (IntKind.i64.wrap (l[0]?.getD 0)), .int .i64 (IntKind.i64.wrap (l[1]?.getD 0)), .int .i64 (IntKind.i64.wrap (l[2]?.getD 0)), .int .i64 0]) rfl rfl (by rfl) hw (i := 2) rfl rfl rfl (by simp [Value.oneCell']) ?_; intro w_ hw_; clear hw; have hw := hw_; clear hw_; (try simp only [List.map_cons, List.map_nil, List.getD_cons_zero, List.getD_cons_succ, List.getD_nil, List.set_cons_zero, List.set_cons_succ, List.cons_append, List.nil_append, Act.eval, Array.getD_eq_getD_getElem?, List.getElem?_toArray, List.getElem?_cons_succ, List.getElem?_cons_zero, Option.getD_some, Value.cells] at hw); (try simp (disch := first | (simp; done) | (simp; omega)) only [Sep.mid_set, Sep.mid_set2, Sep.mid_set0, Sep.mid_splice, Sep.mid_splice0, List.set_cons_zero, List.set_cons_succ] at hw); (try simp only [Sep.splice, List.take_succ_cons, List.take_zero, List.drop_succ_cons, List.drop_zero, List.length_cons, List.length_nil, Nat.reduceAdd, List.cons_append, List.nil_append] at hw); (try replace hc0 := Sep.Holds.cells hw (i := 0) rfl); (try replace hc1 := Sep.Holds.cells hw (i := 1) rfl); (try replace hc2 := Sep.Holds.cells hw (i := 2) rfl); (try replace hc3 := Sep.Holds.cells hw (i := 3) rfl); (try replace hc4 := Sep.Holds.cells hw (i := 4) rfl); (try replace hc5 := Sep.Holds.cells hw (i := 5) rfl); (try replace hc6 := Sep.Holds.cells hw (i := 6) rfl))
  refine ⟨(SL.drop 14 (by kernel_rfl) (SL.drop 14 (by kernel_rfl) (SL.drop 14 (by kernel_rfl) SL.nil))), ?_⟩
  try simp only [Act.put, List.setIfInBounds_toArray, List.set_cons_zero, List.set_cons_succ]
  all_goals refine wpL_done (by kernel_rfl) ?_ _
  rw [Hw8.out 0 (by decide), Hw8.out 1 (by decide), Hw8.out 2 (by decide)] at hw
  (try clear hc0); (try clear hc1); (try clear hc2); (try clear hc3); (try clear hc4); (try clear hc5); (try clear hc6)
  go_wp2_with fail
  rw [Hw8.out 0 (by decide), Hw8.out 1 (by decide), Hw8.out 2 (by decide)]
  have Hw0 := Sep.hid hw; clear hw
  go_loopw [22] (fun i wr => ∃ k : Nat, k ≤ 8 ∧ i = .int .i64 k ∧ Holds e wr [X, pt b2_ [.int .i64 0, .int .i64 0, .int .i64 0, .int .i64 0] 56, pt b3_ [.int .i64 (l[0]?.getD 0), .int .i64 (l[1]?.getD 0), .int .i64 (l[2]?.getD 0), .int .i64 (numP ((l.drop 3).take k))] 56]) (fun i _ => 8 - (intOf i).toNat)
  case atStart => exact ⟨0, Nat.zero_le _, rfl, by rw [show numP ((l.drop 3).take 0) = 0 by simp [numP, numU, wrap64]]; exact Hw0.out⟩
  case round =>
    clear Hw0
    obtain ⟨k, hk, rfl, hw⟩ := hrel
    by_cases hlt : k < 8
    · obtain ⟨x, hx⟩ : ∃ x, l[3 + k]? = some x := ⟨_, List.getElem?_eq_getElem (by rw [hl.out]; omega)⟩
      have gx : wr.cell? ⟨p.block, p.off + 3 + k, none⟩ = some (.int .u8 x) := by
        obtain ⟨p2, hp2, hc⟩ := HR.out _ _ 0 hw rfl (3 + k) x hx
        cases hp2
        have e1 : p.add (3 + k) = ⟨p.block, p.off + 3 + k, none⟩ := by unfold Addr.add; rw [if_neg (by omega), Nat.add_assoc]
        rwa [e1] at hc
      have Hx := Sep.hid hx; clear hx
      (try replace hc0 := Sep.Holds.cells hw (i := 0) rfl); (try replace hc1 := Sep.Holds.cells hw (i := 1) rfl); (try replace hc2 := Sep.Holds.cells hw (i := 2) rfl); (try replace hc3 := Sep.Holds.cells hw (i := 3) rfl); (try replace hc4 := Sep.Holds.cells hw (i := 4) rfl); (try replace hc5 := Sep.Holds.cells hw (i := 5) rfl); (try replace hc6 := Sep.Holds.cells hw (i := 6) rfl)
      have Hor : Hid (bits .or .i64 (wrap64 (numP ((l.drop 3).take k) * 256)) (wrap64 x) = numP ((l.drop 3).take (k + 1))) := Sep.hid (by
        have h1 := numU_small ((Hb.out.drop 3).take k) (by rw [List.length_take]; omega)
        have h2 := or_step (numU ((l.drop 3).take k)) x h1.1 h1.2 (Hb.out x (List.mem_of_getElem? Hx.out))
        have h3 : (l.drop 3)[k]? = some x := by rw [List.getElem?_drop]; exact Hx.out
        unfold numP
        rw [h2, takeB h3, numU_snoc])
      go_wp2_with (first | (refine wpList_on rfl (wp_store1 (v := _) rfl rfl rfl hw (i := 2) rfl (by simp [Sep.mid_length, Act.eval, Value.cells]; try omega) rfl ?_); intro w_ hw_; clear hw; have hw := hw_; clear hw_; (try simp only [List.map_cons, List.map_nil, List.getD_cons_zero, List.getD_cons_succ, List.getD_nil, List.set_cons_zero, List.set_cons_succ, List.cons_append, List.nil_append, Act.eval, Array.getD_eq_getD_getElem?, List.getElem?_toArray, List.getElem?_cons_succ, List.getElem?_cons_zero, Option.getD_some, Value.cells] at hw); (try simp (disch := first | (simp; done) | (simp; omega)) only [Sep.mid_set, Sep.mid_set2, Sep.mid_set0, Sep.mid_splice, Sep.mid_splice0, List.set_cons_zero, List.set_cons_succ] at hw); (try simp only [Sep.splice, List.take_succ_cons, List.take_zero, List.drop_succ_cons, List.drop_zero, List.length_cons, List.length_nil, Nat.reduceAdd, List.cons_append, List.nil_append] at hw); (try replace hc0 := Sep.Holds.cells hw (i := 0) rfl); (try replace hc1 := Sep.Holds.cells hw (i := 1) rfl); (try replace hc2 := Sep.Holds.cells hw (i := 2) rfl); (try replace hc3 := Sep.Holds.cells hw (i := 3) rfl); (try replace hc4 := Sep.Holds.cells hw (i := 4) rfl); (try replace hc5 := Sep.Holds.cells hw (i := 5) rfl); (try replace hc6 := Sep.Holds.cells hw (i := 6) rfl)))
      go_roundw
      case rel =>
        refine ⟨k + 1, by omega, by go_num, ?_⟩
        rw [← Hor.out]
        exact hw
      case measure => simp [intOf]; omega
    · have hke : k = 8 := by omega
      subst hke
      (try replace hc0 := Sep.Holds.cells hw (i := 0) rfl); (try replace hc1 := Sep.Holds.cells hw (i := 1) rfl); (try replace hc2 := Sep.Holds.cells hw (i := 2) rfl); (try replace hc3 := Sep.Holds.cells hw (i := 3) rfl); (try replace hc4 := Sep.Holds.cells hw (i := 4) rfl); (try replace hc5 := Sep.Holds.cells hw (i := 5) rfl); (try replace hc6 := Sep.Holds.cells hw (i := 6) rfl)
      go_wp2_with (first | (refine wpList_on rfl (wp_storeAll (vs := [.int .i64 (l[0]?.getD 0), .int .i64 (l[1]?.getD 0), .int .i64 (l[2]?.getD 0), .int .i64 (numP ((l.drop 3).take 8))]) rfl rfl (by rfl) hw (i := 1) rfl rfl rfl (by simp [Value.oneCell']) ?_); intro w_ hw_; clear hw; have hw := hw_; clear hw_; (try simp only [List.map_cons, List.map_nil, List.getD_cons_zero, List.getD_cons_succ, List.getD_nil, List.set_cons_zero, List.set_cons_succ, List.cons_append, List.nil_append, Act.eval, Array.getD_eq_getD_getElem?, List.getElem?_toArray, List.getElem?_cons_succ, List.getElem?_cons_zero, Option.getD_some, Value.cells] at hw); (try simp (disch := first | (simp; done) | (simp; omega)) only [Sep.mid_set, Sep.mid_set2, Sep.mid_set0, Sep.mid_splice, Sep.mid_splice0, List.set_cons_zero, List.set_cons_succ] at hw); (try simp only [Sep.splice, List.take_succ_cons, List.take_zero, List.drop_succ_cons, List.drop_zero, List.length_cons, List.length_nil, Nat.reduceAdd, List.cons_append, List.nil_append] at hw); (try replace hc0 := Sep.Holds.cells hw (i := 0) rfl); (try replace hc1 := Sep.Holds.cells hw (i := 1) rfl); (try replace hc2 := Sep.Holds.cells hw (i := 2) rfl); (try replace hc3 := Sep.Holds.cells hw (i := 3) rfl); (try replace hc4 := Sep.Holds.cells hw (i := 4) rfl); (try replace hc5 := Sep.Holds.cells hw (i := 5) rfl); (try replace hc6 := Sep.Holds.cells hw (i := 6) rfl)))
      refine bodyPost_ret (v := .agg (encA (insP l)).toArray) (res_cell (ty := 56) rfl rfl hw (i := 1) rfl rfl) rfl ?_
      exact HP.out _ _ ⟨rfl, hw.sel [0] (by decide)⟩
end Go.Proofs.YteinbojpmhblkaaDoor
/-
  The walks of slices.Chunk and of what it hands back.
-/
namespace Go.Proofs.YteinbojpmhblkaaDoor
set_option linter.unusedSimpArgs false
set_option linter.unusedVariables false
open Go.RowKit Go.Sep
set_option maxRecDepth 20000

theorem entersC : ∀ args w, (callFunc 51 args).run Tryd.prog w = .ok (.enter 51 args) w := callFunc_run ⟨_, Tryd.func51, rfl, by kernel_rfl⟩
set_option maxHeartbeats 400000 in
theorem oChunk (p : Addr) (n ca : Nat) (e w : World) (X : HProp) (hw : Holds e w [X]) :
    Calls Tryd.prog 42 #[.slice (some p) n ca, .int .i64 11] w fun en w' => ∃ b2 b3, en = .returned (.func (.func 51) #[] #[.pointer (some ⟨b2, 0, none⟩), .pointer (some ⟨b3, 0, none⟩)]) ∧ Holds e w' [X, pt b2 [.slice (some p) n ca] 29, pt b3 [.int .i64 11] 3] := by
  have hmf : ∀ (fn : Fn) (first cap : Array Value) (w : World), (Instr.makeFunc fn first cap).run Tryd.prog w = .ok (.func fn first cap) w := fun _ _ _ _ => rfl
  refine Sep.calls_post ?_
  intro Post_ hPost_
  have HP := Sep.hid hPost_
  clear hPost_
  go_enter Tryd.func42, Tryd.ntmps42
  go_wp2_with (first | (refine wpList_on rfl (wp_box (L := [_]) rfl hw ?_); intro b2_ w_ hw_; clear hw; have hw := hw_; clear hw_; (try simp only [List.map_cons, List.map_nil, List.getD_cons_zero, List.getD_cons_succ, List.getD_nil, List.set_cons_zero, List.set_cons_succ, List.cons_append, List.nil_append, Act.eval, Array.getD_eq_getD_getElem?, List.getElem?_toArray, List.getElem?_cons_succ, List.getElem?_cons_zero, Option.getD_some, Value.cells] at hw); (try simp (disch := first | (simp; done) | (simp; omega)) only [Sep.mid_set, Sep.mid_set2, Sep.mid_set0, Sep.mid_splice, Sep.mid_splice0, List.set_cons_zero, List.set_cons_succ] at hw); (try simp only [Sep.splice, List.take_succ_cons, List.take_zero, List.drop_succ_cons, List.drop_zero, List.length_cons, List.length_nil, Nat.reduceAdd, List.cons_append, List.nil_append] at hw); (try replace hc0 := Sep.Holds.cells hw (i := 0) rfl); (try replace hc1 := Sep.Holds.cells hw (i := 1) rfl); (try replace hc2 := Sep.Holds.cells hw (i := 2) rfl); (try replace hc3 := Sep.Holds.cells hw (i := 3) rfl); (try replace hc4 := Sep.Holds.cells hw (i := 4) rfl); (try replace hc5 := Sep.Holds.cells hw (i := 5) rfl); (try replace hc6 := Sep.Holds.cells hw (i := 6) rfl); (try simp only [Act.put, List.setIfInBounds_toArray, List.set_cons_zero, List.set_cons_succ])) | (refine wpList_on rfl (wp_box rfl hw ?_); intro b3_ w_ hw_; clear hw; have hw := hw_; clear hw_; (try simp only [List.map_cons, List.map_nil, List.getD_cons_zero, List.getD_cons_succ, List.getD_nil, List.set_cons_zero, List.set_cons_succ, List.cons_append, List.nil_append, Act.eval, Array.getD_eq_getD_getElem?, List.getElem?_toArray, List.getElem?_cons_succ, List.getElem?_cons_zero, Option.getD_some, Value.cells] at hw); (try simp (disch := first | (simp; done) | (simp; omega)) only [Sep.mid_set, Sep.mid_set2, Sep.mid_set0, Sep.mid_splice, Sep.mid_splice0, List.set_cons_zero, List.set_cons_succ] at hw); (try simp only [Sep.splice, List.take_succ_cons, List.take_zero, List.drop_succ_cons, List.drop_zero, List.length_cons, List.length_nil, Nat.reduceAdd, List.cons_append, List.nil_append] at hw); (try replace hc0 := Sep.Holds.cells hw (i := 0) rfl); (try replace hc1 := Sep.Holds.cells hw (i := 1) rfl); (try replace hc2 := Sep.Holds.cells hw (i := 2) rfl); (try replace hc3 := Sep.Holds.cells hw (i := 3) rfl); (try replace hc4 := Sep.Holds.cells hw (i := 4) rfl); (try replace hc5 := Sep.Holds.cells hw (i := 5) rfl); (try replace hc6 := Sep.Holds.cells hw (i := 6) rfl)))
  exact HP.out _ _ ⟨_, _, rfl, hw⟩
set_option maxRecDepth 20000 in
set_option maxHeartbeats 4000000 in
theorem chunk_in (b2 b3 l m : Nat) (p : Addr) (hm : m ≤ 24) (e : World) (Xg : Nat → HProp)
    (hY : ∀ (k : Nat) (C : HProp) (w : World), k < m → Holds e w [C, Xg k] → YieldAt Fence.wide 8 Tryd.prog l #[.slice (some (p.add (k * 11))) 11 11] w fun en w' => en = .returned (.bool true) ∧ Holds e w' [C, Xg (k + 1)])
    (w : World) (hw : Holds e w [Xg 0, pt b2 [.slice (some p) (m * 11) (m * 11)] 29, pt b3 [.int .i64 11] 3]) :
    CallsIn Fence.wide 9 Tryd.prog 51 #[.func (.yield l) #[] #[], .pointer (some ⟨b2, 0, none⟩), .pointer (some ⟨b3, 0, none⟩)] w fun en w' => (∃ v, en = .returned v) ∧ Holds e w' [Xg m, pt b2 [.slice (some p) (m * 11) (m * 11)] 29, pt b3 [.int .i64 11] 3] := by
  have hmix : Tryd.prog.follows .mixedOrders = true := by kernel_rfl
  refine Sep.callsIn_post ?_
  intro Post_ hPost_
  have HP := Sep.hid hPost_
  clear hPost_
  refine callsIn_of_wp Tryd.func51 rfl trivial ?_
  simp only [Tryd.ntmps51, List.size_toArray, List.length_cons, List.length_nil, Nat.reduceAdd, Nat.reduceSub, Array.replicate_succ, Array.replicate_zero, List.push_toArray, List.append_toArray, List.nil_append, List.cons_append]
  gi_wp2
  have Hw0 := Sep.hid hw; clear hw
  gi_loopw [4] (fun i wr => ∃ k : Nat, k ≤ m ∧ i = .int .i64 ((k * 11 : Nat) : Int) ∧ Holds e wr [Xg k, pt b2 [.slice (some p) (m * 11) (m * 11)] 29, pt b3 [.int .i64 11] 3]) (fun i _ => m * 11 - (intOf i).toNat)
  case atStart => exact ⟨0, Nat.zero_le _, rfl, Hw0.out⟩
  case round =>
    clear Hw0
    obtain ⟨k, hk, rfl, hw⟩ := hrel
    by_cases hlt : k < m
    · obtain ⟨i, hi⟩ : ∃ i, k * 11 = i := ⟨_, rfl⟩
      obtain ⟨N, hN⟩ : ∃ N, m * 11 = N := ⟨_, rfl⟩
      have HY := fun C w' hw' => hY k C w' hlt hw'
      rw [hi] at HY ⊢
      rw [hN] at hw ⊢
      have hiN : i + 11 ≤ N := by omega
      have HYh := Sep.hid HY; clear HY
      have Hle : Hid (i ≤ N) := Sep.hid (by omega)
      have Hne : Hid (¬ N = i) := Sep.hid (by omega)
      (try replace hc0 := Sep.Holds.cells hw (i := 0) rfl); (try replace hc1 := Sep.Holds.cells hw (i := 1) rfl); (try replace hc2 := Sep.Holds.cells hw (i := 2) rfl); (try replace hc3 := Sep.Holds.cells hw (i := 3) rfl); (try replace hc4 := Sep.Holds.cells hw (i := 4) rfl); (try replace hc5 := Sep.Holds.cells hw (i := 5) rfl); (try replace hc6 := Sep.Holds.cells hw (i := 6) rfl)
      gi_wp2
      refine wpIn_wide.2 ?_
      refine wp_region_L [] [(0, (fun w' => w' = wr.drew)), (1, (fun w' => w' = wr.drew))] (n := 7) (listed := (marks 7 0)) (by kernel_rfl) rfl (by kernel_rfl) ?conds1 ?_
      case conds1 =>
       intro c hc
       simp only [List.mem_cons, List.not_mem_nil, or_false] at hc
       rcases hc with rfl | rfl
       · rfl
       · rfl
      replace hw := hw.drew
      (try replace hc0 := Sep.Holds.cells hw (i := 0) rfl); (try replace hc1 := Sep.Holds.cells hw (i := 1) rfl); (try replace hc2 := Sep.Holds.cells hw (i := 2) rfl); (try replace hc3 := Sep.Holds.cells hw (i := 3) rfl); (try replace hc4 := Sep.Holds.cells hw (i := 4) rfl); (try replace hc5 := Sep.Holds.cells hw (i := 5) rfl); (try replace hc6 := Sep.Holds.cells hw (i := 6) rfl)
      refine wpL_m 0 ?_ rfl (.head _) (Or.inl ⟨by rfl, fun w_ hS_ => ?_⟩) (marks 7 1) ?_
      rotate_left
      next => (subst hS_; first | ((go_simp; first | rfl | (rw [if_pos Hle.out, if_neg Hne.out]; done) | (rw [if_pos Hle.out, if_neg Hne.out]; rfl))) | (go_simp; try (first | rfl | exact (Bool.not_not _).symm)))
      try simp only [Act.put, List.setIfInBounds_toArray, List.set_cons_zero, List.set_cons_succ]
      refine wpL_m 1 ?_ rfl (.tail _ (.head _)) (Or.inl ⟨by rfl, fun w_ hS_ => ?_⟩) (marks 7 3) ?_
      rotate_left
      next => (subst hS_; first | ((go_simp; first | rfl | (rw [if_pos Hle.out, if_neg Hne.out]; done) | (rw [if_pos Hle.out, if_neg Hne.out]; rfl))) | (go_simp; try (first | rfl | exact (Bool.not_not _).symm)))
      try simp only [Act.put, List.setIfInBounds_toArray, List.set_cons_zero, List.set_cons_succ]
      refine wpL_q 2 ?_ rfl (Or.inl ⟨by rfl, fun w_ hS_ => ?_⟩) (marks 7 7) ?_
      rotate_left
      next => (go_simp; try (first | rfl | exact (Bool.not_not _).symm))
      try simp only [Act.put, List.setIfInBounds_toArray, List.set_cons_zero, List.set_cons_succ]
      refine wpL_q 3 ?_ rfl (Or.inl ⟨by rfl, fun w_ hS_ => ?_⟩) (marks 7 15) ?_
      rotate_left
      next => (first | ((go_simp; first | rfl | (rw [if_pos Hle.out, if_neg Hne.out]; done) | (rw [if_pos Hle.out, if_neg Hne.out]; rfl))) | (go_simp; try (first | rfl | exact (Bool.not_not _).symm)))
      try simp only [Act.put, List.setIfInBounds_toArray, List.set_cons_zero, List.set_cons_succ]
      refine wpL_q 4 ?_ rfl (Or.inl ⟨by rfl, fun w_ hS_ => ?_⟩) (marks 7 31) ?_
      rotate_left
      next => (go_simp; try (first | rfl | exact (Bool.not_not _).symm))
      try simp only [Act.put, List.setIfInBounds_toArray, List.set_cons_zero, List.set_cons_succ]
      refine wpL_q 5 ?_ rfl (Or.inl ⟨by rfl, fun w_ hS_ => ?_⟩) (marks 7 63) ?_
      rotate_left
      next => (go_simp; try (first | rfl | exact (Bool.not_not _).symm))
      try simp only [Act.put, List.setIfInBounds_toArray, List.set_cons_zero, List.set_cons_succ]
      refine wpL_q 6 ?_ rfl (Or.inl ⟨by rfl, fun w_ hS_ => ?_⟩) (marks 7 127) ?_
      rotate_left
      next => (go_simp; try (first | rfl | exact (Bool.not_not _).symm))
      try simp only [Act.put, List.setIfInBounds_toArray, List.set_cons_zero, List.set_cons_succ]
      all_goals refine wpL_done (by kernel_rfl) ?_ _
      obtain ⟨fn, tmps, assign, body, hy, hR⟩ := HYh.out _ _ (hw.focus1 0 rfl)
      gi_wp2
      refine hR.mono ?_
      rintro en_ w3 ⟨rfl, hw_⟩
      clear hw hy hR; (try clear hc0); (try clear hc1); (try clear hc2); (try clear hc3); (try clear hc4); (try clear hc5); (try clear hc6); have hw := Holds.unfocus1 0 (by simp) hw_; clear hw_
      (try simp only [List.map_cons, List.map_nil, List.getD_cons_zero, List.getD_cons_succ, List.getD_nil, List.set_cons_zero, List.set_cons_succ, List.cons_append, List.nil_append, Act.eval, Array.getD_eq_getD_getElem?, List.getElem?_toArray, List.getElem?_cons_succ, List.getElem?_cons_zero, Option.getD_some, Value.cells] at hw); (try simp (disch := first | (simp; done) | (simp; omega)) only [Sep.mid_set, Sep.mid_set2, Sep.mid_set0, Sep.mid_splice, Sep.mid_splice0, List.set_cons_zero, List.set_cons_succ] at hw); (try simp only [Sep.splice, List.take_succ_cons, List.take_zero, List.drop_succ_cons, List.drop_zero, List.length_cons, List.length_nil, Nat.reduceAdd, List.cons_append, List.nil_append] at hw)
      (try replace hc0 := Sep.Holds.cells hw (i := 0) rfl); (try replace hc1 := Sep.Holds.cells hw (i := 1) rfl); (try replace hc2 := Sep.Holds.cells hw (i := 2) rfl); (try replace hc3 := Sep.Holds.cells hw (i := 3) rfl); (try replace hc4 := Sep.Holds.cells hw (i := 4) rfl); (try replace hc5 := Sep.Holds.cells hw (i := 5) rfl); (try replace hc6 := Sep.Holds.cells hw (i := 6) rfl)
      gi_wp2
      go_roundw
      case rel => exact ⟨k + 1, by omega, by rw [← hi]; congr 1; push_cast; omega, hw⟩
      case measure => simp [intOf]; omega
    · have hke : m = k := by omega
      subst hke
      (try replace hc0 := Sep.Holds.cells hw (i := 0) rfl); (try replace hc1 := Sep.Holds.cells hw (i := 1) rfl); (try replace hc2 := Sep.Holds.cells hw (i := 2) rfl); (try replace hc3 := Sep.Holds.cells hw (i := 3) rfl); (try replace hc4 := Sep.Holds.cells hw (i := 4) rfl); (try replace hc5 := Sep.Holds.cells hw (i := 5) rfl); (try replace hc6 := Sep.Holds.cells hw (i := 6) rfl)
      gi_wp2
      refine bodyPost_ret (results_none rfl _ _ _) rfl ?_
      exact HP.out _ _ ⟨⟨_, rfl⟩, hw⟩
end Go.Proofs.YteinbojpmhblkaaDoor
/-
  A region that draws its order, in a round of a loop over a function.
-/
namespace Go.Sep
set_option linter.unusedSimpArgs false
set_option linter.unusedVariables false
section
variable {P : Program} {ops : Array Oper} {Q : Exit → Act → World → Prop} {F : Fence} {m : Nat}
theorem wpOpsIn_of (hF : Wide F) (hQ : ∀ a w, ¬ Q .outgrown a w) (hd : ops.toList.all noDefer = true) : ∀ {l : List Nat} {a : Act} {w : World}, wpOps P ops Q l a w → wpOpsIn F m P ops Q l a w
  | [], _, _, h => h
  | i :: l, a, w, h => by
    simp only [wpOps] at h
    simp only [wpOpsIn]
    cases ho : ops[i]? with
    | none => simp only [ho] at h ⊢; exact wpOpsIn_of hF hQ hd h
    | some o =>
      simp only [ho] at h ⊢
      have hno : noDefer o = true := List.all_eq_true.1 hd o (Array.mem_toList_iff.2 (Array.mem_of_getElem? ho))
      split
      · rename_i hw
        rw [if_pos hw] at h
        rcases h with h | ⟨_, a', w', h⟩
        · exact wpIn_ofwp hF hno (Oper.wp_mono (fun a w h => wpOpsIn_of hF hQ hd h) h)
        · exact (hQ _ _ h).elim
      · rename_i hw
        rw [if_neg hw] at h
        exact ⟨fun _ _ => hF.fn _, wpOpsIn_of hF hQ hd h⟩
theorem wp_region_LIn (hF : Wide F) (hQ : ∀ a w, ¬ Q .outgrown a w) (hd : ops.toList.all noDefer = true) (loud : List Nat) (conds : Conds) {id : Nat} {a : Act} {w : World} {listed : Array Bool} {n : Nat} (hm : P.follows .mixedOrders = true) (hn : ops.size = n) (hl : Array.replicate n false = listed)
    (h0 : ∀ c ∈ (show List (Nat × (World → Prop)) from conds), c.2 w.drew)
    (h : wpL P ops Q loud conds n listed a w.drew) : (Code.region id ops true).wpIn F m P Q a w := by
  subst hn
  subst hl
  refine wpIn_region_draw fun t => wpOpsIn_of hF hQ hd ?_
  simp only [Region.schedule, hm, Bool.true_or, if_true]
  refine wpAny_sound ops.size t _ a _ (wpAny_of_L _ _ _ _ (h ?_ ?_))
  · intro j o ho hj
    have hlt : j < ops.size := by
      rcases Nat.lt_or_ge j ops.size with h' | h'
      · exact h'
      · simp [Array.getElem?_eq_none h'] at ho
    simp [hlt] at hj
  · exact fun c hc _ => h0 c hc
end
end Go.Sep
