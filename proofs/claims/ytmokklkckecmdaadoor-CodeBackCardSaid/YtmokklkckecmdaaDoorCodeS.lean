/-
  The walk of the document's Right.
-/
import Derived.Test.YtmokklkckecmdaaDoorCodeR
import Derived.Test.YtmokklkckecmdaaDoorSepRead
import Derived.Test.YtmokklkckecmdaaDoorRegionS
namespace Go.Proofs.YtmokklkckecmdaaDoor
set_option linter.unusedSimpArgs false
set_option linter.unusedVariables false
open Go.RowKit Go.Sep

theorem get_strOf {l : List Nat} {k c : Nat} (h : l[k]? = some c) : (strOf l)[k]? = some (UInt8.ofNat c) := by
  obtain ⟨hk, rfl⟩ := List.getElem?_eq_some_iff.1 h
  have hs : k < (strOf l).size := by rw [size_strOf]; exact hk
  rw [getElem?_pos (strOf l) k hs]
  simp [strOf, ByteArray.getElem_eq_getElem_data]
theorem toNat_ofNat {c : Nat} (h : c ∈ letters) : (UInt8.ofNat c).toNat = c := by
  have := letters_lt h
  simp [UInt8.toNat_ofNat]; omega
set_option maxRecDepth 20000 in
set_option maxHeartbeats 8000000 in
theorem rRight (x : Deed) (long : Int) (e w : World) (X : HProp) (hw : Holds e w [X]) :
    Calls Tryd.prog 15 #[.agg (encA x).toArray, .int .i64 long] w fun en w' => en = .returned (.bool (rightP x long)) ∧ Holds e w' [X] := by
  have hA : encA x = [.int .i64 x.f0, .int .i64 x.f1, .int .i64 x.f2, .int .i64 x.f3] := rfl
  rcases form_cases x.f0 with ⟨hf, _⟩ | ⟨c0, c1, c2, hf, m0, m1, m2⟩
  · have hb : rightP x long = false := by unfold rightP; rw [hf]
    have Hf := Sep.hid hf; clear hf
    rw [hb, hA]; clear hb hA
    have hsz := size_strOf []
    obtain ⟨c0, c1, c2, M0, M1, M2⟩ : ∃ c0 c1 c2, Hid (c0 ∈ letters) ∧ Hid (c1 ∈ letters) ∧ Hid (c2 ∈ letters) := ⟨48, 48, 48, Sep.hid (by decide), Sep.hid (by decide), Sep.hid (by decide)⟩
    have Hb0 : Hid (fitsP c0 x.f1 long = fitsP c0 x.f1 long) := Sep.hid rfl
    have Hb1 : Hid (fitsP c1 x.f2 long = fitsP c1 x.f2 long) := Sep.hid rfl
    refine Sep.calls_post ?_
    intro Post_ hPost_
    have HP := Sep.hid hPost_
    clear hPost_
    go_enter Tryd.func15, Tryd.ntmps15
    go_wp2_with (first | (refine wpList_on rfl (wp_box rfl hw ?_); intro bx_ w_ hw_; clear hw; have hw := hw_; clear hw_; (try simp only [List.map_cons, List.map_nil, List.getD_cons_zero, List.getD_cons_succ, List.getD_nil, List.set_cons_zero, List.set_cons_succ, List.cons_append, List.nil_append, Act.eval, Array.getD_eq_getD_getElem?, List.getElem?_toArray, List.getElem?_cons_succ, List.getElem?_cons_zero, Option.getD_some, Value.cells] at hw); (try simp (disch := first | (simp; done) | (simp; omega)) only [Sep.mid_set, Sep.mid_set2, Sep.mid_set0, Sep.mid_splice, Sep.mid_splice0, List.set_cons_zero, List.set_cons_succ] at hw); (try simp only [Sep.splice, List.take_succ_cons, List.take_zero, List.drop_succ_cons, List.drop_zero, List.length_cons, List.length_nil, Nat.reduceAdd, List.cons_append, List.nil_append] at hw); (try replace hc0 := Sep.Holds.cells hw (i := 0) rfl); (try replace hc1 := Sep.Holds.cells hw (i := 1) rfl); (try replace hc2 := Sep.Holds.cells hw (i := 2) rfl); (try replace hc3 := Sep.Holds.cells hw (i := 3) rfl); (try replace hc4 := Sep.Holds.cells hw (i := 4) rfl); (try replace hc5 := Sep.Holds.cells hw (i := 5) rfl); (try replace hc6 := Sep.Holds.cells hw (i := 6) rfl)))
    refine (rForm x.f0 _).mono ?_
    rintro _ w_ ⟨rfl, rfl⟩
    rw [Hf.out]
    go_wp2_with fail
    refine wp_region_L [9, 17, 25] [(7, (fun w' => w' = w_.drew)), (15, (fun w' => Holds e w' [pt bx_ [.int .i64 x.f0, .int .i64 x.f1, .int .i64 x.f2, .int .i64 x.f3] 40])), (23, (fun w' => Holds e w' [pt bx_ [.int .i64 x.f0, .int .i64 x.f1, .int .i64 x.f2, .int .i64 x.f3] 40]))] (n := 28) (listed := (marks 28 0)) (by kernel_rfl) rfl (by kernel_rfl) ?conds1 ?_
    case conds1 =>
     intro c hc
     simp only [List.mem_cons, List.not_mem_nil, or_false] at hc
     rcases hc with rfl | rfl | rfl
     · rfl
     · exact (by replace hw := hw.drew; exact hw.sel [1] (by decide))
     · exact (by replace hw := hw.drew; exact hw.sel [1] (by decide))
    replace hw := hw.drew
    (try replace hc0 := Sep.Holds.cells hw (i := 0) rfl); (try replace hc1 := Sep.Holds.cells hw (i := 1) rfl); (try replace hc2 := Sep.Holds.cells hw (i := 2) rfl); (try replace hc3 := Sep.Holds.cells hw (i := 3) rfl); (try replace hc4 := Sep.Holds.cells hw (i := 4) rfl); (try replace hc5 := Sep.Holds.cells hw (i := 5) rfl); (try replace hc6 := Sep.Holds.cells hw (i := 6) rfl)
    refine wpL_q 0 ?_ rfl (Or.inl ⟨by rfl, fun w_ hS_ => ?_⟩) (marks 28 1) ?_
    rotate_left
    next => (go_simp; try (first | rfl | exact (Bool.not_not _).symm))
    try simp only [Act.put, List.setIfInBounds_toArray, List.set_cons_zero, List.set_cons_succ]
    refine wpL_q 1 ?_ rfl (Or.inl ⟨by rfl, fun w_ hS_ => ?_⟩) (marks 28 3) ?_
    rotate_left
    next => (go_simp; try (first | rfl | exact (Bool.not_not _).symm))
    try simp only [Act.put, List.setIfInBounds_toArray, List.set_cons_zero, List.set_cons_succ]
    refine wpL_q 2 ?_ rfl (Or.inl ⟨by rfl, fun w_ hS_ => ?_⟩) (marks 28 7) ?_
    rotate_left
    next => (first | (first | (refine Eq.trans (run_indexStr (s := strOf [c0, c1, c2]) (k := 0) (b := UInt8.ofNat c0) Tryd.underlying9 rfl rfl rfl (get_strOf rfl)) ?_; rw [toNat_ofNat M0.out]; done) | (refine Eq.trans (run_indexStr (s := strOf [c0, c1, c2]) (k := 1) (b := UInt8.ofNat c1) Tryd.underlying9 rfl rfl rfl (get_strOf rfl)) ?_; rw [toNat_ofNat M1.out]; done) | (refine Eq.trans (run_indexStr (s := strOf [c0, c1, c2]) (k := 2) (b := UInt8.ofNat c2) Tryd.underlying9 rfl rfl rfl (get_strOf rfl)) ?_; rw [toNat_ofNat M2.out]; done)) | (go_simp; try (first | rfl | exact (Bool.not_not _).symm)))
    try simp only [Act.put, List.setIfInBounds_toArray, List.set_cons_zero, List.set_cons_succ]
    refine wpL_b 3 ?_ rfl (Or.inl ⟨by rfl, fun w_ hS_ => ?_⟩) (marks 28 15) ?_
    rotate_left
    next => (go_simp; try (first | rfl | exact (Bool.not_not _).symm))
    intro bb_ hg3
    cases bb_
    case' true =>
     (try simp only [decide_eq_true_eq, decide_eq_false_iff_not, beq_iff_eq, beq_eq_false_iff_ne, bne_iff_ne, bne_eq_false_iff_eq, Bool.not_eq_true', Bool.not_eq_false', Int.not_lt, Int.not_le] at hg3)
     first | (cases hg3; done) | (exfalso; omega; done)
    case' false =>
     (try simp only [decide_eq_true_eq, decide_eq_false_iff_not, beq_iff_eq, beq_eq_false_iff_ne, bne_iff_ne, bne_eq_false_iff_eq, Bool.not_eq_true', Bool.not_eq_false', Int.not_lt, Int.not_le] at hg3)
     first | (cases hg3; done) | (exfalso; omega; done) | skip
     all_goals
      try replace hg3 := Sep.hid hg3
      try simp only [Act.put, List.setIfInBounds_toArray, List.set_cons_zero, List.set_cons_succ]
      refine wpL_q 4 undef rfl (Or.inr ⟨by rfl, rfl⟩) (marks 28 31) ?_
      try simp only [Act.put, List.setIfInBounds_toArray, List.set_cons_zero, List.set_cons_succ]
      refine wpL_q 5 undef rfl (Or.inr ⟨by rfl, rfl⟩) (marks 28 63) ?_
      try simp only [Act.put, List.setIfInBounds_toArray, List.set_cons_zero, List.set_cons_succ]
      refine wpL_q 6 undef rfl (Or.inr ⟨by rfl, rfl⟩) (marks 28 127) ?_
      try simp only [Act.put, List.setIfInBounds_toArray, List.set_cons_zero, List.set_cons_succ]
      refine wpL_m 7 undef rfl (.head _) (Or.inr ⟨by rfl, rfl⟩) (marks 28 255) ?_
      try simp only [Act.put, List.setIfInBounds_toArray, List.set_cons_zero, List.set_cons_succ]
      refine wpL_q 8 undef rfl (Or.inr ⟨by rfl, rfl⟩) (marks 28 511) ?_
      try simp only [Act.put, List.setIfInBounds_toArray, List.set_cons_zero, List.set_cons_succ]
      refine wpL_s 9 rfl (by rfl) (marks 28 1023) ?_
      try simp only [Act.put, List.setIfInBounds_toArray, List.set_cons_zero, List.set_cons_succ]
    all_goals
     refine wpL_q 10 ?_ rfl (Or.inl ⟨by rfl, fun w_ hS_ => ?_⟩) (marks 28 2047) ?_
     rotate_left
     next => (go_simp; try (first | rfl | exact (Bool.not_not _).symm))
     try simp only [Act.put, List.setIfInBounds_toArray, List.set_cons_zero, List.set_cons_succ]
     refine wpL_b 11 ?_ rfl (Or.inl ⟨by rfl, fun w_ hS_ => ?_⟩) (marks 28 4095) ?_
     rotate_left
     next => (go_simp; try (first | rfl | exact (Bool.not_not _).symm))
     intro bb_ hg11
     cases bb_
     case' true =>
      (try simp only [decide_eq_true_eq, decide_eq_false_iff_not, beq_iff_eq, beq_eq_false_iff_ne, bne_iff_ne, bne_eq_false_iff_eq, Bool.not_eq_true', Bool.not_eq_false', Int.not_lt, Int.not_le] at hg11)
      first | (cases hg11; done) | (exfalso; omega; done)
     case' false =>
      (try simp only [decide_eq_true_eq, decide_eq_false_iff_not, beq_iff_eq, beq_eq_false_iff_ne, bne_iff_ne, bne_eq_false_iff_eq, Bool.not_eq_true', Bool.not_eq_false', Int.not_lt, Int.not_le] at hg11)
      first | (cases hg11; done) | (exfalso; omega; done) | skip
      all_goals
       try replace hg11 := Sep.hid hg11
       try simp only [Act.put, List.setIfInBounds_toArray, List.set_cons_zero, List.set_cons_succ]
       refine wpL_q 12 undef rfl (Or.inr ⟨by rfl, rfl⟩) (marks 28 8191) ?_
       try simp only [Act.put, List.setIfInBounds_toArray, List.set_cons_zero, List.set_cons_succ]
       refine wpL_q 13 undef rfl (Or.inr ⟨by rfl, rfl⟩) (marks 28 16383) ?_
       try simp only [Act.put, List.setIfInBounds_toArray, List.set_cons_zero, List.set_cons_succ]
       refine wpL_q 14 undef rfl (Or.inr ⟨by rfl, rfl⟩) (marks 28 32767) ?_
       try simp only [Act.put, List.setIfInBounds_toArray, List.set_cons_zero, List.set_cons_succ]
       refine wpL_m 15 undef rfl (.tail _ (.head _)) (Or.inr ⟨by rfl, rfl⟩) (marks 28 65535) ?_
       try simp only [Act.put, List.setIfInBounds_toArray, List.set_cons_zero, List.set_cons_succ]
       refine wpL_q 16 undef rfl (Or.inr ⟨by rfl, rfl⟩) (marks 28 131071) ?_
       try simp only [Act.put, List.setIfInBounds_toArray, List.set_cons_zero, List.set_cons_succ]
       refine wpL_s 17 rfl (by rfl) (marks 28 262143) ?_
       try simp only [Act.put, List.setIfInBounds_toArray, List.set_cons_zero, List.set_cons_succ]
     all_goals
      refine wpL_q 18 ?_ rfl (Or.inl ⟨by rfl, fun w_ hS_ => ?_⟩) (marks 28 524287) ?_
      rotate_left
      next => (go_simp; try (first | rfl | exact (Bool.not_not _).symm))
      try simp only [Act.put, List.setIfInBounds_toArray, List.set_cons_zero, List.set_cons_succ]
      refine wpL_b 19 ?_ rfl (Or.inl ⟨by rfl, fun w_ hS_ => ?_⟩) (marks 28 1048575) ?_
      rotate_left
      next => (go_simp; try (first | rfl | exact (Bool.not_not _).symm))
      intro bb_ hg19
      cases bb_
      case' true =>
       (try simp only [decide_eq_true_eq, decide_eq_false_iff_not, beq_iff_eq, beq_eq_false_iff_ne, bne_iff_ne, bne_eq_false_iff_eq, Bool.not_eq_true', Bool.not_eq_false', Int.not_lt, Int.not_le] at hg19)
       first | (cases hg19; done) | (exfalso; omega; done)
      case' false =>
       (try simp only [decide_eq_true_eq, decide_eq_false_iff_not, beq_iff_eq, beq_eq_false_iff_ne, bne_iff_ne, bne_eq_false_iff_eq, Bool.not_eq_true', Bool.not_eq_false', Int.not_lt, Int.not_le] at hg19)
       first | (cases hg19; done) | (exfalso; omega; done) | skip
       all_goals
        try replace hg19 := Sep.hid hg19
        try simp only [Act.put, List.setIfInBounds_toArray, List.set_cons_zero, List.set_cons_succ]
        refine wpL_q 20 undef rfl (Or.inr ⟨by rfl, rfl⟩) (marks 28 2097151) ?_
        try simp only [Act.put, List.setIfInBounds_toArray, List.set_cons_zero, List.set_cons_succ]
        refine wpL_q 21 undef rfl (Or.inr ⟨by rfl, rfl⟩) (marks 28 4194303) ?_
        try simp only [Act.put, List.setIfInBounds_toArray, List.set_cons_zero, List.set_cons_succ]
        refine wpL_q 22 undef rfl (Or.inr ⟨by rfl, rfl⟩) (marks 28 8388607) ?_
        try simp only [Act.put, List.setIfInBounds_toArray, List.set_cons_zero, List.set_cons_succ]
        refine wpL_m 23 undef rfl (.tail _ (.tail _ (.head _))) (Or.inr ⟨by rfl, rfl⟩) (marks 28 16777215) ?_
        try simp only [Act.put, List.setIfInBounds_toArray, List.set_cons_zero, List.set_cons_succ]
        refine wpL_q 24 undef rfl (Or.inr ⟨by rfl, rfl⟩) (marks 28 33554431) ?_
        try simp only [Act.put, List.setIfInBounds_toArray, List.set_cons_zero, List.set_cons_succ]
        refine wpL_s 25 rfl (by rfl) (marks 28 67108863) ?_
        try simp only [Act.put, List.setIfInBounds_toArray, List.set_cons_zero, List.set_cons_succ]
      all_goals
       refine wpL_q 26 ?_ rfl (Or.inl ⟨by rfl, fun w_ hS_ => ?_⟩) (marks 28 134217727) ?_
       rotate_left
       next => (go_simp; try (first | rfl | exact (Bool.not_not _).symm))
       try simp only [Act.put, List.setIfInBounds_toArray, List.set_cons_zero, List.set_cons_succ]
       refine wpL_q 27 ?_ rfl (Or.inl ⟨by rfl, fun w_ hS_ => ?_⟩) (marks 28 268435455) ?_
       rotate_left
       next => (go_simp; try (first | rfl | exact (Bool.not_not _).symm))
       try simp only [Act.put, List.setIfInBounds_toArray, List.set_cons_zero, List.set_cons_succ]
       all_goals refine wpL_done (by kernel_rfl) ?_ _
    go_wp2_with fail
    exact HP.out _ _ ⟨rfl, hw.sel [0] (by decide)⟩
  · have hr : rightP x long = (fitsP c0 x.f1 long && (fitsP c1 x.f2 long && fitsP c2 x.f3 long)) := by unfold rightP; rw [hf]
    have Hf := Sep.hid hf; clear hf
    have M0 := Sep.hid m0; have M1 := Sep.hid m1; have M2 := Sep.hid m2
    clear m0 m1 m2
    have hsz := size_strOf [c0, c1, c2]
    cases hb0 : fitsP c0 x.f1 long with
    | false =>
      have hb : rightP x long = false := by rw [hr, hb0]; rfl
      have Hb0 := Sep.hid hb0
      rw [hb, hA]; clear hb hA hr hb0
      have Hb1 : Hid (fitsP c1 x.f2 long = fitsP c1 x.f2 long) := Sep.hid rfl
      refine Sep.calls_post ?_
      intro Post_ hPost_
      have HP := Sep.hid hPost_
      clear hPost_
      go_enter Tryd.func15, Tryd.ntmps15
      go_wp2_with (first | (refine wpList_on rfl (wp_box rfl hw ?_); intro bx_ w_ hw_; clear hw; have hw := hw_; clear hw_; (try simp only [List.map_cons, List.map_nil, List.getD_cons_zero, List.getD_cons_succ, List.getD_nil, List.set_cons_zero, List.set_cons_succ, List.cons_append, List.nil_append, Act.eval, Array.getD_eq_getD_getElem?, List.getElem?_toArray, List.getElem?_cons_succ, List.getElem?_cons_zero, Option.getD_some, Value.cells] at hw); (try simp (disch := first | (simp; done) | (simp; omega)) only [Sep.mid_set, Sep.mid_set2, Sep.mid_set0, Sep.mid_splice, Sep.mid_splice0, List.set_cons_zero, List.set_cons_succ] at hw); (try simp only [Sep.splice, List.take_succ_cons, List.take_zero, List.drop_succ_cons, List.drop_zero, List.length_cons, List.length_nil, Nat.reduceAdd, List.cons_append, List.nil_append] at hw); (try replace hc0 := Sep.Holds.cells hw (i := 0) rfl); (try replace hc1 := Sep.Holds.cells hw (i := 1) rfl); (try replace hc2 := Sep.Holds.cells hw (i := 2) rfl); (try replace hc3 := Sep.Holds.cells hw (i := 3) rfl); (try replace hc4 := Sep.Holds.cells hw (i := 4) rfl); (try replace hc5 := Sep.Holds.cells hw (i := 5) rfl); (try replace hc6 := Sep.Holds.cells hw (i := 6) rfl)))
      refine (rForm x.f0 _).mono ?_
      rintro _ w_ ⟨rfl, rfl⟩
      rw [Hf.out]
      go_wp2_with fail
      refine wp_region_L [9, 17, 25] [(7, (fun w' => w' = w_.drew)), (15, (fun w' => Holds e w' [pt bx_ [.int .i64 x.f0, .int .i64 x.f1, .int .i64 x.f2, .int .i64 x.f3] 40])), (23, (fun w' => Holds e w' [pt bx_ [.int .i64 x.f0, .int .i64 x.f1, .int .i64 x.f2, .int .i64 x.f3] 40]))] (n := 28) (listed := (marks 28 0)) (by kernel_rfl) rfl (by kernel_rfl) ?conds2 ?_
      case conds2 =>
       intro c hc
       simp only [List.mem_cons, List.not_mem_nil, or_false] at hc
       rcases hc with rfl | rfl | rfl
       · rfl
       · exact (by replace hw := hw.drew; exact hw.sel [1] (by decide))
       · exact (by replace hw := hw.drew; exact hw.sel [1] (by decide))
      replace hw := hw.drew
      (try replace hc0 := Sep.Holds.cells hw (i := 0) rfl); (try replace hc1 := Sep.Holds.cells hw (i := 1) rfl); (try replace hc2 := Sep.Holds.cells hw (i := 2) rfl); (try replace hc3 := Sep.Holds.cells hw (i := 3) rfl); (try replace hc4 := Sep.Holds.cells hw (i := 4) rfl); (try replace hc5 := Sep.Holds.cells hw (i := 5) rfl); (try replace hc6 := Sep.Holds.cells hw (i := 6) rfl)
      refine wpL_q 0 ?_ rfl (Or.inl ⟨by rfl, fun w_ hS_ => ?_⟩) (marks 28 1) ?_
      rotate_left
      next => (go_simp; try (first | rfl | exact (Bool.not_not _).symm))
      try simp only [Act.put, List.setIfInBounds_toArray, List.set_cons_zero, List.set_cons_succ]
      refine wpL_q 1 ?_ rfl (Or.inl ⟨by rfl, fun w_ hS_ => ?_⟩) (marks 28 3) ?_
      rotate_left
      next => (go_simp; try (first | rfl | exact (Bool.not_not _).symm))
      try simp only [Act.put, List.setIfInBounds_toArray, List.set_cons_zero, List.set_cons_succ]
      refine wpL_q 2 ?_ rfl (Or.inl ⟨by rfl, fun w_ hS_ => ?_⟩) (marks 28 7) ?_
      rotate_left
      next => (first | (first | (refine Eq.trans (run_indexStr (s := strOf [c0, c1, c2]) (k := 0) (b := UInt8.ofNat c0) Tryd.underlying9 rfl rfl rfl (get_strOf rfl)) ?_; rw [toNat_ofNat M0.out]; done) | (refine Eq.trans (run_indexStr (s := strOf [c0, c1, c2]) (k := 1) (b := UInt8.ofNat c1) Tryd.underlying9 rfl rfl rfl (get_strOf rfl)) ?_; rw [toNat_ofNat M1.out]; done) | (refine Eq.trans (run_indexStr (s := strOf [c0, c1, c2]) (k := 2) (b := UInt8.ofNat c2) Tryd.underlying9 rfl rfl rfl (get_strOf rfl)) ?_; rw [toNat_ofNat M2.out]; done)) | (go_simp; try (first | rfl | exact (Bool.not_not _).symm)))
      try simp only [Act.put, List.setIfInBounds_toArray, List.set_cons_zero, List.set_cons_succ]
      refine wpL_b 3 ?_ rfl (Or.inl ⟨by rfl, fun w_ hS_ => ?_⟩) (marks 28 15) ?_
      rotate_left
      next => (go_simp; try (first | rfl | exact (Bool.not_not _).symm))
      intro bb_ hg3
      cases bb_
      case' true =>
       (try simp only [decide_eq_true_eq, decide_eq_false_iff_not, beq_iff_eq, beq_eq_false_iff_ne, bne_iff_ne, bne_eq_false_iff_eq, Bool.not_eq_true', Bool.not_eq_false', Int.not_lt, Int.not_le] at hg3)
       first | (cases hg3; done) | (exfalso; omega; done) | skip
       all_goals
        try replace hg3 := Sep.hid hg3
        try simp only [Act.put, List.setIfInBounds_toArray, List.set_cons_zero, List.set_cons_succ]
        refine wpL_q 4 ?_ rfl (Or.inl ⟨by rfl, fun w_ hS_ => ?_⟩) (marks 28 31) ?_
        rotate_left
        next => (go_simp; try (first | rfl | exact (Bool.not_not _).symm))
        try simp only [Act.put, List.setIfInBounds_toArray, List.set_cons_zero, List.set_cons_succ]
        refine wpL_q 5 ?_ rfl (Or.inl ⟨by rfl, fun w_ hS_ => ?_⟩) (marks 28 63) ?_
        rotate_left
        next => (first | (first | (refine Eq.trans (run_indexStr (s := strOf [c0, c1, c2]) (k := 0) (b := UInt8.ofNat c0) Tryd.underlying9 rfl rfl rfl (get_strOf rfl)) ?_; rw [toNat_ofNat M0.out]; done) | (refine Eq.trans (run_indexStr (s := strOf [c0, c1, c2]) (k := 1) (b := UInt8.ofNat c1) Tryd.underlying9 rfl rfl rfl (get_strOf rfl)) ?_; rw [toNat_ofNat M1.out]; done) | (refine Eq.trans (run_indexStr (s := strOf [c0, c1, c2]) (k := 2) (b := UInt8.ofNat c2) Tryd.underlying9 rfl rfl rfl (get_strOf rfl)) ?_; rw [toNat_ofNat M2.out]; done)) | (go_simp; try (first | rfl | exact (Bool.not_not _).symm)))
        try simp only [Act.put, List.setIfInBounds_toArray, List.set_cons_zero, List.set_cons_succ]
        refine wpL_q 6 ?_ rfl (Or.inl ⟨by rfl, fun w_ hS_ => ?_⟩) (marks 28 127) ?_
        rotate_left
        next => (go_simp; try (first | rfl | exact (Bool.not_not _).symm))
        try simp only [Act.put, List.setIfInBounds_toArray, List.set_cons_zero, List.set_cons_succ]
        refine wpL_m 7 ?_ rfl (.head _) (Or.inl ⟨by rfl, fun w_ hS_ => ?_⟩) (marks 28 255) ?_
        rotate_left
        next => (subst hS_; first | (first | (refine Eq.trans (run_indexStr (s := strOf [c0, c1, c2]) (k := 0) (b := UInt8.ofNat c0) Tryd.underlying9 rfl rfl rfl (get_strOf rfl)) ?_; rw [toNat_ofNat M0.out]; done) | (refine Eq.trans (run_indexStr (s := strOf [c0, c1, c2]) (k := 1) (b := UInt8.ofNat c1) Tryd.underlying9 rfl rfl rfl (get_strOf rfl)) ?_; rw [toNat_ofNat M1.out]; done) | (refine Eq.trans (run_indexStr (s := strOf [c0, c1, c2]) (k := 2) (b := UInt8.ofNat c2) Tryd.underlying9 rfl rfl rfl (get_strOf rfl)) ?_; rw [toNat_ofNat M2.out]; done)) | (go_simp; try (first | rfl | exact (Bool.not_not _).symm)))
        try simp only [Act.put, List.setIfInBounds_toArray, List.set_cons_zero, List.set_cons_succ]
        refine wpL_q 8 ?_ rfl (Or.inl ⟨by rfl, fun w_ hS_ => ?_⟩) (marks 28 511) ?_
        rotate_left
        next => (go_simp; try (first | rfl | exact (Bool.not_not _).symm))
        try simp only [Act.put, List.setIfInBounds_toArray, List.set_cons_zero, List.set_cons_succ]
        refine wpL_o 9 rfl (by rfl) (marks 28 1023) ?_
        (go_simp; go_at_call 26; refine (rFits c0 M0.out x.f1 long _).mono ?_; rintro _ w_ ⟨rfl, rfl⟩; rw [Hb0.out])
        refine ⟨(SL.drop 9 (by kernel_rfl) (SL.keep (by exact hw.sel [1] (by decide)) (SL.keep (by exact hw.sel [1] (by decide)) SL.nil))), ?_⟩
        try simp only [Act.put, List.setIfInBounds_toArray, List.set_cons_zero, List.set_cons_succ]
      case' false =>
       (try simp only [decide_eq_true_eq, decide_eq_false_iff_not, beq_iff_eq, beq_eq_false_iff_ne, bne_iff_ne, bne_eq_false_iff_eq, Bool.not_eq_true', Bool.not_eq_false', Int.not_lt, Int.not_le] at hg3)
       first | (cases hg3; done) | (exfalso; omega; done)
      all_goals
       refine wpL_q 10 ?_ rfl (Or.inl ⟨by rfl, fun w_ hS_ => ?_⟩) (marks 28 2047) ?_
       rotate_left
       next => (go_simp; try (first | rfl | exact (Bool.not_not _).symm))
       try simp only [Act.put, List.setIfInBounds_toArray, List.set_cons_zero, List.set_cons_succ]
       refine wpL_b 11 ?_ rfl (Or.inl ⟨by rfl, fun w_ hS_ => ?_⟩) (marks 28 4095) ?_
       rotate_left
       next => (go_simp; try (first | rfl | exact (Bool.not_not _).symm))
       intro bb_ hg11
       cases bb_
       case' true =>
        (try simp only [decide_eq_true_eq, decide_eq_false_iff_not, beq_iff_eq, beq_eq_false_iff_ne, bne_iff_ne, bne_eq_false_iff_eq, Bool.not_eq_true', Bool.not_eq_false', Int.not_lt, Int.not_le] at hg11)
        first | (cases hg11; done) | (exfalso; omega; done)
       case' false =>
        (try simp only [decide_eq_true_eq, decide_eq_false_iff_not, beq_iff_eq, beq_eq_false_iff_ne, bne_iff_ne, bne_eq_false_iff_eq, Bool.not_eq_true', Bool.not_eq_false', Int.not_lt, Int.not_le] at hg11)
        first | (cases hg11; done) | (exfalso; omega; done) | skip
        all_goals
         try replace hg11 := Sep.hid hg11
         try simp only [Act.put, List.setIfInBounds_toArray, List.set_cons_zero, List.set_cons_succ]
         refine wpL_q 12 undef rfl (Or.inr ⟨by rfl, rfl⟩) (marks 28 8191) ?_
         try simp only [Act.put, List.setIfInBounds_toArray, List.set_cons_zero, List.set_cons_succ]
         refine wpL_q 13 undef rfl (Or.inr ⟨by rfl, rfl⟩) (marks 28 16383) ?_
         try simp only [Act.put, List.setIfInBounds_toArray, List.set_cons_zero, List.set_cons_succ]
         refine wpL_q 14 undef rfl (Or.inr ⟨by rfl, rfl⟩) (marks 28 32767) ?_
         try simp only [Act.put, List.setIfInBounds_toArray, List.set_cons_zero, List.set_cons_succ]
         refine wpL_m 15 undef rfl (.tail _ (.head _)) (Or.inr ⟨by rfl, rfl⟩) (marks 28 65535) ?_
         try simp only [Act.put, List.setIfInBounds_toArray, List.set_cons_zero, List.set_cons_succ]
         refine wpL_q 16 undef rfl (Or.inr ⟨by rfl, rfl⟩) (marks 28 131071) ?_
         try simp only [Act.put, List.setIfInBounds_toArray, List.set_cons_zero, List.set_cons_succ]
         refine wpL_s 17 rfl (by rfl) (marks 28 262143) ?_
         try simp only [Act.put, List.setIfInBounds_toArray, List.set_cons_zero, List.set_cons_succ]
       all_goals
        refine wpL_q 18 ?_ rfl (Or.inl ⟨by rfl, fun w_ hS_ => ?_⟩) (marks 28 524287) ?_
        rotate_left
        next => (go_simp; try (first | rfl | exact (Bool.not_not _).symm))
        try simp only [Act.put, List.setIfInBounds_toArray, List.set_cons_zero, List.set_cons_succ]
        refine wpL_b 19 ?_ rfl (Or.inl ⟨by rfl, fun w_ hS_ => ?_⟩) (marks 28 1048575) ?_
        rotate_left
        next => (go_simp; try (first | rfl | exact (Bool.not_not _).symm))
        intro bb_ hg19
        cases bb_
        case' true =>
         (try simp only [decide_eq_true_eq, decide_eq_false_iff_not, beq_iff_eq, beq_eq_false_iff_ne, bne_iff_ne, bne_eq_false_iff_eq, Bool.not_eq_true', Bool.not_eq_false', Int.not_lt, Int.not_le] at hg19)
         first | (cases hg19; done) | (exfalso; omega; done)
        case' false =>
         (try simp only [decide_eq_true_eq, decide_eq_false_iff_not, beq_iff_eq, beq_eq_false_iff_ne, bne_iff_ne, bne_eq_false_iff_eq, Bool.not_eq_true', Bool.not_eq_false', Int.not_lt, Int.not_le] at hg19)
         first | (cases hg19; done) | (exfalso; omega; done) | skip
         all_goals
          try replace hg19 := Sep.hid hg19
          try simp only [Act.put, List.setIfInBounds_toArray, List.set_cons_zero, List.set_cons_succ]
          refine wpL_q 20 undef rfl (Or.inr ⟨by rfl, rfl⟩) (marks 28 2097151) ?_
          try simp only [Act.put, List.setIfInBounds_toArray, List.set_cons_zero, List.set_cons_succ]
          refine wpL_q 21 undef rfl (Or.inr ⟨by rfl, rfl⟩) (marks 28 4194303) ?_
          try simp only [Act.put, List.setIfInBounds_toArray, List.set_cons_zero, List.set_cons_succ]
          refine wpL_q 22 undef rfl (Or.inr ⟨by rfl, rfl⟩) (marks 28 8388607) ?_
          try simp only [Act.put, List.setIfInBounds_toArray, List.set_cons_zero, List.set_cons_succ]
          refine wpL_m 23 undef rfl (.tail _ (.tail _ (.head _))) (Or.inr ⟨by rfl, rfl⟩) (marks 28 16777215) ?_
          try simp only [Act.put, List.setIfInBounds_toArray, List.set_cons_zero, List.set_cons_succ]
          refine wpL_q 24 undef rfl (Or.inr ⟨by rfl, rfl⟩) (marks 28 33554431) ?_
          try simp only [Act.put, List.setIfInBounds_toArray, List.set_cons_zero, List.set_cons_succ]
          refine wpL_s 25 rfl (by rfl) (marks 28 67108863) ?_
          try simp only [Act.put, List.setIfInBounds_toArray, List.set_cons_zero, List.set_cons_succ]
        all_goals
         refine wpL_q 26 ?_ rfl (Or.inl ⟨by rfl, fun w_ hS_ => ?_⟩) (marks 28 134217727) ?_
         rotate_left
         next => (go_simp; try (first | rfl | exact (Bool.not_not _).symm))
         try simp only [Act.put, List.setIfInBounds_toArray, List.set_cons_zero, List.set_cons_succ]
         refine wpL_q 27 ?_ rfl (Or.inl ⟨by rfl, fun w_ hS_ => ?_⟩) (marks 28 268435455) ?_
         rotate_left
         next => (go_simp; try (first | rfl | exact (Bool.not_not _).symm))
         try simp only [Act.put, List.setIfInBounds_toArray, List.set_cons_zero, List.set_cons_succ]
         all_goals refine wpL_done (by kernel_rfl) ?_ _
      go_wp2_with fail
      exact HP.out _ _ ⟨rfl, hw.sel [0] (by decide)⟩
    | true =>
      cases hb1 : fitsP c1 x.f2 long with
      | false =>
        have hb : rightP x long = false := by rw [hr, hb0, hb1]; rfl
        have Hb0 := Sep.hid hb0; have Hb1 := Sep.hid hb1
        rw [hb, hA]; clear hb hA hr hb0 hb1
        refine Sep.calls_post ?_
        intro Post_ hPost_
        have HP := Sep.hid hPost_
        clear hPost_
        go_enter Tryd.func15, Tryd.ntmps15
        go_wp2_with (first | (refine wpList_on rfl (wp_box rfl hw ?_); intro bx_ w_ hw_; clear hw; have hw := hw_; clear hw_; (try simp only [List.map_cons, List.map_nil, List.getD_cons_zero, List.getD_cons_succ, List.getD_nil, List.set_cons_zero, List.set_cons_succ, List.cons_append, List.nil_append, Act.eval, Array.getD_eq_getD_getElem?, List.getElem?_toArray, List.getElem?_cons_succ, List.getElem?_cons_zero, Option.getD_some, Value.cells] at hw); (try simp (disch := first | (simp; done) | (simp; omega)) only [Sep.mid_set, Sep.mid_set2, Sep.mid_set0, Sep.mid_splice, Sep.mid_splice0, List.set_cons_zero, List.set_cons_succ] at hw); (try simp only [Sep.splice, List.take_succ_cons, List.take_zero, List.drop_succ_cons, List.drop_zero, List.length_cons, List.length_nil, Nat.reduceAdd, List.cons_append, List.nil_append] at hw); (try replace hc0 := Sep.Holds.cells hw (i := 0) rfl); (try replace hc1 := Sep.Holds.cells hw (i := 1) rfl); (try replace hc2 := Sep.Holds.cells hw (i := 2) rfl); (try replace hc3 := Sep.Holds.cells hw (i := 3) rfl); (try replace hc4 := Sep.Holds.cells hw (i := 4) rfl); (try replace hc5 := Sep.Holds.cells hw (i := 5) rfl); (try replace hc6 := Sep.Holds.cells hw (i := 6) rfl)))
        refine (rForm x.f0 _).mono ?_
        rintro _ w_ ⟨rfl, rfl⟩
        rw [Hf.out]
        go_wp2_with fail
        refine wp_region_L [9, 17, 25] [(7, (fun w' => w' = w_.drew)), (15, (fun w' => Holds e w' [pt bx_ [.int .i64 x.f0, .int .i64 x.f1, .int .i64 x.f2, .int .i64 x.f3] 40])), (23, (fun w' => Holds e w' [pt bx_ [.int .i64 x.f0, .int .i64 x.f1, .int .i64 x.f2, .int .i64 x.f3] 40]))] (n := 28) (listed := (marks 28 0)) (by kernel_rfl) rfl (by kernel_rfl) ?conds3 ?_
        case conds3 =>
         intro c hc
         simp only [List.mem_cons, List.not_mem_nil, or_false] at hc
         rcases hc with rfl | rfl | rfl
         · rfl
         · exact (by replace hw := hw.drew; exact hw.sel [1] (by decide))
         · exact (by replace hw := hw.drew; exact hw.sel [1] (by decide))
        replace hw := hw.drew
        (try replace hc0 := Sep.Holds.cells hw (i := 0) rfl); (try replace hc1 := Sep.Holds.cells hw (i := 1) rfl); (try replace hc2 := Sep.Holds.cells hw (i := 2) rfl); (try replace hc3 := Sep.Holds.cells hw (i := 3) rfl); (try replace hc4 := Sep.Holds.cells hw (i := 4) rfl); (try replace hc5 := Sep.Holds.cells hw (i := 5) rfl); (try replace hc6 := Sep.Holds.cells hw (i := 6) rfl)
        refine wpL_q 0 ?_ rfl (Or.inl ⟨by rfl, fun w_ hS_ => ?_⟩) (marks 28 1) ?_
        rotate_left
        next => (go_simp; try (first | rfl | exact (Bool.not_not _).symm))
        try simp only [Act.put, List.setIfInBounds_toArray, List.set_cons_zero, List.set_cons_succ]
        refine wpL_q 1 ?_ rfl (Or.inl ⟨by rfl, fun w_ hS_ => ?_⟩) (marks 28 3) ?_
        rotate_left
        next => (go_simp; try (first | rfl | exact (Bool.not_not _).symm))
        try simp only [Act.put, List.setIfInBounds_toArray, List.set_cons_zero, List.set_cons_succ]
        refine wpL_q 2 ?_ rfl (Or.inl ⟨by rfl, fun w_ hS_ => ?_⟩) (marks 28 7) ?_
        rotate_left
        next => (first | (first | (refine Eq.trans (run_indexStr (s := strOf [c0, c1, c2]) (k := 0) (b := UInt8.ofNat c0) Tryd.underlying9 rfl rfl rfl (get_strOf rfl)) ?_; rw [toNat_ofNat M0.out]; done) | (refine Eq.trans (run_indexStr (s := strOf [c0, c1, c2]) (k := 1) (b := UInt8.ofNat c1) Tryd.underlying9 rfl rfl rfl (get_strOf rfl)) ?_; rw [toNat_ofNat M1.out]; done) | (refine Eq.trans (run_indexStr (s := strOf [c0, c1, c2]) (k := 2) (b := UInt8.ofNat c2) Tryd.underlying9 rfl rfl rfl (get_strOf rfl)) ?_; rw [toNat_ofNat M2.out]; done)) | (go_simp; try (first | rfl | exact (Bool.not_not _).symm)))
        try simp only [Act.put, List.setIfInBounds_toArray, List.set_cons_zero, List.set_cons_succ]
        refine wpL_b 3 ?_ rfl (Or.inl ⟨by rfl, fun w_ hS_ => ?_⟩) (marks 28 15) ?_
        rotate_left
        next => (go_simp; try (first | rfl | exact (Bool.not_not _).symm))
        intro bb_ hg3
        cases bb_
        case' true =>
         (try simp only [decide_eq_true_eq, decide_eq_false_iff_not, beq_iff_eq, beq_eq_false_iff_ne, bne_iff_ne, bne_eq_false_iff_eq, Bool.not_eq_true', Bool.not_eq_false', Int.not_lt, Int.not_le] at hg3)
         first | (cases hg3; done) | (exfalso; omega; done) | skip
         all_goals
          try replace hg3 := Sep.hid hg3
          try simp only [Act.put, List.setIfInBounds_toArray, List.set_cons_zero, List.set_cons_succ]
          refine wpL_q 4 ?_ rfl (Or.inl ⟨by rfl, fun w_ hS_ => ?_⟩) (marks 28 31) ?_
          rotate_left
          next => (go_simp; try (first | rfl | exact (Bool.not_not _).symm))
          try simp only [Act.put, List.setIfInBounds_toArray, List.set_cons_zero, List.set_cons_succ]
          refine wpL_q 5 ?_ rfl (Or.inl ⟨by rfl, fun w_ hS_ => ?_⟩) (marks 28 63) ?_
          rotate_left
          next => (first | (first | (refine Eq.trans (run_indexStr (s := strOf [c0, c1, c2]) (k := 0) (b := UInt8.ofNat c0) Tryd.underlying9 rfl rfl rfl (get_strOf rfl)) ?_; rw [toNat_ofNat M0.out]; done) | (refine Eq.trans (run_indexStr (s := strOf [c0, c1, c2]) (k := 1) (b := UInt8.ofNat c1) Tryd.underlying9 rfl rfl rfl (get_strOf rfl)) ?_; rw [toNat_ofNat M1.out]; done) | (refine Eq.trans (run_indexStr (s := strOf [c0, c1, c2]) (k := 2) (b := UInt8.ofNat c2) Tryd.underlying9 rfl rfl rfl (get_strOf rfl)) ?_; rw [toNat_ofNat M2.out]; done)) | (go_simp; try (first | rfl | exact (Bool.not_not _).symm)))
          try simp only [Act.put, List.setIfInBounds_toArray, List.set_cons_zero, List.set_cons_succ]
          refine wpL_q 6 ?_ rfl (Or.inl ⟨by rfl, fun w_ hS_ => ?_⟩) (marks 28 127) ?_
          rotate_left
          next => (go_simp; try (first | rfl | exact (Bool.not_not _).symm))
          try simp only [Act.put, List.setIfInBounds_toArray, List.set_cons_zero, List.set_cons_succ]
          refine wpL_m 7 ?_ rfl (.head _) (Or.inl ⟨by rfl, fun w_ hS_ => ?_⟩) (marks 28 255) ?_
          rotate_left
          next => (subst hS_; first | (first | (refine Eq.trans (run_indexStr (s := strOf [c0, c1, c2]) (k := 0) (b := UInt8.ofNat c0) Tryd.underlying9 rfl rfl rfl (get_strOf rfl)) ?_; rw [toNat_ofNat M0.out]; done) | (refine Eq.trans (run_indexStr (s := strOf [c0, c1, c2]) (k := 1) (b := UInt8.ofNat c1) Tryd.underlying9 rfl rfl rfl (get_strOf rfl)) ?_; rw [toNat_ofNat M1.out]; done) | (refine Eq.trans (run_indexStr (s := strOf [c0, c1, c2]) (k := 2) (b := UInt8.ofNat c2) Tryd.underlying9 rfl rfl rfl (get_strOf rfl)) ?_; rw [toNat_ofNat M2.out]; done)) | (go_simp; try (first | rfl | exact (Bool.not_not _).symm)))
          try simp only [Act.put, List.setIfInBounds_toArray, List.set_cons_zero, List.set_cons_succ]
          refine wpL_q 8 ?_ rfl (Or.inl ⟨by rfl, fun w_ hS_ => ?_⟩) (marks 28 511) ?_
          rotate_left
          next => (go_simp; try (first | rfl | exact (Bool.not_not _).symm))
          try simp only [Act.put, List.setIfInBounds_toArray, List.set_cons_zero, List.set_cons_succ]
          refine wpL_o 9 rfl (by rfl) (marks 28 1023) ?_
          (go_simp; go_at_call 26; refine (rFits c0 M0.out x.f1 long _).mono ?_; rintro _ w_ ⟨rfl, rfl⟩; rw [Hb0.out])
          refine ⟨(SL.drop 9 (by kernel_rfl) (SL.keep (by exact hw.sel [1] (by decide)) (SL.keep (by exact hw.sel [1] (by decide)) SL.nil))), ?_⟩
          try simp only [Act.put, List.setIfInBounds_toArray, List.set_cons_zero, List.set_cons_succ]
        case' false =>
         (try simp only [decide_eq_true_eq, decide_eq_false_iff_not, beq_iff_eq, beq_eq_false_iff_ne, bne_iff_ne, bne_eq_false_iff_eq, Bool.not_eq_true', Bool.not_eq_false', Int.not_lt, Int.not_le] at hg3)
         first | (cases hg3; done) | (exfalso; omega; done)
        all_goals
         refine wpL_q 10 ?_ rfl (Or.inl ⟨by rfl, fun w_ hS_ => ?_⟩) (marks 28 2047) ?_
         rotate_left
         next => (go_simp; try (first | rfl | exact (Bool.not_not _).symm))
         try simp only [Act.put, List.setIfInBounds_toArray, List.set_cons_zero, List.set_cons_succ]
         refine wpL_b 11 ?_ rfl (Or.inl ⟨by rfl, fun w_ hS_ => ?_⟩) (marks 28 4095) ?_
         rotate_left
         next => (go_simp; try (first | rfl | exact (Bool.not_not _).symm))
         intro bb_ hg11
         cases bb_
         case' true =>
          (try simp only [decide_eq_true_eq, decide_eq_false_iff_not, beq_iff_eq, beq_eq_false_iff_ne, bne_iff_ne, bne_eq_false_iff_eq, Bool.not_eq_true', Bool.not_eq_false', Int.not_lt, Int.not_le] at hg11)
          first | (cases hg11; done) | (exfalso; omega; done) | skip
          all_goals
           try replace hg11 := Sep.hid hg11
           try simp only [Act.put, List.setIfInBounds_toArray, List.set_cons_zero, List.set_cons_succ]
           refine wpL_q 12 ?_ rfl (Or.inl ⟨by rfl, fun w_ hS_ => ?_⟩) (marks 28 8191) ?_
           rotate_left
           next => (go_simp; try (first | rfl | exact (Bool.not_not _).symm))
           try simp only [Act.put, List.setIfInBounds_toArray, List.set_cons_zero, List.set_cons_succ]
           refine wpL_q 13 ?_ rfl (Or.inl ⟨by rfl, fun w_ hS_ => ?_⟩) (marks 28 16383) ?_
           rotate_left
           next => (first | (first | (refine Eq.trans (run_indexStr (s := strOf [c0, c1, c2]) (k := 0) (b := UInt8.ofNat c0) Tryd.underlying9 rfl rfl rfl (get_strOf rfl)) ?_; rw [toNat_ofNat M0.out]; done) | (refine Eq.trans (run_indexStr (s := strOf [c0, c1, c2]) (k := 1) (b := UInt8.ofNat c1) Tryd.underlying9 rfl rfl rfl (get_strOf rfl)) ?_; rw [toNat_ofNat M1.out]; done) | (refine Eq.trans (run_indexStr (s := strOf [c0, c1, c2]) (k := 2) (b := UInt8.ofNat c2) Tryd.underlying9 rfl rfl rfl (get_strOf rfl)) ?_; rw [toNat_ofNat M2.out]; done)) | (go_simp; try (first | rfl | exact (Bool.not_not _).symm)))
           try simp only [Act.put, List.setIfInBounds_toArray, List.set_cons_zero, List.set_cons_succ]
           refine wpL_q 14 ?_ rfl (Or.inl ⟨by rfl, fun w_ hS_ => ?_⟩) (marks 28 32767) ?_
           rotate_left
           next => (go_simp; try (first | rfl | exact (Bool.not_not _).symm))
           try simp only [Act.put, List.setIfInBounds_toArray, List.set_cons_zero, List.set_cons_succ]
           refine wpL_m 15 ?_ rfl (.tail _ (.head _)) (Or.inl ⟨by rfl, fun w_ hS_ => ?_⟩) (marks 28 65535) ?_
           rotate_left
           next => (dsimp only at hS_; (try have q0 := Sep.Holds.cells hS_ (i := 0) rfl); (try have q1 := Sep.Holds.cells hS_ (i := 1) rfl); (try have q2 := Sep.Holds.cells hS_ (i := 2) rfl); (try have q3 := Sep.Holds.cells hS_ (i := 3) rfl); (try have q4 := Sep.Holds.cells hS_ (i := 4) rfl); (try have q5 := Sep.Holds.cells hS_ (i := 5) rfl); (try have q6 := Sep.Holds.cells hS_ (i := 6) rfl); first | (first | (refine Eq.trans (run_indexStr (s := strOf [c0, c1, c2]) (k := 0) (b := UInt8.ofNat c0) Tryd.underlying9 rfl rfl rfl (get_strOf rfl)) ?_; rw [toNat_ofNat M0.out]; done) | (refine Eq.trans (run_indexStr (s := strOf [c0, c1, c2]) (k := 1) (b := UInt8.ofNat c1) Tryd.underlying9 rfl rfl rfl (get_strOf rfl)) ?_; rw [toNat_ofNat M1.out]; done) | (refine Eq.trans (run_indexStr (s := strOf [c0, c1, c2]) (k := 2) (b := UInt8.ofNat c2) Tryd.underlying9 rfl rfl rfl (get_strOf rfl)) ?_; rw [toNat_ofNat M2.out]; done)) | (go_simp; try (first | rfl | exact (Bool.not_not _).symm)))
           try simp only [Act.put, List.setIfInBounds_toArray, List.set_cons_zero, List.set_cons_succ]
           refine wpL_q 16 ?_ rfl (Or.inl ⟨by rfl, fun w_ hS_ => ?_⟩) (marks 28 131071) ?_
           rotate_left
           next => (go_simp; try (first | rfl | exact (Bool.not_not _).symm))
           try simp only [Act.put, List.setIfInBounds_toArray, List.set_cons_zero, List.set_cons_succ]
           refine wpL_o 17 rfl (by rfl) (marks 28 262143) ?_
           (go_simp; go_at_call 26; refine (rFits c1 M1.out x.f2 long _).mono ?_; rintro _ w_ ⟨rfl, rfl⟩; rw [Hb1.out])
           refine ⟨(SL.drop 9 (by kernel_rfl) (SL.drop 17 (by kernel_rfl) (SL.keep (by exact hw.sel [1] (by decide)) SL.nil))), ?_⟩
           try simp only [Act.put, List.setIfInBounds_toArray, List.set_cons_zero, List.set_cons_succ]
         case' false =>
          (try simp only [decide_eq_true_eq, decide_eq_false_iff_not, beq_iff_eq, beq_eq_false_iff_ne, bne_iff_ne, bne_eq_false_iff_eq, Bool.not_eq_true', Bool.not_eq_false', Int.not_lt, Int.not_le] at hg11)
          first | (cases hg11; done) | (exfalso; omega; done)
         all_goals
          refine wpL_q 18 ?_ rfl (Or.inl ⟨by rfl, fun w_ hS_ => ?_⟩) (marks 28 524287) ?_
          rotate_left
          next => (go_simp; try (first | rfl | exact (Bool.not_not _).symm))
          try simp only [Act.put, List.setIfInBounds_toArray, List.set_cons_zero, List.set_cons_succ]
          refine wpL_b 19 ?_ rfl (Or.inl ⟨by rfl, fun w_ hS_ => ?_⟩) (marks 28 1048575) ?_
          rotate_left
          next => (go_simp; try (first | rfl | exact (Bool.not_not _).symm))
          intro bb_ hg19
          cases bb_
          case' true =>
           (try simp only [decide_eq_true_eq, decide_eq_false_iff_not, beq_iff_eq, beq_eq_false_iff_ne, bne_iff_ne, bne_eq_false_iff_eq, Bool.not_eq_true', Bool.not_eq_false', Int.not_lt, Int.not_le] at hg19)
           first | (cases hg19; done) | (exfalso; omega; done)
          case' false =>
           (try simp only [decide_eq_true_eq, decide_eq_false_iff_not, beq_iff_eq, beq_eq_false_iff_ne, bne_iff_ne, bne_eq_false_iff_eq, Bool.not_eq_true', Bool.not_eq_false', Int.not_lt, Int.not_le] at hg19)
           first | (cases hg19; done) | (exfalso; omega; done) | skip
           all_goals
            try replace hg19 := Sep.hid hg19
            try simp only [Act.put, List.setIfInBounds_toArray, List.set_cons_zero, List.set_cons_succ]
            refine wpL_q 20 undef rfl (Or.inr ⟨by rfl, rfl⟩) (marks 28 2097151) ?_
            try simp only [Act.put, List.setIfInBounds_toArray, List.set_cons_zero, List.set_cons_succ]
            refine wpL_q 21 undef rfl (Or.inr ⟨by rfl, rfl⟩) (marks 28 4194303) ?_
            try simp only [Act.put, List.setIfInBounds_toArray, List.set_cons_zero, List.set_cons_succ]
            refine wpL_q 22 undef rfl (Or.inr ⟨by rfl, rfl⟩) (marks 28 8388607) ?_
            try simp only [Act.put, List.setIfInBounds_toArray, List.set_cons_zero, List.set_cons_succ]
            refine wpL_m 23 undef rfl (.tail _ (.tail _ (.head _))) (Or.inr ⟨by rfl, rfl⟩) (marks 28 16777215) ?_
            try simp only [Act.put, List.setIfInBounds_toArray, List.set_cons_zero, List.set_cons_succ]
            refine wpL_q 24 undef rfl (Or.inr ⟨by rfl, rfl⟩) (marks 28 33554431) ?_
            try simp only [Act.put, List.setIfInBounds_toArray, List.set_cons_zero, List.set_cons_succ]
            refine wpL_s 25 rfl (by rfl) (marks 28 67108863) ?_
            try simp only [Act.put, List.setIfInBounds_toArray, List.set_cons_zero, List.set_cons_succ]
          all_goals
           refine wpL_q 26 ?_ rfl (Or.inl ⟨by rfl, fun w_ hS_ => ?_⟩) (marks 28 134217727) ?_
           rotate_left
           next => (go_simp; try (first | rfl | exact (Bool.not_not _).symm))
           try simp only [Act.put, List.setIfInBounds_toArray, List.set_cons_zero, List.set_cons_succ]
           refine wpL_q 27 ?_ rfl (Or.inl ⟨by rfl, fun w_ hS_ => ?_⟩) (marks 28 268435455) ?_
           rotate_left
           next => (go_simp; try (first | rfl | exact (Bool.not_not _).symm))
           try simp only [Act.put, List.setIfInBounds_toArray, List.set_cons_zero, List.set_cons_succ]
           all_goals refine wpL_done (by kernel_rfl) ?_ _
        go_wp2_with fail
        exact HP.out _ _ ⟨rfl, hw.sel [0] (by decide)⟩
      | true =>
        have hb : rightP x long = fitsP c2 x.f3 long := by rw [hr, hb0, hb1]; rfl
        have Hb0 := Sep.hid hb0; have Hb1 := Sep.hid hb1
        rw [hb, hA]; clear hb hA hr hb0 hb1
        refine Sep.calls_post ?_
        intro Post_ hPost_
        have HP := Sep.hid hPost_
        clear hPost_
        go_enter Tryd.func15, Tryd.ntmps15
        go_wp2_with (first | (refine wpList_on rfl (wp_box rfl hw ?_); intro bx_ w_ hw_; clear hw; have hw := hw_; clear hw_; (try simp only [List.map_cons, List.map_nil, List.getD_cons_zero, List.getD_cons_succ, List.getD_nil, List.set_cons_zero, List.set_cons_succ, List.cons_append, List.nil_append, Act.eval, Array.getD_eq_getD_getElem?, List.getElem?_toArray, List.getElem?_cons_succ, List.getElem?_cons_zero, Option.getD_some, Value.cells] at hw); (try simp (disch := first | (simp; done) | (simp; omega)) only [Sep.mid_set, Sep.mid_set2, Sep.mid_set0, Sep.mid_splice, Sep.mid_splice0, List.set_cons_zero, List.set_cons_succ] at hw); (try simp only [Sep.splice, List.take_succ_cons, List.take_zero, List.drop_succ_cons, List.drop_zero, List.length_cons, List.length_nil, Nat.reduceAdd, List.cons_append, List.nil_append] at hw); (try replace hc0 := Sep.Holds.cells hw (i := 0) rfl); (try replace hc1 := Sep.Holds.cells hw (i := 1) rfl); (try replace hc2 := Sep.Holds.cells hw (i := 2) rfl); (try replace hc3 := Sep.Holds.cells hw (i := 3) rfl); (try replace hc4 := Sep.Holds.cells hw (i := 4) rfl); (try replace hc5 := Sep.Holds.cells hw (i := 5) rfl); (try replace hc6 := Sep.Holds.cells hw (i := 6) rfl)))
        refine (rForm x.f0 _).mono ?_
        rintro _ w_ ⟨rfl, rfl⟩
        rw [Hf.out]
        go_wp2_with fail
        refine wp_region_L [9, 17, 25] [(7, (fun w' => w' = w_.drew)), (15, (fun w' => Holds e w' [pt bx_ [.int .i64 x.f0, .int .i64 x.f1, .int .i64 x.f2, .int .i64 x.f3] 40])), (23, (fun w' => Holds e w' [pt bx_ [.int .i64 x.f0, .int .i64 x.f1, .int .i64 x.f2, .int .i64 x.f3] 40]))] (n := 28) (listed := (marks 28 0)) (by kernel_rfl) rfl (by kernel_rfl) ?conds4 ?_
        case conds4 =>
         intro c hc
         simp only [List.mem_cons, List.not_mem_nil, or_false] at hc
         rcases hc with rfl | rfl | rfl
         · rfl
         · exact (by replace hw := hw.drew; exact hw.sel [1] (by decide))
         · exact (by replace hw := hw.drew; exact hw.sel [1] (by decide))
        replace hw := hw.drew
        (try replace hc0 := Sep.Holds.cells hw (i := 0) rfl); (try replace hc1 := Sep.Holds.cells hw (i := 1) rfl); (try replace hc2 := Sep.Holds.cells hw (i := 2) rfl); (try replace hc3 := Sep.Holds.cells hw (i := 3) rfl); (try replace hc4 := Sep.Holds.cells hw (i := 4) rfl); (try replace hc5 := Sep.Holds.cells hw (i := 5) rfl); (try replace hc6 := Sep.Holds.cells hw (i := 6) rfl)
        refine wpL_q 0 ?_ rfl (Or.inl ⟨by rfl, fun w_ hS_ => ?_⟩) (marks 28 1) ?_
        rotate_left
        next => (go_simp; try (first | rfl | exact (Bool.not_not _).symm))
        try simp only [Act.put, List.setIfInBounds_toArray, List.set_cons_zero, List.set_cons_succ]
        refine wpL_q 1 ?_ rfl (Or.inl ⟨by rfl, fun w_ hS_ => ?_⟩) (marks 28 3) ?_
        rotate_left
        next => (go_simp; try (first | rfl | exact (Bool.not_not _).symm))
        try simp only [Act.put, List.setIfInBounds_toArray, List.set_cons_zero, List.set_cons_succ]
        refine wpL_q 2 ?_ rfl (Or.inl ⟨by rfl, fun w_ hS_ => ?_⟩) (marks 28 7) ?_
        rotate_left
        next => (first | (first | (refine Eq.trans (run_indexStr (s := strOf [c0, c1, c2]) (k := 0) (b := UInt8.ofNat c0) Tryd.underlying9 rfl rfl rfl (get_strOf rfl)) ?_; rw [toNat_ofNat M0.out]; done) | (refine Eq.trans (run_indexStr (s := strOf [c0, c1, c2]) (k := 1) (b := UInt8.ofNat c1) Tryd.underlying9 rfl rfl rfl (get_strOf rfl)) ?_; rw [toNat_ofNat M1.out]; done) | (refine Eq.trans (run_indexStr (s := strOf [c0, c1, c2]) (k := 2) (b := UInt8.ofNat c2) Tryd.underlying9 rfl rfl rfl (get_strOf rfl)) ?_; rw [toNat_ofNat M2.out]; done)) | (go_simp; try (first | rfl | exact (Bool.not_not _).symm)))
        try simp only [Act.put, List.setIfInBounds_toArray, List.set_cons_zero, List.set_cons_succ]
        refine wpL_b 3 ?_ rfl (Or.inl ⟨by rfl, fun w_ hS_ => ?_⟩) (marks 28 15) ?_
        rotate_left
        next => (go_simp; try (first | rfl | exact (Bool.not_not _).symm))
        intro bb_ hg3
        cases bb_
        case' true =>
         (try simp only [decide_eq_true_eq, decide_eq_false_iff_not, beq_iff_eq, beq_eq_false_iff_ne, bne_iff_ne, bne_eq_false_iff_eq, Bool.not_eq_true', Bool.not_eq_false', Int.not_lt, Int.not_le] at hg3)
         first | (cases hg3; done) | (exfalso; omega; done) | skip
         all_goals
          try replace hg3 := Sep.hid hg3
          try simp only [Act.put, List.setIfInBounds_toArray, List.set_cons_zero, List.set_cons_succ]
          refine wpL_q 4 ?_ rfl (Or.inl ⟨by rfl, fun w_ hS_ => ?_⟩) (marks 28 31) ?_
          rotate_left
          next => (go_simp; try (first | rfl | exact (Bool.not_not _).symm))
          try simp only [Act.put, List.setIfInBounds_toArray, List.set_cons_zero, List.set_cons_succ]
          refine wpL_q 5 ?_ rfl (Or.inl ⟨by rfl, fun w_ hS_ => ?_⟩) (marks 28 63) ?_
          rotate_left
          next => (first | (first | (refine Eq.trans (run_indexStr (s := strOf [c0, c1, c2]) (k := 0) (b := UInt8.ofNat c0) Tryd.underlying9 rfl rfl rfl (get_strOf rfl)) ?_; rw [toNat_ofNat M0.out]; done) | (refine Eq.trans (run_indexStr (s := strOf [c0, c1, c2]) (k := 1) (b := UInt8.ofNat c1) Tryd.underlying9 rfl rfl rfl (get_strOf rfl)) ?_; rw [toNat_ofNat M1.out]; done) | (refine Eq.trans (run_indexStr (s := strOf [c0, c1, c2]) (k := 2) (b := UInt8.ofNat c2) Tryd.underlying9 rfl rfl rfl (get_strOf rfl)) ?_; rw [toNat_ofNat M2.out]; done)) | (go_simp; try (first | rfl | exact (Bool.not_not _).symm)))
          try simp only [Act.put, List.setIfInBounds_toArray, List.set_cons_zero, List.set_cons_succ]
          refine wpL_q 6 ?_ rfl (Or.inl ⟨by rfl, fun w_ hS_ => ?_⟩) (marks 28 127) ?_
          rotate_left
          next => (go_simp; try (first | rfl | exact (Bool.not_not _).symm))
          try simp only [Act.put, List.setIfInBounds_toArray, List.set_cons_zero, List.set_cons_succ]
          refine wpL_m 7 ?_ rfl (.head _) (Or.inl ⟨by rfl, fun w_ hS_ => ?_⟩) (marks 28 255) ?_
          rotate_left
          next => (subst hS_; first | (first | (refine Eq.trans (run_indexStr (s := strOf [c0, c1, c2]) (k := 0) (b := UInt8.ofNat c0) Tryd.underlying9 rfl rfl rfl (get_strOf rfl)) ?_; rw [toNat_ofNat M0.out]; done) | (refine Eq.trans (run_indexStr (s := strOf [c0, c1, c2]) (k := 1) (b := UInt8.ofNat c1) Tryd.underlying9 rfl rfl rfl (get_strOf rfl)) ?_; rw [toNat_ofNat M1.out]; done) | (refine Eq.trans (run_indexStr (s := strOf [c0, c1, c2]) (k := 2) (b := UInt8.ofNat c2) Tryd.underlying9 rfl rfl rfl (get_strOf rfl)) ?_; rw [toNat_ofNat M2.out]; done)) | (go_simp; try (first | rfl | exact (Bool.not_not _).symm)))
          try simp only [Act.put, List.setIfInBounds_toArray, List.set_cons_zero, List.set_cons_succ]
          refine wpL_q 8 ?_ rfl (Or.inl ⟨by rfl, fun w_ hS_ => ?_⟩) (marks 28 511) ?_
          rotate_left
          next => (go_simp; try (first | rfl | exact (Bool.not_not _).symm))
          try simp only [Act.put, List.setIfInBounds_toArray, List.set_cons_zero, List.set_cons_succ]
          refine wpL_o 9 rfl (by rfl) (marks 28 1023) ?_
          (go_simp; go_at_call 26; refine (rFits c0 M0.out x.f1 long _).mono ?_; rintro _ w_ ⟨rfl, rfl⟩; rw [Hb0.out])
          refine ⟨(SL.drop 9 (by kernel_rfl) (SL.keep (by exact hw.sel [1] (by decide)) (SL.keep (by exact hw.sel [1] (by decide)) SL.nil))), ?_⟩
          try simp only [Act.put, List.setIfInBounds_toArray, List.set_cons_zero, List.set_cons_succ]
        case' false =>
         (try simp only [decide_eq_true_eq, decide_eq_false_iff_not, beq_iff_eq, beq_eq_false_iff_ne, bne_iff_ne, bne_eq_false_iff_eq, Bool.not_eq_true', Bool.not_eq_false', Int.not_lt, Int.not_le] at hg3)
         first | (cases hg3; done) | (exfalso; omega; done)
        all_goals
         refine wpL_q 10 ?_ rfl (Or.inl ⟨by rfl, fun w_ hS_ => ?_⟩) (marks 28 2047) ?_
         rotate_left
         next => (go_simp; try (first | rfl | exact (Bool.not_not _).symm))
         try simp only [Act.put, List.setIfInBounds_toArray, List.set_cons_zero, List.set_cons_succ]
         refine wpL_b 11 ?_ rfl (Or.inl ⟨by rfl, fun w_ hS_ => ?_⟩) (marks 28 4095) ?_
         rotate_left
         next => (go_simp; try (first | rfl | exact (Bool.not_not _).symm))
         intro bb_ hg11
         cases bb_
         case' true =>
          (try simp only [decide_eq_true_eq, decide_eq_false_iff_not, beq_iff_eq, beq_eq_false_iff_ne, bne_iff_ne, bne_eq_false_iff_eq, Bool.not_eq_true', Bool.not_eq_false', Int.not_lt, Int.not_le] at hg11)
          first | (cases hg11; done) | (exfalso; omega; done) | skip
          all_goals
           try replace hg11 := Sep.hid hg11
           try simp only [Act.put, List.setIfInBounds_toArray, List.set_cons_zero, List.set_cons_succ]
           refine wpL_q 12 ?_ rfl (Or.inl ⟨by rfl, fun w_ hS_ => ?_⟩) (marks 28 8191) ?_
           rotate_left
           next => (go_simp; try (first | rfl | exact (Bool.not_not _).symm))
           try simp only [Act.put, List.setIfInBounds_toArray, List.set_cons_zero, List.set_cons_succ]
           refine wpL_q 13 ?_ rfl (Or.inl ⟨by rfl, fun w_ hS_ => ?_⟩) (marks 28 16383) ?_
           rotate_left
           next => (first | (first | (refine Eq.trans (run_indexStr (s := strOf [c0, c1, c2]) (k := 0) (b := UInt8.ofNat c0) Tryd.underlying9 rfl rfl rfl (get_strOf rfl)) ?_; rw [toNat_ofNat M0.out]; done) | (refine Eq.trans (run_indexStr (s := strOf [c0, c1, c2]) (k := 1) (b := UInt8.ofNat c1) Tryd.underlying9 rfl rfl rfl (get_strOf rfl)) ?_; rw [toNat_ofNat M1.out]; done) | (refine Eq.trans (run_indexStr (s := strOf [c0, c1, c2]) (k := 2) (b := UInt8.ofNat c2) Tryd.underlying9 rfl rfl rfl (get_strOf rfl)) ?_; rw [toNat_ofNat M2.out]; done)) | (go_simp; try (first | rfl | exact (Bool.not_not _).symm)))
           try simp only [Act.put, List.setIfInBounds_toArray, List.set_cons_zero, List.set_cons_succ]
           refine wpL_q 14 ?_ rfl (Or.inl ⟨by rfl, fun w_ hS_ => ?_⟩) (marks 28 32767) ?_
           rotate_left
           next => (go_simp; try (first | rfl | exact (Bool.not_not _).symm))
           try simp only [Act.put, List.setIfInBounds_toArray, List.set_cons_zero, List.set_cons_succ]
           refine wpL_m 15 ?_ rfl (.tail _ (.head _)) (Or.inl ⟨by rfl, fun w_ hS_ => ?_⟩) (marks 28 65535) ?_
           rotate_left
           next => (dsimp only at hS_; (try have q0 := Sep.Holds.cells hS_ (i := 0) rfl); (try have q1 := Sep.Holds.cells hS_ (i := 1) rfl); (try have q2 := Sep.Holds.cells hS_ (i := 2) rfl); (try have q3 := Sep.Holds.cells hS_ (i := 3) rfl); (try have q4 := Sep.Holds.cells hS_ (i := 4) rfl); (try have q5 := Sep.Holds.cells hS_ (i := 5) rfl); (try have q6 := Sep.Holds.cells hS_ (i := 6) rfl); first | (first | (refine Eq.trans (run_indexStr (s := strOf [c0, c1, c2]) (k := 0) (b := UInt8.ofNat c0) Tryd.underlying9 rfl rfl rfl (get_strOf rfl)) ?_; rw [toNat_ofNat M0.out]; done) | (refine Eq.trans (run_indexStr (s := strOf [c0, c1, c2]) (k := 1) (b := UInt8.ofNat c1) Tryd.underlying9 rfl rfl rfl (get_strOf rfl)) ?_; rw [toNat_ofNat M1.out]; done) | (refine Eq.trans (run_indexStr (s := strOf [c0, c1, c2]) (k := 2) (b := UInt8.ofNat c2) Tryd.underlying9 rfl rfl rfl (get_strOf rfl)) ?_; rw [toNat_ofNat M2.out]; done)) | (go_simp; try (first | rfl | exact (Bool.not_not _).symm)))
           try simp only [Act.put, List.setIfInBounds_toArray, List.set_cons_zero, List.set_cons_succ]
           refine wpL_q 16 ?_ rfl (Or.inl ⟨by rfl, fun w_ hS_ => ?_⟩) (marks 28 131071) ?_
           rotate_left
           next => (go_simp; try (first | rfl | exact (Bool.not_not _).symm))
           try simp only [Act.put, List.setIfInBounds_toArray, List.set_cons_zero, List.set_cons_succ]
           refine wpL_o 17 rfl (by rfl) (marks 28 262143) ?_
           (go_simp; go_at_call 26; refine (rFits c1 M1.out x.f2 long _).mono ?_; rintro _ w_ ⟨rfl, rfl⟩; rw [Hb1.out])
           refine ⟨(SL.drop 9 (by kernel_rfl) (SL.drop 17 (by kernel_rfl) (SL.keep (by exact hw.sel [1] (by decide)) SL.nil))), ?_⟩
           try simp only [Act.put, List.setIfInBounds_toArray, List.set_cons_zero, List.set_cons_succ]
         case' false =>
          (try simp only [decide_eq_true_eq, decide_eq_false_iff_not, beq_iff_eq, beq_eq_false_iff_ne, bne_iff_ne, bne_eq_false_iff_eq, Bool.not_eq_true', Bool.not_eq_false', Int.not_lt, Int.not_le] at hg11)
          first | (cases hg11; done) | (exfalso; omega; done)
         all_goals
          refine wpL_q 18 ?_ rfl (Or.inl ⟨by rfl, fun w_ hS_ => ?_⟩) (marks 28 524287) ?_
          rotate_left
          next => (go_simp; try (first | rfl | exact (Bool.not_not _).symm))
          try simp only [Act.put, List.setIfInBounds_toArray, List.set_cons_zero, List.set_cons_succ]
          refine wpL_b 19 ?_ rfl (Or.inl ⟨by rfl, fun w_ hS_ => ?_⟩) (marks 28 1048575) ?_
          rotate_left
          next => (go_simp; try (first | rfl | exact (Bool.not_not _).symm))
          intro bb_ hg19
          cases bb_
          case' true =>
           (try simp only [decide_eq_true_eq, decide_eq_false_iff_not, beq_iff_eq, beq_eq_false_iff_ne, bne_iff_ne, bne_eq_false_iff_eq, Bool.not_eq_true', Bool.not_eq_false', Int.not_lt, Int.not_le] at hg19)
           first | (cases hg19; done) | (exfalso; omega; done) | skip
           all_goals
            try replace hg19 := Sep.hid hg19
            try simp only [Act.put, List.setIfInBounds_toArray, List.set_cons_zero, List.set_cons_succ]
            refine wpL_q 20 ?_ rfl (Or.inl ⟨by rfl, fun w_ hS_ => ?_⟩) (marks 28 2097151) ?_
            rotate_left
            next => (go_simp; try (first | rfl | exact (Bool.not_not _).symm))
            try simp only [Act.put, List.setIfInBounds_toArray, List.set_cons_zero, List.set_cons_succ]
            refine wpL_q 21 ?_ rfl (Or.inl ⟨by rfl, fun w_ hS_ => ?_⟩) (marks 28 4194303) ?_
            rotate_left
            next => (first | (first | (refine Eq.trans (run_indexStr (s := strOf [c0, c1, c2]) (k := 0) (b := UInt8.ofNat c0) Tryd.underlying9 rfl rfl rfl (get_strOf rfl)) ?_; rw [toNat_ofNat M0.out]; done) | (refine Eq.trans (run_indexStr (s := strOf [c0, c1, c2]) (k := 1) (b := UInt8.ofNat c1) Tryd.underlying9 rfl rfl rfl (get_strOf rfl)) ?_; rw [toNat_ofNat M1.out]; done) | (refine Eq.trans (run_indexStr (s := strOf [c0, c1, c2]) (k := 2) (b := UInt8.ofNat c2) Tryd.underlying9 rfl rfl rfl (get_strOf rfl)) ?_; rw [toNat_ofNat M2.out]; done)) | (go_simp; try (first | rfl | exact (Bool.not_not _).symm)))
            try simp only [Act.put, List.setIfInBounds_toArray, List.set_cons_zero, List.set_cons_succ]
            refine wpL_q 22 ?_ rfl (Or.inl ⟨by rfl, fun w_ hS_ => ?_⟩) (marks 28 8388607) ?_
            rotate_left
            next => (go_simp; try (first | rfl | exact (Bool.not_not _).symm))
            try simp only [Act.put, List.setIfInBounds_toArray, List.set_cons_zero, List.set_cons_succ]
            refine wpL_m 23 ?_ rfl (.tail _ (.tail _ (.head _))) (Or.inl ⟨by rfl, fun w_ hS_ => ?_⟩) (marks 28 16777215) ?_
            rotate_left
            next => (dsimp only at hS_; (try have q0 := Sep.Holds.cells hS_ (i := 0) rfl); (try have q1 := Sep.Holds.cells hS_ (i := 1) rfl); (try have q2 := Sep.Holds.cells hS_ (i := 2) rfl); (try have q3 := Sep.Holds.cells hS_ (i := 3) rfl); (try have q4 := Sep.Holds.cells hS_ (i := 4) rfl); (try have q5 := Sep.Holds.cells hS_ (i := 5) rfl); (try have q6 := Sep.Holds.cells hS_ (i := 6) rfl); first | (first | (refine Eq.trans (run_indexStr (s := strOf [c0, c1, c2]) (k := 0) (b := UInt8.ofNat c0) Tryd.underlying9 rfl rfl rfl (get_strOf rfl)) ?_; rw [toNat_ofNat M0.out]; done) | (refine Eq.trans (run_indexStr (s := strOf [c0, c1, c2]) (k := 1) (b := UInt8.ofNat c1) Tryd.underlying9 rfl rfl rfl (get_strOf rfl)) ?_; rw [toNat_ofNat M1.out]; done) | (refine Eq.trans (run_indexStr (s := strOf [c0, c1, c2]) (k := 2) (b := UInt8.ofNat c2) Tryd.underlying9 rfl rfl rfl (get_strOf rfl)) ?_; rw [toNat_ofNat M2.out]; done)) | (go_simp; try (first | rfl | exact (Bool.not_not _).symm)))
            try simp only [Act.put, List.setIfInBounds_toArray, List.set_cons_zero, List.set_cons_succ]
            refine wpL_q 24 ?_ rfl (Or.inl ⟨by rfl, fun w_ hS_ => ?_⟩) (marks 28 33554431) ?_
            rotate_left
            next => (go_simp; try (first | rfl | exact (Bool.not_not _).symm))
            try simp only [Act.put, List.setIfInBounds_toArray, List.set_cons_zero, List.set_cons_succ]
            refine wpL_o 25 rfl (by rfl) (marks 28 67108863) ?_
            (go_simp; go_at_call 26; refine (rFits c2 M2.out x.f3 long _).mono ?_; rintro _ w_ ⟨rfl, rfl⟩)
            refine ⟨(SL.drop 9 (by kernel_rfl) (SL.drop 17 (by kernel_rfl) (SL.drop 25 (by kernel_rfl) SL.nil))), ?_⟩
            try simp only [Act.put, List.setIfInBounds_toArray, List.set_cons_zero, List.set_cons_succ]
          case' false =>
           (try simp only [decide_eq_true_eq, decide_eq_false_iff_not, beq_iff_eq, beq_eq_false_iff_ne, bne_iff_ne, bne_eq_false_iff_eq, Bool.not_eq_true', Bool.not_eq_false', Int.not_lt, Int.not_le] at hg19)
           first | (cases hg19; done) | (exfalso; omega; done)
          all_goals
           refine wpL_q 26 ?_ rfl (Or.inl ⟨by rfl, fun w_ hS_ => ?_⟩) (marks 28 134217727) ?_
           rotate_left
           next => (go_simp; try (first | rfl | exact (Bool.not_not _).symm))
           try simp only [Act.put, List.setIfInBounds_toArray, List.set_cons_zero, List.set_cons_succ]
           refine wpL_q 27 ?_ rfl (Or.inl ⟨by rfl, fun w_ hS_ => ?_⟩) (marks 28 268435455) ?_
           rotate_left
           next => (go_simp; try (first | rfl | exact (Bool.not_not _).symm))
           try simp only [Act.put, List.setIfInBounds_toArray, List.set_cons_zero, List.set_cons_succ]
           all_goals refine wpL_done (by kernel_rfl) ?_ _
        go_wp2_with fail
        exact HP.out _ _ ⟨rfl, hw.sel [0] (by decide)⟩
end Go.Proofs.YtmokklkckecmdaaDoor
