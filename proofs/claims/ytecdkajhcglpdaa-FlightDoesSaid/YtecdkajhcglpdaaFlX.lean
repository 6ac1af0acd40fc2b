/-
  The walks of Do and Finish of a flight.
-/
import Derived.Test.YtecdkajhcglpdaaFlW
namespace Go.Proofs.Ytecdkajhcglpdaa
set_option linter.unusedSimpArgs false
set_option linter.unusedVariables false
open Go.RowKit Go.Sep Go.RingM

theorem ask_cases (M : FM) (h : M.Ok) (t key : Int) :
    (¬ (0 ≤ t ∧ t < M.n) ∧ M.ask t key = (-1, 3, M)) ∨ ((0 ≤ t ∧ t < M.n) ∧ ¬ rowOf M.rows t = -1 ∧ M.ask t key = (-1, 6, M)) ∨
    ((0 ≤ t ∧ t < M.n) ∧ rowOf M.rows t = -1 ∧ (M.keys t).isSome = true ∧ M.ask t key = (-1, 4, M)) ∨
    (∃ u : Nat, (0 ≤ t ∧ t < M.n) ∧ rowOf M.rows t = -1 ∧ (M.keys t).isSome = false ∧ M.calls key = some (u : Int) ∧ u < M.rows.length ∧ putE M.n M.rows t = 0 ∧ M.ask t key = ((u : Int), 0, { M with rows := putR M.n M.rows u t })) ∨
    ((0 ≤ t ∧ t < M.n) ∧ rowOf M.rows t = -1 ∧ (M.keys t).isSome = false ∧ M.calls key = none ∧ M.ask t key = (t, 0, { M with calls := setI M.calls key (some t), keys := setI M.keys t (some key) })) := by
  unfold FM.ask
  by_cases h1 : 0 ≤ t ∧ t < M.n
  · rw [if_neg (fun e => e h1)]
    by_cases h2 : rowOf M.rows t = -1
    · rw [if_neg (fun e => e h2)]
      by_cases h3 : (M.keys t).isSome = true
      · rw [if_pos h3]; exact .inr (.inr (.inl ⟨h1, h2, h3, rfl⟩))
      · rw [if_neg h3]
        have h3 : (M.keys t).isSome = false := by simpa using h3
        cases hc : M.calls key with
        | some u =>
          have hu := h.there u key (h.lead key u hc)
          have hun : ((u.toNat : Nat) : Int) = u := by omega
          refine .inr (.inr (.inr (.inl ⟨u.toNat, h1, h2, h3, by rw [hun], by rw [h.len]; omega, ?_, ?_⟩)))
          · unfold putE; rw [if_pos h1, if_pos h2]
          · rw [hun]
        | none => exact .inr (.inr (.inr (.inr ⟨h1, h2, h3, rfl, rfl⟩)))
    · rw [if_pos h2]; exact .inr (.inl ⟨h1, h2, rfl⟩)
  · rw [if_pos h1]; exact .inl ⟨h1, rfl⟩
set_option maxHeartbeats 4000000 in
theorem oDo (p : Nat) (M : FM) (t key : Int) (e w : World) (X : HProp) (hw : Holds e w [X, IsFlight p M]) :
    Calls Try.prog 24 #[.pointer (some ⟨p, 0, none⟩), .int .i64 t, .int .i64 key] w fun en w' => en = .returned (.tuple #[.int .i64 (M.ask t key).1, .int .i64 (M.ask t key).2.1]) ∧ Holds e w' [X, IsFlight p (M.ask t key).2.2] := by
  have hok := (fl_ok (i := 1) rfl hw).2
  have Hok' := Sep.hid (hok.ask t key)
  have Hth := Sep.hid (oThere p M t)
  have Hjo := Sep.hid (oJoins p M t)
  have hwf := hw
  obtain ⟨⟨r, m1, m2⟩, hw⟩ := exL.open_ hw
  have hw := hw.open_ 1 rfl
  (try simp only [List.map_cons, List.map_nil, List.getD_cons_zero, List.getD_cons_succ, List.getD_nil, List.set_cons_zero, List.set_cons_succ, List.cons_append, List.nil_append, Act.eval, Array.getD_eq_getD_getElem?, List.getElem?_toArray, List.getElem?_cons_succ, List.getElem?_cons_zero, Option.getD_some, Value.cells] at hw); (try simp (disch := first | (simp; done) | (simp; omega)) only [Sep.mid_set, Sep.mid_set2, Sep.mid_set0, Sep.mid_splice, Sep.mid_splice0, List.set_cons_zero, List.set_cons_succ] at hw); (try simp only [Sep.splice, List.take_succ_cons, List.take_zero, List.drop_succ_cons, List.drop_zero, List.length_cons, List.length_nil, Nat.reduceAdd, List.cons_append, List.nil_append] at hw)
  (try replace hc0 := Sep.Holds.cells hw (i := 0) rfl); (try replace hc1 := Sep.Holds.cells hw (i := 1) rfl); (try replace hc2 := Sep.Holds.cells hw (i := 2) rfl); (try replace hc3 := Sep.Holds.cells hw (i := 3) rfl); (try replace hc4 := Sep.Holds.cells hw (i := 4) rfl); (try replace hc5 := Sep.Holds.cells hw (i := 5) rfl); (try replace hc6 := Sep.Holds.cells hw (i := 6) rfl)
  obtain ⟨ks, hks⟩ : ∃ b, (M.keys t).isSome = b := ⟨_, rfl⟩
  have Hks := Sep.hid hks
  rcases ask_cases M hok t key with ⟨h1, hb⟩ | ⟨h1, h2, hb⟩ | ⟨h1, h2, h3, hb⟩ | ⟨u, h1, h2, h3, h4, h5, h6, hb⟩ | ⟨h1, h2, h3, h4, hb⟩
  all_goals rw [hb] at Hok' ⊢; clear hb hok
  · have Ht : Hid (decide (0 ≤ t ∧ t < (M.n : Int)) = false) := Sep.hid (by simpa using h1)
    clear h1 hks
    refine Sep.calls_post ?_
    intro Post_ hPost_
    have HP := Sep.hid hPost_
    clear hPost_
    go_enter Try.func24, Try.ntmps24
    go_wp2_with (first
      | (refine wpList_on rfl (wp_lookOkV (i := 4) rfl rfl rfl hw rfl rfl Hks.out ?_))
      | (go_at_call 31; refine (Hth.out e _ _ hwf).mono ?_; rintro _ w_ ⟨rfl, rfl⟩; rw [Ht.out])
      | (go_at_call 19; refine (Hjo.out e _ _ hwf).mono ?_; rintro _ w_ ⟨rfl, rfl⟩; skip)
      | (refine wpList_on rfl (wp_lookOkV (i := 3) rfl rfl rfl hw rfl rfl rfl ?_)))
    exact HP.out _ _ ⟨rfl, hwf⟩
  · have Ht : Hid (decide (0 ≤ t ∧ t < (M.n : Int)) = true) := Sep.hid (by simpa using h1)
    have hq : (rowOf M.rows t == -1) = false := by simpa using h2
    clear h1 hks h2
    refine Sep.calls_post ?_
    intro Post_ hPost_
    have HP := Sep.hid hPost_
    clear hPost_
    go_enter Try.func24, Try.ntmps24
    go_wp2_with (first
      | (refine wpList_on rfl (wp_lookOkV (i := 4) rfl rfl rfl hw rfl rfl Hks.out ?_))
      | (go_at_call 31; refine (Hth.out e _ _ hwf).mono ?_; rintro _ w_ ⟨rfl, rfl⟩; rw [Ht.out])
      | (go_at_call 19; refine (Hjo.out e _ _ hwf).mono ?_; rintro _ w_ ⟨rfl, rfl⟩; skip)
      | (refine wpList_on rfl (wp_lookOkV (i := 3) rfl rfl rfl hw rfl rfl rfl ?_)))
    exact HP.out _ _ ⟨rfl, hwf⟩
  · have Ht : Hid (decide (0 ≤ t ∧ t < (M.n : Int)) = true) := Sep.hid (by simpa using h1)
    have Hj := Sep.hid h2
    have Hk := Sep.hid h3
    clear h1 hks h2 h3
    refine Sep.calls_post ?_
    intro Post_ hPost_
    have HP := Sep.hid hPost_
    clear hPost_
    go_enter Try.func24, Try.ntmps24
    go_wp2_with (first
      | (refine wpList_on rfl (wp_lookOkV (i := 4) rfl rfl rfl hw rfl rfl Hk.out ?_))
      | (go_at_call 31; refine (Hth.out e _ _ hwf).mono ?_; rintro _ w_ ⟨rfl, rfl⟩; rw [Ht.out])
      | (go_at_call 19; refine (Hjo.out e _ _ hwf).mono ?_; rintro _ w_ ⟨rfl, rfl⟩; rw [Hj.out])
      | (refine wpList_on rfl (wp_lookOkV (i := 3) rfl rfl rfl hw rfl rfl rfl ?_)))
    exact HP.out _ _ ⟨rfl, hwf⟩
  · have Ht : Hid (decide (0 ≤ t ∧ t < (M.n : Int)) = true) := Sep.hid (by simpa using h1)
    have Hj := Sep.hid h2
    have Hk := Sep.hid h3
    have Hc1 : Hid ((M.calls key).getD 0 = (u : Int)) := Sep.hid (by rw [h4]; rfl)
    have Hc2 : Hid ((M.calls key).isSome = true) := Sep.hid (by rw [h4]; rfl)
    have Hul := Sep.hid h5
    have Hpe := Sep.hid h6
    clear h1 hks h2 h3 h4 h5 h6
    refine Sep.calls_post ?_
    intro Post_ hPost_
    have HP := Sep.hid hPost_
    clear hPost_
    go_enter Try.func24, Try.ntmps24
    go_wp2_with (first
      | (refine wpList_on rfl (wp_lookOkV (i := 4) rfl rfl rfl hw rfl rfl Hk.out ?_))
      | (go_at_call 31; refine (Hth.out e _ _ hwf).mono ?_; rintro _ w_ ⟨rfl, rfl⟩; rw [Ht.out])
      | (go_at_call 19; refine (Hjo.out e _ _ hwf).mono ?_; rintro _ w_ ⟨rfl, rfl⟩; rw [Hj.out])
      | (refine wpList_on rfl (wp_lookOkV (i := 3) rfl rfl rfl hw rfl Hc1.out Hc2.out ?_)))
    refine (wPut r M.n M.rows u Hul.out t e _ _ (hw.focus1 2 rfl)).mono ?_
    rintro en_ w_ ⟨rfl, hw_⟩
    clear hw; (try clear hc0); (try clear hc1); (try clear hc2); (try clear hc3); (try clear hc4); (try clear hc5); (try clear hc6); have hw := Holds.unfocus1 2 (by simp) hw_; clear hw_
    (try simp only [List.map_cons, List.map_nil, List.getD_cons_zero, List.getD_cons_succ, List.getD_nil, List.set_cons_zero, List.set_cons_succ, List.cons_append, List.nil_append, Act.eval, Array.getD_eq_getD_getElem?, List.getElem?_toArray, List.getElem?_cons_succ, List.getElem?_cons_zero, Option.getD_some, Value.cells] at hw); (try simp (disch := first | (simp; done) | (simp; omega)) only [Sep.mid_set, Sep.mid_set2, Sep.mid_set0, Sep.mid_splice, Sep.mid_splice0, List.set_cons_zero, List.set_cons_succ] at hw); (try simp only [Sep.splice, List.take_succ_cons, List.take_zero, List.drop_succ_cons, List.drop_zero, List.length_cons, List.length_nil, Nat.reduceAdd, List.cons_append, List.nil_append] at hw)
    rw [Hpe.out]
    go_wp2_with fail
    exact HP.out _ _ ⟨rfl, exL.mk (f := flParts p ⟨M.n, putR M.n M.rows u t, M.calls, M.keys⟩) ⟨r, m1, m2⟩ ((hw.sel [0, 1, 2, 3, 4] (by decide)).addFct Hok'.out)⟩
  · have Ht : Hid (decide (0 ≤ t ∧ t < (M.n : Int)) = true) := Sep.hid (by simpa using h1)
    have Hj := Sep.hid h2
    have Hk := Sep.hid h3
    have Hc1 : Hid ((M.calls key).getD 0 = 0) := Sep.hid (by rw [h4]; rfl)
    have Hc2 : Hid ((M.calls key).isSome = false) := Sep.hid (by rw [h4]; rfl)
    clear h1 hks h2 h3 h4
    refine Sep.calls_post ?_
    intro Post_ hPost_
    have HP := Sep.hid hPost_
    clear hPost_
    go_enter Try.func24, Try.ntmps24
    go_wp2_with (first
      | (refine wpList_on rfl (wp_lookOkV (i := 4) rfl rfl rfl hw rfl rfl Hk.out ?_))
      | (go_at_call 31; refine (Hth.out e _ _ hwf).mono ?_; rintro _ w_ ⟨rfl, rfl⟩; rw [Ht.out])
      | (go_at_call 19; refine (Hjo.out e _ _ hwf).mono ?_; rintro _ w_ ⟨rfl, rfl⟩; rw [Hj.out])
      | (refine wpList_on rfl (wp_lookOkV (i := 3) rfl rfl rfl hw rfl Hc1.out Hc2.out ?_)))
    clear hwf
    refine wp_region_L [12, 14, 15, 17] [(3, (fun w' => w' = w_.drew)), (8, (fun w' => w' = w_.drew))] (n := 18) (listed := (marks 18 0)) (by kernel_rfl) rfl (by kernel_rfl) ?conds1 ?_
    case conds1 =>
     intro c hc
     simp only [List.mem_cons, List.not_mem_nil, or_false] at hc
     rcases hc with rfl | rfl
     · rfl
     · rfl
    replace hw := hw.drew
    (try replace hc0 := Sep.Holds.cells hw (i := 0) rfl); (try replace hc1 := Sep.Holds.cells hw (i := 1) rfl); (try replace hc2 := Sep.Holds.cells hw (i := 2) rfl); (try replace hc3 := Sep.Holds.cells hw (i := 3) rfl); (try replace hc4 := Sep.Holds.cells hw (i := 4) rfl); (try replace hc5 := Sep.Holds.cells hw (i := 5) rfl); (try replace hc6 := Sep.Holds.cells hw (i := 6) rfl)
    refine wpL_q 0 ?_ rfl (Or.inl ⟨by rfl, fun w_ hS_ => ?_⟩) (marks 18 1) ?_
    rotate_left
    next => (go_simp; try (first | rfl | exact (Bool.not_not _).symm))
    try simp only [Act.put, List.setIfInBounds_toArray, List.set_cons_zero, List.set_cons_succ]
    refine wpL_q 1 ?_ rfl (Or.inl ⟨by rfl, fun w_ hS_ => ?_⟩) (marks 18 3) ?_
    rotate_left
    next => (go_simp; try (first | rfl | exact (Bool.not_not _).symm))
    try simp only [Act.put, List.setIfInBounds_toArray, List.set_cons_zero, List.set_cons_succ]
    refine wpL_q 2 ?_ rfl (Or.inl ⟨by rfl, fun w_ hS_ => ?_⟩) (marks 18 7) ?_
    rotate_left
    next => (go_simp; try (first | rfl | exact (Bool.not_not _).symm))
    try simp only [Act.put, List.setIfInBounds_toArray, List.set_cons_zero, List.set_cons_succ]
    refine wpL_m 3 ?_ rfl (.head _) (Or.inl ⟨by rfl, fun w_ hS_ => ?_⟩) (marks 18 15) ?_
    rotate_left
    next => (subst hS_; go_simp; try (first | rfl | exact (Bool.not_not _).symm))
    try simp only [Act.put, List.setIfInBounds_toArray, List.set_cons_zero, List.set_cons_succ]
    refine wpL_q 4 ?_ rfl (Or.inl ⟨by rfl, fun w_ hS_ => ?_⟩) (marks 18 31) ?_
    rotate_left
    next => (go_simp; try (first | rfl | exact (Bool.not_not _).symm))
    try simp only [Act.put, List.setIfInBounds_toArray, List.set_cons_zero, List.set_cons_succ]
    refine wpL_q 5 ?_ rfl (Or.inl ⟨by rfl, fun w_ hS_ => ?_⟩) (marks 18 63) ?_
    rotate_left
    next => (go_simp; try (first | rfl | exact (Bool.not_not _).symm))
    try simp only [Act.put, List.setIfInBounds_toArray, List.set_cons_zero, List.set_cons_succ]
    refine wpL_q 6 ?_ rfl (Or.inl ⟨by rfl, fun w_ hS_ => ?_⟩) (marks 18 127) ?_
    rotate_left
    next => (go_simp; try (first | rfl | exact (Bool.not_not _).symm))
    try simp only [Act.put, List.setIfInBounds_toArray, List.set_cons_zero, List.set_cons_succ]
    refine wpL_q 7 ?_ rfl (Or.inl ⟨by rfl, fun w_ hS_ => ?_⟩) (marks 18 255) ?_
    rotate_left
    next => (go_simp; try (first | rfl | exact (Bool.not_not _).symm))
    try simp only [Act.put, List.setIfInBounds_toArray, List.set_cons_zero, List.set_cons_succ]
    refine wpL_m 8 ?_ rfl (.tail _ (.head _)) (Or.inl ⟨by rfl, fun w_ hS_ => ?_⟩) (marks 18 511) ?_
    rotate_left
    next => (subst hS_; go_simp; try (first | rfl | exact (Bool.not_not _).symm))
    try simp only [Act.put, List.setIfInBounds_toArray, List.set_cons_zero, List.set_cons_succ]
    refine wpL_q 9 ?_ rfl (Or.inl ⟨by rfl, fun w_ hS_ => ?_⟩) (marks 18 1023) ?_
    rotate_left
    next => (go_simp; try (first | rfl | exact (Bool.not_not _).symm))
    try simp only [Act.put, List.setIfInBounds_toArray, List.set_cons_zero, List.set_cons_succ]
    refine wpL_q 10 ?_ rfl (Or.inl ⟨by rfl, fun w_ hS_ => ?_⟩) (marks 18 2047) ?_
    rotate_left
    next => (go_simp; try (first | rfl | exact (Bool.not_not _).symm))
    try simp only [Act.put, List.setIfInBounds_toArray, List.set_cons_zero, List.set_cons_succ]
    refine wpL_q 11 ?_ rfl (Or.inl ⟨by rfl, fun w_ hS_ => ?_⟩) (marks 18 4095) ?_
    rotate_left
    next => (go_simp; try (first | rfl | exact (Bool.not_not _).symm))
    try simp only [Act.put, List.setIfInBounds_toArray, List.set_cons_zero, List.set_cons_succ]
    refine wpL_o 12 rfl (by rfl) (marks 18 8191) ?_
    (refine wp_mapEntry rfl rfl rfl hw (i := 3) rfl ?_; intro s_ w_ hw_; clear hw; have hw := hw_; clear hw_; (try simp only [List.map_cons, List.map_nil, List.getD_cons_zero, List.getD_cons_succ, List.getD_nil, List.set_cons_zero, List.set_cons_succ, List.cons_append, List.nil_append, Act.eval, Array.getD_eq_getD_getElem?, List.getElem?_toArray, List.getElem?_cons_succ, List.getElem?_cons_zero, Option.getD_some, Value.cells] at hw); (try simp (disch := first | (simp; done) | (simp; omega)) only [Sep.mid_set, Sep.mid_set2, Sep.mid_set0, Sep.mid_splice, Sep.mid_splice0, List.set_cons_zero, List.set_cons_succ] at hw); (try simp only [Sep.splice, List.take_succ_cons, List.take_zero, List.drop_succ_cons, List.drop_zero, List.length_cons, List.length_nil, Nat.reduceAdd, List.cons_append, List.nil_append] at hw); (try replace hc0 := Sep.Holds.cells hw (i := 0) rfl); (try replace hc1 := Sep.Holds.cells hw (i := 1) rfl); (try replace hc2 := Sep.Holds.cells hw (i := 2) rfl); (try replace hc3 := Sep.Holds.cells hw (i := 3) rfl); (try replace hc4 := Sep.Holds.cells hw (i := 4) rfl); (try replace hc5 := Sep.Holds.cells hw (i := 5) rfl); (try replace hc6 := Sep.Holds.cells hw (i := 6) rfl))
    refine ⟨(SL.drop 12 (by kernel_rfl) (SL.drop 12 (by kernel_rfl) SL.nil)), ?_⟩
    try simp only [Act.put, List.setIfInBounds_toArray, List.set_cons_zero, List.set_cons_succ]
    refine wpL_q 13 ?_ rfl (Or.inl ⟨by rfl, fun w_ hS_ => ?_⟩) (marks 18 16383) ?_
    rotate_left
    next => (go_simp; try (first | rfl | exact (Bool.not_not _).symm))
    try simp only [Act.put, List.setIfInBounds_toArray, List.set_cons_zero, List.set_cons_succ]
    refine wpL_o 14 rfl (by rfl) (marks 18 32767) ?_
    (refine wp_entryStore rfl rfl rfl rfl hw (i := 3) rfl ?_; intro w_ hw_; clear hw; have hw := hw_; clear hw_; (try simp only [List.map_cons, List.map_nil, List.getD_cons_zero, List.getD_cons_succ, List.getD_nil, List.set_cons_zero, List.set_cons_succ, List.cons_append, List.nil_append, Act.eval, Array.getD_eq_getD_getElem?, List.getElem?_toArray, List.getElem?_cons_succ, List.getElem?_cons_zero, Option.getD_some, Value.cells] at hw); (try simp (disch := first | (simp; done) | (simp; omega)) only [Sep.mid_set, Sep.mid_set2, Sep.mid_set0, Sep.mid_splice, Sep.mid_splice0, List.set_cons_zero, List.set_cons_succ] at hw); (try simp only [Sep.splice, List.take_succ_cons, List.take_zero, List.drop_succ_cons, List.drop_zero, List.length_cons, List.length_nil, Nat.reduceAdd, List.cons_append, List.nil_append] at hw); (try replace hc0 := Sep.Holds.cells hw (i := 0) rfl); (try replace hc1 := Sep.Holds.cells hw (i := 1) rfl); (try replace hc2 := Sep.Holds.cells hw (i := 2) rfl); (try replace hc3 := Sep.Holds.cells hw (i := 3) rfl); (try replace hc4 := Sep.Holds.cells hw (i := 4) rfl); (try replace hc5 := Sep.Holds.cells hw (i := 5) rfl); (try replace hc6 := Sep.Holds.cells hw (i := 6) rfl))
    refine ⟨(SL.drop 12 (by kernel_rfl) (SL.drop 12 (by kernel_rfl) SL.nil)), ?_⟩
    try simp only [Act.put, List.setIfInBounds_toArray, List.set_cons_zero, List.set_cons_succ]
    refine wpL_o 15 rfl (by rfl) (marks 18 65535) ?_
    (refine wp_mapEntry rfl rfl rfl hw (i := 4) rfl ?_; intro s_ w_ hw_; clear hw; have hw := hw_; clear hw_; (try simp only [List.map_cons, List.map_nil, List.getD_cons_zero, List.getD_cons_succ, List.getD_nil, List.set_cons_zero, List.set_cons_succ, List.cons_append, List.nil_append, Act.eval, Array.getD_eq_getD_getElem?, List.getElem?_toArray, List.getElem?_cons_succ, List.getElem?_cons_zero, Option.getD_some, Value.cells] at hw); (try simp (disch := first | (simp; done) | (simp; omega)) only [Sep.mid_set, Sep.mid_set2, Sep.mid_set0, Sep.mid_splice, Sep.mid_splice0, List.set_cons_zero, List.set_cons_succ] at hw); (try simp only [Sep.splice, List.take_succ_cons, List.take_zero, List.drop_succ_cons, List.drop_zero, List.length_cons, List.length_nil, Nat.reduceAdd, List.cons_append, List.nil_append] at hw); (try replace hc0 := Sep.Holds.cells hw (i := 0) rfl); (try replace hc1 := Sep.Holds.cells hw (i := 1) rfl); (try replace hc2 := Sep.Holds.cells hw (i := 2) rfl); (try replace hc3 := Sep.Holds.cells hw (i := 3) rfl); (try replace hc4 := Sep.Holds.cells hw (i := 4) rfl); (try replace hc5 := Sep.Holds.cells hw (i := 5) rfl); (try replace hc6 := Sep.Holds.cells hw (i := 6) rfl))
    refine ⟨(SL.drop 12 (by kernel_rfl) (SL.drop 12 (by kernel_rfl) SL.nil)), ?_⟩
    try simp only [Act.put, List.setIfInBounds_toArray, List.set_cons_zero, List.set_cons_succ]
    refine wpL_q 16 ?_ rfl (Or.inl ⟨by rfl, fun w_ hS_ => ?_⟩) (marks 18 131071) ?_
    rotate_left
    next => (go_simp; try (first | rfl | exact (Bool.not_not _).symm))
    try simp only [Act.put, List.setIfInBounds_toArray, List.set_cons_zero, List.set_cons_succ]
    refine wpL_o 17 rfl (by rfl) (marks 18 262143) ?_
    (refine wp_entryStore rfl rfl rfl rfl hw (i := 4) rfl ?_; intro w_ hw_; clear hw; have hw := hw_; clear hw_; (try simp only [List.map_cons, List.map_nil, List.getD_cons_zero, List.getD_cons_succ, List.getD_nil, List.set_cons_zero, List.set_cons_succ, List.cons_append, List.nil_append, Act.eval, Array.getD_eq_getD_getElem?, List.getElem?_toArray, List.getElem?_cons_succ, List.getElem?_cons_zero, Option.getD_some, Value.cells] at hw); (try simp (disch := first | (simp; done) | (simp; omega)) only [Sep.mid_set, Sep.mid_set2, Sep.mid_set0, Sep.mid_splice, Sep.mid_splice0, List.set_cons_zero, List.set_cons_succ] at hw); (try simp only [Sep.splice, List.take_succ_cons, List.take_zero, List.drop_succ_cons, List.drop_zero, List.length_cons, List.length_nil, Nat.reduceAdd, List.cons_append, List.nil_append] at hw); (try replace hc0 := Sep.Holds.cells hw (i := 0) rfl); (try replace hc1 := Sep.Holds.cells hw (i := 1) rfl); (try replace hc2 := Sep.Holds.cells hw (i := 2) rfl); (try replace hc3 := Sep.Holds.cells hw (i := 3) rfl); (try replace hc4 := Sep.Holds.cells hw (i := 4) rfl); (try replace hc5 := Sep.Holds.cells hw (i := 5) rfl); (try replace hc6 := Sep.Holds.cells hw (i := 6) rfl))
    refine ⟨(SL.drop 12 (by kernel_rfl) (SL.drop 12 (by kernel_rfl) SL.nil)), ?_⟩
    try simp only [Act.put, List.setIfInBounds_toArray, List.set_cons_zero, List.set_cons_succ]
    refine wpL_done (by kernel_rfl) ?_ _
    rw [setF_setF, setF_setF, setF_some, setF_some] at hw
    go_wp2_with fail
    exact HP.out _ _ ⟨rfl, exL.mk (f := flParts p ⟨M.n, M.rows, setI M.calls key (some t), setI M.keys t (some key)⟩) ⟨r, m1, m2⟩ ((hw.sel [0, 1, 2, 3, 4] (by decide)).addFct Hok'.out)⟩
theorem fin_cases (M : FM) (h : M.Ok) (t : Int) :
    (¬ (0 ≤ t ∧ t < M.n) ∧ M.fin t = ([], 3, M)) ∨ ((0 ≤ t ∧ t < M.n) ∧ (M.keys t).isSome = false ∧ M.fin t = ([], 4, M)) ∨
    (∃ (key : Int) (u : Nat) (l : List Int), (0 ≤ t ∧ t < M.n) ∧ t = (u : Int) ∧ M.keys t = some key ∧ M.rows[u]? = some l ∧ M.row t = l ∧ M.fin t = (l, 0, { M with keys := setI M.keys t none, calls := if M.leader key = t then setI M.calls key none else M.calls, rows := M.rows.set u [] })) := by
  unfold FM.fin
  by_cases h1 : 0 ≤ t ∧ t < M.n
  · rw [if_neg (fun e => e h1)]
    cases hk : M.keys t with
    | none => exact .inr (.inl ⟨h1, rfl, rfl⟩)
    | some key =>
      have hl : t.toNat < M.rows.length := by rw [h.len]; omega
      have hr : M.row t = M.rows[t.toNat] := by unfold FM.row; rw [if_pos h1.1, List.getD_eq_getElem?_getD, List.getElem?_eq_getElem hl]; rfl
      exact .inr (.inr ⟨key, t.toNat, M.rows[t.toNat], h1, by omega, rfl, List.getElem?_eq_getElem hl, hr, by rw [hr]⟩)
  · rw [if_pos h1]; exact .inl ⟨h1, rfl⟩
set_option maxHeartbeats 4000000 in
theorem oFin (p : Nat) (M : FM) (t : Int) (e w : World) (X : HProp) (hw : Holds e w [X, IsFlight p M]) :
    Calls Try.prog 26 #[.pointer (some ⟨p, 0, none⟩), .int .i64 t] w fun en w' => ∃ v, en = .returned (.tuple #[v, .int .i64 (M.fin t).2.1]) ∧ Holds e w' [X, IsFlight p (M.fin t).2.2, IsInts v (M.fin t).1] := by
  have hok := (fl_ok (i := 1) rfl hw).2
  have hro := (fl_ok (i := 1) rfl hw).1
  have Hok' := Sep.hid (hok.fin t)
  have Hth := Sep.hid (oThere p M t)
  have hwf := hw
  have Hwf := Sep.hid hw
  obtain ⟨⟨r, m1, m2⟩, hw⟩ := exL.open_ hw
  have hw := hw.open_ 1 rfl
  (try simp only [List.map_cons, List.map_nil, List.getD_cons_zero, List.getD_cons_succ, List.getD_nil, List.set_cons_zero, List.set_cons_succ, List.cons_append, List.nil_append, Act.eval, Array.getD_eq_getD_getElem?, List.getElem?_toArray, List.getElem?_cons_succ, List.getElem?_cons_zero, Option.getD_some, Value.cells] at hw); (try simp (disch := first | (simp; done) | (simp; omega)) only [Sep.mid_set, Sep.mid_set2, Sep.mid_set0, Sep.mid_splice, Sep.mid_splice0, List.set_cons_zero, List.set_cons_succ] at hw); (try simp only [Sep.splice, List.take_succ_cons, List.take_zero, List.drop_succ_cons, List.drop_zero, List.length_cons, List.length_nil, Nat.reduceAdd, List.cons_append, List.nil_append] at hw)
  (try replace hc0 := Sep.Holds.cells hw (i := 0) rfl); (try replace hc1 := Sep.Holds.cells hw (i := 1) rfl); (try replace hc2 := Sep.Holds.cells hw (i := 2) rfl); (try replace hc3 := Sep.Holds.cells hw (i := 3) rfl); (try replace hc4 := Sep.Holds.cells hw (i := 4) rfl); (try replace hc5 := Sep.Holds.cells hw (i := 5) rfl); (try replace hc6 := Sep.Holds.cells hw (i := 6) rfl)
  rcases fin_cases M hok t with ⟨h1, hb⟩ | ⟨h1, h2, hb⟩ | ⟨key, u, l, h1, rfl, h3, h4, h5, hb⟩
  all_goals rw [hb] at Hok' ⊢; clear hb
  · have Ht : Hid (decide (0 ≤ t ∧ t < (M.n : Int)) = false) := Sep.hid (by simpa using h1)
    clear h1 hok hro
    refine Sep.calls_post ?_
    intro Post_ hPost_
    have HP := Sep.hid hPost_
    clear hPost_
    go_enter Try.func26, Try.ntmps26
    go_wp2_with (first
      | (refine wpList_on rfl (wp_lookOkV (i := 4) rfl rfl rfl hw rfl rfl rfl ?_))
      | (go_at_call 31; refine (Hth.out e _ _ hwf).mono ?_; rintro _ w_ ⟨rfl, rfl⟩; rw [Ht.out]; (try clear hwf))
      | (refine wpList_on rfl (wp_delI (i := 4) rfl rfl rfl hw rfl ?_); intro w_ hw_; clear hw; have hw := hw_; clear hw_; (try simp only [List.map_cons, List.map_nil, List.getD_cons_zero, List.getD_cons_succ, List.getD_nil, List.set_cons_zero, List.set_cons_succ, List.cons_append, List.nil_append, Act.eval, Array.getD_eq_getD_getElem?, List.getElem?_toArray, List.getElem?_cons_succ, List.getElem?_cons_zero, Option.getD_some, Value.cells] at hw); (try simp (disch := first | (simp; done) | (simp; omega)) only [Sep.mid_set, Sep.mid_set2, Sep.mid_set0, Sep.mid_splice, Sep.mid_splice0, List.set_cons_zero, List.set_cons_succ] at hw); (try simp only [Sep.splice, List.take_succ_cons, List.take_zero, List.drop_succ_cons, List.drop_zero, List.length_cons, List.length_nil, Nat.reduceAdd, List.cons_append, List.nil_append] at hw); (try replace hc0 := Sep.Holds.cells hw (i := 0) rfl); (try replace hc1 := Sep.Holds.cells hw (i := 1) rfl); (try replace hc2 := Sep.Holds.cells hw (i := 2) rfl); (try replace hc3 := Sep.Holds.cells hw (i := 3) rfl); (try replace hc4 := Sep.Holds.cells hw (i := 4) rfl); (try replace hc5 := Sep.Holds.cells hw (i := 5) rfl); (try replace hc6 := Sep.Holds.cells hw (i := 6) rfl))
      | (go_at_call 16; refine (cLeader p r m1 m2 M.calls key e _ _ (hw.focus2 1 3 rfl rfl (by decide))).mono ?_; rintro _ w_ ⟨rfl, rfl⟩)
      | (refine wpList_on rfl (wp_delI (i := 3) rfl rfl rfl hw rfl ?_); intro w_ hw_; clear hw; have hw := hw_; clear hw_; (try simp only [List.map_cons, List.map_nil, List.getD_cons_zero, List.getD_cons_succ, List.getD_nil, List.set_cons_zero, List.set_cons_succ, List.cons_append, List.nil_append, Act.eval, Array.getD_eq_getD_getElem?, List.getElem?_toArray, List.getElem?_cons_succ, List.getElem?_cons_zero, Option.getD_some, Value.cells] at hw); (try simp (disch := first | (simp; done) | (simp; omega)) only [Sep.mid_set, Sep.mid_set2, Sep.mid_set0, Sep.mid_splice, Sep.mid_splice0, List.set_cons_zero, List.set_cons_succ] at hw); (try simp only [Sep.splice, List.take_succ_cons, List.take_zero, List.drop_succ_cons, List.drop_zero, List.length_cons, List.length_nil, Nat.reduceAdd, List.cons_append, List.nil_append] at hw); (try replace hc0 := Sep.Holds.cells hw (i := 0) rfl); (try replace hc1 := Sep.Holds.cells hw (i := 1) rfl); (try replace hc2 := Sep.Holds.cells hw (i := 2) rfl); (try replace hc3 := Sep.Holds.cells hw (i := 3) rfl); (try replace hc4 := Sep.Holds.cells hw (i := 4) rfl); (try replace hc5 := Sep.Holds.cells hw (i := 5) rfl); (try replace hc6 := Sep.Holds.cells hw (i := 6) rfl)))
    exact HP.out _ _ ⟨_, rfl, Hwf.out.addEmp (Sl.nil _ _ _)⟩
  · have Ht : Hid (decide (0 ≤ t ∧ t < (M.n : Int)) = true) := Sep.hid (by simpa using h1)
    have Hk := Sep.hid h2
    clear h1 h2 hok hro
    refine Sep.calls_post ?_
    intro Post_ hPost_
    have HP := Sep.hid hPost_
    clear hPost_
    go_enter Try.func26, Try.ntmps26
    go_wp2_with (first
      | (refine wpList_on rfl (wp_lookOkV (i := 4) rfl rfl rfl hw rfl rfl Hk.out ?_))
      | (go_at_call 31; refine (Hth.out e _ _ hwf).mono ?_; rintro _ w_ ⟨rfl, rfl⟩; rw [Ht.out]; (try clear hwf))
      | (refine wpList_on rfl (wp_delI (i := 4) rfl rfl rfl hw rfl ?_); intro w_ hw_; clear hw; have hw := hw_; clear hw_; (try simp only [List.map_cons, List.map_nil, List.getD_cons_zero, List.getD_cons_succ, List.getD_nil, List.set_cons_zero, List.set_cons_succ, List.cons_append, List.nil_append, Act.eval, Array.getD_eq_getD_getElem?, List.getElem?_toArray, List.getElem?_cons_succ, List.getElem?_cons_zero, Option.getD_some, Value.cells] at hw); (try simp (disch := first | (simp; done) | (simp; omega)) only [Sep.mid_set, Sep.mid_set2, Sep.mid_set0, Sep.mid_splice, Sep.mid_splice0, List.set_cons_zero, List.set_cons_succ] at hw); (try simp only [Sep.splice, List.take_succ_cons, List.take_zero, List.drop_succ_cons, List.drop_zero, List.length_cons, List.length_nil, Nat.reduceAdd, List.cons_append, List.nil_append] at hw); (try replace hc0 := Sep.Holds.cells hw (i := 0) rfl); (try replace hc1 := Sep.Holds.cells hw (i := 1) rfl); (try replace hc2 := Sep.Holds.cells hw (i := 2) rfl); (try replace hc3 := Sep.Holds.cells hw (i := 3) rfl); (try replace hc4 := Sep.Holds.cells hw (i := 4) rfl); (try replace hc5 := Sep.Holds.cells hw (i := 5) rfl); (try replace hc6 := Sep.Holds.cells hw (i := 6) rfl))
      | (go_at_call 16; refine (cLeader p r m1 m2 M.calls key e _ _ (hw.focus2 1 3 rfl rfl (by decide))).mono ?_; rintro _ w_ ⟨rfl, rfl⟩)
      | (refine wpList_on rfl (wp_delI (i := 3) rfl rfl rfl hw rfl ?_); intro w_ hw_; clear hw; have hw := hw_; clear hw_; (try simp only [List.map_cons, List.map_nil, List.getD_cons_zero, List.getD_cons_succ, List.getD_nil, List.set_cons_zero, List.set_cons_succ, List.cons_append, List.nil_append, Act.eval, Array.getD_eq_getD_getElem?, List.getElem?_toArray, List.getElem?_cons_succ, List.getElem?_cons_zero, Option.getD_some, Value.cells] at hw); (try simp (disch := first | (simp; done) | (simp; omega)) only [Sep.mid_set, Sep.mid_set2, Sep.mid_set0, Sep.mid_splice, Sep.mid_splice0, List.set_cons_zero, List.set_cons_succ] at hw); (try simp only [Sep.splice, List.take_succ_cons, List.take_zero, List.drop_succ_cons, List.drop_zero, List.length_cons, List.length_nil, Nat.reduceAdd, List.cons_append, List.nil_append] at hw); (try replace hc0 := Sep.Holds.cells hw (i := 0) rfl); (try replace hc1 := Sep.Holds.cells hw (i := 1) rfl); (try replace hc2 := Sep.Holds.cells hw (i := 2) rfl); (try replace hc3 := Sep.Holds.cells hw (i := 3) rfl); (try replace hc4 := Sep.Holds.cells hw (i := 4) rfl); (try replace hc5 := Sep.Holds.cells hw (i := 5) rfl); (try replace hc6 := Sep.Holds.cells hw (i := 6) rfl)))
    exact HP.out _ _ ⟨_, rfl, Hwf.out.addEmp (Sl.nil _ _ _)⟩
  · have Ht : Hid (decide (0 ≤ (u : Int) ∧ (u : Int) < (M.n : Int)) = true) := Sep.hid (by simpa using h1)
    have Hk1 : Hid ((M.keys (u : Int)).getD 0 = key) := Sep.hid (by rw [h3]; rfl)
    have Hk2 : Hid ((M.keys (u : Int)).isSome = true) := Sep.hid (by rw [h3]; rfl)
    have Hl := Sep.hid h4
    have Hro := Sep.hid hro
    have Hrow : Hid ((if 0 ≤ (u : Int) then M.rows.getD ((u : Int)).toNat [] else []) = l) := Sep.hid h5
    have Hset0 : Hid (M.rows.set u (l.drop 0) = M.rows) := Sep.hid (by
      obtain ⟨hu, hl2⟩ := List.getElem?_eq_some_iff.1 h4
      rw [List.drop_zero, ← hl2, List.set_getElem_self])
    obtain ⟨nl, hnl⟩ : ∃ n, l.length = n := ⟨_, rfl⟩
    have Hnl := Sep.hid hnl
    have hnl2 : nl ≤ 1000 := by rw [← hnl]; exact Nat.le_trans (rowsLen hro (List.mem_of_getElem? h4)) (Holds.rowsOk (i := 2) rfl hw).n2
    clear h1 h3 h4 h5 hnl hok hro
    by_cases hle : M.leader key = (u : Int)
    · rw [if_pos hle] at Hok' ⊢
      have hlq : ((M.calls key).getD (-1) == (u : Int)) = true := by simpa [FM.leader] using hle
      clear hle
      replace hw := hw.sel [0, 1, 2, 3, 4] (by decide)
      (try simp only [List.map_cons, List.map_nil, List.getD_cons_zero, List.getD_cons_succ, List.getD_nil, List.set_cons_zero, List.set_cons_succ, List.cons_append, List.nil_append, Act.eval, Array.getD_eq_getD_getElem?, List.getElem?_toArray, List.getElem?_cons_succ, List.getElem?_cons_zero, Option.getD_some, Value.cells] at hw); (try simp (disch := first | (simp; done) | (simp; omega)) only [Sep.mid_set, Sep.mid_set2, Sep.mid_set0, Sep.mid_splice, Sep.mid_splice0, List.set_cons_zero, List.set_cons_succ] at hw); (try simp only [Sep.splice, List.take_succ_cons, List.take_zero, List.drop_succ_cons, List.drop_zero, List.length_cons, List.length_nil, Nat.reduceAdd, List.cons_append, List.nil_append] at hw)
      (try replace hc0 := Sep.Holds.cells hw (i := 0) rfl); (try replace hc1 := Sep.Holds.cells hw (i := 1) rfl); (try replace hc2 := Sep.Holds.cells hw (i := 2) rfl); (try replace hc3 := Sep.Holds.cells hw (i := 3) rfl); (try replace hc4 := Sep.Holds.cells hw (i := 4) rfl); (try replace hc5 := Sep.Holds.cells hw (i := 5) rfl); (try replace hc6 := Sep.Holds.cells hw (i := 6) rfl)
      refine Sep.calls_post ?_
      intro Post_ hPost_
      have HP := Sep.hid hPost_
      clear hPost_
      go_enter Try.func26, Try.ntmps26
      go_wp2_with (first
        | (refine wpList_on rfl (wp_lookOkV (i := 4) rfl rfl rfl hw rfl Hk1.out Hk2.out ?_))
        | (go_at_call 31; refine (Hth.out e _ _ hwf).mono ?_; rintro _ w_ ⟨rfl, rfl⟩; rw [Ht.out]; (try clear hwf))
        | (refine wpList_on rfl (wp_delI (i := 4) rfl rfl rfl hw rfl ?_); intro w_ hw_; clear hw; have hw := hw_; clear hw_; (try simp only [List.map_cons, List.map_nil, List.getD_cons_zero, List.getD_cons_succ, List.getD_nil, List.set_cons_zero, List.set_cons_succ, List.cons_append, List.nil_append, Act.eval, Array.getD_eq_getD_getElem?, List.getElem?_toArray, List.getElem?_cons_succ, List.getElem?_cons_zero, Option.getD_some, Value.cells] at hw); (try simp (disch := first | (simp; done) | (simp; omega)) only [Sep.mid_set, Sep.mid_set2, Sep.mid_set0, Sep.mid_splice, Sep.mid_splice0, List.set_cons_zero, List.set_cons_succ] at hw); (try simp only [Sep.splice, List.take_succ_cons, List.take_zero, List.drop_succ_cons, List.drop_zero, List.length_cons, List.length_nil, Nat.reduceAdd, List.cons_append, List.nil_append] at hw); (try replace hc0 := Sep.Holds.cells hw (i := 0) rfl); (try replace hc1 := Sep.Holds.cells hw (i := 1) rfl); (try replace hc2 := Sep.Holds.cells hw (i := 2) rfl); (try replace hc3 := Sep.Holds.cells hw (i := 3) rfl); (try replace hc4 := Sep.Holds.cells hw (i := 4) rfl); (try replace hc5 := Sep.Holds.cells hw (i := 5) rfl); (try replace hc6 := Sep.Holds.cells hw (i := 6) rfl))
        | (go_at_call 16; refine (cLeader p r m1 m2 M.calls key e _ _ (hw.focus2 1 3 rfl rfl (by decide))).mono ?_; rintro _ w_ ⟨rfl, rfl⟩)
        | (refine wpList_on rfl (wp_delI (i := 3) rfl rfl rfl hw rfl ?_); intro w_ hw_; clear hw; have hw := hw_; clear hw_; (try simp only [List.map_cons, List.map_nil, List.getD_cons_zero, List.getD_cons_succ, List.getD_nil, List.set_cons_zero, List.set_cons_succ, List.cons_append, List.nil_append, Act.eval, Array.getD_eq_getD_getElem?, List.getElem?_toArray, List.getElem?_cons_succ, List.getElem?_cons_zero, Option.getD_some, Value.cells] at hw); (try simp (disch := first | (simp; done) | (simp; omega)) only [Sep.mid_set, Sep.mid_set2, Sep.mid_set0, Sep.mid_splice, Sep.mid_splice0, List.set_cons_zero, List.set_cons_succ] at hw); (try simp only [Sep.splice, List.take_succ_cons, List.take_zero, List.drop_succ_cons, List.drop_zero, List.length_cons, List.length_nil, Nat.reduceAdd, List.cons_append, List.nil_append] at hw); (try replace hc0 := Sep.Holds.cells hw (i := 0) rfl); (try replace hc1 := Sep.Holds.cells hw (i := 1) rfl); (try replace hc2 := Sep.Holds.cells hw (i := 2) rfl); (try replace hc3 := Sep.Holds.cells hw (i := 3) rfl); (try replace hc4 := Sep.Holds.cells hw (i := 4) rfl); (try replace hc5 := Sep.Holds.cells hw (i := 5) rfl); (try replace hc6 := Sep.Holds.cells hw (i := 6) rfl)))
      refine (cJoined p r m1 m2 M.n M.rows (u : Int) e _ _ (hw.focus2 1 2 rfl rfl (by decide))).mono ?_
      rintro _ w_ ⟨v, rfl, hw_⟩
      clear hw; (try clear hc0); (try clear hc1); (try clear hc2); (try clear hc3); (try clear hc4); (try clear hc5); (try clear hc6); have hw := Holds.unfocus2 1 2 (by simp) (by simp) (by decide) hw_; clear hw_
      (try simp only [List.map_cons, List.map_nil, List.getD_cons_zero, List.getD_cons_succ, List.getD_nil, List.set_cons_zero, List.set_cons_succ, List.cons_append, List.nil_append, Act.eval, Array.getD_eq_getD_getElem?, List.getElem?_toArray, List.getElem?_cons_succ, List.getElem?_cons_zero, Option.getD_some, Value.cells] at hw); (try simp (disch := first | (simp; done) | (simp; omega)) only [Sep.mid_set, Sep.mid_set2, Sep.mid_set0, Sep.mid_splice, Sep.mid_splice0, List.set_cons_zero, List.set_cons_succ] at hw); (try simp only [Sep.splice, List.take_succ_cons, List.take_zero, List.drop_succ_cons, List.drop_zero, List.length_cons, List.length_nil, Nat.reduceAdd, List.cons_append, List.nil_append] at hw)
      rw [Hrow.out] at hw
      have hw : Holds e w_ [X, pt p [.pointer (some ⟨r, 0, none⟩), .map (some m1), .map (some m2)] 66, IsRows r M.n (M.rows.set u (l.drop 0)), IsMap m1 .i64 (encF (setI M.calls key none)), IsMap m2 .i64 (encF (setI M.keys (u : Int) none)), Sl 3 1 v nl (encI l)] := by
        rw [sl_ints Hnl, Hset0.out]; exact hw
      obtain ⟨va, vc, rfl⟩ := Sl.value (i := 5) rfl hw
      (try replace hc0 := Sep.Holds.cells hw (i := 0) rfl); (try replace hc1 := Sep.Holds.cells hw (i := 1) rfl); (try replace hc2 := Sep.Holds.cells hw (i := 2) rfl); (try replace hc3 := Sep.Holds.cells hw (i := 3) rfl); (try replace hc4 := Sep.Holds.cells hw (i := 4) rfl); (try replace hc5 := Sep.Holds.cells hw (i := 5) rfl); (try replace hc6 := Sep.Holds.cells hw (i := 6) rfl)
      go_wp2_with fail
      have Hw1 := Sep.hid hw; clear hw; (try clear hc0); (try clear hc1); (try clear hc2); (try clear hc3); (try clear hc4); (try clear hc5); (try clear hc6)
      go_loopw [48] (fun i wr => ∃ k : Nat, k ≤ nl ∧ i = .int .i64 k ∧ Holds e wr [X, pt p [.pointer (some ⟨r, 0, none⟩), .map (some m1), .map (some m2)] 66, IsRows r M.n (M.rows.set u (l.drop k)), IsMap m1 .i64 (encF (setI M.calls key none)), IsMap m2 .i64 (encF (setI M.keys (u : Int) none)), Sl 3 1 (.slice va nl vc) nl (encI l)]) (fun i _ => nl - (intOf i).toNat)
      case atStart => exact ⟨0, Nat.zero_le _, rfl, Hw1.out⟩
      case round =>
        clear Hw1
        obtain ⟨k, hk, rfl, hw⟩ := hrel
        by_cases hkl : k < nl
        · obtain ⟨x, hx⟩ : ∃ x, l[k]? = some x := ⟨_, List.getElem?_eq_getElem (by rw [Hnl.out]; exact hkl)⟩
          obtain ⟨bo, oo, rfl, go⟩ := int_at (i := 5) hw rfl hx
          have Hst := Sep.hid (drop_step Hro.out Hl.out hx)
          clear hx
          (try replace hc0 := Sep.Holds.cells hw (i := 0) rfl); (try replace hc1 := Sep.Holds.cells hw (i := 1) rfl); (try replace hc2 := Sep.Holds.cells hw (i := 2) rfl); (try replace hc3 := Sep.Holds.cells hw (i := 3) rfl); (try replace hc4 := Sep.Holds.cells hw (i := 4) rfl); (try replace hc5 := Sep.Holds.cells hw (i := 5) rfl); (try replace hc6 := Sep.Holds.cells hw (i := 6) rfl)
          go_wp2_with fail
          refine (wDrop r M.n (M.rows.set u (l.drop k)) x e _ _ (hw.focus1 2 rfl)).mono ?_
          rintro en_ w_ ⟨rfl, hw_⟩
          clear hw; (try clear hc0); (try clear hc1); (try clear hc2); (try clear hc3); (try clear hc4); (try clear hc5); (try clear hc6); have hw := Holds.unfocus1 2 (by simp) hw_; clear hw_
          (try simp only [List.map_cons, List.map_nil, List.getD_cons_zero, List.getD_cons_succ, List.getD_nil, List.set_cons_zero, List.set_cons_succ, List.cons_append, List.nil_append, Act.eval, Array.getD_eq_getD_getElem?, List.getElem?_toArray, List.getElem?_cons_succ, List.getElem?_cons_zero, Option.getD_some, Value.cells] at hw); (try simp (disch := first | (simp; done) | (simp; omega)) only [Sep.mid_set, Sep.mid_set2, Sep.mid_set0, Sep.mid_splice, Sep.mid_splice0, List.set_cons_zero, List.set_cons_succ] at hw); (try simp only [Sep.splice, List.take_succ_cons, List.take_zero, List.drop_succ_cons, List.drop_zero, List.length_cons, List.length_nil, Nat.reduceAdd, List.cons_append, List.nil_append] at hw)
          rw [Hst.out] at hw
          go_wp2_with fail
          go_roundw
          case rel => exact ⟨k + 1, by omega, by go_num, hw⟩
          case measure => simp [intOf]; omega
        · have Hdr : Hid (l.drop k = []) := Sep.hid (List.drop_of_length_le (by rw [Hnl.out]; omega))
          rw [Hdr.out] at hw
          (try replace hc0 := Sep.Holds.cells hw (i := 0) rfl); (try replace hc1 := Sep.Holds.cells hw (i := 1) rfl); (try replace hc2 := Sep.Holds.cells hw (i := 2) rfl); (try replace hc3 := Sep.Holds.cells hw (i := 3) rfl); (try replace hc4 := Sep.Holds.cells hw (i := 4) rfl); (try replace hc5 := Sep.Holds.cells hw (i := 5) rfl); (try replace hc6 := Sep.Holds.cells hw (i := 6) rfl)
          go_wp2_with fail
          refine HP.out _ _ ⟨_, rfl, ?_⟩
          rw [sl_ints Hnl] at hw
          have h : Holds e _ [X, IsInts (.slice va nl vc) l, _, _, _, _, _] := (hw.sel [0, 5, 1, 2, 3, 4] (by decide)).addFct Hok'.out
          have h := Holds.group [X, IsInts (.slice va nl vc) l] _ h
          have h2 := exL.mk (f := flParts p ⟨M.n, M.rows.set u [], (setI M.calls key none), setI M.keys (u : Int) none⟩) ⟨r, m1, m2⟩ h
          exact (Holds.ungroup [X, IsInts (.slice va nl vc) l] [_] h2).sel [0, 2, 1] (by decide)
    · rw [if_neg hle] at Hok' ⊢
      have hlq : ((M.calls key).getD (-1) == (u : Int)) = false := by simpa [FM.leader] using hle
      clear hle
      replace hw := hw.sel [0, 1, 2, 3, 4] (by decide)
      (try simp only [List.map_cons, List.map_nil, List.getD_cons_zero, List.getD_cons_succ, List.getD_nil, List.set_cons_zero, List.set_cons_succ, List.cons_append, List.nil_append, Act.eval, Array.getD_eq_getD_getElem?, List.getElem?_toArray, List.getElem?_cons_succ, List.getElem?_cons_zero, Option.getD_some, Value.cells] at hw); (try simp (disch := first | (simp; done) | (simp; omega)) only [Sep.mid_set, Sep.mid_set2, Sep.mid_set0, Sep.mid_splice, Sep.mid_splice0, List.set_cons_zero, List.set_cons_succ] at hw); (try simp only [Sep.splice, List.take_succ_cons, List.take_zero, List.drop_succ_cons, List.drop_zero, List.length_cons, List.length_nil, Nat.reduceAdd, List.cons_append, List.nil_append] at hw)
      (try replace hc0 := Sep.Holds.cells hw (i := 0) rfl); (try replace hc1 := Sep.Holds.cells hw (i := 1) rfl); (try replace hc2 := Sep.Holds.cells hw (i := 2) rfl); (try replace hc3 := Sep.Holds.cells hw (i := 3) rfl); (try replace hc4 := Sep.Holds.cells hw (i := 4) rfl); (try replace hc5 := Sep.Holds.cells hw (i := 5) rfl); (try replace hc6 := Sep.Holds.cells hw (i := 6) rfl)
      refine Sep.calls_post ?_
      intro Post_ hPost_
      have HP := Sep.hid hPost_
      clear hPost_
      go_enter Try.func26, Try.ntmps26
      go_wp2_with (first
        | (refine wpList_on rfl (wp_lookOkV (i := 4) rfl rfl rfl hw rfl Hk1.out Hk2.out ?_))
        | (go_at_call 31; refine (Hth.out e _ _ hwf).mono ?_; rintro _ w_ ⟨rfl, rfl⟩; rw [Ht.out]; (try clear hwf))
        | (refine wpList_on rfl (wp_delI (i := 4) rfl rfl rfl hw rfl ?_); intro w_ hw_; clear hw; have hw := hw_; clear hw_; (try simp only [List.map_cons, List.map_nil, List.getD_cons_zero, List.getD_cons_succ, List.getD_nil, List.set_cons_zero, List.set_cons_succ, List.cons_append, List.nil_append, Act.eval, Array.getD_eq_getD_getElem?, List.getElem?_toArray, List.getElem?_cons_succ, List.getElem?_cons_zero, Option.getD_some, Value.cells] at hw); (try simp (disch := first | (simp; done) | (simp; omega)) only [Sep.mid_set, Sep.mid_set2, Sep.mid_set0, Sep.mid_splice, Sep.mid_splice0, List.set_cons_zero, List.set_cons_succ] at hw); (try simp only [Sep.splice, List.take_succ_cons, List.take_zero, List.drop_succ_cons, List.drop_zero, List.length_cons, List.length_nil, Nat.reduceAdd, List.cons_append, List.nil_append] at hw); (try replace hc0 := Sep.Holds.cells hw (i := 0) rfl); (try replace hc1 := Sep.Holds.cells hw (i := 1) rfl); (try replace hc2 := Sep.Holds.cells hw (i := 2) rfl); (try replace hc3 := Sep.Holds.cells hw (i := 3) rfl); (try replace hc4 := Sep.Holds.cells hw (i := 4) rfl); (try replace hc5 := Sep.Holds.cells hw (i := 5) rfl); (try replace hc6 := Sep.Holds.cells hw (i := 6) rfl))
        | (go_at_call 16; refine (cLeader p r m1 m2 M.calls key e _ _ (hw.focus2 1 3 rfl rfl (by decide))).mono ?_; rintro _ w_ ⟨rfl, rfl⟩)
        | (refine wpList_on rfl (wp_delI (i := 3) rfl rfl rfl hw rfl ?_); intro w_ hw_; clear hw; have hw := hw_; clear hw_; (try simp only [List.map_cons, List.map_nil, List.getD_cons_zero, List.getD_cons_succ, List.getD_nil, List.set_cons_zero, List.set_cons_succ, List.cons_append, List.nil_append, Act.eval, Array.getD_eq_getD_getElem?, List.getElem?_toArray, List.getElem?_cons_succ, List.getElem?_cons_zero, Option.getD_some, Value.cells] at hw); (try simp (disch := first | (simp; done) | (simp; omega)) only [Sep.mid_set, Sep.mid_set2, Sep.mid_set0, Sep.mid_splice, Sep.mid_splice0, List.set_cons_zero, List.set_cons_succ] at hw); (try simp only [Sep.splice, List.take_succ_cons, List.take_zero, List.drop_succ_cons, List.drop_zero, List.length_cons, List.length_nil, Nat.reduceAdd, List.cons_append, List.nil_append] at hw); (try replace hc0 := Sep.Holds.cells hw (i := 0) rfl); (try replace hc1 := Sep.Holds.cells hw (i := 1) rfl); (try replace hc2 := Sep.Holds.cells hw (i := 2) rfl); (try replace hc3 := Sep.Holds.cells hw (i := 3) rfl); (try replace hc4 := Sep.Holds.cells hw (i := 4) rfl); (try replace hc5 := Sep.Holds.cells hw (i := 5) rfl); (try replace hc6 := Sep.Holds.cells hw (i := 6) rfl)))
      refine (cJoined p r m1 m2 M.n M.rows (u : Int) e _ _ (hw.focus2 1 2 rfl rfl (by decide))).mono ?_
      rintro _ w_ ⟨v, rfl, hw_⟩
      clear hw; (try clear hc0); (try clear hc1); (try clear hc2); (try clear hc3); (try clear hc4); (try clear hc5); (try clear hc6); have hw := Holds.unfocus2 1 2 (by simp) (by simp) (by decide) hw_; clear hw_
      (try simp only [List.map_cons, List.map_nil, List.getD_cons_zero, List.getD_cons_succ, List.getD_nil, List.set_cons_zero, List.set_cons_succ, List.cons_append, List.nil_append, Act.eval, Array.getD_eq_getD_getElem?, List.getElem?_toArray, List.getElem?_cons_succ, List.getElem?_cons_zero, Option.getD_some, Value.cells] at hw); (try simp (disch := first | (simp; done) | (simp; omega)) only [Sep.mid_set, Sep.mid_set2, Sep.mid_set0, Sep.mid_splice, Sep.mid_splice0, List.set_cons_zero, List.set_cons_succ] at hw); (try simp only [Sep.splice, List.take_succ_cons, List.take_zero, List.drop_succ_cons, List.drop_zero, List.length_cons, List.length_nil, Nat.reduceAdd, List.cons_append, List.nil_append] at hw)
      rw [Hrow.out] at hw
      have hw : Holds e w_ [X, pt p [.pointer (some ⟨r, 0, none⟩), .map (some m1), .map (some m2)] 66, IsRows r M.n (M.rows.set u (l.drop 0)), IsMap m1 .i64 (encF M.calls), IsMap m2 .i64 (encF (setI M.keys (u : Int) none)), Sl 3 1 v nl (encI l)] := by
        rw [sl_ints Hnl, Hset0.out]; exact hw
      obtain ⟨va, vc, rfl⟩ := Sl.value (i := 5) rfl hw
      (try replace hc0 := Sep.Holds.cells hw (i := 0) rfl); (try replace hc1 := Sep.Holds.cells hw (i := 1) rfl); (try replace hc2 := Sep.Holds.cells hw (i := 2) rfl); (try replace hc3 := Sep.Holds.cells hw (i := 3) rfl); (try replace hc4 := Sep.Holds.cells hw (i := 4) rfl); (try replace hc5 := Sep.Holds.cells hw (i := 5) rfl); (try replace hc6 := Sep.Holds.cells hw (i := 6) rfl)
      go_wp2_with fail
      have Hw1 := Sep.hid hw; clear hw; (try clear hc0); (try clear hc1); (try clear hc2); (try clear hc3); (try clear hc4); (try clear hc5); (try clear hc6)
      go_loopw [48] (fun i wr => ∃ k : Nat, k ≤ nl ∧ i = .int .i64 k ∧ Holds e wr [X, pt p [.pointer (some ⟨r, 0, none⟩), .map (some m1), .map (some m2)] 66, IsRows r M.n (M.rows.set u (l.drop k)), IsMap m1 .i64 (encF M.calls), IsMap m2 .i64 (encF (setI M.keys (u : Int) none)), Sl 3 1 (.slice va nl vc) nl (encI l)]) (fun i _ => nl - (intOf i).toNat)
      case atStart => exact ⟨0, Nat.zero_le _, rfl, Hw1.out⟩
      case round =>
        clear Hw1
        obtain ⟨k, hk, rfl, hw⟩ := hrel
        by_cases hkl : k < nl
        · obtain ⟨x, hx⟩ : ∃ x, l[k]? = some x := ⟨_, List.getElem?_eq_getElem (by rw [Hnl.out]; exact hkl)⟩
          obtain ⟨bo, oo, rfl, go⟩ := int_at (i := 5) hw rfl hx
          have Hst := Sep.hid (drop_step Hro.out Hl.out hx)
          clear hx
          (try replace hc0 := Sep.Holds.cells hw (i := 0) rfl); (try replace hc1 := Sep.Holds.cells hw (i := 1) rfl); (try replace hc2 := Sep.Holds.cells hw (i := 2) rfl); (try replace hc3 := Sep.Holds.cells hw (i := 3) rfl); (try replace hc4 := Sep.Holds.cells hw (i := 4) rfl); (try replace hc5 := Sep.Holds.cells hw (i := 5) rfl); (try replace hc6 := Sep.Holds.cells hw (i := 6) rfl)
          go_wp2_with fail
          refine (wDrop r M.n (M.rows.set u (l.drop k)) x e _ _ (hw.focus1 2 rfl)).mono ?_
          rintro en_ w_ ⟨rfl, hw_⟩
          clear hw; (try clear hc0); (try clear hc1); (try clear hc2); (try clear hc3); (try clear hc4); (try clear hc5); (try clear hc6); have hw := Holds.unfocus1 2 (by simp) hw_; clear hw_
          (try simp only [List.map_cons, List.map_nil, List.getD_cons_zero, List.getD_cons_succ, List.getD_nil, List.set_cons_zero, List.set_cons_succ, List.cons_append, List.nil_append, Act.eval, Array.getD_eq_getD_getElem?, List.getElem?_toArray, List.getElem?_cons_succ, List.getElem?_cons_zero, Option.getD_some, Value.cells] at hw); (try simp (disch := first | (simp; done) | (simp; omega)) only [Sep.mid_set, Sep.mid_set2, Sep.mid_set0, Sep.mid_splice, Sep.mid_splice0, List.set_cons_zero, List.set_cons_succ] at hw); (try simp only [Sep.splice, List.take_succ_cons, List.take_zero, List.drop_succ_cons, List.drop_zero, List.length_cons, List.length_nil, Nat.reduceAdd, List.cons_append, List.nil_append] at hw)
          rw [Hst.out] at hw
          go_wp2_with fail
          go_roundw
          case rel => exact ⟨k + 1, by omega, by go_num, hw⟩
          case measure => simp [intOf]; omega
        · have Hdr : Hid (l.drop k = []) := Sep.hid (List.drop_of_length_le (by rw [Hnl.out]; omega))
          rw [Hdr.out] at hw
          (try replace hc0 := Sep.Holds.cells hw (i := 0) rfl); (try replace hc1 := Sep.Holds.cells hw (i := 1) rfl); (try replace hc2 := Sep.Holds.cells hw (i := 2) rfl); (try replace hc3 := Sep.Holds.cells hw (i := 3) rfl); (try replace hc4 := Sep.Holds.cells hw (i := 4) rfl); (try replace hc5 := Sep.Holds.cells hw (i := 5) rfl); (try replace hc6 := Sep.Holds.cells hw (i := 6) rfl)
          go_wp2_with fail
          refine HP.out _ _ ⟨_, rfl, ?_⟩
          rw [sl_ints Hnl] at hw
          have h : Holds e _ [X, IsInts (.slice va nl vc) l, _, _, _, _, _] := (hw.sel [0, 5, 1, 2, 3, 4] (by decide)).addFct Hok'.out
          have h := Holds.group [X, IsInts (.slice va nl vc) l] _ h
          have h2 := exL.mk (f := flParts p ⟨M.n, M.rows.set u [], M.calls, setI M.keys (u : Int) none⟩) ⟨r, m1, m2⟩ h
          exact (Holds.ungroup [X, IsInts (.slice va nl vc) l] [_] h2).sel [0, 2, 1] (by decide)
end Go.Proofs.Ytecdkajhcglpdaa
