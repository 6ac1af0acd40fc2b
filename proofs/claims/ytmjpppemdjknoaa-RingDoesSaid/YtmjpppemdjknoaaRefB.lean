/-
  The document's own arena: Put, Drop, Take, Move.
-/
import Derived.Test.YtmjpppemdjknoaaRefA
import Derived.Test.YtmjpppemdjknoaaIntsR8
import Derived.Test.YtmjpppemdjknoaaRegionS
namespace Go.Proofs.Ytmjpppemdjknoaa
set_option linter.unusedSimpArgs false
set_option linter.unusedVariables false
open Go.RowKit Go.Sep Go.RingM

theorem ra_closeSl {e w : World} {X : HProp} {p : Nat} {R : Ring} {b : Nat} {vs : List Value} {r : Nat} {l' : List Nat} {a : Option Addr} {c N : Nat} {cs : List Value} (hr : r < R.rows.length) (hlen : vs.length = R.rows.length) (h1 : (ints l').length = N) (h2 : cs = encI (ints l'))
    (hw : Holds e w [X, pt p [.slice (some ⟨b, 0, none⟩) R.rows.length R.rows.length, .int .i64 (R.n : Int)] 57, pt b (vs.set r (.slice a N c)) 38, sepL ((rowsOf vs R.rows).set r emp), Sl 3 1 (.slice a N c) N cs]) :
    Holds e w [X, IsRA p (R.setRow r l')] := by
  subst h2
  rw [sl_ints (Sep.hid h1)] at hw
  exact ra_close hr hlen hw
theorem ints_filter {l : List Nat} {t : Int} (h : 0 ≤ t) : without (ints l) t = ints (l.filter (fun y => decide (y ≠ t.toNat))) := by
  unfold without ints
  rw [List.filter_map]
  congr 1
  apply List.filter_congr
  intro x _
  simp
  omega
theorem may_ok {R : Ring} {r t : Int} (h : R.mayE r t = 0) : ∃ k l x, r = ((k : Nat) : Int) ∧ R.rows[k]? = some l ∧ R.row r = l ∧ t = ((x : Nat) : Int) ∧ x < R.n ∧ R.in_ t = -1 ∧ R.isRow r = true := by
  unfold Ring.mayE at h
  cases hr : R.isRow r with
  | false => simp [hr] at h
  | true =>
    cases hn : R.isNode t with
    | false => simp [hr, hn] at h
    | true =>
      obtain ⟨k, l, h1, h2, h3⟩ := isRow_get hr
      unfold Ring.isNode at hn
      simp at hn
      refine ⟨k, l, t.toNat, h1, h2, h3, by omega, by omega, ?_, rfl⟩
      have hn2 : R.isNode t = true := by unfold Ring.isNode; simp; omega
      rw [hr, hn2] at h
      by_cases hi : R.in_ t = -1
      · exact hi
      · simp [hi] at h
set_option maxHeartbeats 4000000 in
theorem putNo (p : Nat) (R : Ring) (hW : R.Wf) (hb : R.n ≤ 1000 ∧ R.rows.length ≤ 1000) (r t : Int) (ahead : Bool) (h : ¬ R.mayE r t = 0) (e w : World) (X : HProp) (hw : Holds e w [X, IsRA p R]) :
    Calls Try.prog 24 #[.pointer (some ⟨p, 0, none⟩), .int .i64 r, .int .i64 t, .bool ahead] w fun en w' => en = .returned (.int .i64 (R.mayE r t)) ∧ w' = w := by
  have Hw0 := Sep.hid hw
  have HW := Sep.hid hW; have Hb := Sep.hid hb; clear hW hb
  cases hr : R.isRow r with
  | false =>
    have hE : R.mayE r t = 3 := by unfold Ring.mayE; rw [hr]; rfl
    rw [hE]; clear hE h
    have Hr := Sep.hid hr; clear hr hw
    refine Sep.calls_post ?_
    intro Post_ hPost_
    have HP := Sep.hid hPost_
    clear hPost_
    go_enter Try.func24, Try.ntmps24
    go_wp2_with fail
    refine (fRow p R r e _ _ Hw0.out).mono ?_
    rintro _ w_ ⟨rfl, rfl⟩
    rw [Hr.out]
    go_wp2_with fail
    exact HP.out _ _ ⟨rfl, rfl⟩
  | true =>
    have Hr := Sep.hid hr
    by_cases h0 : t < 0
    · have hE : R.mayE r t = 3 := by unfold Ring.mayE Ring.isNode; rw [decide_eq_false (by omega : ¬ 0 ≤ t)]; simp
      rw [hE]; clear hE h hr hw
      refine Sep.calls_post ?_
      intro Post_ hPost_
      have HP := Sep.hid hPost_
      clear hPost_
      go_enter Try.func24, Try.ntmps24
      go_wp2_with fail
      refine (fRow p R r e _ _ Hw0.out).mono ?_
      rintro _ w_ ⟨rfl, rfl⟩
      rw [Hr.out]
      go_wp2_with fail
      exact HP.out _ _ ⟨rfl, rfl⟩
    by_cases h1 : (R.n : Int) ≤ t
    · have hE : R.mayE r t = 3 := by unfold Ring.mayE Ring.isNode; rw [decide_eq_false (by omega : ¬ t < (R.n : Int))]; simp
      rw [hE]; clear hE h hr
      obtain ⟨⟨b, vs⟩, hw⟩ := exL.open_ hw
      have hw := hw.open_ 1 rfl
      (try simp only [List.map_cons, List.map_nil, List.getD_cons_zero, List.getD_cons_succ, List.getD_nil, List.set_cons_zero, List.set_cons_succ, List.cons_append, List.nil_append, Act.eval, Array.getD_eq_getD_getElem?, List.getElem?_toArray, List.getElem?_cons_succ, List.getElem?_cons_zero, Option.getD_some, Value.cells] at hw); (try simp (disch := first | (simp; done) | (simp; omega)) only [Sep.mid_set, Sep.mid_set2, Sep.mid_set0, Sep.mid_splice, Sep.mid_splice0, List.set_cons_zero, List.set_cons_succ] at hw); (try simp only [Sep.splice, List.take_succ_cons, List.take_zero, List.drop_succ_cons, List.drop_zero, List.length_cons, List.length_nil, Nat.reduceAdd, List.cons_append, List.nil_append] at hw)
      (try replace hc0 := Sep.Holds.cells hw (i := 0) rfl); (try replace hc1 := Sep.Holds.cells hw (i := 1) rfl); (try replace hc2 := Sep.Holds.cells hw (i := 2) rfl); (try replace hc3 := Sep.Holds.cells hw (i := 3) rfl); (try replace hc4 := Sep.Holds.cells hw (i := 4) rfl); (try replace hc5 := Sep.Holds.cells hw (i := 5) rfl); (try replace hc6 := Sep.Holds.cells hw (i := 6) rfl)
      refine Sep.calls_post ?_
      intro Post_ hPost_
      have HP := Sep.hid hPost_
      clear hPost_
      go_enter Try.func24, Try.ntmps24
      go_wp2_with fail
      refine (fRow p R r e _ _ Hw0.out).mono ?_
      rintro _ w_ ⟨rfl, rfl⟩
      rw [Hr.out]
      go_wp2_with fail
      exact HP.out _ _ ⟨rfl, rfl⟩
    · have hn : R.isNode t = true := by unfold Ring.isNode; rw [decide_eq_true (by omega : (0 : Int) ≤ t), decide_eq_true (by omega : t < (R.n : Int))]; rfl
      have hi : ¬ R.in_ t = -1 := fun hi => h (by unfold Ring.mayE; rw [hr, hn]; simp [hi])
      have hE : R.mayE r t = 6 := by unfold Ring.mayE; rw [hr, hn]; simp [hi]
      rw [hE]; clear hE h hr hn
      obtain ⟨j, hj⟩ : ∃ j : Nat, R.in_ t = (j : Int) := by
        rcases Ring.in_cases HW.out t with h | ⟨r', _, _, _, _, _, h, _⟩
        · exact absurd h hi
        · exact ⟨r', h⟩
      have Hj := Sep.hid hj
      have hj0 : (0 : Int) ≤ (j : Int) := by omega
      clear hi hj
      obtain ⟨⟨b, vs⟩, hw⟩ := exL.open_ hw
      have hw := hw.open_ 1 rfl
      (try simp only [List.map_cons, List.map_nil, List.getD_cons_zero, List.getD_cons_succ, List.getD_nil, List.set_cons_zero, List.set_cons_succ, List.cons_append, List.nil_append, Act.eval, Array.getD_eq_getD_getElem?, List.getElem?_toArray, List.getElem?_cons_succ, List.getElem?_cons_zero, Option.getD_some, Value.cells] at hw); (try simp (disch := first | (simp; done) | (simp; omega)) only [Sep.mid_set, Sep.mid_set2, Sep.mid_set0, Sep.mid_splice, Sep.mid_splice0, List.set_cons_zero, List.set_cons_succ] at hw); (try simp only [Sep.splice, List.take_succ_cons, List.take_zero, List.drop_succ_cons, List.drop_zero, List.length_cons, List.length_nil, Nat.reduceAdd, List.cons_append, List.nil_append] at hw)
      (try replace hc0 := Sep.Holds.cells hw (i := 0) rfl); (try replace hc1 := Sep.Holds.cells hw (i := 1) rfl); (try replace hc2 := Sep.Holds.cells hw (i := 2) rfl); (try replace hc3 := Sep.Holds.cells hw (i := 3) rfl); (try replace hc4 := Sep.Holds.cells hw (i := 4) rfl); (try replace hc5 := Sep.Holds.cells hw (i := 5) rfl); (try replace hc6 := Sep.Holds.cells hw (i := 6) rfl)
      refine Sep.calls_post ?_
      intro Post_ hPost_
      have HP := Sep.hid hPost_
      clear hPost_
      go_enter Try.func24, Try.ntmps24
      go_wp2_with fail
      refine (fRow p R r e _ _ Hw0.out).mono ?_
      rintro _ w_ ⟨rfl, rfl⟩
      rw [Hr.out]
      go_wp2_with fail
      refine (fIn p R HW.out Hb.out t e _ _ Hw0.out).mono ?_
      rintro _ w_ ⟨rfl, rfl⟩
      rw [Hj.out]
      go_wp2_with fail
      exact HP.out _ _ ⟨rfl, rfl⟩
set_option maxHeartbeats 8000000 in
theorem putOk (p : Nat) (R : Ring) (hW : R.Wf) (hb : R.n ≤ 1000 ∧ R.rows.length ≤ 1000) (k x : Nat) (l : List Nat) (ahead : Bool) (hl : R.rows[k]? = some l) (hx : x < R.n) (hi : R.in_ (x : Int) = -1) (hr : R.isRow (k : Int) = true) (e w : World) (X : HProp) (hw : Holds e w [X, IsRA p R]) :
    Calls Try.prog 24 #[.pointer (some ⟨p, 0, none⟩), .int .i64 (k : Int), .int .i64 (x : Int), .bool ahead] w fun en w' => en = .returned (.int .i64 0) ∧ Holds e w' [X, IsRA p (R.setRow k (if ahead then x :: l else l ++ [x]))] := by
  have Hw0 := Sep.hid hw
  have HW := Sep.hid hW; have Hb := Sep.hid hb; clear hW hb
  have Hr := Sep.hid hr; have Hi := Sep.hid hi
  have hll := row_len HW.out Hb.out.1 hl
  clear hr hi
  obtain ⟨⟨b, vs⟩, hw⟩ := exL.open_ hw
  have hw := hw.open_ 1 rfl
  (try simp only [List.map_cons, List.map_nil, List.getD_cons_zero, List.getD_cons_succ, List.getD_nil, List.set_cons_zero, List.set_cons_succ, List.cons_append, List.nil_append, Act.eval, Array.getD_eq_getD_getElem?, List.getElem?_toArray, List.getElem?_cons_succ, List.getElem?_cons_zero, Option.getD_some, Value.cells] at hw); (try simp (disch := first | (simp; done) | (simp; omega)) only [Sep.mid_set, Sep.mid_set2, Sep.mid_set0, Sep.mid_splice, Sep.mid_splice0, List.set_cons_zero, List.set_cons_succ] at hw); (try simp only [Sep.splice, List.take_succ_cons, List.take_zero, List.drop_succ_cons, List.drop_zero, List.length_cons, List.length_nil, Nat.reduceAdd, List.cons_append, List.nil_append] at hw)
  obtain ⟨a, c, hv, hvl, hw4⟩ := ra_pick (p := p) (R := R) (x := ⟨b, vs⟩) hl hw
  clear hw; have hw := hw4; clear hw4
  obtain ⟨m, hm⟩ : ∃ m, R.rows.length = m := ⟨_, rfl⟩
  have hkm : k < m := by rw [← hm]; exact (List.getElem?_eq_some_iff.1 hl).1
  obtain ⟨nl, hnl⟩ : ∃ n, l.length = n := ⟨_, rfl⟩
  rw [hm] at hw
  rw [hnl] at hw hv
  have Hvl := Sep.hid hvl
  have Hm := Sep.hid hm; have Hnl := Sep.hid hnl
  have Hkv : Hid (k < vs.length) := Sep.hid (by rw [hvl, hm]; exact hkm)
  clear hm hnl hvl
  rw [Hnl.out] at hll
  have hxn : (x : Int) < (R.n : Int) := by omega
  have Hl := Sep.hid hl
  clear hl hx
  (try replace hc0 := Sep.Holds.cells hw (i := 0) rfl); (try replace hc1 := Sep.Holds.cells hw (i := 1) rfl); (try replace hc2 := Sep.Holds.cells hw (i := 2) rfl); (try replace hc3 := Sep.Holds.cells hw (i := 3) rfl); (try replace hc4 := Sep.Holds.cells hw (i := 4) rfl); (try replace hc5 := Sep.Holds.cells hw (i := 5) rfl); (try replace hc6 := Sep.Holds.cells hw (i := 6) rfl)
  cases ahead with
  | true =>
    refine Sep.calls_post ?_
    intro Post_ hPost_
    have HP := Sep.hid hPost_
    clear hPost_
    go_enter Try.func24, Try.ntmps24
    go_wp2_with fail
    refine (fRow p R k e _ _ Hw0.out).mono ?_
    rintro _ w_ ⟨rfl, rfl⟩
    rw [Hr.out]
    go_wp2_with fail
    refine (fIn p R HW.out Hb.out x e _ _ Hw0.out).mono ?_
    rintro _ w_ ⟨rfl, rfl⟩
    rw [Hi.out]
    go_wp2_with fail
    refine wp_region_L [6, 14, 16] [(3, (fun w' => Holds e w' [pt p [.slice (some ⟨b, 0, none⟩) m m, .int .i64 (R.n : Int)] 57, pt b vs 38])), (10, (fun w' => Holds e w' [pt p [.slice (some ⟨b, 0, none⟩) m m, .int .i64 (R.n : Int)] 57, pt b vs 38])), (13, (fun w' => Holds e w' [pt p [.slice (some ⟨b, 0, none⟩) m m, .int .i64 (R.n : Int)] 57, pt b vs 38]))] (n := 17) (listed := (marks 17 0)) (by kernel_rfl) rfl (by kernel_rfl) ?conds1 ?_
    case conds1 =>
     intro c hc
     simp only [List.mem_cons, List.not_mem_nil, or_false] at hc
     rcases hc with rfl | rfl | rfl
     · exact (by replace hw := hw.drew; exact hw.sel [1, 2] (by decide))
     · exact (by replace hw := hw.drew; exact hw.sel [1, 2] (by decide))
     · exact (by replace hw := hw.drew; exact hw.sel [1, 2] (by decide))
    replace hw := hw.drew
    (try replace hc0 := Sep.Holds.cells hw (i := 0) rfl); (try replace hc1 := Sep.Holds.cells hw (i := 1) rfl); (try replace hc2 := Sep.Holds.cells hw (i := 2) rfl); (try replace hc3 := Sep.Holds.cells hw (i := 3) rfl); (try replace hc4 := Sep.Holds.cells hw (i := 4) rfl); (try replace hc5 := Sep.Holds.cells hw (i := 5) rfl); (try replace hc6 := Sep.Holds.cells hw (i := 6) rfl)
    refine wpL_q 0 ?_ rfl (Or.inl ⟨by rfl, fun w_ hS_ => ?_⟩) (marks 17 1) ?_
    rotate_left
    next => (go_simp; try (first | rfl | exact (Bool.not_not _).symm))
    try simp only [Act.put, List.setIfInBounds_toArray, List.set_cons_zero, List.set_cons_succ]
    refine wpL_q 1 ?_ rfl (Or.inl ⟨by rfl, fun w_ hS_ => ?_⟩) (marks 17 3) ?_
    rotate_left
    next => (go_simp; try (first | rfl | exact (Bool.not_not _).symm))
    try simp only [Act.put, List.setIfInBounds_toArray, List.set_cons_zero, List.set_cons_succ]
    refine wpL_q 2 ?_ rfl (Or.inl ⟨by rfl, fun w_ hS_ => ?_⟩) (marks 17 7) ?_
    rotate_left
    next => (go_simp; try (first | rfl | exact (Bool.not_not _).symm))
    try simp only [Act.put, List.setIfInBounds_toArray, List.set_cons_zero, List.set_cons_succ]
    refine wpL_m 3 ?_ rfl (.head _) (Or.inl ⟨by rfl, fun w_ hS_ => ?_⟩) (marks 17 15) ?_
    rotate_left
    next => (dsimp only at hS_; (try have q0 := Sep.Holds.cells hS_ (i := 0) rfl); (try have q1 := Sep.Holds.cells hS_ (i := 1) rfl); (try have q2 := Sep.Holds.cells hS_ (i := 2) rfl); (try have q3 := Sep.Holds.cells hS_ (i := 3) rfl); (try have q4 := Sep.Holds.cells hS_ (i := 4) rfl); (try have q5 := Sep.Holds.cells hS_ (i := 5) rfl); (try have q6 := Sep.Holds.cells hS_ (i := 6) rfl); go_simp; try (first | rfl | exact (Bool.not_not _).symm))
    try simp only [Act.put, List.setIfInBounds_toArray, List.set_cons_zero, List.set_cons_succ]
    refine wpL_q 4 ?_ rfl (Or.inl ⟨by rfl, fun w_ hS_ => ?_⟩) (marks 17 31) ?_
    rotate_left
    next => (go_simp; try (first | rfl | exact (Bool.not_not _).symm))
    try simp only [Act.put, List.setIfInBounds_toArray, List.set_cons_zero, List.set_cons_succ]
    refine wpL_q 5 ?_ rfl (Or.inl ⟨by rfl, fun w_ hS_ => ?_⟩) (marks 17 63) ?_
    rotate_left
    next => (go_simp; try (first | rfl | exact (Bool.not_not _).symm))
    try simp only [Act.put, List.setIfInBounds_toArray, List.set_cons_zero, List.set_cons_succ]
    refine wpL_q 7 ?_ rfl (Or.inl ⟨by rfl, fun w_ hS_ => ?_⟩) (marks 17 191) ?_
    rotate_left
    next => (go_simp; try (first | rfl | exact (Bool.not_not _).symm))
    try simp only [Act.put, List.setIfInBounds_toArray, List.set_cons_zero, List.set_cons_succ]
    refine wpL_q 8 ?_ rfl (Or.inl ⟨by rfl, fun w_ hS_ => ?_⟩) (marks 17 447) ?_
    rotate_left
    next => (go_simp; try (first | rfl | exact (Bool.not_not _).symm))
    try simp only [Act.put, List.setIfInBounds_toArray, List.set_cons_zero, List.set_cons_succ]
    refine wpL_q 9 ?_ rfl (Or.inl ⟨by rfl, fun w_ hS_ => ?_⟩) (marks 17 959) ?_
    rotate_left
    next => (go_simp; try (first | rfl | exact (Bool.not_not _).symm))
    try simp only [Act.put, List.setIfInBounds_toArray, List.set_cons_zero, List.set_cons_succ]
    refine wpL_m 10 ?_ rfl (.tail _ (.head _)) (Or.inl ⟨by rfl, fun w_ hS_ => ?_⟩) (marks 17 1983) ?_
    rotate_left
    next => (dsimp only at hS_; (try have q0 := Sep.Holds.cells hS_ (i := 0) rfl); (try have q1 := Sep.Holds.cells hS_ (i := 1) rfl); (try have q2 := Sep.Holds.cells hS_ (i := 2) rfl); (try have q3 := Sep.Holds.cells hS_ (i := 3) rfl); (try have q4 := Sep.Holds.cells hS_ (i := 4) rfl); (try have q5 := Sep.Holds.cells hS_ (i := 5) rfl); (try have q6 := Sep.Holds.cells hS_ (i := 6) rfl); go_simp; try (first | rfl | exact (Bool.not_not _).symm))
    try simp only [Act.put, List.setIfInBounds_toArray, List.set_cons_zero, List.set_cons_succ]
    refine wpL_q 11 ?_ rfl (Or.inl ⟨by rfl, fun w_ hS_ => ?_⟩) (marks 17 4031) ?_
    rotate_left
    next => (go_simp; try (first | rfl | exact (Bool.not_not _).symm))
    try simp only [Act.put, List.setIfInBounds_toArray, List.set_cons_zero, List.set_cons_succ]
    refine wpL_q 12 ?_ rfl (Or.inl ⟨by rfl, fun w_ hS_ => ?_⟩) (marks 17 8127) ?_
    rotate_left
    next => (go_simp; try (first | rfl | exact (Bool.not_not _).symm))
    try simp only [Act.put, List.setIfInBounds_toArray, List.set_cons_zero, List.set_cons_succ]
    refine wpL_m 13 ?_ rfl (.tail _ (.tail _ (.head _))) (Or.inl ⟨by rfl, fun w_ hS_ => ?_⟩) (marks 17 16319) ?_
    rotate_left
    next => (dsimp only at hS_; (try have q0 := Sep.Holds.cells hS_ (i := 0) rfl); (try have q1 := Sep.Holds.cells hS_ (i := 1) rfl); (try have q2 := Sep.Holds.cells hS_ (i := 2) rfl); (try have q3 := Sep.Holds.cells hS_ (i := 3) rfl); (try have q4 := Sep.Holds.cells hS_ (i := 4) rfl); (try have q5 := Sep.Holds.cells hS_ (i := 5) rfl); (try have q6 := Sep.Holds.cells hS_ (i := 6) rfl); go_simp; try (first | rfl | exact (Bool.not_not _).symm))
    try simp only [Act.put, List.setIfInBounds_toArray, List.set_cons_zero, List.set_cons_succ]
    refine wpL_o 6 rfl (by rfl) (marks 17 16383) ?_
    (refine wp_bsl1 rfl rfl (by rfl) (by rfl) (by decide) hw ?_; intro b_ w_ hw_; replace hw_ := hw_.newSl (i := 5) rfl 1 1 rfl (by decide); clear hw; have hw := hw_; clear hw_; (try simp only [List.map_cons, List.map_nil, List.getD_cons_zero, List.getD_cons_succ, List.getD_nil, List.set_cons_zero, List.set_cons_succ, List.cons_append, List.nil_append, Act.eval, Array.getD_eq_getD_getElem?, List.getElem?_toArray, List.getElem?_cons_succ, List.getElem?_cons_zero, Option.getD_some, Value.cells] at hw); (try simp (disch := first | (simp; done) | (simp; omega)) only [Sep.mid_set, Sep.mid_set2, Sep.mid_set0, Sep.mid_splice, Sep.mid_splice0, List.set_cons_zero, List.set_cons_succ] at hw); (try simp only [Sep.splice, List.take_succ_cons, List.take_zero, List.drop_succ_cons, List.drop_zero, List.length_cons, List.length_nil, Nat.reduceAdd, List.cons_append, List.nil_append] at hw); (try replace hc0 := Sep.Holds.cells hw (i := 0) rfl); (try replace hc1 := Sep.Holds.cells hw (i := 1) rfl); (try replace hc2 := Sep.Holds.cells hw (i := 2) rfl); (try replace hc3 := Sep.Holds.cells hw (i := 3) rfl); (try replace hc4 := Sep.Holds.cells hw (i := 4) rfl); (try replace hc5 := Sep.Holds.cells hw (i := 5) rfl); (try replace hc6 := Sep.Holds.cells hw (i := 6) rfl))
    refine ⟨(SL.keep (by exact hw.sel [1, 2] (by decide)) (SL.keep (by exact hw.sel [1, 2] (by decide)) (SL.keep (by exact hw.sel [1, 2] (by decide)) SL.nil))), ?_⟩
    try simp only [Act.put, List.setIfInBounds_toArray, List.set_cons_zero, List.set_cons_succ]
    refine wpL_o 14 rfl (by rfl) (marks 17 32767) ?_
    (refine wp_appendSl (i := 5) (j := 4) (u := .slice a nl c) (m := nl) (news := encI (ints l)) rfl rfl hw rfl rfl rfl (by first | exact encI_one _ | simp [Value.oneCell', Value.cells]) (by rfl) (by (try unfold maxLen); omega) (by (try unfold maxLen); omega) ?_; intro a2_ cap2_ w_ hw_; clear hw; have hw := hw_; clear hw_; (try simp only [List.map_cons, List.map_nil, List.getD_cons_zero, List.getD_cons_succ, List.getD_nil, List.set_cons_zero, List.set_cons_succ, List.cons_append, List.nil_append, Act.eval, Array.getD_eq_getD_getElem?, List.getElem?_toArray, List.getElem?_cons_succ, List.getElem?_cons_zero, Option.getD_some, Value.cells] at hw); (try simp (disch := first | (simp; done) | (simp; omega)) only [Sep.mid_set, Sep.mid_set2, Sep.mid_set0, Sep.mid_splice, Sep.mid_splice0, List.set_cons_zero, List.set_cons_succ] at hw); (try simp only [Sep.splice, List.take_succ_cons, List.take_zero, List.drop_succ_cons, List.drop_zero, List.length_cons, List.length_nil, Nat.reduceAdd, List.cons_append, List.nil_append] at hw); (try replace hc0 := Sep.Holds.cells hw (i := 0) rfl); (try replace hc1 := Sep.Holds.cells hw (i := 1) rfl); (try replace hc2 := Sep.Holds.cells hw (i := 2) rfl); (try replace hc3 := Sep.Holds.cells hw (i := 3) rfl); (try replace hc4 := Sep.Holds.cells hw (i := 4) rfl); (try replace hc5 := Sep.Holds.cells hw (i := 5) rfl); (try replace hc6 := Sep.Holds.cells hw (i := 6) rfl))
    refine ⟨(SL.keep (by exact hw.sel [1, 2] (by decide)) (SL.drop 14 (by kernel_rfl) (SL.drop 14 (by kernel_rfl) SL.nil))), ?_⟩
    try simp only [Act.put, List.setIfInBounds_toArray, List.set_cons_zero, List.set_cons_succ]
    refine wpL_q 15 ?_ rfl (Or.inl ⟨by rfl, fun w_ hS_ => ?_⟩) (marks 17 65535) ?_
    rotate_left
    next => (go_simp; try (first | rfl | exact (Bool.not_not _).symm))
    try simp only [Act.put, List.setIfInBounds_toArray, List.set_cons_zero, List.set_cons_succ]
    refine wpL_o 16 rfl (by rfl) (marks 17 131071) ?_
    (refine wp_store1 (v := _) rfl rfl rfl hw (i := 2) rfl Hkv.out rfl ?_; intro w_ hw_; clear hw; have hw := hw_; clear hw_; (try simp only [List.map_cons, List.map_nil, List.getD_cons_zero, List.getD_cons_succ, List.getD_nil, List.set_cons_zero, List.set_cons_succ, List.cons_append, List.nil_append, Act.eval, Array.getD_eq_getD_getElem?, List.getElem?_toArray, List.getElem?_cons_succ, List.getElem?_cons_zero, Option.getD_some, Value.cells] at hw); (try simp (disch := first | (simp; done) | (simp; omega)) only [Sep.mid_set, Sep.mid_set2, Sep.mid_set0, Sep.mid_splice, Sep.mid_splice0, List.set_cons_zero, List.set_cons_succ] at hw); (try simp only [Sep.splice, List.take_succ_cons, List.take_zero, List.drop_succ_cons, List.drop_zero, List.length_cons, List.length_nil, Nat.reduceAdd, List.cons_append, List.nil_append] at hw); (try replace hc0 := Sep.Holds.cells hw (i := 0) rfl); (try replace hc1 := Sep.Holds.cells hw (i := 1) rfl); (try replace hc2 := Sep.Holds.cells hw (i := 2) rfl); (try replace hc3 := Sep.Holds.cells hw (i := 3) rfl); (try replace hc4 := Sep.Holds.cells hw (i := 4) rfl); (try replace hc5 := Sep.Holds.cells hw (i := 5) rfl); (try replace hc6 := Sep.Holds.cells hw (i := 6) rfl))
    refine ⟨(SL.drop 16 (by kernel_rfl) (SL.drop 14 (by kernel_rfl) (SL.drop 14 (by kernel_rfl) SL.nil))), ?_⟩
    try simp only [Act.put, List.setIfInBounds_toArray, List.set_cons_zero, List.set_cons_succ]
    refine wpL_done (by kernel_rfl) ?_ _
    (replace hw := hw.sel [0, 1, 2, 3, 5] (by decide); (try simp only [List.map_cons, List.map_nil, List.getD_cons_zero, List.getD_cons_succ, List.getD_nil, List.set_cons_zero, List.set_cons_succ, List.cons_append, List.nil_append, Act.eval, Array.getD_eq_getD_getElem?, List.getElem?_toArray, List.getElem?_cons_succ, List.getElem?_cons_zero, Option.getD_some, Value.cells] at hw); (try simp (disch := first | (simp; done) | (simp; omega)) only [Sep.mid_set, Sep.mid_set2, Sep.mid_set0, Sep.mid_splice, Sep.mid_splice0, List.set_cons_zero, List.set_cons_succ] at hw); (try simp only [Sep.splice, List.take_succ_cons, List.take_zero, List.drop_succ_cons, List.drop_zero, List.length_cons, List.length_nil, Nat.reduceAdd, List.cons_append, List.nil_append] at hw))
    go_wp2_with fail
    have hm := Hm.out; subst hm
    exact HP.out _ _ ⟨rfl, ra_closeSl (l' := x :: l) hkm Hvl.out (by rw [ints_length, List.length_cons, Hnl.out]; omega) (by simp [ints, encI]) hw⟩
  | false =>
    refine Sep.calls_post ?_
    intro Post_ hPost_
    have HP := Sep.hid hPost_
    clear hPost_
    go_enter Try.func24, Try.ntmps24
    go_wp2_with fail
    refine (fRow p R k e _ _ Hw0.out).mono ?_
    rintro _ w_ ⟨rfl, rfl⟩
    rw [Hr.out]
    go_wp2_with fail
    refine (fIn p R HW.out Hb.out x e _ _ Hw0.out).mono ?_
    rintro _ w_ ⟨rfl, rfl⟩
    rw [Hi.out]
    go_wp2_with fail
    refine wp_region_L [5, 13, 15, 16, 18] [(3, (fun w' => Holds e w' [pt p [.slice (some ⟨b, 0, none⟩) m m, .int .i64 (R.n : Int)] 57, pt b vs 38])), (9, (fun w' => Holds e w' [pt p [.slice (some ⟨b, 0, none⟩) m m, .int .i64 (R.n : Int)] 57, pt b vs 38])), (12, (fun w' => Holds e w' [pt p [.slice (some ⟨b, 0, none⟩) m m, .int .i64 (R.n : Int)] 57, pt b vs 38]))] (n := 19) (listed := (marks 19 0)) (by kernel_rfl) rfl (by kernel_rfl) ?conds2 ?_
    case conds2 =>
     intro c hc
     simp only [List.mem_cons, List.not_mem_nil, or_false] at hc
     rcases hc with rfl | rfl | rfl
     · exact (by replace hw := hw.drew; exact hw.sel [1, 2] (by decide))
     · exact (by replace hw := hw.drew; exact hw.sel [1, 2] (by decide))
     · exact (by replace hw := hw.drew; exact hw.sel [1, 2] (by decide))
    replace hw := hw.drew
    (try replace hc0 := Sep.Holds.cells hw (i := 0) rfl); (try replace hc1 := Sep.Holds.cells hw (i := 1) rfl); (try replace hc2 := Sep.Holds.cells hw (i := 2) rfl); (try replace hc3 := Sep.Holds.cells hw (i := 3) rfl); (try replace hc4 := Sep.Holds.cells hw (i := 4) rfl); (try replace hc5 := Sep.Holds.cells hw (i := 5) rfl); (try replace hc6 := Sep.Holds.cells hw (i := 6) rfl)
    refine wpL_q 0 ?_ rfl (Or.inl ⟨by rfl, fun w_ hS_ => ?_⟩) (marks 19 1) ?_
    rotate_left
    next => (go_simp; try (first | rfl | exact (Bool.not_not _).symm))
    try simp only [Act.put, List.setIfInBounds_toArray, List.set_cons_zero, List.set_cons_succ]
    refine wpL_q 1 ?_ rfl (Or.inl ⟨by rfl, fun w_ hS_ => ?_⟩) (marks 19 3) ?_
    rotate_left
    next => (go_simp; try (first | rfl | exact (Bool.not_not _).symm))
    try simp only [Act.put, List.setIfInBounds_toArray, List.set_cons_zero, List.set_cons_succ]
    refine wpL_q 2 ?_ rfl (Or.inl ⟨by rfl, fun w_ hS_ => ?_⟩) (marks 19 7) ?_
    rotate_left
    next => (go_simp; try (first | rfl | exact (Bool.not_not _).symm))
    try simp only [Act.put, List.setIfInBounds_toArray, List.set_cons_zero, List.set_cons_succ]
    refine wpL_m 3 ?_ rfl (.head _) (Or.inl ⟨by rfl, fun w_ hS_ => ?_⟩) (marks 19 15) ?_
    rotate_left
    next => (dsimp only at hS_; (try have q0 := Sep.Holds.cells hS_ (i := 0) rfl); (try have q1 := Sep.Holds.cells hS_ (i := 1) rfl); (try have q2 := Sep.Holds.cells hS_ (i := 2) rfl); (try have q3 := Sep.Holds.cells hS_ (i := 3) rfl); (try have q4 := Sep.Holds.cells hS_ (i := 4) rfl); (try have q5 := Sep.Holds.cells hS_ (i := 5) rfl); (try have q6 := Sep.Holds.cells hS_ (i := 6) rfl); go_simp; try (first | rfl | exact (Bool.not_not _).symm))
    try simp only [Act.put, List.setIfInBounds_toArray, List.set_cons_zero, List.set_cons_succ]
    refine wpL_q 4 ?_ rfl (Or.inl ⟨by rfl, fun w_ hS_ => ?_⟩) (marks 19 31) ?_
    rotate_left
    next => (go_simp; try (first | rfl | exact (Bool.not_not _).symm))
    try simp only [Act.put, List.setIfInBounds_toArray, List.set_cons_zero, List.set_cons_succ]
    refine wpL_q 6 ?_ rfl (Or.inl ⟨by rfl, fun w_ hS_ => ?_⟩) (marks 19 95) ?_
    rotate_left
    next => (go_simp; try (first | rfl | exact (Bool.not_not _).symm))
    try simp only [Act.put, List.setIfInBounds_toArray, List.set_cons_zero, List.set_cons_succ]
    refine wpL_q 7 ?_ rfl (Or.inl ⟨by rfl, fun w_ hS_ => ?_⟩) (marks 19 223) ?_
    rotate_left
    next => (go_simp; try (first | rfl | exact (Bool.not_not _).symm))
    try simp only [Act.put, List.setIfInBounds_toArray, List.set_cons_zero, List.set_cons_succ]
    refine wpL_q 8 ?_ rfl (Or.inl ⟨by rfl, fun w_ hS_ => ?_⟩) (marks 19 479) ?_
    rotate_left
    next => (go_simp; try (first | rfl | exact (Bool.not_not _).symm))
    try simp only [Act.put, List.setIfInBounds_toArray, List.set_cons_zero, List.set_cons_succ]
    refine wpL_m 9 ?_ rfl (.tail _ (.head _)) (Or.inl ⟨by rfl, fun w_ hS_ => ?_⟩) (marks 19 991) ?_
    rotate_left
    next => (dsimp only at hS_; (try have q0 := Sep.Holds.cells hS_ (i := 0) rfl); (try have q1 := Sep.Holds.cells hS_ (i := 1) rfl); (try have q2 := Sep.Holds.cells hS_ (i := 2) rfl); (try have q3 := Sep.Holds.cells hS_ (i := 3) rfl); (try have q4 := Sep.Holds.cells hS_ (i := 4) rfl); (try have q5 := Sep.Holds.cells hS_ (i := 5) rfl); (try have q6 := Sep.Holds.cells hS_ (i := 6) rfl); go_simp; try (first | rfl | exact (Bool.not_not _).symm))
    try simp only [Act.put, List.setIfInBounds_toArray, List.set_cons_zero, List.set_cons_succ]
    refine wpL_q 10 ?_ rfl (Or.inl ⟨by rfl, fun w_ hS_ => ?_⟩) (marks 19 2015) ?_
    rotate_left
    next => (go_simp; try (first | rfl | exact (Bool.not_not _).symm))
    try simp only [Act.put, List.setIfInBounds_toArray, List.set_cons_zero, List.set_cons_succ]
    refine wpL_q 11 ?_ rfl (Or.inl ⟨by rfl, fun w_ hS_ => ?_⟩) (marks 19 4063) ?_
    rotate_left
    next => (go_simp; try (first | rfl | exact (Bool.not_not _).symm))
    try simp only [Act.put, List.setIfInBounds_toArray, List.set_cons_zero, List.set_cons_succ]
    refine wpL_m 12 ?_ rfl (.tail _ (.tail _ (.head _))) (Or.inl ⟨by rfl, fun w_ hS_ => ?_⟩) (marks 19 8159) ?_
    rotate_left
    next => (dsimp only at hS_; (try have q0 := Sep.Holds.cells hS_ (i := 0) rfl); (try have q1 := Sep.Holds.cells hS_ (i := 1) rfl); (try have q2 := Sep.Holds.cells hS_ (i := 2) rfl); (try have q3 := Sep.Holds.cells hS_ (i := 3) rfl); (try have q4 := Sep.Holds.cells hS_ (i := 4) rfl); (try have q5 := Sep.Holds.cells hS_ (i := 5) rfl); (try have q6 := Sep.Holds.cells hS_ (i := 6) rfl); go_simp; try (first | rfl | exact (Bool.not_not _).symm))
    try simp only [Act.put, List.setIfInBounds_toArray, List.set_cons_zero, List.set_cons_succ]
    refine wpL_q 14 ?_ rfl (Or.inl ⟨by rfl, fun w_ hS_ => ?_⟩) (marks 19 24543) ?_
    rotate_left
    next => (go_simp; try (first | rfl | exact (Bool.not_not _).symm))
    try simp only [Act.put, List.setIfInBounds_toArray, List.set_cons_zero, List.set_cons_succ]
    refine wpL_all (rs := [5, 15]) (by kernel_rfl) (by decide) ?_
    intro i hi
    simp only [List.mem_cons, List.not_mem_nil, or_false] at hi
    rcases hi with rfl | rfl
    · refine ⟨_, _, rfl, by rfl, ?_⟩
      (refine wp_bsl0 rfl hw ?_; intro b_ w_ hw_; replace hw_ := hw_.newSl (i := 5) rfl 1 0 rfl (by decide); clear hw; have hw := hw_; clear hw_; (try simp only [List.map_cons, List.map_nil, List.getD_cons_zero, List.getD_cons_succ, List.getD_nil, List.set_cons_zero, List.set_cons_succ, List.cons_append, List.nil_append, Act.eval, Array.getD_eq_getD_getElem?, List.getElem?_toArray, List.getElem?_cons_succ, List.getElem?_cons_zero, Option.getD_some, Value.cells] at hw); (try simp (disch := first | (simp; done) | (simp; omega)) only [Sep.mid_set, Sep.mid_set2, Sep.mid_set0, Sep.mid_splice, Sep.mid_splice0, List.set_cons_zero, List.set_cons_succ] at hw); (try simp only [Sep.splice, List.take_succ_cons, List.take_zero, List.drop_succ_cons, List.drop_zero, List.length_cons, List.length_nil, Nat.reduceAdd, List.cons_append, List.nil_append] at hw); (try replace hc0 := Sep.Holds.cells hw (i := 0) rfl); (try replace hc1 := Sep.Holds.cells hw (i := 1) rfl); (try replace hc2 := Sep.Holds.cells hw (i := 2) rfl); (try replace hc3 := Sep.Holds.cells hw (i := 3) rfl); (try replace hc4 := Sep.Holds.cells hw (i := 4) rfl); (try replace hc5 := Sep.Holds.cells hw (i := 5) rfl); (try replace hc6 := Sep.Holds.cells hw (i := 6) rfl))
      refine ⟨(SL.keep (by exact hw.sel [1, 2] (by decide)) (SL.keep (by exact hw.sel [1, 2] (by decide)) (SL.keep (by exact hw.sel [1, 2] (by decide)) SL.nil))), ?_⟩
      try simp only [Act.put, List.setIfInBounds_toArray, List.set_cons_zero, List.set_cons_succ]
      refine wpL_all (rs := [13, 15]) (by kernel_rfl) (by decide) ?_
      intro i hi
      simp only [List.mem_cons, List.not_mem_nil, or_false] at hi
      rcases hi with rfl | rfl
      · refine ⟨_, _, rfl, by rfl, ?_⟩
        (refine wp_appendSl (i := 5) (j := 4) (u := .slice a nl c) (m := nl) (news := encI (ints l)) rfl rfl hw rfl rfl rfl (by first | exact encI_one _ | simp [Value.oneCell', Value.cells]) (by rfl) (by (try unfold maxLen); omega) (by (try unfold maxLen); omega) ?_; intro a2_ cap2_ w_ hw_; clear hw; have hw := hw_; clear hw_; (try simp only [List.map_cons, List.map_nil, List.getD_cons_zero, List.getD_cons_succ, List.getD_nil, List.set_cons_zero, List.set_cons_succ, List.cons_append, List.nil_append, Act.eval, Array.getD_eq_getD_getElem?, List.getElem?_toArray, List.getElem?_cons_succ, List.getElem?_cons_zero, Option.getD_some, Value.cells] at hw); (try simp (disch := first | (simp; done) | (simp; omega)) only [Sep.mid_set, Sep.mid_set2, Sep.mid_set0, Sep.mid_splice, Sep.mid_splice0, List.set_cons_zero, List.set_cons_succ] at hw); (try simp only [Sep.splice, List.take_succ_cons, List.take_zero, List.drop_succ_cons, List.drop_zero, List.length_cons, List.length_nil, Nat.reduceAdd, List.cons_append, List.nil_append] at hw); (try replace hc0 := Sep.Holds.cells hw (i := 0) rfl); (try replace hc1 := Sep.Holds.cells hw (i := 1) rfl); (try replace hc2 := Sep.Holds.cells hw (i := 2) rfl); (try replace hc3 := Sep.Holds.cells hw (i := 3) rfl); (try replace hc4 := Sep.Holds.cells hw (i := 4) rfl); (try replace hc5 := Sep.Holds.cells hw (i := 5) rfl); (try replace hc6 := Sep.Holds.cells hw (i := 6) rfl))
        refine ⟨(SL.keep (by exact hw.sel [1, 2] (by decide)) (SL.drop 13 (by kernel_rfl) (SL.drop 13 (by kernel_rfl) SL.nil))), ?_⟩
        try simp only [Act.put, List.setIfInBounds_toArray, List.set_cons_zero, List.set_cons_succ]
        refine wpL_o 15 rfl (by rfl) (marks 19 65535) ?_
        (refine wp_bsl1 rfl rfl (by rfl) (by rfl) (by decide) hw ?_; intro b_ w_ hw_; replace hw_ := hw_.newSl (i := 6) rfl 1 1 rfl (by decide); clear hw; have hw := hw_; clear hw_; (try simp only [List.map_cons, List.map_nil, List.getD_cons_zero, List.getD_cons_succ, List.getD_nil, List.set_cons_zero, List.set_cons_succ, List.cons_append, List.nil_append, Act.eval, Array.getD_eq_getD_getElem?, List.getElem?_toArray, List.getElem?_cons_succ, List.getElem?_cons_zero, Option.getD_some, Value.cells] at hw); (try simp (disch := first | (simp; done) | (simp; omega)) only [Sep.mid_set, Sep.mid_set2, Sep.mid_set0, Sep.mid_splice, Sep.mid_splice0, List.set_cons_zero, List.set_cons_succ] at hw); (try simp only [Sep.splice, List.take_succ_cons, List.take_zero, List.drop_succ_cons, List.drop_zero, List.length_cons, List.length_nil, Nat.reduceAdd, List.cons_append, List.nil_append] at hw); (try replace hc0 := Sep.Holds.cells hw (i := 0) rfl); (try replace hc1 := Sep.Holds.cells hw (i := 1) rfl); (try replace hc2 := Sep.Holds.cells hw (i := 2) rfl); (try replace hc3 := Sep.Holds.cells hw (i := 3) rfl); (try replace hc4 := Sep.Holds.cells hw (i := 4) rfl); (try replace hc5 := Sep.Holds.cells hw (i := 5) rfl); (try replace hc6 := Sep.Holds.cells hw (i := 6) rfl))
        refine ⟨(SL.keep (by exact hw.sel [1, 2] (by decide)) (SL.drop 13 (by kernel_rfl) (SL.drop 13 (by kernel_rfl) SL.nil))), ?_⟩
        try simp only [Act.put, List.setIfInBounds_toArray, List.set_cons_zero, List.set_cons_succ]
        refine wpL_o 16 rfl (by rfl) (marks 19 131071) ?_
        (refine wp_appendSl (i := 5) (j := 6) (n := 0 + nl) (m := 1) (news := [.int .i64 (x : Int)]) rfl rfl hw rfl rfl rfl (by first | exact encI_one _ | simp [Value.oneCell', Value.cells]) (by rfl) (by (try unfold maxLen); omega) (by (try unfold maxLen); omega) ?_; intro a2_ cap2_ w_ hw_; clear hw; have hw := hw_; clear hw_; (try simp only [List.map_cons, List.map_nil, List.getD_cons_zero, List.getD_cons_succ, List.getD_nil, List.set_cons_zero, List.set_cons_succ, List.cons_append, List.nil_append, Act.eval, Array.getD_eq_getD_getElem?, List.getElem?_toArray, List.getElem?_cons_succ, List.getElem?_cons_zero, Option.getD_some, Value.cells] at hw); (try simp (disch := first | (simp; done) | (simp; omega)) only [Sep.mid_set, Sep.mid_set2, Sep.mid_set0, Sep.mid_splice, Sep.mid_splice0, List.set_cons_zero, List.set_cons_succ] at hw); (try simp only [Sep.splice, List.take_succ_cons, List.take_zero, List.drop_succ_cons, List.drop_zero, List.length_cons, List.length_nil, Nat.reduceAdd, List.cons_append, List.nil_append] at hw); (try replace hc0 := Sep.Holds.cells hw (i := 0) rfl); (try replace hc1 := Sep.Holds.cells hw (i := 1) rfl); (try replace hc2 := Sep.Holds.cells hw (i := 2) rfl); (try replace hc3 := Sep.Holds.cells hw (i := 3) rfl); (try replace hc4 := Sep.Holds.cells hw (i := 4) rfl); (try replace hc5 := Sep.Holds.cells hw (i := 5) rfl); (try replace hc6 := Sep.Holds.cells hw (i := 6) rfl))
        refine ⟨(SL.keep (by exact hw.sel [1, 2] (by decide)) (SL.drop 13 (by kernel_rfl) (SL.drop 13 (by kernel_rfl) SL.nil))), ?_⟩
        try simp only [Act.put, List.setIfInBounds_toArray, List.set_cons_zero, List.set_cons_succ]
        refine wpL_q 17 ?_ rfl (Or.inl ⟨by rfl, fun w_ hS_ => ?_⟩) (marks 19 262143) ?_
        rotate_left
        next => (go_simp; try (first | rfl | exact (Bool.not_not _).symm))
        try simp only [Act.put, List.setIfInBounds_toArray, List.set_cons_zero, List.set_cons_succ]
        refine wpL_o 18 rfl (by rfl) (marks 19 524287) ?_
        (refine wp_store1 (v := _) rfl rfl rfl hw (i := 2) rfl Hkv.out rfl ?_; intro w_ hw_; clear hw; have hw := hw_; clear hw_; (try simp only [List.map_cons, List.map_nil, List.getD_cons_zero, List.getD_cons_succ, List.getD_nil, List.set_cons_zero, List.set_cons_succ, List.cons_append, List.nil_append, Act.eval, Array.getD_eq_getD_getElem?, List.getElem?_toArray, List.getElem?_cons_succ, List.getElem?_cons_zero, Option.getD_some, Value.cells] at hw); (try simp (disch := first | (simp; done) | (simp; omega)) only [Sep.mid_set, Sep.mid_set2, Sep.mid_set0, Sep.mid_splice, Sep.mid_splice0, List.set_cons_zero, List.set_cons_succ] at hw); (try simp only [Sep.splice, List.take_succ_cons, List.take_zero, List.drop_succ_cons, List.drop_zero, List.length_cons, List.length_nil, Nat.reduceAdd, List.cons_append, List.nil_append] at hw); (try replace hc0 := Sep.Holds.cells hw (i := 0) rfl); (try replace hc1 := Sep.Holds.cells hw (i := 1) rfl); (try replace hc2 := Sep.Holds.cells hw (i := 2) rfl); (try replace hc3 := Sep.Holds.cells hw (i := 3) rfl); (try replace hc4 := Sep.Holds.cells hw (i := 4) rfl); (try replace hc5 := Sep.Holds.cells hw (i := 5) rfl); (try replace hc6 := Sep.Holds.cells hw (i := 6) rfl))
        refine ⟨(SL.drop 18 (by kernel_rfl) (SL.drop 13 (by kernel_rfl) (SL.drop 13 (by kernel_rfl) SL.nil))), ?_⟩
        try simp only [Act.put, List.setIfInBounds_toArray, List.set_cons_zero, List.set_cons_succ]
        refine wpL_done (by kernel_rfl) ?_ _
        (replace hw := hw.sel [0, 1, 2, 3, 5] (by decide); (try simp only [List.map_cons, List.map_nil, List.getD_cons_zero, List.getD_cons_succ, List.getD_nil, List.set_cons_zero, List.set_cons_succ, List.cons_append, List.nil_append, Act.eval, Array.getD_eq_getD_getElem?, List.getElem?_toArray, List.getElem?_cons_succ, List.getElem?_cons_zero, Option.getD_some, Value.cells] at hw); (try simp (disch := first | (simp; done) | (simp; omega)) only [Sep.mid_set, Sep.mid_set2, Sep.mid_set0, Sep.mid_splice, Sep.mid_splice0, List.set_cons_zero, List.set_cons_succ] at hw); (try simp only [Sep.splice, List.take_succ_cons, List.take_zero, List.drop_succ_cons, List.drop_zero, List.length_cons, List.length_nil, Nat.reduceAdd, List.cons_append, List.nil_append] at hw))
        go_wp2_with fail
        have hm := Hm.out; subst hm
        exact HP.out _ _ ⟨rfl, ra_closeSl (l' := l ++ [x]) hkm Hvl.out (by rw [ints_length, List.length_append, Hnl.out]; simp) (by simp [ints, encI]) hw⟩
      · refine ⟨_, _, rfl, by rfl, ?_⟩
        (refine wp_bsl1 rfl rfl (by rfl) (by rfl) (by decide) hw ?_; intro b_ w_ hw_; replace hw_ := hw_.newSl (i := 6) rfl 1 1 rfl (by decide); clear hw; have hw := hw_; clear hw_; (try simp only [List.map_cons, List.map_nil, List.getD_cons_zero, List.getD_cons_succ, List.getD_nil, List.set_cons_zero, List.set_cons_succ, List.cons_append, List.nil_append, Act.eval, Array.getD_eq_getD_getElem?, List.getElem?_toArray, List.getElem?_cons_succ, List.getElem?_cons_zero, Option.getD_some, Value.cells] at hw); (try simp (disch := first | (simp; done) | (simp; omega)) only [Sep.mid_set, Sep.mid_set2, Sep.mid_set0, Sep.mid_splice, Sep.mid_splice0, List.set_cons_zero, List.set_cons_succ] at hw); (try simp only [Sep.splice, List.take_succ_cons, List.take_zero, List.drop_succ_cons, List.drop_zero, List.length_cons, List.length_nil, Nat.reduceAdd, List.cons_append, List.nil_append] at hw); (try replace hc0 := Sep.Holds.cells hw (i := 0) rfl); (try replace hc1 := Sep.Holds.cells hw (i := 1) rfl); (try replace hc2 := Sep.Holds.cells hw (i := 2) rfl); (try replace hc3 := Sep.Holds.cells hw (i := 3) rfl); (try replace hc4 := Sep.Holds.cells hw (i := 4) rfl); (try replace hc5 := Sep.Holds.cells hw (i := 5) rfl); (try replace hc6 := Sep.Holds.cells hw (i := 6) rfl))
        refine ⟨(SL.keep (by exact hw.sel [1, 2] (by decide)) (SL.keep (by exact hw.sel [1, 2] (by decide)) (SL.keep (by exact hw.sel [1, 2] (by decide)) SL.nil))), ?_⟩
        try simp only [Act.put, List.setIfInBounds_toArray, List.set_cons_zero, List.set_cons_succ]
        refine wpL_o 13 rfl (by rfl) (marks 19 65535) ?_
        (refine wp_appendSl (i := 5) (j := 4) (u := .slice a nl c) (m := nl) (news := encI (ints l)) rfl rfl hw rfl rfl rfl (by first | exact encI_one _ | simp [Value.oneCell', Value.cells]) (by rfl) (by (try unfold maxLen); omega) (by (try unfold maxLen); omega) ?_; intro a2_ cap2_ w_ hw_; clear hw; have hw := hw_; clear hw_; (try simp only [List.map_cons, List.map_nil, List.getD_cons_zero, List.getD_cons_succ, List.getD_nil, List.set_cons_zero, List.set_cons_succ, List.cons_append, List.nil_append, Act.eval, Array.getD_eq_getD_getElem?, List.getElem?_toArray, List.getElem?_cons_succ, List.getElem?_cons_zero, Option.getD_some, Value.cells] at hw); (try simp (disch := first | (simp; done) | (simp; omega)) only [Sep.mid_set, Sep.mid_set2, Sep.mid_set0, Sep.mid_splice, Sep.mid_splice0, List.set_cons_zero, List.set_cons_succ] at hw); (try simp only [Sep.splice, List.take_succ_cons, List.take_zero, List.drop_succ_cons, List.drop_zero, List.length_cons, List.length_nil, Nat.reduceAdd, List.cons_append, List.nil_append] at hw); (try replace hc0 := Sep.Holds.cells hw (i := 0) rfl); (try replace hc1 := Sep.Holds.cells hw (i := 1) rfl); (try replace hc2 := Sep.Holds.cells hw (i := 2) rfl); (try replace hc3 := Sep.Holds.cells hw (i := 3) rfl); (try replace hc4 := Sep.Holds.cells hw (i := 4) rfl); (try replace hc5 := Sep.Holds.cells hw (i := 5) rfl); (try replace hc6 := Sep.Holds.cells hw (i := 6) rfl))
        refine ⟨(SL.keep (by exact hw.sel [1, 2] (by decide)) (SL.drop 13 (by kernel_rfl) (SL.drop 13 (by kernel_rfl) SL.nil))), ?_⟩
        try simp only [Act.put, List.setIfInBounds_toArray, List.set_cons_zero, List.set_cons_succ]
        refine wpL_o 16 rfl (by rfl) (marks 19 131071) ?_
        (refine wp_appendSl (i := 5) (j := 6) (n := 0 + nl) (m := 1) (news := [.int .i64 (x : Int)]) rfl rfl hw rfl rfl rfl (by first | exact encI_one _ | simp [Value.oneCell', Value.cells]) (by rfl) (by (try unfold maxLen); omega) (by (try unfold maxLen); omega) ?_; intro a2_ cap2_ w_ hw_; clear hw; have hw := hw_; clear hw_; (try simp only [List.map_cons, List.map_nil, List.getD_cons_zero, List.getD_cons_succ, List.getD_nil, List.set_cons_zero, List.set_cons_succ, List.cons_append, List.nil_append, Act.eval, Array.getD_eq_getD_getElem?, List.getElem?_toArray, List.getElem?_cons_succ, List.getElem?_cons_zero, Option.getD_some, Value.cells] at hw); (try simp (disch := first | (simp; done) | (simp; omega)) only [Sep.mid_set, Sep.mid_set2, Sep.mid_set0, Sep.mid_splice, Sep.mid_splice0, List.set_cons_zero, List.set_cons_succ] at hw); (try simp only [Sep.splice, List.take_succ_cons, List.take_zero, List.drop_succ_cons, List.drop_zero, List.length_cons, List.length_nil, Nat.reduceAdd, List.cons_append, List.nil_append] at hw); (try replace hc0 := Sep.Holds.cells hw (i := 0) rfl); (try replace hc1 := Sep.Holds.cells hw (i := 1) rfl); (try replace hc2 := Sep.Holds.cells hw (i := 2) rfl); (try replace hc3 := Sep.Holds.cells hw (i := 3) rfl); (try replace hc4 := Sep.Holds.cells hw (i := 4) rfl); (try replace hc5 := Sep.Holds.cells hw (i := 5) rfl); (try replace hc6 := Sep.Holds.cells hw (i := 6) rfl))
        refine ⟨(SL.keep (by exact hw.sel [1, 2] (by decide)) (SL.drop 13 (by kernel_rfl) (SL.drop 13 (by kernel_rfl) SL.nil))), ?_⟩
        try simp only [Act.put, List.setIfInBounds_toArray, List.set_cons_zero, List.set_cons_succ]
        refine wpL_q 17 ?_ rfl (Or.inl ⟨by rfl, fun w_ hS_ => ?_⟩) (marks 19 262143) ?_
        rotate_left
        next => (go_simp; try (first | rfl | exact (Bool.not_not _).symm))
        try simp only [Act.put, List.setIfInBounds_toArray, List.set_cons_zero, List.set_cons_succ]
        refine wpL_o 18 rfl (by rfl) (marks 19 524287) ?_
        (refine wp_store1 (v := _) rfl rfl rfl hw (i := 2) rfl Hkv.out rfl ?_; intro w_ hw_; clear hw; have hw := hw_; clear hw_; (try simp only [List.map_cons, List.map_nil, List.getD_cons_zero, List.getD_cons_succ, List.getD_nil, List.set_cons_zero, List.set_cons_succ, List.cons_append, List.nil_append, Act.eval, Array.getD_eq_getD_getElem?, List.getElem?_toArray, List.getElem?_cons_succ, List.getElem?_cons_zero, Option.getD_some, Value.cells] at hw); (try simp (disch := first | (simp; done) | (simp; omega)) only [Sep.mid_set, Sep.mid_set2, Sep.mid_set0, Sep.mid_splice, Sep.mid_splice0, List.set_cons_zero, List.set_cons_succ] at hw); (try simp only [Sep.splice, List.take_succ_cons, List.take_zero, List.drop_succ_cons, List.drop_zero, List.length_cons, List.length_nil, Nat.reduceAdd, List.cons_append, List.nil_append] at hw); (try replace hc0 := Sep.Holds.cells hw (i := 0) rfl); (try replace hc1 := Sep.Holds.cells hw (i := 1) rfl); (try replace hc2 := Sep.Holds.cells hw (i := 2) rfl); (try replace hc3 := Sep.Holds.cells hw (i := 3) rfl); (try replace hc4 := Sep.Holds.cells hw (i := 4) rfl); (try replace hc5 := Sep.Holds.cells hw (i := 5) rfl); (try replace hc6 := Sep.Holds.cells hw (i := 6) rfl))
        refine ⟨(SL.drop 18 (by kernel_rfl) (SL.drop 13 (by kernel_rfl) (SL.drop 13 (by kernel_rfl) SL.nil))), ?_⟩
        try simp only [Act.put, List.setIfInBounds_toArray, List.set_cons_zero, List.set_cons_succ]
        refine wpL_done (by kernel_rfl) ?_ _
        (replace hw := hw.sel [0, 1, 2, 3, 5] (by decide); (try simp only [List.map_cons, List.map_nil, List.getD_cons_zero, List.getD_cons_succ, List.getD_nil, List.set_cons_zero, List.set_cons_succ, List.cons_append, List.nil_append, Act.eval, Array.getD_eq_getD_getElem?, List.getElem?_toArray, List.getElem?_cons_succ, List.getElem?_cons_zero, Option.getD_some, Value.cells] at hw); (try simp (disch := first | (simp; done) | (simp; omega)) only [Sep.mid_set, Sep.mid_set2, Sep.mid_set0, Sep.mid_splice, Sep.mid_splice0, List.set_cons_zero, List.set_cons_succ] at hw); (try simp only [Sep.splice, List.take_succ_cons, List.take_zero, List.drop_succ_cons, List.drop_zero, List.length_cons, List.length_nil, Nat.reduceAdd, List.cons_append, List.nil_append] at hw))
        go_wp2_with fail
        have hm := Hm.out; subst hm
        exact HP.out _ _ ⟨rfl, ra_closeSl (l' := l ++ [x]) hkm Hvl.out (by rw [ints_length, List.length_append, Hnl.out]; simp) (by simp [ints, encI]) hw⟩
    · refine ⟨_, _, rfl, by rfl, ?_⟩
      (refine wp_bsl1 rfl rfl (by rfl) (by rfl) (by decide) hw ?_; intro b_ w_ hw_; replace hw_ := hw_.newSl (i := 5) rfl 1 1 rfl (by decide); clear hw; have hw := hw_; clear hw_; (try simp only [List.map_cons, List.map_nil, List.getD_cons_zero, List.getD_cons_succ, List.getD_nil, List.set_cons_zero, List.set_cons_succ, List.cons_append, List.nil_append, Act.eval, Array.getD_eq_getD_getElem?, List.getElem?_toArray, List.getElem?_cons_succ, List.getElem?_cons_zero, Option.getD_some, Value.cells] at hw); (try simp (disch := first | (simp; done) | (simp; omega)) only [Sep.mid_set, Sep.mid_set2, Sep.mid_set0, Sep.mid_splice, Sep.mid_splice0, List.set_cons_zero, List.set_cons_succ] at hw); (try simp only [Sep.splice, List.take_succ_cons, List.take_zero, List.drop_succ_cons, List.drop_zero, List.length_cons, List.length_nil, Nat.reduceAdd, List.cons_append, List.nil_append] at hw); (try replace hc0 := Sep.Holds.cells hw (i := 0) rfl); (try replace hc1 := Sep.Holds.cells hw (i := 1) rfl); (try replace hc2 := Sep.Holds.cells hw (i := 2) rfl); (try replace hc3 := Sep.Holds.cells hw (i := 3) rfl); (try replace hc4 := Sep.Holds.cells hw (i := 4) rfl); (try replace hc5 := Sep.Holds.cells hw (i := 5) rfl); (try replace hc6 := Sep.Holds.cells hw (i := 6) rfl))
      refine ⟨(SL.keep (by exact hw.sel [1, 2] (by decide)) (SL.keep (by exact hw.sel [1, 2] (by decide)) (SL.keep (by exact hw.sel [1, 2] (by decide)) SL.nil))), ?_⟩
      try simp only [Act.put, List.setIfInBounds_toArray, List.set_cons_zero, List.set_cons_succ]
      refine wpL_o 5 rfl (by rfl) (marks 19 57343) ?_
      (refine wp_bsl0 rfl hw ?_; intro b_ w_ hw_; replace hw_ := hw_.newSl (i := 6) rfl 1 0 rfl (by decide); clear hw; have hw := hw_; clear hw_; (try simp only [List.map_cons, List.map_nil, List.getD_cons_zero, List.getD_cons_succ, List.getD_nil, List.set_cons_zero, List.set_cons_succ, List.cons_append, List.nil_append, Act.eval, Array.getD_eq_getD_getElem?, List.getElem?_toArray, List.getElem?_cons_succ, List.getElem?_cons_zero, Option.getD_some, Value.cells] at hw); (try simp (disch := first | (simp; done) | (simp; omega)) only [Sep.mid_set, Sep.mid_set2, Sep.mid_set0, Sep.mid_splice, Sep.mid_splice0, List.set_cons_zero, List.set_cons_succ] at hw); (try simp only [Sep.splice, List.take_succ_cons, List.take_zero, List.drop_succ_cons, List.drop_zero, List.length_cons, List.length_nil, Nat.reduceAdd, List.cons_append, List.nil_append] at hw); (try replace hc0 := Sep.Holds.cells hw (i := 0) rfl); (try replace hc1 := Sep.Holds.cells hw (i := 1) rfl); (try replace hc2 := Sep.Holds.cells hw (i := 2) rfl); (try replace hc3 := Sep.Holds.cells hw (i := 3) rfl); (try replace hc4 := Sep.Holds.cells hw (i := 4) rfl); (try replace hc5 := Sep.Holds.cells hw (i := 5) rfl); (try replace hc6 := Sep.Holds.cells hw (i := 6) rfl))
      refine ⟨(SL.keep (by exact hw.sel [1, 2] (by decide)) (SL.keep (by exact hw.sel [1, 2] (by decide)) (SL.keep (by exact hw.sel [1, 2] (by decide)) SL.nil))), ?_⟩
      try simp only [Act.put, List.setIfInBounds_toArray, List.set_cons_zero, List.set_cons_succ]
      refine wpL_o 13 rfl (by rfl) (marks 19 65535) ?_
      (refine wp_appendSl (i := 6) (j := 4) (u := .slice a nl c) (m := nl) (news := encI (ints l)) rfl rfl hw rfl rfl rfl (by first | exact encI_one _ | simp [Value.oneCell', Value.cells]) (by rfl) (by (try unfold maxLen); omega) (by (try unfold maxLen); omega) ?_; intro a2_ cap2_ w_ hw_; clear hw; have hw := hw_; clear hw_; (try simp only [List.map_cons, List.map_nil, List.getD_cons_zero, List.getD_cons_succ, List.getD_nil, List.set_cons_zero, List.set_cons_succ, List.cons_append, List.nil_append, Act.eval, Array.getD_eq_getD_getElem?, List.getElem?_toArray, List.getElem?_cons_succ, List.getElem?_cons_zero, Option.getD_some, Value.cells] at hw); (try simp (disch := first | (simp; done) | (simp; omega)) only [Sep.mid_set, Sep.mid_set2, Sep.mid_set0, Sep.mid_splice, Sep.mid_splice0, List.set_cons_zero, List.set_cons_succ] at hw); (try simp only [Sep.splice, List.take_succ_cons, List.take_zero, List.drop_succ_cons, List.drop_zero, List.length_cons, List.length_nil, Nat.reduceAdd, List.cons_append, List.nil_append] at hw); (try replace hc0 := Sep.Holds.cells hw (i := 0) rfl); (try replace hc1 := Sep.Holds.cells hw (i := 1) rfl); (try replace hc2 := Sep.Holds.cells hw (i := 2) rfl); (try replace hc3 := Sep.Holds.cells hw (i := 3) rfl); (try replace hc4 := Sep.Holds.cells hw (i := 4) rfl); (try replace hc5 := Sep.Holds.cells hw (i := 5) rfl); (try replace hc6 := Sep.Holds.cells hw (i := 6) rfl))
      refine ⟨(SL.keep (by exact hw.sel [1, 2] (by decide)) (SL.drop 13 (by kernel_rfl) (SL.drop 13 (by kernel_rfl) SL.nil))), ?_⟩
      try simp only [Act.put, List.setIfInBounds_toArray, List.set_cons_zero, List.set_cons_succ]
      refine wpL_o 16 rfl (by rfl) (marks 19 131071) ?_
      (refine wp_appendSl (i := 6) (j := 5) (n := 0 + nl) (m := 1) (news := [.int .i64 (x : Int)]) rfl rfl hw rfl rfl rfl (by first | exact encI_one _ | simp [Value.oneCell', Value.cells]) (by rfl) (by (try unfold maxLen); omega) (by (try unfold maxLen); omega) ?_; intro a2_ cap2_ w_ hw_; clear hw; have hw := hw_; clear hw_; (try simp only [List.map_cons, List.map_nil, List.getD_cons_zero, List.getD_cons_succ, List.getD_nil, List.set_cons_zero, List.set_cons_succ, List.cons_append, List.nil_append, Act.eval, Array.getD_eq_getD_getElem?, List.getElem?_toArray, List.getElem?_cons_succ, List.getElem?_cons_zero, Option.getD_some, Value.cells] at hw); (try simp (disch := first | (simp; done) | (simp; omega)) only [Sep.mid_set, Sep.mid_set2, Sep.mid_set0, Sep.mid_splice, Sep.mid_splice0, List.set_cons_zero, List.set_cons_succ] at hw); (try simp only [Sep.splice, List.take_succ_cons, List.take_zero, List.drop_succ_cons, List.drop_zero, List.length_cons, List.length_nil, Nat.reduceAdd, List.cons_append, List.nil_append] at hw); (try replace hc0 := Sep.Holds.cells hw (i := 0) rfl); (try replace hc1 := Sep.Holds.cells hw (i := 1) rfl); (try replace hc2 := Sep.Holds.cells hw (i := 2) rfl); (try replace hc3 := Sep.Holds.cells hw (i := 3) rfl); (try replace hc4 := Sep.Holds.cells hw (i := 4) rfl); (try replace hc5 := Sep.Holds.cells hw (i := 5) rfl); (try replace hc6 := Sep.Holds.cells hw (i := 6) rfl))
      refine ⟨(SL.keep (by exact hw.sel [1, 2] (by decide)) (SL.drop 13 (by kernel_rfl) (SL.drop 13 (by kernel_rfl) SL.nil))), ?_⟩
      try simp only [Act.put, List.setIfInBounds_toArray, List.set_cons_zero, List.set_cons_succ]
      refine wpL_q 17 ?_ rfl (Or.inl ⟨by rfl, fun w_ hS_ => ?_⟩) (marks 19 262143) ?_
      rotate_left
      next => (go_simp; try (first | rfl | exact (Bool.not_not _).symm))
      try simp only [Act.put, List.setIfInBounds_toArray, List.set_cons_zero, List.set_cons_succ]
      refine wpL_o 18 rfl (by rfl) (marks 19 524287) ?_
      (refine wp_store1 (v := _) rfl rfl rfl hw (i := 2) rfl Hkv.out rfl ?_; intro w_ hw_; clear hw; have hw := hw_; clear hw_; (try simp only [List.map_cons, List.map_nil, List.getD_cons_zero, List.getD_cons_succ, List.getD_nil, List.set_cons_zero, List.set_cons_succ, List.cons_append, List.nil_append, Act.eval, Array.getD_eq_getD_getElem?, List.getElem?_toArray, List.getElem?_cons_succ, List.getElem?_cons_zero, Option.getD_some, Value.cells] at hw); (try simp (disch := first | (simp; done) | (simp; omega)) only [Sep.mid_set, Sep.mid_set2, Sep.mid_set0, Sep.mid_splice, Sep.mid_splice0, List.set_cons_zero, List.set_cons_succ] at hw); (try simp only [Sep.splice, List.take_succ_cons, List.take_zero, List.drop_succ_cons, List.drop_zero, List.length_cons, List.length_nil, Nat.reduceAdd, List.cons_append, List.nil_append] at hw); (try replace hc0 := Sep.Holds.cells hw (i := 0) rfl); (try replace hc1 := Sep.Holds.cells hw (i := 1) rfl); (try replace hc2 := Sep.Holds.cells hw (i := 2) rfl); (try replace hc3 := Sep.Holds.cells hw (i := 3) rfl); (try replace hc4 := Sep.Holds.cells hw (i := 4) rfl); (try replace hc5 := Sep.Holds.cells hw (i := 5) rfl); (try replace hc6 := Sep.Holds.cells hw (i := 6) rfl))
      refine ⟨(SL.drop 18 (by kernel_rfl) (SL.drop 13 (by kernel_rfl) (SL.drop 13 (by kernel_rfl) SL.nil))), ?_⟩
      try simp only [Act.put, List.setIfInBounds_toArray, List.set_cons_zero, List.set_cons_succ]
      refine wpL_done (by kernel_rfl) ?_ _
      (replace hw := hw.sel [0, 1, 2, 3, 6] (by decide); (try simp only [List.map_cons, List.map_nil, List.getD_cons_zero, List.getD_cons_succ, List.getD_nil, List.set_cons_zero, List.set_cons_succ, List.cons_append, List.nil_append, Act.eval, Array.getD_eq_getD_getElem?, List.getElem?_toArray, List.getElem?_cons_succ, List.getElem?_cons_zero, Option.getD_some, Value.cells] at hw); (try simp (disch := first | (simp; done) | (simp; omega)) only [Sep.mid_set, Sep.mid_set2, Sep.mid_set0, Sep.mid_splice, Sep.mid_splice0, List.set_cons_zero, List.set_cons_succ] at hw); (try simp only [Sep.splice, List.take_succ_cons, List.take_zero, List.drop_succ_cons, List.drop_zero, List.length_cons, List.length_nil, Nat.reduceAdd, List.cons_append, List.nil_append] at hw))
      go_wp2_with fail
      have hm := Hm.out; subst hm
      exact HP.out _ _ ⟨rfl, ra_closeSl (l' := l ++ [x]) hkm Hvl.out (by rw [ints_length, List.length_append, Hnl.out]; simp) (by simp [ints, encI]) hw⟩
theorem fPut (p : Nat) (R : Ring) (hW : R.Wf) (hb : R.n ≤ 1000 ∧ R.rows.length ≤ 1000) (r t : Int) (ahead : Bool) (e w : World) (X : HProp) (hw : Holds e w [X, IsRA p R]) :
    Calls Try.prog 24 #[.pointer (some ⟨p, 0, none⟩), .int .i64 r, .int .i64 t, .bool ahead] w fun en w' => en = .returned (.int .i64 (R.mayE r t)) ∧ Holds e w' [X, IsRA p (R.add ahead r t)] := by
  by_cases h : R.mayE r t = 0
  · obtain ⟨k, l, x, rfl, hl, hrow, rfl, hx, hi, hr⟩ := may_ok h
    rw [h]
    have ha : R.add ahead k x = R.setRow k (if ahead then x :: l else l ++ [x]) := by
      unfold Ring.add; rw [if_pos h, hrow]; simp
    rw [ha]
    exact putOk p R hW hb k x l ahead hl hx hi hr e w X hw
  · have ha : R.add ahead r t = R := by unfold Ring.add; rw [if_neg h]
    rw [ha]
    exact (putNo p R hW hb r t ahead h e w X hw).mono fun en w' ⟨h1, h2⟩ => ⟨h1, by rw [h2]; exact hw⟩
end Go.Proofs.Ytmjpppemdjknoaa
