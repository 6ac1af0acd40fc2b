/-
  The document's own arena: Move; an act on it.
-/
import Derived.Test.YtmjpppemdjknoaaRefC
import Derived.Test.YtmjpppemdjknoaaRingDo
namespace Go.Proofs.Ytmjpppemdjknoaa
set_option linter.unusedSimpArgs false
set_option linter.unusedVariables false
open Go.RowKit Go.Sep Go.RingM

theorem setRow_comm (R : Ring) {f t : Nat} (h : f ≠ t) (a b : List Nat) : (R.setRow t b).setRow f a = (R.setRow f a).setRow t b := by
  unfold Ring.setRow; simp only; rw [List.set_comm _ _ (Ne.symm h)]
theorem ra_close2 {e w : World} {X : HProp} {p : Nat} {R : Ring} {b : Nat} {vs : List Value} {f t : Nat} {l' : List Nat} {a : Option Addr} {c N : Nat} {cs : List Value} (hne : f ≠ t) (hf : f < R.rows.length) (ht : t < R.rows.length) (hlen : vs.length = R.rows.length) (h1 : (ints l').length = N) (h2 : cs = encI (ints l'))
    (hw : Holds e w [X, pt p [.slice (some ⟨b, 0, none⟩) R.rows.length R.rows.length, .int .i64 (R.n : Int)] 57, pt b ((vs.set t (.slice a N c)).set f (.slice none 0 0)) 38, sepL (((rowsOf vs R.rows).set t emp).set f emp), Sl 3 1 (.slice a N c) N cs]) :
    Holds e w [X, IsRA p ((R.setRow f []).setRow t l')] := by
  subst h2
  have hc : ((rowsOf vs R.rows).set t emp).set f emp = ((rowsOf vs R.rows).set f emp).set t emp := List.set_comm _ _ (Ne.symm hne)
  have hd : ((rowsOf vs R.rows).set f emp).set t (IsInts (.slice a N c) (ints l')) = ((rowsOf vs R.rows).set t (IsInts (.slice a N c) (ints l'))).set f emp := List.set_comm _ _ hne
  rw [sl_ints (Sep.hid h1), hc] at hw
  have h3 := Holds.unpick (L := [X, pt p [.slice (some ⟨b, 0, none⟩) R.rows.length R.rows.length, .int .i64 (R.n : Int)] 57, pt b ((vs.set t (.slice a N c)).set f (.slice none 0 0)) 38, sepL (((rowsOf vs R.rows).set f emp).set t emp)]) (R := (rowsOf vs R.rows).set f emp) 3 t rfl (by rw [List.length_set, rowsOf_length hlen]; exact ht) hw
  rw [hd, rowsOf_set hlen] at h3
  have h4 := h3.addEmp (X := IsInts (.slice none 0 0) (ints [])) (Sl.nil _ _ _)
  have e1 : (R.setRow t l').rows.length = R.rows.length := by simp [Ring.setRow]
  have h5 := ra_close (p := p) (R := R.setRow t l') (b := b) (vs := vs.set t (.slice a N c)) (r := f) (l' := []) (v' := .slice none 0 0) (e := e) (w := w) (X := X) (by rw [e1]; exact hf) (by rw [e1, List.length_set]; exact hlen) (by rw [e1]; exact h4)
  rwa [setRow_comm R hne] at h5
set_option maxHeartbeats 8000000 in
theorem moveOk (p : Nat) (R : Ring) (hW : R.Wf) (hb : R.n ≤ 1000 ∧ R.rows.length ≤ 1000) (f t : Nat) (lf lt : List Nat) (hne : f ≠ t) (hf : R.rows[f]? = some lf) (ht : R.rows[t]? = some lt) (hrf : R.isRow (f : Int) = true) (hrt : R.isRow (t : Int) = true) (e w : World) (X : HProp) (hw : Holds e w [X, IsRA p R]) :
    Calls Try.prog 27 #[.pointer (some ⟨p, 0, none⟩), .int .i64 (f : Int), .int .i64 (t : Int)] w fun en w' => en = .returned (.int .i64 0) ∧ Holds e w' [X, IsRA p (R.two f t [] (lt ++ lf))] := by
  have Hw0 := Sep.hid hw
  have Hrf := Sep.hid hrf; have Hrt := Sep.hid hrt
  have hlf := row_len hW hb.1 hf
  have hlt := row_len hW hb.1 ht
  clear hrf hrt hW hb
  obtain ⟨⟨b, vs⟩, hw⟩ := exL.open_ hw
  have hw := hw.open_ 1 rfl
  (try simp only [List.map_cons, List.map_nil, List.getD_cons_zero, List.getD_cons_succ, List.getD_nil, List.set_cons_zero, List.set_cons_succ, List.cons_append, List.nil_append, Act.eval, Array.getD_eq_getD_getElem?, List.getElem?_toArray, List.getElem?_cons_succ, List.getElem?_cons_zero, Option.getD_some, Value.cells] at hw); (try simp (disch := first | (simp; done) | (simp; omega)) only [Sep.mid_set, Sep.mid_set2, Sep.mid_set0, Sep.mid_splice, Sep.mid_splice0, List.set_cons_zero, List.set_cons_succ] at hw); (try simp only [Sep.splice, List.take_succ_cons, List.take_zero, List.drop_succ_cons, List.drop_zero, List.length_cons, List.length_nil, Nat.reduceAdd, List.cons_append, List.nil_append] at hw)
  obtain ⟨a, c, hvt, hvl, hw4⟩ := ra_pick (p := p) (R := R) (x := ⟨b, vs⟩) ht hw
  clear hw
  obtain ⟨v2, hv2, hr2⟩ := rowsOf_get hvl hf
  have hw5 := hw4.pick 3 f rfl (show ((rowsOf vs R.rows).set t emp)[f]? = some (IsInts v2 (ints lf)) by rw [List.getElem?_set_ne (Ne.symm hne)]; exact hr2)
  rw [← sl_ints (Sep.hid (ints_length lf))] at hw5
  obtain ⟨a2, c2, rfl⟩ := Sl.value (i := 5) rfl hw5
  have hw : Holds e w [X, pt p [.slice (some ⟨b, 0, none⟩) R.rows.length R.rows.length, .int .i64 (R.n : Int)] 57, pt b vs 38, sepL (((rowsOf vs R.rows).set t emp).set f emp), Sl 3 1 (.slice a lt.length c) lt.length (encI (ints lt)), Sl 3 1 (.slice a2 lf.length c2) lf.length (encI (ints lf))] := hw5
  clear hw5 hw4 hr2
  obtain ⟨m, hm⟩ : ∃ m, R.rows.length = m := ⟨_, rfl⟩
  have hfm : f < m := by rw [← hm]; exact (List.getElem?_eq_some_iff.1 hf).1
  have htm : t < m := by rw [← hm]; exact (List.getElem?_eq_some_iff.1 ht).1
  obtain ⟨nt, hnt⟩ : ∃ n, lt.length = n := ⟨_, rfl⟩
  obtain ⟨nf, hnf⟩ : ∃ n, lf.length = n := ⟨_, rfl⟩
  rw [hm, hnt, hnf] at hw
  rw [hnt] at hvt hlt
  rw [hnf] at hv2 hlf
  replace hvt : vs[t]? = some (.slice a nt c) := hvt
  replace hv2 : vs[f]? = some (.slice a2 nf c2) := hv2
  replace hvl : vs.length = R.rows.length := hvl
  have Hvl := Sep.hid hvl
  have Hm := Sep.hid hm; have Hnt := Sep.hid hnt; have Hnf := Sep.hid hnf
  have Hkt : Hid (t < vs.length) := Sep.hid (by rw [hvl, hm]; exact htm)
  have Hkf : Hid (f < vs.length) := Sep.hid (by rw [hvl, hm]; exact hfm)
  have Hne := Sep.hid hne
  have hneq : ((f : Int) == (t : Int)) = false := by simp; omega
  clear hm hnt hnf hvl hf ht hne
  (try replace hc0 := Sep.Holds.cells hw (i := 0) rfl); (try replace hc1 := Sep.Holds.cells hw (i := 1) rfl); (try replace hc2 := Sep.Holds.cells hw (i := 2) rfl); (try replace hc3 := Sep.Holds.cells hw (i := 3) rfl); (try replace hc4 := Sep.Holds.cells hw (i := 4) rfl); (try replace hc5 := Sep.Holds.cells hw (i := 5) rfl); (try replace hc6 := Sep.Holds.cells hw (i := 6) rfl)
  refine Sep.calls_post ?_
  intro Post_ hPost_
  have HP := Sep.hid hPost_
  clear hPost_
  go_enter Try.func27, Try.ntmps27
  go_wp2_with fail
  refine (fRow p R f e _ _ Hw0.out).mono ?_
  rintro _ w_ ⟨rfl, rfl⟩
  rw [Hrf.out]
  go_wp2_with fail
  refine (fRow p R t e _ _ Hw0.out).mono ?_
  rintro _ w_ ⟨rfl, rfl⟩
  rw [Hrt.out]
  go_wp2_with fail
  refine wp_region_L [5, 13, 21, 23] [(3, (fun w' => Holds e w' [pt p [.slice (some ⟨b, 0, none⟩) m m, .int .i64 (R.n : Int)] 57, pt b vs 38])), (9, (fun w' => Holds e w' [pt p [.slice (some ⟨b, 0, none⟩) m m, .int .i64 (R.n : Int)] 57, pt b vs 38])), (12, (fun w' => Holds e w' [pt p [.slice (some ⟨b, 0, none⟩) m m, .int .i64 (R.n : Int)] 57, pt b vs 38])), (17, (fun w' => Holds e w' [pt p [.slice (some ⟨b, 0, none⟩) m m, .int .i64 (R.n : Int)] 57, pt b vs 38])), (20, (fun w' => Holds e w' [pt p [.slice (some ⟨b, 0, none⟩) m m, .int .i64 (R.n : Int)] 57, pt b vs 38]))] (n := 24) (listed := (marks 24 0)) (by kernel_rfl) rfl (by kernel_rfl) ?conds1 ?_
  case conds1 =>
   intro c hc
   simp only [List.mem_cons, List.not_mem_nil, or_false] at hc
   rcases hc with rfl | rfl | rfl | rfl | rfl
   · exact (by replace hw := hw.drew; exact hw.sel [1, 2] (by decide))
   · exact (by replace hw := hw.drew; exact hw.sel [1, 2] (by decide))
   · exact (by replace hw := hw.drew; exact hw.sel [1, 2] (by decide))
   · exact (by replace hw := hw.drew; exact hw.sel [1, 2] (by decide))
   · exact (by replace hw := hw.drew; exact hw.sel [1, 2] (by decide))
  replace hw := hw.drew
  (try replace hc0 := Sep.Holds.cells hw (i := 0) rfl); (try replace hc1 := Sep.Holds.cells hw (i := 1) rfl); (try replace hc2 := Sep.Holds.cells hw (i := 2) rfl); (try replace hc3 := Sep.Holds.cells hw (i := 3) rfl); (try replace hc4 := Sep.Holds.cells hw (i := 4) rfl); (try replace hc5 := Sep.Holds.cells hw (i := 5) rfl); (try replace hc6 := Sep.Holds.cells hw (i := 6) rfl)
  refine wpL_q 0 ?_ rfl (Or.inl ⟨by rfl, fun w_ hS_ => ?_⟩) (marks 24 1) ?_
  rotate_left
  next => (go_simp; try (first | rfl | exact (Bool.not_not _).symm))
  try simp only [Act.put, List.setIfInBounds_toArray, List.set_cons_zero, List.set_cons_succ]
  refine wpL_q 1 ?_ rfl (Or.inl ⟨by rfl, fun w_ hS_ => ?_⟩) (marks 24 3) ?_
  rotate_left
  next => (go_simp; try (first | rfl | exact (Bool.not_not _).symm))
  try simp only [Act.put, List.setIfInBounds_toArray, List.set_cons_zero, List.set_cons_succ]
  refine wpL_q 2 ?_ rfl (Or.inl ⟨by rfl, fun w_ hS_ => ?_⟩) (marks 24 7) ?_
  rotate_left
  next => (go_simp; try (first | rfl | exact (Bool.not_not _).symm))
  try simp only [Act.put, List.setIfInBounds_toArray, List.set_cons_zero, List.set_cons_succ]
  refine wpL_m 3 ?_ rfl (.head _) (Or.inl ⟨by rfl, fun w_ hS_ => ?_⟩) (marks 24 15) ?_
  rotate_left
  next => (dsimp only at hS_; (try have q0 := Sep.Holds.cells hS_ (i := 0) rfl); (try have q1 := Sep.Holds.cells hS_ (i := 1) rfl); (try have q2 := Sep.Holds.cells hS_ (i := 2) rfl); (try have q3 := Sep.Holds.cells hS_ (i := 3) rfl); (try have q4 := Sep.Holds.cells hS_ (i := 4) rfl); (try have q5 := Sep.Holds.cells hS_ (i := 5) rfl); (try have q6 := Sep.Holds.cells hS_ (i := 6) rfl); go_simp; try (first | rfl | exact (Bool.not_not _).symm))
  try simp only [Act.put, List.setIfInBounds_toArray, List.set_cons_zero, List.set_cons_succ]
  refine wpL_q 4 ?_ rfl (Or.inl ⟨by rfl, fun w_ hS_ => ?_⟩) (marks 24 31) ?_
  rotate_left
  next => (go_simp; try (first | rfl | exact (Bool.not_not _).symm))
  try simp only [Act.put, List.setIfInBounds_toArray, List.set_cons_zero, List.set_cons_succ]
  refine wpL_q 6 ?_ rfl (Or.inl ⟨by rfl, fun w_ hS_ => ?_⟩) (marks 24 95) ?_
  rotate_left
  next => (go_simp; try (first | rfl | exact (Bool.not_not _).symm))
  try simp only [Act.put, List.setIfInBounds_toArray, List.set_cons_zero, List.set_cons_succ]
  refine wpL_q 7 ?_ rfl (Or.inl ⟨by rfl, fun w_ hS_ => ?_⟩) (marks 24 223) ?_
  rotate_left
  next => (go_simp; try (first | rfl | exact (Bool.not_not _).symm))
  try simp only [Act.put, List.setIfInBounds_toArray, List.set_cons_zero, List.set_cons_succ]
  refine wpL_q 8 ?_ rfl (Or.inl ⟨by rfl, fun w_ hS_ => ?_⟩) (marks 24 479) ?_
  rotate_left
  next => (go_simp; try (first | rfl | exact (Bool.not_not _).symm))
  try simp only [Act.put, List.setIfInBounds_toArray, List.set_cons_zero, List.set_cons_succ]
  refine wpL_m 9 ?_ rfl (.tail _ (.head _)) (Or.inl ⟨by rfl, fun w_ hS_ => ?_⟩) (marks 24 991) ?_
  rotate_left
  next => (dsimp only at hS_; (try have q0 := Sep.Holds.cells hS_ (i := 0) rfl); (try have q1 := Sep.Holds.cells hS_ (i := 1) rfl); (try have q2 := Sep.Holds.cells hS_ (i := 2) rfl); (try have q3 := Sep.Holds.cells hS_ (i := 3) rfl); (try have q4 := Sep.Holds.cells hS_ (i := 4) rfl); (try have q5 := Sep.Holds.cells hS_ (i := 5) rfl); (try have q6 := Sep.Holds.cells hS_ (i := 6) rfl); go_simp; try (first | rfl | exact (Bool.not_not _).symm))
  try simp only [Act.put, List.setIfInBounds_toArray, List.set_cons_zero, List.set_cons_succ]
  refine wpL_q 10 ?_ rfl (Or.inl ⟨by rfl, fun w_ hS_ => ?_⟩) (marks 24 2015) ?_
  rotate_left
  next => (go_simp; try (first | rfl | exact (Bool.not_not _).symm))
  try simp only [Act.put, List.setIfInBounds_toArray, List.set_cons_zero, List.set_cons_succ]
  refine wpL_q 11 ?_ rfl (Or.inl ⟨by rfl, fun w_ hS_ => ?_⟩) (marks 24 4063) ?_
  rotate_left
  next => (go_simp; try (first | rfl | exact (Bool.not_not _).symm))
  try simp only [Act.put, List.setIfInBounds_toArray, List.set_cons_zero, List.set_cons_succ]
  refine wpL_m 12 ?_ rfl (.tail _ (.tail _ (.head _))) (Or.inl ⟨by rfl, fun w_ hS_ => ?_⟩) (marks 24 8159) ?_
  rotate_left
  next => (dsimp only at hS_; (try have q0 := Sep.Holds.cells hS_ (i := 0) rfl); (try have q1 := Sep.Holds.cells hS_ (i := 1) rfl); (try have q2 := Sep.Holds.cells hS_ (i := 2) rfl); (try have q3 := Sep.Holds.cells hS_ (i := 3) rfl); (try have q4 := Sep.Holds.cells hS_ (i := 4) rfl); (try have q5 := Sep.Holds.cells hS_ (i := 5) rfl); (try have q6 := Sep.Holds.cells hS_ (i := 6) rfl); go_simp; try (first | rfl | exact (Bool.not_not _).symm))
  try simp only [Act.put, List.setIfInBounds_toArray, List.set_cons_zero, List.set_cons_succ]
  refine wpL_q 14 ?_ rfl (Or.inl ⟨by rfl, fun w_ hS_ => ?_⟩) (marks 24 24543) ?_
  rotate_left
  next => (go_simp; try (first | rfl | exact (Bool.not_not _).symm))
  try simp only [Act.put, List.setIfInBounds_toArray, List.set_cons_zero, List.set_cons_succ]
  refine wpL_q 15 ?_ rfl (Or.inl ⟨by rfl, fun w_ hS_ => ?_⟩) (marks 24 57311) ?_
  rotate_left
  next => (go_simp; try (first | rfl | exact (Bool.not_not _).symm))
  try simp only [Act.put, List.setIfInBounds_toArray, List.set_cons_zero, List.set_cons_succ]
  refine wpL_q 16 ?_ rfl (Or.inl ⟨by rfl, fun w_ hS_ => ?_⟩) (marks 24 122847) ?_
  rotate_left
  next => (go_simp; try (first | rfl | exact (Bool.not_not _).symm))
  try simp only [Act.put, List.setIfInBounds_toArray, List.set_cons_zero, List.set_cons_succ]
  refine wpL_m 17 ?_ rfl (.tail _ (.tail _ (.tail _ (.head _)))) (Or.inl ⟨by rfl, fun w_ hS_ => ?_⟩) (marks 24 253919) ?_
  rotate_left
  next => (dsimp only at hS_; (try have q0 := Sep.Holds.cells hS_ (i := 0) rfl); (try have q1 := Sep.Holds.cells hS_ (i := 1) rfl); (try have q2 := Sep.Holds.cells hS_ (i := 2) rfl); (try have q3 := Sep.Holds.cells hS_ (i := 3) rfl); (try have q4 := Sep.Holds.cells hS_ (i := 4) rfl); (try have q5 := Sep.Holds.cells hS_ (i := 5) rfl); (try have q6 := Sep.Holds.cells hS_ (i := 6) rfl); go_simp; try (first | rfl | exact (Bool.not_not _).symm))
  try simp only [Act.put, List.setIfInBounds_toArray, List.set_cons_zero, List.set_cons_succ]
  refine wpL_q 18 ?_ rfl (Or.inl ⟨by rfl, fun w_ hS_ => ?_⟩) (marks 24 516063) ?_
  rotate_left
  next => (go_simp; try (first | rfl | exact (Bool.not_not _).symm))
  try simp only [Act.put, List.setIfInBounds_toArray, List.set_cons_zero, List.set_cons_succ]
  refine wpL_q 19 ?_ rfl (Or.inl ⟨by rfl, fun w_ hS_ => ?_⟩) (marks 24 1040351) ?_
  rotate_left
  next => (go_simp; try (first | rfl | exact (Bool.not_not _).symm))
  try simp only [Act.put, List.setIfInBounds_toArray, List.set_cons_zero, List.set_cons_succ]
  refine wpL_m 20 ?_ rfl (.tail _ (.tail _ (.tail _ (.tail _ (.head _))))) (Or.inl ⟨by rfl, fun w_ hS_ => ?_⟩) (marks 24 2088927) ?_
  rotate_left
  next => (dsimp only at hS_; (try have q0 := Sep.Holds.cells hS_ (i := 0) rfl); (try have q1 := Sep.Holds.cells hS_ (i := 1) rfl); (try have q2 := Sep.Holds.cells hS_ (i := 2) rfl); (try have q3 := Sep.Holds.cells hS_ (i := 3) rfl); (try have q4 := Sep.Holds.cells hS_ (i := 4) rfl); (try have q5 := Sep.Holds.cells hS_ (i := 5) rfl); (try have q6 := Sep.Holds.cells hS_ (i := 6) rfl); go_simp; try (first | rfl | exact (Bool.not_not _).symm))
  try simp only [Act.put, List.setIfInBounds_toArray, List.set_cons_zero, List.set_cons_succ]
  refine wpL_o 5 rfl (by rfl) (marks 24 2088959) ?_
  (refine wp_bsl0 rfl hw ?_; intro b_ w_ hw_; replace hw_ := hw_.newSl (i := 6) rfl 1 0 rfl (by decide); clear hw; have hw := hw_; clear hw_; (try simp only [List.map_cons, List.map_nil, List.getD_cons_zero, List.getD_cons_succ, List.getD_nil, List.set_cons_zero, List.set_cons_succ, List.cons_append, List.nil_append, Act.eval, Array.getD_eq_getD_getElem?, List.getElem?_toArray, List.getElem?_cons_succ, List.getElem?_cons_zero, Option.getD_some, Value.cells] at hw); (try simp (disch := first | (simp; done) | (simp; omega)) only [Sep.mid_set, Sep.mid_set2, Sep.mid_set0, Sep.mid_splice, Sep.mid_splice0, List.set_cons_zero, List.set_cons_succ] at hw); (try simp only [Sep.splice, List.take_succ_cons, List.take_zero, List.drop_succ_cons, List.drop_zero, List.length_cons, List.length_nil, Nat.reduceAdd, List.cons_append, List.nil_append] at hw); (try replace hc0 := Sep.Holds.cells hw (i := 0) rfl); (try replace hc1 := Sep.Holds.cells hw (i := 1) rfl); (try replace hc2 := Sep.Holds.cells hw (i := 2) rfl); (try replace hc3 := Sep.Holds.cells hw (i := 3) rfl); (try replace hc4 := Sep.Holds.cells hw (i := 4) rfl); (try replace hc5 := Sep.Holds.cells hw (i := 5) rfl); (try replace hc6 := Sep.Holds.cells hw (i := 6) rfl))
  refine ⟨(SL.keep (by exact hw.sel [1, 2] (by decide)) (SL.keep (by exact hw.sel [1, 2] (by decide)) (SL.keep (by exact hw.sel [1, 2] (by decide)) (SL.keep (by exact hw.sel [1, 2] (by decide)) (SL.keep (by exact hw.sel [1, 2] (by decide)) SL.nil))))), ?_⟩
  try simp only [Act.put, List.setIfInBounds_toArray, List.set_cons_zero, List.set_cons_succ]
  refine wpL_o 13 rfl (by rfl) (marks 24 2097151) ?_
  (refine wp_appendSl (i := 6) (j := 4) (u := .slice a nt c) (m := nt) (news := encI (ints lt)) rfl rfl hw rfl rfl rfl (by first | exact encI_one _ | simp [Value.oneCell', Value.cells]) (by rfl) (by (try unfold maxLen); omega) (by (try unfold maxLen); omega) ?_; intro a2_ cap2_ w_ hw_; clear hw; have hw := hw_; clear hw_; (try simp only [List.map_cons, List.map_nil, List.getD_cons_zero, List.getD_cons_succ, List.getD_nil, List.set_cons_zero, List.set_cons_succ, List.cons_append, List.nil_append, Act.eval, Array.getD_eq_getD_getElem?, List.getElem?_toArray, List.getElem?_cons_succ, List.getElem?_cons_zero, Option.getD_some, Value.cells] at hw); (try simp (disch := first | (simp; done) | (simp; omega)) only [Sep.mid_set, Sep.mid_set2, Sep.mid_set0, Sep.mid_splice, Sep.mid_splice0, List.set_cons_zero, List.set_cons_succ] at hw); (try simp only [Sep.splice, List.take_succ_cons, List.take_zero, List.drop_succ_cons, List.drop_zero, List.length_cons, List.length_nil, Nat.reduceAdd, List.cons_append, List.nil_append] at hw); (try replace hc0 := Sep.Holds.cells hw (i := 0) rfl); (try replace hc1 := Sep.Holds.cells hw (i := 1) rfl); (try replace hc2 := Sep.Holds.cells hw (i := 2) rfl); (try replace hc3 := Sep.Holds.cells hw (i := 3) rfl); (try replace hc4 := Sep.Holds.cells hw (i := 4) rfl); (try replace hc5 := Sep.Holds.cells hw (i := 5) rfl); (try replace hc6 := Sep.Holds.cells hw (i := 6) rfl))
  refine ⟨(SL.keep (by exact hw.sel [1, 2] (by decide)) (SL.drop 13 (by kernel_rfl) (SL.drop 13 (by kernel_rfl) (SL.keep (by exact hw.sel [1, 2] (by decide)) (SL.keep (by exact hw.sel [1, 2] (by decide)) SL.nil))))), ?_⟩
  try simp only [Act.put, List.setIfInBounds_toArray, List.set_cons_zero, List.set_cons_succ]
  refine wpL_o 21 rfl (by rfl) (marks 24 4194303) ?_
  (refine wp_appendSl (i := 6) (j := 5) (u := .slice a2 nf c2) (m := nf) (news := encI (ints lf)) rfl rfl hw rfl rfl rfl (by first | exact encI_one _ | simp [Value.oneCell', Value.cells]) (by rfl) (by (try unfold maxLen); omega) (by (try unfold maxLen); omega) ?_; intro a2_ cap2_ w_ hw_; clear hw; have hw := hw_; clear hw_; (try simp only [List.map_cons, List.map_nil, List.getD_cons_zero, List.getD_cons_succ, List.getD_nil, List.set_cons_zero, List.set_cons_succ, List.cons_append, List.nil_append, Act.eval, Array.getD_eq_getD_getElem?, List.getElem?_toArray, List.getElem?_cons_succ, List.getElem?_cons_zero, Option.getD_some, Value.cells] at hw); (try simp (disch := first | (simp; done) | (simp; omega)) only [Sep.mid_set, Sep.mid_set2, Sep.mid_set0, Sep.mid_splice, Sep.mid_splice0, List.set_cons_zero, List.set_cons_succ] at hw); (try simp only [Sep.splice, List.take_succ_cons, List.take_zero, List.drop_succ_cons, List.drop_zero, List.length_cons, List.length_nil, Nat.reduceAdd, List.cons_append, List.nil_append] at hw); (try replace hc0 := Sep.Holds.cells hw (i := 0) rfl); (try replace hc1 := Sep.Holds.cells hw (i := 1) rfl); (try replace hc2 := Sep.Holds.cells hw (i := 2) rfl); (try replace hc3 := Sep.Holds.cells hw (i := 3) rfl); (try replace hc4 := Sep.Holds.cells hw (i := 4) rfl); (try replace hc5 := Sep.Holds.cells hw (i := 5) rfl); (try replace hc6 := Sep.Holds.cells hw (i := 6) rfl))
  refine ⟨(SL.keep (by exact hw.sel [1, 2] (by decide)) (SL.drop 13 (by kernel_rfl) (SL.drop 13 (by kernel_rfl) (SL.drop 21 (by kernel_rfl) (SL.drop 21 (by kernel_rfl) SL.nil))))), ?_⟩
  try simp only [Act.put, List.setIfInBounds_toArray, List.set_cons_zero, List.set_cons_succ]
  refine wpL_q 22 ?_ rfl (Or.inl ⟨by rfl, fun w_ hS_ => ?_⟩) (marks 24 8388607) ?_
  rotate_left
  next => (go_simp; try (first | rfl | exact (Bool.not_not _).symm))
  try simp only [Act.put, List.setIfInBounds_toArray, List.set_cons_zero, List.set_cons_succ]
  refine wpL_o 23 rfl (by rfl) (marks 24 16777215) ?_
  (refine wp_store1 (v := _) rfl rfl rfl hw (i := 2) rfl Hkt.out rfl ?_; intro w_ hw_; clear hw; have hw := hw_; clear hw_; (try simp only [List.map_cons, List.map_nil, List.getD_cons_zero, List.getD_cons_succ, List.getD_nil, List.set_cons_zero, List.set_cons_succ, List.cons_append, List.nil_append, Act.eval, Array.getD_eq_getD_getElem?, List.getElem?_toArray, List.getElem?_cons_succ, List.getElem?_cons_zero, Option.getD_some, Value.cells] at hw); (try simp (disch := first | (simp; done) | (simp; omega)) only [Sep.mid_set, Sep.mid_set2, Sep.mid_set0, Sep.mid_splice, Sep.mid_splice0, List.set_cons_zero, List.set_cons_succ] at hw); (try simp only [Sep.splice, List.take_succ_cons, List.take_zero, List.drop_succ_cons, List.drop_zero, List.length_cons, List.length_nil, Nat.reduceAdd, List.cons_append, List.nil_append] at hw); (try replace hc0 := Sep.Holds.cells hw (i := 0) rfl); (try replace hc1 := Sep.Holds.cells hw (i := 1) rfl); (try replace hc2 := Sep.Holds.cells hw (i := 2) rfl); (try replace hc3 := Sep.Holds.cells hw (i := 3) rfl); (try replace hc4 := Sep.Holds.cells hw (i := 4) rfl); (try replace hc5 := Sep.Holds.cells hw (i := 5) rfl); (try replace hc6 := Sep.Holds.cells hw (i := 6) rfl))
  refine ⟨(SL.drop 23 (by kernel_rfl) (SL.drop 13 (by kernel_rfl) (SL.drop 13 (by kernel_rfl) (SL.drop 21 (by kernel_rfl) (SL.drop 21 (by kernel_rfl) SL.nil))))), ?_⟩
  try simp only [Act.put, List.setIfInBounds_toArray, List.set_cons_zero, List.set_cons_succ]
  refine wpL_done (by kernel_rfl) ?_ _
  skip
  go_wp2_with (refine wpList_on rfl ?_; (refine wp_store1 (v := _) rfl rfl rfl hw (i := 2) rfl (by rw [List.length_set]; exact Hkf.out) rfl ?_; intro w_ hw_; clear hw; have hw := hw_; clear hw_; (try simp only [List.map_cons, List.map_nil, List.getD_cons_zero, List.getD_cons_succ, List.getD_nil, List.set_cons_zero, List.set_cons_succ, List.cons_append, List.nil_append, Act.eval, Array.getD_eq_getD_getElem?, List.getElem?_toArray, List.getElem?_cons_succ, List.getElem?_cons_zero, Option.getD_some, Value.cells] at hw); (try simp (disch := first | (simp; done) | (simp; omega)) only [Sep.mid_set, Sep.mid_set2, Sep.mid_set0, Sep.mid_splice, Sep.mid_splice0, List.set_cons_zero, List.set_cons_succ] at hw); (try simp only [Sep.splice, List.take_succ_cons, List.take_zero, List.drop_succ_cons, List.drop_zero, List.length_cons, List.length_nil, Nat.reduceAdd, List.cons_append, List.nil_append] at hw); (try replace hc0 := Sep.Holds.cells hw (i := 0) rfl); (try replace hc1 := Sep.Holds.cells hw (i := 1) rfl); (try replace hc2 := Sep.Holds.cells hw (i := 2) rfl); (try replace hc3 := Sep.Holds.cells hw (i := 3) rfl); (try replace hc4 := Sep.Holds.cells hw (i := 4) rfl); (try replace hc5 := Sep.Holds.cells hw (i := 5) rfl); (try replace hc6 := Sep.Holds.cells hw (i := 6) rfl)))
  have hm := Hm.out; subst hm
  exact HP.out _ _ ⟨rfl, ra_close2 (l' := lt ++ lf) Hne.out hfm htm Hvl.out (by rw [ints_length, List.length_append, Hnt.out, Hnf.out]; omega) (by simp [ints, encI]) (hw.sel [0, 1, 2, 3, 6] (by decide))⟩
set_option maxHeartbeats 1600000 in
theorem fMove (p : Nat) (R : Ring) (hW : R.Wf) (hb : R.n ≤ 1000 ∧ R.rows.length ≤ 1000) (f t : Int) (e w : World) (X : HProp) (hw : Holds e w [X, IsRA p R]) :
    Calls Try.prog 27 #[.pointer (some ⟨p, 0, none⟩), .int .i64 f, .int .i64 t] w fun en w' => en = .returned (.int .i64 (R.moveE f t)) ∧ Holds e w' [X, IsRA p (R.move f t)] := by
  have Hw0 := Sep.hid hw
  cases hf : R.isRow f with
  | false =>
    have hE : R.moveE f t = 3 := by unfold Ring.moveE; rw [hf]; rfl
    have hM : R.move f t = R := by unfold Ring.move; rw [hE, if_neg (by decide)]
    rw [hE, hM]; clear hE hM
    have Hf := Sep.hid hf; clear hf hw hW hb
    refine Sep.calls_post ?_
    intro Post_ hPost_
    have HP := Sep.hid hPost_
    clear hPost_
    go_enter Try.func27, Try.ntmps27
    go_wp2_with fail
    refine (fRow p R f e _ _ Hw0.out).mono ?_
    rintro _ w_ ⟨rfl, rfl⟩
    rw [Hf.out]
    go_wp2_with fail
    exact HP.out _ _ ⟨rfl, Hw0.out⟩
  | true =>
    cases ht : R.isRow t with
    | false =>
      have hE : R.moveE f t = 3 := by unfold Ring.moveE; rw [hf, ht]; rfl
      have hM : R.move f t = R := by unfold Ring.move; rw [hE, if_neg (by decide)]
      rw [hE, hM]; clear hE hM
      have Hf := Sep.hid hf; have Ht := Sep.hid ht; clear hf ht hw hW hb
      refine Sep.calls_post ?_
      intro Post_ hPost_
      have HP := Sep.hid hPost_
      clear hPost_
      go_enter Try.func27, Try.ntmps27
      go_wp2_with fail
      refine (fRow p R f e _ _ Hw0.out).mono ?_
      rintro _ w_ ⟨rfl, rfl⟩
      rw [Hf.out]
      go_wp2_with fail
      refine (fRow p R t e _ _ Hw0.out).mono ?_
      rintro _ w_ ⟨rfl, rfl⟩
      rw [Ht.out]
      go_wp2_with fail
      exact HP.out _ _ ⟨rfl, Hw0.out⟩
    | true =>
      by_cases hft : f = t
      · subst hft
        have hE : R.moveE f f = 1 := by unfold Ring.moveE; rw [hf]; simp
        have hM : R.move f f = R := by unfold Ring.move; rw [hE, if_neg (by decide)]
        rw [hE, hM]; clear hE hM
        have Hf := Sep.hid hf; clear hf ht hw hW hb
        refine Sep.calls_post ?_
        intro Post_ hPost_
        have HP := Sep.hid hPost_
        clear hPost_
        go_enter Try.func27, Try.ntmps27
        go_wp2_with fail
        refine (fRow p R f e _ _ Hw0.out).mono ?_
        rintro _ w_ ⟨rfl, rfl⟩
        rw [Hf.out]
        go_wp2_with fail
        refine (fRow p R f e _ _ Hw0.out).mono ?_
        rintro _ w_ ⟨rfl, rfl⟩
        rw [Hf.out]
        go_wp2_with fail
        exact HP.out _ _ ⟨rfl, Hw0.out⟩
      · have hE : R.moveE f t = 0 := by unfold Ring.moveE; rw [hf, ht]; simp [hft]
        have hM : R.move f t = R.two f.toNat t.toNat [] (R.row t ++ R.row f) := by unfold Ring.move; rw [hE, if_pos rfl]
        obtain ⟨kf, lf, rfl, h1, h2⟩ := isRow_get hf
        obtain ⟨kt, lt, rfl, h3, h4⟩ := isRow_get ht
        rw [hE, hM, h2, h4]
        simp only [Int.toNat_natCast]
        exact moveOk p R hW hb kf kt lf lt (fun h => hft (by rw [h])) h1 h3 hf ht e w X hw
set_option maxHeartbeats 4000000 in
theorem own_calls (p : Nat) (R : Ring) (hW : R.Wf) (hbd : R.n ≤ 1000 ∧ R.rows.length ≤ 1000) (d : Deed) (e w : World) (X : HProp) (hw : Holds e w [X, IsRA p R]) :
    Calls Try.prog 10 #[.pointer (some ⟨p, 0, none⟩), .agg (encA d).toArray] w fun en w' => en = .returned (.tuple #[.int .i64 (ract R d).1, .int .i64 (ract R d).2.1, .bool (ract R d).2.2.1]) ∧ Holds e w' [X, IsRA p (ract R d).2.2.2] := by
  have hA : encA d = [.int .i64 d.f0, .int .i64 d.f1, .int .i64 d.f2] := rfl
  have HW := Sep.hid hW; have Hbd := Sep.hid hbd; clear hW hbd
  by_cases h0 : d.f0 = 0
  · have hb : ract R d = (R.mayE d.f1 d.f2, 0, false, R.add false d.f1 d.f2) := by unfold ract; rw [if_pos h0]
    rw [hb, hA]; clear hb hA
    refine Sep.calls_post ?_
    intro Post_ hPost_
    have HP := Sep.hid hPost_
    clear hPost_
    go_enter Try.func10, Try.ntmps10
    go_wp2_with (refine wpList_on rfl (wp_box rfl hw ?_); intro b_ w_ hw_; clear hw; have hw := hw_; clear hw_; (try simp only [List.map_cons, List.map_nil, List.getD_cons_zero, List.getD_cons_succ, List.getD_nil, List.set_cons_zero, List.set_cons_succ, List.cons_append, List.nil_append, Act.eval, Array.getD_eq_getD_getElem?, List.getElem?_toArray, List.getElem?_cons_succ, List.getElem?_cons_zero, Option.getD_some, Value.cells] at hw); (try simp (disch := first | (simp; done) | (simp; omega)) only [Sep.mid_set, Sep.mid_set2, Sep.mid_set0, Sep.mid_splice, Sep.mid_splice0, List.set_cons_zero, List.set_cons_succ] at hw); (try simp only [Sep.splice, List.take_succ_cons, List.take_zero, List.drop_succ_cons, List.drop_zero, List.length_cons, List.length_nil, Nat.reduceAdd, List.cons_append, List.nil_append] at hw); (try replace hc0 := Sep.Holds.cells hw (i := 0) rfl); (try replace hc1 := Sep.Holds.cells hw (i := 1) rfl); (try replace hc2 := Sep.Holds.cells hw (i := 2) rfl); (try replace hc3 := Sep.Holds.cells hw (i := 3) rfl); (try replace hc4 := Sep.Holds.cells hw (i := 4) rfl); (try replace hc5 := Sep.Holds.cells hw (i := 5) rfl); (try replace hc6 := Sep.Holds.cells hw (i := 6) rfl))
    refine (fPut p R HW.out Hbd.out d.f1 d.f2 false e _ _ (hw.focus1 1 rfl)).mono ?_
    rintro en_ w_ ⟨rfl, hw_⟩
    clear hw; (try clear hc0); (try clear hc1); (try clear hc2); (try clear hc3); (try clear hc4); (try clear hc5); (try clear hc6); have hw := Holds.unfocus1 1 (by simp) hw_; clear hw_
    (try simp only [List.map_cons, List.map_nil, List.getD_cons_zero, List.getD_cons_succ, List.getD_nil, List.set_cons_zero, List.set_cons_succ, List.cons_append, List.nil_append, Act.eval, Array.getD_eq_getD_getElem?, List.getElem?_toArray, List.getElem?_cons_succ, List.getElem?_cons_zero, Option.getD_some, Value.cells] at hw); (try simp (disch := first | (simp; done) | (simp; omega)) only [Sep.mid_set, Sep.mid_set2, Sep.mid_set0, Sep.mid_splice, Sep.mid_splice0, List.set_cons_zero, List.set_cons_succ] at hw); (try simp only [Sep.splice, List.take_succ_cons, List.take_zero, List.drop_succ_cons, List.drop_zero, List.length_cons, List.length_nil, Nat.reduceAdd, List.cons_append, List.nil_append] at hw)
    go_wp2_with fail
    (try simp only [Exit.inBlock, Exit.then]); refine ret3 rfl rfl rfl rfl rfl ?_
    exact HP.out _ _ ⟨rfl, hw.sel [0, 1] (by decide)⟩
  by_cases h1 : d.f0 = 1
  · have hb : ract R d = (R.mayE d.f1 d.f2, 0, false, R.add true d.f1 d.f2) := by unfold ract; rw [if_neg h0, if_pos h1]
    clear h0
    rw [hb, hA]; clear hb hA
    refine Sep.calls_post ?_
    intro Post_ hPost_
    have HP := Sep.hid hPost_
    clear hPost_
    go_enter Try.func10, Try.ntmps10
    go_wp2_with (refine wpList_on rfl (wp_box rfl hw ?_); intro b_ w_ hw_; clear hw; have hw := hw_; clear hw_; (try simp only [List.map_cons, List.map_nil, List.getD_cons_zero, List.getD_cons_succ, List.getD_nil, List.set_cons_zero, List.set_cons_succ, List.cons_append, List.nil_append, Act.eval, Array.getD_eq_getD_getElem?, List.getElem?_toArray, List.getElem?_cons_succ, List.getElem?_cons_zero, Option.getD_some, Value.cells] at hw); (try simp (disch := first | (simp; done) | (simp; omega)) only [Sep.mid_set, Sep.mid_set2, Sep.mid_set0, Sep.mid_splice, Sep.mid_splice0, List.set_cons_zero, List.set_cons_succ] at hw); (try simp only [Sep.splice, List.take_succ_cons, List.take_zero, List.drop_succ_cons, List.drop_zero, List.length_cons, List.length_nil, Nat.reduceAdd, List.cons_append, List.nil_append] at hw); (try replace hc0 := Sep.Holds.cells hw (i := 0) rfl); (try replace hc1 := Sep.Holds.cells hw (i := 1) rfl); (try replace hc2 := Sep.Holds.cells hw (i := 2) rfl); (try replace hc3 := Sep.Holds.cells hw (i := 3) rfl); (try replace hc4 := Sep.Holds.cells hw (i := 4) rfl); (try replace hc5 := Sep.Holds.cells hw (i := 5) rfl); (try replace hc6 := Sep.Holds.cells hw (i := 6) rfl))
    refine (fPut p R HW.out Hbd.out d.f1 d.f2 true e _ _ (hw.focus1 1 rfl)).mono ?_
    rintro en_ w_ ⟨rfl, hw_⟩
    clear hw; (try clear hc0); (try clear hc1); (try clear hc2); (try clear hc3); (try clear hc4); (try clear hc5); (try clear hc6); have hw := Holds.unfocus1 1 (by simp) hw_; clear hw_
    (try simp only [List.map_cons, List.map_nil, List.getD_cons_zero, List.getD_cons_succ, List.getD_nil, List.set_cons_zero, List.set_cons_succ, List.cons_append, List.nil_append, Act.eval, Array.getD_eq_getD_getElem?, List.getElem?_toArray, List.getElem?_cons_succ, List.getElem?_cons_zero, Option.getD_some, Value.cells] at hw); (try simp (disch := first | (simp; done) | (simp; omega)) only [Sep.mid_set, Sep.mid_set2, Sep.mid_set0, Sep.mid_splice, Sep.mid_splice0, List.set_cons_zero, List.set_cons_succ] at hw); (try simp only [Sep.splice, List.take_succ_cons, List.take_zero, List.drop_succ_cons, List.drop_zero, List.length_cons, List.length_nil, Nat.reduceAdd, List.cons_append, List.nil_append] at hw)
    go_wp2_with fail
    (try simp only [Exit.inBlock, Exit.then]); refine ret3 rfl rfl rfl rfl rfl ?_
    exact HP.out _ _ ⟨rfl, hw.sel [0, 1] (by decide)⟩
  by_cases h2 : d.f0 = 2
  · have hb : ract R d = (0, R.first d.f1, !decide (R.in_ (R.first d.f1) = -1), R.drop (R.first d.f1)) := by unfold ract; rw [if_neg h0, if_neg h1, if_pos h2]
    clear h0 h1
    generalize hq : (!decide (R.in_ (R.first d.f1) = -1)) = bq at *
    have Hq := Sep.hid hq; clear hq
    rw [hb, hA]; clear hb hA
    refine Sep.calls_post ?_
    intro Post_ hPost_
    have HP := Sep.hid hPost_
    clear hPost_
    go_enter Try.func10, Try.ntmps10
    go_wp2_with (refine wpList_on rfl (wp_box rfl hw ?_); intro b_ w_ hw_; clear hw; have hw := hw_; clear hw_; (try simp only [List.map_cons, List.map_nil, List.getD_cons_zero, List.getD_cons_succ, List.getD_nil, List.set_cons_zero, List.set_cons_succ, List.cons_append, List.nil_append, Act.eval, Array.getD_eq_getD_getElem?, List.getElem?_toArray, List.getElem?_cons_succ, List.getElem?_cons_zero, Option.getD_some, Value.cells] at hw); (try simp (disch := first | (simp; done) | (simp; omega)) only [Sep.mid_set, Sep.mid_set2, Sep.mid_set0, Sep.mid_splice, Sep.mid_splice0, List.set_cons_zero, List.set_cons_succ] at hw); (try simp only [Sep.splice, List.take_succ_cons, List.take_zero, List.drop_succ_cons, List.drop_zero, List.length_cons, List.length_nil, Nat.reduceAdd, List.cons_append, List.nil_append] at hw); (try replace hc0 := Sep.Holds.cells hw (i := 0) rfl); (try replace hc1 := Sep.Holds.cells hw (i := 1) rfl); (try replace hc2 := Sep.Holds.cells hw (i := 2) rfl); (try replace hc3 := Sep.Holds.cells hw (i := 3) rfl); (try replace hc4 := Sep.Holds.cells hw (i := 4) rfl); (try replace hc5 := Sep.Holds.cells hw (i := 5) rfl); (try replace hc6 := Sep.Holds.cells hw (i := 6) rfl))
    refine (fTake p R HW.out Hbd.out d.f1 e _ _ (hw.focus1 1 rfl)).mono ?_
    rintro en_ w_ ⟨rfl, hw_⟩
    clear hw; (try clear hc0); (try clear hc1); (try clear hc2); (try clear hc3); (try clear hc4); (try clear hc5); (try clear hc6); have hw := Holds.unfocus1 1 (by simp) hw_; clear hw_
    (try simp only [List.map_cons, List.map_nil, List.getD_cons_zero, List.getD_cons_succ, List.getD_nil, List.set_cons_zero, List.set_cons_succ, List.cons_append, List.nil_append, Act.eval, Array.getD_eq_getD_getElem?, List.getElem?_toArray, List.getElem?_cons_succ, List.getElem?_cons_zero, Option.getD_some, Value.cells] at hw); (try simp (disch := first | (simp; done) | (simp; omega)) only [Sep.mid_set, Sep.mid_set2, Sep.mid_set0, Sep.mid_splice, Sep.mid_splice0, List.set_cons_zero, List.set_cons_succ] at hw); (try simp only [Sep.splice, List.take_succ_cons, List.take_zero, List.drop_succ_cons, List.drop_zero, List.length_cons, List.length_nil, Nat.reduceAdd, List.cons_append, List.nil_append] at hw)
    rw [Hq.out]
    go_wp2_with fail
    (try simp only [Exit.inBlock, Exit.then]); refine ret3 rfl rfl rfl rfl rfl ?_
    exact HP.out _ _ ⟨rfl, hw.sel [0, 1] (by decide)⟩
  by_cases h3 : d.f0 = 3
  · have hb : ract R d = (0, 0, !decide (R.in_ d.f1 = -1), R.drop d.f1) := by unfold ract; rw [if_neg h0, if_neg h1, if_neg h2, if_pos h3]
    clear h0 h1 h2
    generalize hq : (!decide (R.in_ d.f1 = -1)) = bq at *
    have Hq := Sep.hid hq; clear hq
    rw [hb, hA]; clear hb hA
    refine Sep.calls_post ?_
    intro Post_ hPost_
    have HP := Sep.hid hPost_
    clear hPost_
    go_enter Try.func10, Try.ntmps10
    go_wp2_with (refine wpList_on rfl (wp_box rfl hw ?_); intro b_ w_ hw_; clear hw; have hw := hw_; clear hw_; (try simp only [List.map_cons, List.map_nil, List.getD_cons_zero, List.getD_cons_succ, List.getD_nil, List.set_cons_zero, List.set_cons_succ, List.cons_append, List.nil_append, Act.eval, Array.getD_eq_getD_getElem?, List.getElem?_toArray, List.getElem?_cons_succ, List.getElem?_cons_zero, Option.getD_some, Value.cells] at hw); (try simp (disch := first | (simp; done) | (simp; omega)) only [Sep.mid_set, Sep.mid_set2, Sep.mid_set0, Sep.mid_splice, Sep.mid_splice0, List.set_cons_zero, List.set_cons_succ] at hw); (try simp only [Sep.splice, List.take_succ_cons, List.take_zero, List.drop_succ_cons, List.drop_zero, List.length_cons, List.length_nil, Nat.reduceAdd, List.cons_append, List.nil_append] at hw); (try replace hc0 := Sep.Holds.cells hw (i := 0) rfl); (try replace hc1 := Sep.Holds.cells hw (i := 1) rfl); (try replace hc2 := Sep.Holds.cells hw (i := 2) rfl); (try replace hc3 := Sep.Holds.cells hw (i := 3) rfl); (try replace hc4 := Sep.Holds.cells hw (i := 4) rfl); (try replace hc5 := Sep.Holds.cells hw (i := 5) rfl); (try replace hc6 := Sep.Holds.cells hw (i := 6) rfl))
    refine (fDrop p R HW.out Hbd.out d.f1 e _ _ (hw.focus1 1 rfl)).mono ?_
    rintro en_ w_ ⟨rfl, hw_⟩
    clear hw; (try clear hc0); (try clear hc1); (try clear hc2); (try clear hc3); (try clear hc4); (try clear hc5); (try clear hc6); have hw := Holds.unfocus1 1 (by simp) hw_; clear hw_
    (try simp only [List.map_cons, List.map_nil, List.getD_cons_zero, List.getD_cons_succ, List.getD_nil, List.set_cons_zero, List.set_cons_succ, List.cons_append, List.nil_append, Act.eval, Array.getD_eq_getD_getElem?, List.getElem?_toArray, List.getElem?_cons_succ, List.getElem?_cons_zero, Option.getD_some, Value.cells] at hw); (try simp (disch := first | (simp; done) | (simp; omega)) only [Sep.mid_set, Sep.mid_set2, Sep.mid_set0, Sep.mid_splice, Sep.mid_splice0, List.set_cons_zero, List.set_cons_succ] at hw); (try simp only [Sep.splice, List.take_succ_cons, List.take_zero, List.drop_succ_cons, List.drop_zero, List.length_cons, List.length_nil, Nat.reduceAdd, List.cons_append, List.nil_append] at hw)
    rw [Hq.out]
    go_wp2_with fail
    (try simp only [Exit.inBlock, Exit.then]); refine ret3 rfl rfl rfl rfl rfl ?_
    exact HP.out _ _ ⟨rfl, hw.sel [0, 1] (by decide)⟩
  by_cases h4 : d.f0 = 4
  · have hb : ract R d = (R.moveE d.f1 d.f2, 0, false, R.move d.f1 d.f2) := by unfold ract; rw [if_neg h0, if_neg h1, if_neg h2, if_neg h3, if_pos h4]
    clear h0 h1 h2 h3
    rw [hb, hA]; clear hb hA
    refine Sep.calls_post ?_
    intro Post_ hPost_
    have HP := Sep.hid hPost_
    clear hPost_
    go_enter Try.func10, Try.ntmps10
    go_wp2_with (refine wpList_on rfl (wp_box rfl hw ?_); intro b_ w_ hw_; clear hw; have hw := hw_; clear hw_; (try simp only [List.map_cons, List.map_nil, List.getD_cons_zero, List.getD_cons_succ, List.getD_nil, List.set_cons_zero, List.set_cons_succ, List.cons_append, List.nil_append, Act.eval, Array.getD_eq_getD_getElem?, List.getElem?_toArray, List.getElem?_cons_succ, List.getElem?_cons_zero, Option.getD_some, Value.cells] at hw); (try simp (disch := first | (simp; done) | (simp; omega)) only [Sep.mid_set, Sep.mid_set2, Sep.mid_set0, Sep.mid_splice, Sep.mid_splice0, List.set_cons_zero, List.set_cons_succ] at hw); (try simp only [Sep.splice, List.take_succ_cons, List.take_zero, List.drop_succ_cons, List.drop_zero, List.length_cons, List.length_nil, Nat.reduceAdd, List.cons_append, List.nil_append] at hw); (try replace hc0 := Sep.Holds.cells hw (i := 0) rfl); (try replace hc1 := Sep.Holds.cells hw (i := 1) rfl); (try replace hc2 := Sep.Holds.cells hw (i := 2) rfl); (try replace hc3 := Sep.Holds.cells hw (i := 3) rfl); (try replace hc4 := Sep.Holds.cells hw (i := 4) rfl); (try replace hc5 := Sep.Holds.cells hw (i := 5) rfl); (try replace hc6 := Sep.Holds.cells hw (i := 6) rfl))
    refine (fMove p R HW.out Hbd.out d.f1 d.f2 e _ _ (hw.focus1 1 rfl)).mono ?_
    rintro en_ w_ ⟨rfl, hw_⟩
    clear hw; (try clear hc0); (try clear hc1); (try clear hc2); (try clear hc3); (try clear hc4); (try clear hc5); (try clear hc6); have hw := Holds.unfocus1 1 (by simp) hw_; clear hw_
    (try simp only [List.map_cons, List.map_nil, List.getD_cons_zero, List.getD_cons_succ, List.getD_nil, List.set_cons_zero, List.set_cons_succ, List.cons_append, List.nil_append, Act.eval, Array.getD_eq_getD_getElem?, List.getElem?_toArray, List.getElem?_cons_succ, List.getElem?_cons_zero, Option.getD_some, Value.cells] at hw); (try simp (disch := first | (simp; done) | (simp; omega)) only [Sep.mid_set, Sep.mid_set2, Sep.mid_set0, Sep.mid_splice, Sep.mid_splice0, List.set_cons_zero, List.set_cons_succ] at hw); (try simp only [Sep.splice, List.take_succ_cons, List.take_zero, List.drop_succ_cons, List.drop_zero, List.length_cons, List.length_nil, Nat.reduceAdd, List.cons_append, List.nil_append] at hw)
    go_wp2_with fail
    (try simp only [Exit.inBlock, Exit.then]); refine ret3 rfl rfl rfl rfl rfl ?_
    exact HP.out _ _ ⟨rfl, hw.sel [0, 1] (by decide)⟩
  · have hb : ract R d = (0, 0, false, R) := by unfold ract; rw [if_neg h0, if_neg h1, if_neg h2, if_neg h3, if_neg h4]
    rw [hb, hA]; clear hb hA
    refine Sep.calls_post ?_
    intro Post_ hPost_
    have HP := Sep.hid hPost_
    clear hPost_
    go_enter Try.func10, Try.ntmps10
    go_wp2_with (refine wpList_on rfl (wp_box rfl hw ?_); intro b_ w_ hw_; clear hw; have hw := hw_; clear hw_; (try simp only [List.map_cons, List.map_nil, List.getD_cons_zero, List.getD_cons_succ, List.getD_nil, List.set_cons_zero, List.set_cons_succ, List.cons_append, List.nil_append, Act.eval, Array.getD_eq_getD_getElem?, List.getElem?_toArray, List.getElem?_cons_succ, List.getElem?_cons_zero, Option.getD_some, Value.cells] at hw); (try simp (disch := first | (simp; done) | (simp; omega)) only [Sep.mid_set, Sep.mid_set2, Sep.mid_set0, Sep.mid_splice, Sep.mid_splice0, List.set_cons_zero, List.set_cons_succ] at hw); (try simp only [Sep.splice, List.take_succ_cons, List.take_zero, List.drop_succ_cons, List.drop_zero, List.length_cons, List.length_nil, Nat.reduceAdd, List.cons_append, List.nil_append] at hw); (try replace hc0 := Sep.Holds.cells hw (i := 0) rfl); (try replace hc1 := Sep.Holds.cells hw (i := 1) rfl); (try replace hc2 := Sep.Holds.cells hw (i := 2) rfl); (try replace hc3 := Sep.Holds.cells hw (i := 3) rfl); (try replace hc4 := Sep.Holds.cells hw (i := 4) rfl); (try replace hc5 := Sep.Holds.cells hw (i := 5) rfl); (try replace hc6 := Sep.Holds.cells hw (i := 6) rfl))
    go_wp2_with fail
    (try simp only [Exit.inBlock, Exit.then]); refine ret3 rfl rfl rfl rfl rfl ?_
    exact HP.out _ _ ⟨rfl, hw.sel [0, 1] (by decide)⟩
end Go.Proofs.Ytmjpppemdjknoaa
