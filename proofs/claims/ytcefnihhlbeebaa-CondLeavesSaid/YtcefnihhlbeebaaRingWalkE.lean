/-
  The walk of an arena's List.
-/
import Derived.Test.YtcefnihhlbeebaaRingWalkD
import Derived.Test.YtcefnihhlbeebaaInts
namespace Go.Proofs.Ytcefnihhlbeebaa
set_option linter.unusedSimpArgs false
set_option linter.unusedVariables false
open Go.RowKit Go.Sep Go.RingM

def ints (l : List Nat) : List Int := l.map (fun (k : Nat) => (k : Int))
theorem ints_length (l : List Nat) : (ints l).length = l.length := by simp [ints]
theorem ints_snoc (l : List Nat) (y : Nat) : encI (ints (l ++ [y])) = encI (ints l) ++ [.int .i64 (y : Int)] := by simp [ints, encI]

set_option maxHeartbeats 4000000 in
theorem rList_calls (p : Nat) (R : Ring) (r : Int) (e w : World) (X : HProp) (hw : Holds e w [X, IsRing p R]) :
    Calls Try.prog 21 #[.pointer (some ⟨p, 0, none⟩), .int .i64 r] w fun en w' => ∃ v, en = .returned v ∧ Holds e w' [X, IsRing p R, IsInts v (ints (R.row r))] := by
  cases hr : R.isRow r with
  | false =>
    have e1 : R.row r = [] := by simp [Ring.row, hr]
    rw [e1]
    have hw1 := hw
    obtain ⟨x, nx, pv, hok, hw⟩ := IsRing.open_ hw; have Hok := Sep.hid hok; clear hok; obtain ⟨N, hN⟩ : ∃ N, R.n + R.rows.length = N := ⟨_, rfl⟩; have HN := Sep.hid hN; have hrc0 : (ringCells R x)[0]? = some (.slice (some ⟨x.bn, 0, none⟩) N N) := by rw [← hN]; rfl
    have hrc1 : (ringCells R x)[1]? = some (.slice (some ⟨x.bp, 0, none⟩) N N) := by rw [← hN]; rfl
    have hrc2 : (ringCells R x)[2]? = some (.slice (some ⟨x.bi, 0, none⟩) R.n R.n) := rfl
    have hrc3 : (ringCells R x)[3]? = some (.slice (some ⟨x.bl, 0, none⟩) R.rows.length R.rows.length) := rfl
    clear hN; have Hc := Sep.hid (hw.cells (i := 1) rfl); (try replace hc0 := Sep.Holds.cells hw (i := 0) rfl); (try replace hc1 := Sep.Holds.cells hw (i := 1) rfl); (try replace hc2 := Sep.Holds.cells hw (i := 2) rfl); (try replace hc3 := Sep.Holds.cells hw (i := 3) rfl); (try replace hc4 := Sep.Holds.cells hw (i := 4) rfl); (try replace hc5 := Sep.Holds.cells hw (i := 5) rfl); (try replace hc6 := Sep.Holds.cells hw (i := 6) rfl)
    refine Sep.calls_post ?_
    intro Post_ hPost_
    have HP := Sep.hid hPost_
    clear hPost_
    go_enter Try.func21, Try.ntmps21
    go_wp2_with (go_at_call 25; refine (rRow_calls p R x r _ Hc.out).mono ?_; rintro _ w_ ⟨rfl, rfl⟩; rw [hr])
    exact HP.out _ _ ⟨_, rfl, hw1.addEmp (Sl.nil _ _ _)⟩
  | true =>
    have h' := hr
    simp only [Ring.isRow, Bool.and_eq_true, decide_eq_true_eq] at h'
    obtain ⟨r, rfl⟩ := Int.eq_ofNat_of_zero_le h'.1
    have hrl : r < R.rows.length := by omega
    clear h'
    obtain ⟨l, hl⟩ : ∃ l, R.rows[r]? = some l := ⟨_, List.getElem?_eq_getElem hrl⟩
    rw [Ring.row_of hl]
    obtain ⟨x, nx, pv, hok, hw⟩ := IsRing.open_ hw; have Hok := Sep.hid hok; clear hok; obtain ⟨N, hN⟩ : ∃ N, R.n + R.rows.length = N := ⟨_, rfl⟩; have HN := Sep.hid hN; have hrc0 : (ringCells R x)[0]? = some (.slice (some ⟨x.bn, 0, none⟩) N N) := by rw [← hN]; rfl
    have hrc1 : (ringCells R x)[1]? = some (.slice (some ⟨x.bp, 0, none⟩) N N) := by rw [← hN]; rfl
    have hrc2 : (ringCells R x)[2]? = some (.slice (some ⟨x.bi, 0, none⟩) R.n R.n) := rfl
    have hrc3 : (ringCells R x)[3]? = some (.slice (some ⟨x.bl, 0, none⟩) R.rows.length R.rows.length) := rfl
    clear hN; have Hc := Sep.hid (hw.cells (i := 1) rfl); (try replace hc0 := Sep.Holds.cells hw (i := 0) rfl); (try replace hc1 := Sep.Holds.cells hw (i := 1) rfl); (try replace hc2 := Sep.Holds.cells hw (i := 2) rfl); (try replace hc3 := Sep.Holds.cells hw (i := 3) rfl); (try replace hc4 := Sep.Holds.cells hw (i := 4) rfl); (try replace hc5 := Sep.Holds.cells hw (i := 5) rfl); (try replace hc6 := Sep.Holds.cells hw (i := 6) rfl)
    have hends : ∀ l1 l2, l = l1 ++ l2 → (nats nx)[lst (R.n + r) l1]? = some (.int .i64 (fst l2 (R.n + r) : Nat)) ∧ lst (R.n + r) l1 < N ∧ ∀ y ∈ l2, y < R.n := by
      intro l1 l2 e
      have h := Hok.out.ends (l1 := l1) (l2 := l2) (r := r) (by rw [← e]; exact hl)
      refine ⟨?_, by rw [← HN.out]; exact h.2.2.1, fun y hy => (Hok.out.wf.one r _ hl).2 y (by rw [e]; exact List.mem_append_right _ hy)⟩
      rw [nats_get (by rw [Hok.out.laid.lenN]; exact h.2.2.1), h.1]
    have hlen : l.length ≤ 1000 := Nat.le_trans (nodup_le (Hok.out.wf.one r _ hl).1 (Hok.out.wf.one r _ hl).2) Hok.out.n2
    have Hends := Sep.hid hends; clear hends
    have hn1 := Hok.out.n2
    have hr1 := Hok.out.r2
    have hrN : R.n + r < N := by rw [← HN.out]; omega
    have Hhd0 : Hid (R.n + r ≥ R.n) := Sep.hid (Nat.le_add_right _ _)
    generalize hhd : R.n + r = hd at *
    have Hhd := Sep.hid hhd; clear hhd
    have Hl := Sep.hid hl; clear hl
    have Hlen := Sep.hid hlen; clear hlen
    have hg0 := (Hends.out [] l rfl).1
    simp only [lst] at hg0
    obtain ⟨f0, hf0⟩ : ∃ f0, fst l hd = f0 := ⟨_, rfl⟩
    rw [hf0] at hg0
    have Hf0 := Sep.hid hf0; clear hf0
    refine Sep.calls_post ?_
    intro Post_ hPost_
    have HP := Sep.hid hPost_
    clear hPost_
    go_enter Try.func21, Try.ntmps21
    go_wp2_with (go_at_call 25; refine (rRow_calls p R x r _ Hc.out).mono ?_; rintro _ w_ ⟨rfl, rfl⟩; rw [hr])
    refine wp_region_L [7] [(4, (fun w' => Holds e w' [X, pt p (ringCells R x) 68, pt x.bn (nats nx) 3, pt x.bp (nats pv) 3, pt x.bi (inns R) 3, pt x.bl (longs R) 3])), (9, (fun w' => Holds e w' [X, pt p (ringCells R x) 68, pt x.bn (nats nx) 3, pt x.bp (nats pv) 3, pt x.bi (inns R) 3, pt x.bl (longs R) 3]))] (n := 11) (listed := (marks 11 0)) (by kernel_rfl) rfl (by kernel_rfl) ?conds1 ?_
    case conds1 =>
     intro c hc
     simp only [List.mem_cons, List.not_mem_nil, or_false] at hc
     rcases hc with rfl | rfl
     · exact (by replace hw := hw.drew; exact hw)
     · exact (by replace hw := hw.drew; exact hw)
    replace hw := hw.drew
    (try replace hc0 := Sep.Holds.cells hw (i := 0) rfl); (try replace hc1 := Sep.Holds.cells hw (i := 1) rfl); (try replace hc2 := Sep.Holds.cells hw (i := 2) rfl); (try replace hc3 := Sep.Holds.cells hw (i := 3) rfl); (try replace hc4 := Sep.Holds.cells hw (i := 4) rfl); (try replace hc5 := Sep.Holds.cells hw (i := 5) rfl); (try replace hc6 := Sep.Holds.cells hw (i := 6) rfl)
    refine wpL_q 0 ?_ rfl (Or.inl ⟨by rfl, fun w_ hS_ => ?_⟩) (marks 11 1) ?_
    rotate_left
    next => (go_simp; try (first | rfl | exact (Bool.not_not _).symm))
    try simp only [Act.put, List.setIfInBounds_toArray, List.set_cons_zero, List.set_cons_succ]
    refine wpL_q 1 ?_ rfl (Or.inl ⟨by rfl, fun w_ hS_ => ?_⟩) (marks 11 3) ?_
    rotate_left
    next => (go_simp; try (first | rfl | exact (Bool.not_not _).symm))
    try simp only [Act.put, List.setIfInBounds_toArray, List.set_cons_zero, List.set_cons_succ]
    refine wpL_q 2 ?_ rfl (Or.inl ⟨by rfl, fun w_ hS_ => ?_⟩) (marks 11 7) ?_
    rotate_left
    next => (go_simp; try (first | rfl | exact (Bool.not_not _).symm))
    try simp only [Act.put, List.setIfInBounds_toArray, List.set_cons_zero, List.set_cons_succ]
    refine wpL_q 3 ?_ rfl (Or.inl ⟨by rfl, fun w_ hS_ => ?_⟩) (marks 11 15) ?_
    rotate_left
    next => (go_simp; try (first | rfl | exact (Bool.not_not _).symm))
    try simp only [Act.put, List.setIfInBounds_toArray, List.set_cons_zero, List.set_cons_succ]
    refine wpL_m 4 ?_ rfl (.head _) (Or.inl ⟨by rfl, fun w_ hS_ => ?_⟩) (marks 11 31) ?_
    rotate_left
    next => (dsimp only at hS_; (try have q0 := Sep.Holds.cells hS_ (i := 0) rfl); (try have q1 := Sep.Holds.cells hS_ (i := 1) rfl); (try have q2 := Sep.Holds.cells hS_ (i := 2) rfl); (try have q3 := Sep.Holds.cells hS_ (i := 3) rfl); (try have q4 := Sep.Holds.cells hS_ (i := 4) rfl); (try have q5 := Sep.Holds.cells hS_ (i := 5) rfl); (try have q6 := Sep.Holds.cells hS_ (i := 6) rfl); go_simp; try (first | rfl | exact (Bool.not_not _).symm))
    try simp only [Act.put, List.setIfInBounds_toArray, List.set_cons_zero, List.set_cons_succ]
    refine wpL_q 5 ?_ rfl (Or.inl ⟨by rfl, fun w_ hS_ => ?_⟩) (marks 11 63) ?_
    rotate_left
    next => (go_simp; try (first | rfl | exact (Bool.not_not _).symm))
    try simp only [Act.put, List.setIfInBounds_toArray, List.set_cons_zero, List.set_cons_succ]
    refine wpL_q 6 ?_ rfl (Or.inl ⟨by rfl, fun w_ hS_ => ?_⟩) (marks 11 127) ?_
    rotate_left
    next => (go_simp; try (first | rfl | exact (Bool.not_not _).symm))
    try simp only [Act.put, List.setIfInBounds_toArray, List.set_cons_zero, List.set_cons_succ]
    refine wpL_o 7 rfl (by rfl) (marks 11 255) ?_
    (go_simp; go_at_call 26; refine (rHead_calls p R x r hn1 (by omega) _ hc1).mono ?_; rintro _ w_ ⟨rfl, rfl⟩; rw [Hhd.out])
    refine ⟨(SL.keep (by exact hw) (SL.keep (by exact hw) SL.nil)), ?_⟩
    try simp only [Act.put, List.setIfInBounds_toArray, List.set_cons_zero, List.set_cons_succ]
    refine wpL_q 8 ?_ rfl (Or.inl ⟨by rfl, fun w_ hS_ => ?_⟩) (marks 11 511) ?_
    rotate_left
    next => (go_simp; try (first | rfl | exact (Bool.not_not _).symm))
    try simp only [Act.put, List.setIfInBounds_toArray, List.set_cons_zero, List.set_cons_succ]
    refine wpL_m 9 ?_ rfl (.tail _ (.head _)) (Or.inl ⟨by rfl, fun w_ hS_ => ?_⟩) (marks 11 1023) ?_
    rotate_left
    next => (dsimp only at hS_; (try have q0 := Sep.Holds.cells hS_ (i := 0) rfl); (try have q1 := Sep.Holds.cells hS_ (i := 1) rfl); (try have q2 := Sep.Holds.cells hS_ (i := 2) rfl); (try have q3 := Sep.Holds.cells hS_ (i := 3) rfl); (try have q4 := Sep.Holds.cells hS_ (i := 4) rfl); (try have q5 := Sep.Holds.cells hS_ (i := 5) rfl); (try have q6 := Sep.Holds.cells hS_ (i := 6) rfl); go_simp; try (first | rfl | exact (Bool.not_not _).symm))
    try simp only [Act.put, List.setIfInBounds_toArray, List.set_cons_zero, List.set_cons_succ]
    refine wpL_q 10 ?_ rfl (Or.inl ⟨by rfl, fun w_ hS_ => ?_⟩) (marks 11 2047) ?_
    rotate_left
    next => (go_simp; try (first | rfl | exact (Bool.not_not _).symm))
    try simp only [Act.put, List.setIfInBounds_toArray, List.set_cons_zero, List.set_cons_succ]
    all_goals refine wpL_done (by kernel_rfl) ?_ _
    go_wp2_with fail
    have hw0 := hw.addEmp (X := Sl 3 1 (.slice none 0 0) (([] : List Nat).length) (encI (ints []))) (Sl.nil _ _ _)
    have Hw0 := Sep.hid hw0; clear hw0 hw; (try clear hc0); (try clear hc1); (try clear hc2); (try clear hc3); (try clear hc4); (try clear hc5); (try clear hc6)
    clear hg0
    go_loopw [5, 6] (fun o i wr => ∃ l1 l2 : List Nat, l = l1 ++ l2 ∧ i = .int .i64 (fst l2 hd : Nat) ∧ Holds e wr [X, pt p (ringCells R x) 68, pt x.bn (nats nx) 3, pt x.bp (nats pv) 3, pt x.bi (inns R) 3, pt x.bl (longs R) 3, Sl 3 1 o l1.length (encI (ints l1))]) (fun o _ _ => l.length - slLen o)
    case atStart => exact ⟨[], l, rfl, congrArg (fun k : Nat => Value.int IntKind.i64 (k : Int)) Hf0.out.symm, Hw0.out⟩
    case round =>
      clear Hw0
      obtain ⟨l1, l2, hsp, rfl, hw⟩ := hrel
      obtain ⟨oa, oc, rfl⟩ := Sl.value (i := 6) rfl hw
      have Hsp := Sep.hid hsp; clear hsp
      have hc1 := hw.cells (i := 1) rfl
      cases l2 with
      | nil =>
        have e2 : l1 = l := by have := Hsp.out; simpa using this.symm
        subst e2
        simp only [fst]
        go_wp2_with (go_at_call 26; refine (rHead_calls p R x r hn1 (by omega) _ hc1).mono ?_; rintro _ w_ ⟨rfl, rfl⟩; rw [Hhd.out])
        refine HP.out _ _ ⟨_, rfl, ?_⟩
        have h := Holds.group [X, _] _ (hw.sel [0, 6, 1, 2, 3, 4, 5] (by decide))
        have h1 := IsRing.mk Hok.out h
        have h2 := (Holds.ungroup _ _ h1).sel [0, 2, 1] (by decide)
        unfold IsInts
        rw [ints_length]
        exact h2
      | cons y l2 =>
        have hyn : y < R.n := (Hends.out l1 (y :: l2) Hsp.out).2.2 y (by simp)
        have hne : ¬ y = hd := by have := Hhd0.out; omega
        have hg := (Hends.out (l1 ++ [y]) l2 (by rw [Hsp.out]; simp)).1
        have hyN : y < N := by have := (Hends.out (l1 ++ [y]) l2 (by rw [Hsp.out]; simp)).2.1; rw [lst_snoc] at this; exact this
        rw [lst_snoc] at hg
        obtain ⟨f2, hf2⟩ : ∃ f2, fst l2 hd = f2 := ⟨_, rfl⟩
        rw [hf2] at hg
        have Hf2 := Sep.hid hf2; clear hf2
        have hll : l1.length + 1 ≤ l.length := by rw [Hsp.out, List.length_append, List.length_cons]; omega
        have Hll := Sep.hid hll; clear hll
        simp only [fst]
        (try replace hc0 := Sep.Holds.cells hw (i := 0) rfl); (try replace hc1 := Sep.Holds.cells hw (i := 1) rfl); (try replace hc2 := Sep.Holds.cells hw (i := 2) rfl); (try replace hc3 := Sep.Holds.cells hw (i := 3) rfl); (try replace hc4 := Sep.Holds.cells hw (i := 4) rfl); (try replace hc5 := Sep.Holds.cells hw (i := 5) rfl); (try replace hc6 := Sep.Holds.cells hw (i := 6) rfl)
        go_wp2_with (first
          | (go_at_call 26; refine (rHead_calls p R x r hn1 (by omega) _ hc1).mono ?_; rintro _ w_ ⟨rfl, rfl⟩; rw [Hhd.out])
          | (refine wpList_on rfl (wp_bsl1 rfl rfl (by rfl) (by rfl) (by decide) hw ?_); intro b_ w_ hw_; clear hw; have hw := hw_; clear hw_; (try simp only [List.map_cons, List.map_nil, List.getD_cons_zero, List.getD_cons_succ, List.getD_nil, List.set_cons_zero, List.set_cons_succ, List.cons_append, List.nil_append, Act.eval, Array.getD_eq_getD_getElem?, List.getElem?_toArray, List.getElem?_cons_succ, List.getElem?_cons_zero, Option.getD_some, Value.cells] at hw); (try simp (disch := first | (simp; done) | (simp; omega)) only [Sep.mid_set, Sep.mid_set2, Sep.mid_set0, Sep.mid_splice, Sep.mid_splice0, List.set_cons_zero, List.set_cons_succ] at hw); (try simp only [Sep.splice, List.take_succ_cons, List.take_zero, List.drop_succ_cons, List.drop_zero, List.length_cons, List.length_nil, Nat.reduceAdd, List.cons_append, List.nil_append] at hw); (try replace hc0 := Sep.Holds.cells hw (i := 0) rfl); (try replace hc1 := Sep.Holds.cells hw (i := 1) rfl); (try replace hc2 := Sep.Holds.cells hw (i := 2) rfl); (try replace hc3 := Sep.Holds.cells hw (i := 3) rfl); (try replace hc4 := Sep.Holds.cells hw (i := 4) rfl); (try replace hc5 := Sep.Holds.cells hw (i := 5) rfl); (try replace hc6 := Sep.Holds.cells hw (i := 6) rfl))
          | (at_builtin; refine wpList_on rfl (wp_appendPt (i := 6) (j := 7) rfl rfl hw rfl rfl rfl (by rfl) (by simp [Value.oneCell']) (by decide) (by rfl) (by have := Hll.out; have := Hlen.out; (try unfold maxLen); omega) (by have := Hll.out; have := Hlen.out; (try unfold maxLen); omega) ?_); intro b2_ cap2_ off2_ w_ hcap2_ hw_; clear hw; have hw := hw_; clear hw_; (try simp only [List.map_cons, List.map_nil, List.getD_cons_zero, List.getD_cons_succ, List.getD_nil, List.set_cons_zero, List.set_cons_succ, List.cons_append, List.nil_append, Act.eval, Array.getD_eq_getD_getElem?, List.getElem?_toArray, List.getElem?_cons_succ, List.getElem?_cons_zero, Option.getD_some, Value.cells] at hw); (try simp (disch := first | (simp; done) | (simp; omega)) only [Sep.mid_set, Sep.mid_set2, Sep.mid_set0, Sep.mid_splice, Sep.mid_splice0, List.set_cons_zero, List.set_cons_succ] at hw); (try simp only [Sep.splice, List.take_succ_cons, List.take_zero, List.drop_succ_cons, List.drop_zero, List.length_cons, List.length_nil, Nat.reduceAdd, List.cons_append, List.nil_append] at hw); (try replace hc0 := Sep.Holds.cells hw (i := 0) rfl); (try replace hc1 := Sep.Holds.cells hw (i := 1) rfl); (try replace hc2 := Sep.Holds.cells hw (i := 2) rfl); (try replace hc3 := Sep.Holds.cells hw (i := 3) rfl); (try replace hc4 := Sep.Holds.cells hw (i := 4) rfl); (try replace hc5 := Sep.Holds.cells hw (i := 5) rfl); (try replace hc6 := Sep.Holds.cells hw (i := 6) rfl)))
        go_roundw
        case rel =>
          refine ⟨l1 ++ [y], l2, by rw [Hsp.out]; simp, congrArg (fun k : Nat => Value.int IntKind.i64 (k : Int)) Hf2.out.symm, ?_⟩
          rw [ints_snoc, List.length_append]
          exact hw.sel [0, 1, 2, 3, 4, 5, 6] (by decide)
        case measure => have := Hll.out; simp only [slLen]; omega
end Go.Proofs.Ytcefnihhlbeebaa
