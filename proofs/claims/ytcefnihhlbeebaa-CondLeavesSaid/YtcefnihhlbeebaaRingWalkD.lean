/-
  The walks of an arena's methods: who drops, takes.
-/
import Derived.Test.YtcefnihhlbeebaaRingWalkC
namespace Go.Proofs.Ytcefnihhlbeebaa
set_option linter.unusedSimpArgs false
set_option linter.unusedVariables false
open Go.RowKit Go.Sep Go.RingM

set_option maxHeartbeats 4000000 in
theorem rDrop_calls (p : Nat) (R : Ring) (n : Int) (e w : World) (X : HProp) (hw : Holds e w [X, IsRing p R]) :
    Calls Try.prog 23 #[.pointer (some ⟨p, 0, none⟩), .int .i64 n] w fun en w' => en = .returned (.bool (!decide (R.in_ n = -1))) ∧ Holds e w' [X, IsRing p (R.drop n)] := by
  have hwf : R.Wf := by obtain ⟨_, _, _, hok, _⟩ := IsRing.open_ hw; exact hok.wf
  rcases Ring.in_cases hwf n with hin | ⟨r, n, l1, l2, rfl, hn, hin, hrl, hr⟩
  · have hd : R.drop n = R := Ring.drop_no hin
    rw [hd, hin]
    refine Sep.calls_post ?_
    intro Post_ hPost_
    have HP := Sep.hid hPost_
    clear hPost_
    go_enter Try.func23, Try.ntmps23
    go_wp2_with (go_at_call 29; refine (rIn_calls p R n e _ X hw).mono ?_; rintro _ w_ ⟨rfl, rfl⟩; rw [hin])
    exact HP.out _ _ ⟨rfl, hw⟩
  · have hd := (Ring.drop_eq hwf hr).2
    rw [hd, hin]
    clear hd hwf
    have hrem : decide (((r : Nat) : Int) = -1) = false := by simp only [decide_eq_false_iff_not]; omega
    rw [hrem]
    clear hrem
    have hw1 := Sep.hid hw
    obtain ⟨x, nx, pv, hok, hw⟩ := IsRing.open_ hw; have Hok := Sep.hid hok; clear hok; obtain ⟨N, hN⟩ : ∃ N, R.n + R.rows.length = N := ⟨_, rfl⟩; have HN := Sep.hid hN; have hrc0 : (ringCells R x)[0]? = some (.slice (some ⟨x.bn, 0, none⟩) N N) := by rw [← hN]; rfl
    have hrc1 : (ringCells R x)[1]? = some (.slice (some ⟨x.bp, 0, none⟩) N N) := by rw [← hN]; rfl
    have hrc2 : (ringCells R x)[2]? = some (.slice (some ⟨x.bi, 0, none⟩) R.n R.n) := rfl
    have hrc3 : (ringCells R x)[3]? = some (.slice (some ⟨x.bl, 0, none⟩) R.rows.length R.rows.length) := rfl
    clear hN; have Hc := Sep.hid (hw.cells (i := 1) rfl); (try replace hc0 := Sep.Holds.cells hw (i := 0) rfl); (try replace hc1 := Sep.Holds.cells hw (i := 1) rfl); (try replace hc2 := Sep.Holds.cells hw (i := 2) rfl); (try replace hc3 := Sep.Holds.cells hw (i := 3) rfl); (try replace hc4 := Sep.Holds.cells hw (i := 4) rfl); (try replace hc5 := Sep.Holds.cells hw (i := 5) rfl); (try replace hc6 := Sep.Holds.cells hw (i := 6) rfl)
    have hrm := Hok.out.remove hr
    have hends := Hok.out.ends (l1 := l1) (l2 := n :: l2) hr
    have hends2 := Hok.out.ends (l1 := l1 ++ [n]) (l2 := l2) (r := r) (by simpa using hr)
    have hlen : (l1 ++ n :: l2).length ≤ 1000 := Nat.le_trans (nodup_le (Hok.out.wf.one r _ hr).1 (Hok.out.wf.one r _ hr).2) Hok.out.n2
    have hgl := longs_get hr
    have hle : (l1 ++ n :: l2).length = (l1 ++ l2).length + 1 := by simp; omega
    rw [hle] at hgl hlen
    clear hle
    clear hr
    generalize hR' : R.setRow r (l1 ++ l2) = R' at *
    have HR' := Sep.hid hR'; clear hR'
    generalize hbe : lst (R.n + r) l1 = be at *
    generalize haf : fst l2 (R.n + r) = af at *
    generalize hln : (l1 ++ l2).length = len at *
    have Hx := Sep.hid hbe; clear hbe
    have Hx2 := Sep.hid haf; clear haf
    have Hx3 := Sep.hid hln; clear hln
    obtain ⟨hk1, hk4, hk5, hk2, hk3⟩ := hrm
    have Hk1 := Sep.hid hk1; clear hk1
    have Hk2 := Sep.hid hk2; clear hk2
    have Hk3 := Sep.hid hk3; clear hk3
    have ln : nx.length = N := Hok.out.laid.lenN.trans HN.out
    have lp : pv.length = N := Hok.out.laid.lenP.trans HN.out
    have hbe : be < N := by rw [← HN.out]; exact hends.2.2.1
    have haf : af < N := by rw [← HN.out]; exact hends2.2.2.2
    have hnN : n < N := by rw [← HN.out]; omega
    clear hends hends2
    have hgn : (nats nx)[n]? = some (.int .i64 (af : Nat)) := by rw [nats_get (by rw [ln]; exact hnN), hk4]
    have hgp : (nats pv)[n]? = some (.int .i64 (be : Nat)) := by rw [nats_get (by rw [lp]; exact hnN), hk5]
    clear hk4 hk5
    have Ln := Sep.hid ln; have Lp := Sep.hid lp; clear ln lp
    have hwr : IntKind.i64.wrap (((len + 1 : Nat) : Int) - 1) = (len : Int) := by rw [IntWalk.i64_in _ (by omega)]; omega
    have hwr2 : IntKind.i64.wrap (((len : Int) + 1) - 1) = (len : Int) := by rw [IntWalk.i64_in _ (by omega)]; omega
    refine Sep.calls_post ?_
    intro Post_ hPost_
    have HP := Sep.hid hPost_
    clear hPost_
    go_enter Try.func23, Try.ntmps23
    go_wp2_with (go_at_call 29; refine (rIn_calls p R n e _ X hw1.out).mono ?_; rintro _ w_ ⟨rfl, rfl⟩; rw [hin])
    refine wp_region_L [19] [(7, (fun w' => w' = w_.drew)), (10, (fun w' => w' = w_.drew)), (15, (fun w' => w' = w_.drew)), (18, (fun w' => w' = w_.drew))] (n := 20) (listed := (marks 20 0)) (by kernel_rfl) rfl (by kernel_rfl) ?conds1 ?_
    case conds1 =>
     intro c hc
     simp only [List.mem_cons, List.not_mem_nil, or_false] at hc
     rcases hc with rfl | rfl | rfl | rfl
     · rfl
     · rfl
     · rfl
     · rfl
    replace hw := hw.drew
    (try replace hc0 := Sep.Holds.cells hw (i := 0) rfl); (try replace hc1 := Sep.Holds.cells hw (i := 1) rfl); (try replace hc2 := Sep.Holds.cells hw (i := 2) rfl); (try replace hc3 := Sep.Holds.cells hw (i := 3) rfl); (try replace hc4 := Sep.Holds.cells hw (i := 4) rfl); (try replace hc5 := Sep.Holds.cells hw (i := 5) rfl); (try replace hc6 := Sep.Holds.cells hw (i := 6) rfl)
    refine wpL_q 0 ?_ rfl (Or.inl ⟨by rfl, fun w_ hS_ => ?_⟩) (marks 20 1) ?_
    rotate_left
    next => (go_simp; try (first | rfl | exact (Bool.not_not _).symm))
    try simp only [Act.put, List.setIfInBounds_toArray, List.set_cons_zero, List.set_cons_succ]
    refine wpL_q 1 ?_ rfl (Or.inl ⟨by rfl, fun w_ hS_ => ?_⟩) (marks 20 3) ?_
    rotate_left
    next => (go_simp; try (first | rfl | exact (Bool.not_not _).symm))
    try simp only [Act.put, List.setIfInBounds_toArray, List.set_cons_zero, List.set_cons_succ]
    refine wpL_q 2 ?_ rfl (Or.inl ⟨by rfl, fun w_ hS_ => ?_⟩) (marks 20 7) ?_
    rotate_left
    next => (go_simp; try (first | rfl | exact (Bool.not_not _).symm))
    try simp only [Act.put, List.setIfInBounds_toArray, List.set_cons_zero, List.set_cons_succ]
    refine wpL_q 3 ?_ rfl (Or.inl ⟨by rfl, fun w_ hS_ => ?_⟩) (marks 20 15) ?_
    rotate_left
    next => (go_simp; try (first | rfl | exact (Bool.not_not _).symm))
    try simp only [Act.put, List.setIfInBounds_toArray, List.set_cons_zero, List.set_cons_succ]
    refine wpL_q 4 ?_ rfl (Or.inl ⟨by rfl, fun w_ hS_ => ?_⟩) (marks 20 31) ?_
    rotate_left
    next => (go_simp; try (first | rfl | exact (Bool.not_not _).symm))
    try simp only [Act.put, List.setIfInBounds_toArray, List.set_cons_zero, List.set_cons_succ]
    refine wpL_q 5 ?_ rfl (Or.inl ⟨by rfl, fun w_ hS_ => ?_⟩) (marks 20 63) ?_
    rotate_left
    next => (go_simp; try (first | rfl | exact (Bool.not_not _).symm))
    try simp only [Act.put, List.setIfInBounds_toArray, List.set_cons_zero, List.set_cons_succ]
    refine wpL_q 6 ?_ rfl (Or.inl ⟨by rfl, fun w_ hS_ => ?_⟩) (marks 20 127) ?_
    rotate_left
    next => (go_simp; try (first | rfl | exact (Bool.not_not _).symm))
    try simp only [Act.put, List.setIfInBounds_toArray, List.set_cons_zero, List.set_cons_succ]
    refine wpL_m 7 ?_ rfl (.head _) (Or.inl ⟨by rfl, fun w_ hS_ => ?_⟩) (marks 20 255) ?_
    rotate_left
    next => (subst hS_; go_simp; try (first | rfl | exact (Bool.not_not _).symm))
    try simp only [Act.put, List.setIfInBounds_toArray, List.set_cons_zero, List.set_cons_succ]
    refine wpL_q 8 ?_ rfl (Or.inl ⟨by rfl, fun w_ hS_ => ?_⟩) (marks 20 511) ?_
    rotate_left
    next => (go_simp; try (first | rfl | exact (Bool.not_not _).symm))
    try simp only [Act.put, List.setIfInBounds_toArray, List.set_cons_zero, List.set_cons_succ]
    refine wpL_q 9 ?_ rfl (Or.inl ⟨by rfl, fun w_ hS_ => ?_⟩) (marks 20 1023) ?_
    rotate_left
    next => (go_simp; try (first | rfl | exact (Bool.not_not _).symm))
    try simp only [Act.put, List.setIfInBounds_toArray, List.set_cons_zero, List.set_cons_succ]
    refine wpL_m 10 ?_ rfl (.tail _ (.head _)) (Or.inl ⟨by rfl, fun w_ hS_ => ?_⟩) (marks 20 2047) ?_
    rotate_left
    next => (subst hS_; go_simp; try (first | rfl | exact (Bool.not_not _).symm))
    try simp only [Act.put, List.setIfInBounds_toArray, List.set_cons_zero, List.set_cons_succ]
    refine wpL_q 11 ?_ rfl (Or.inl ⟨by rfl, fun w_ hS_ => ?_⟩) (marks 20 4095) ?_
    rotate_left
    next => (go_simp; try (first | rfl | exact (Bool.not_not _).symm))
    try simp only [Act.put, List.setIfInBounds_toArray, List.set_cons_zero, List.set_cons_succ]
    refine wpL_q 12 ?_ rfl (Or.inl ⟨by rfl, fun w_ hS_ => ?_⟩) (marks 20 8191) ?_
    rotate_left
    next => (go_simp; try (first | rfl | exact (Bool.not_not _).symm))
    try simp only [Act.put, List.setIfInBounds_toArray, List.set_cons_zero, List.set_cons_succ]
    refine wpL_q 13 ?_ rfl (Or.inl ⟨by rfl, fun w_ hS_ => ?_⟩) (marks 20 16383) ?_
    rotate_left
    next => (go_simp; try (first | rfl | exact (Bool.not_not _).symm))
    try simp only [Act.put, List.setIfInBounds_toArray, List.set_cons_zero, List.set_cons_succ]
    refine wpL_q 14 ?_ rfl (Or.inl ⟨by rfl, fun w_ hS_ => ?_⟩) (marks 20 32767) ?_
    rotate_left
    next => (go_simp; try (first | rfl | exact (Bool.not_not _).symm))
    try simp only [Act.put, List.setIfInBounds_toArray, List.set_cons_zero, List.set_cons_succ]
    refine wpL_m 15 ?_ rfl (.tail _ (.tail _ (.head _))) (Or.inl ⟨by rfl, fun w_ hS_ => ?_⟩) (marks 20 65535) ?_
    rotate_left
    next => (subst hS_; go_simp; try (first | rfl | exact (Bool.not_not _).symm))
    try simp only [Act.put, List.setIfInBounds_toArray, List.set_cons_zero, List.set_cons_succ]
    refine wpL_q 16 ?_ rfl (Or.inl ⟨by rfl, fun w_ hS_ => ?_⟩) (marks 20 131071) ?_
    rotate_left
    next => (go_simp; try (first | rfl | exact (Bool.not_not _).symm))
    try simp only [Act.put, List.setIfInBounds_toArray, List.set_cons_zero, List.set_cons_succ]
    refine wpL_q 17 ?_ rfl (Or.inl ⟨by rfl, fun w_ hS_ => ?_⟩) (marks 20 262143) ?_
    rotate_left
    next => (go_simp; try (first | rfl | exact (Bool.not_not _).symm))
    try simp only [Act.put, List.setIfInBounds_toArray, List.set_cons_zero, List.set_cons_succ]
    refine wpL_m 18 ?_ rfl (.tail _ (.tail _ (.tail _ (.head _)))) (Or.inl ⟨by rfl, fun w_ hS_ => ?_⟩) (marks 20 524287) ?_
    rotate_left
    next => (subst hS_; go_simp; try (first | rfl | exact (Bool.not_not _).symm))
    try simp only [Act.put, List.setIfInBounds_toArray, List.set_cons_zero, List.set_cons_succ]
    refine wpL_o 19 rfl (by rfl) (marks 20 1048575) ?_
    (go_simp; go_at_call 30; refine (rJoin_calls p R x nx pv be af N hbe haf Ln.out Lp.out HN e _ _ _ _ hw).mono ?_; rintro _ w_ ⟨rfl, hw_⟩; clear hw; (try clear hc0); (try clear hc1); (try clear hc2); (try clear hc3); (try clear hc4); (try clear hc5); (try clear hc6); have hw := hw_; clear hw_; (try replace hc0 := Sep.Holds.cells hw (i := 0) rfl); (try replace hc1 := Sep.Holds.cells hw (i := 1) rfl); (try replace hc2 := Sep.Holds.cells hw (i := 2) rfl); (try replace hc3 := Sep.Holds.cells hw (i := 3) rfl); (try replace hc4 := Sep.Holds.cells hw (i := 4) rfl); (try replace hc5 := Sep.Holds.cells hw (i := 5) rfl); (try replace hc6 := Sep.Holds.cells hw (i := 6) rfl))
    refine ⟨(SL.drop 19 (by kernel_rfl) (SL.drop 19 (by kernel_rfl) (SL.drop 19 (by kernel_rfl) (SL.drop 19 (by kernel_rfl) SL.nil)))), ?_⟩
    try simp only [Act.put, List.setIfInBounds_toArray, List.set_cons_zero, List.set_cons_succ]
    all_goals refine wpL_done (by kernel_rfl) ?_ _
    go_wp2_with fail
    refine wp_region_L [15, 17] [(4, (fun w' => w' = w_.drew)), (10, (fun w' => w' = w_.drew))] (n := 18) (listed := (marks 18 0)) (by kernel_rfl) rfl (by kernel_rfl) ?conds2 ?_
    case conds2 =>
     intro c hc
     simp only [List.mem_cons, List.not_mem_nil, or_false] at hc
     rcases hc with rfl | rfl
     · rfl
     · rfl
    replace hw := hw.drew
    (try replace hc0 := Sep.Holds.cells hw (i := 0) rfl); (try replace hc1 := Sep.Holds.cells hw (i := 1) rfl); (try replace hc2 := Sep.Holds.cells hw (i := 2) rfl); (try replace hc3 := Sep.Holds.cells hw (i := 3) rfl); (try replace hc4 := Sep.Holds.cells hw (i := 4) rfl); (try replace hc5 := Sep.Holds.cells hw (i := 5) rfl); (try replace hc6 := Sep.Holds.cells hw (i := 6) rfl)
    refine wpL_q 0 ?_ rfl (Or.inl ⟨by rfl, fun w_ hS_ => ?_⟩) (marks 18 1) ?_
    rotate_left
    next => (go_simp; try (first | rfl | exact (Bool.not_not _).symm))
    try simp only [Act.put, List.setIfInBounds_toArray, List.set_cons_zero, List.set_cons_succ]
    refine wpL_q 1 ?_ rfl (Or.inl ⟨by rfl, fun w_ hS_ => ?_⟩) (marks 18 3) ?_
    rotate_left
    next => (go_simp; try (first | rfl | exact (Bool.not_not _).symm))
    try simp only [Act.put, List.setIfInBounds_toArray, List.set_cons_zero, List.set_cons_succ]
    refine wpL_q 2 ?_ rfl (Or.inl ⟨by rfl, fun w_ hS_ => ?_⟩) (marks 18 7) ?_
    rotate_left
    next => (go_simp; try (first | rfl | exact (Bool.not_not _).symm))
    try simp only [Act.put, List.setIfInBounds_toArray, List.set_cons_zero, List.set_cons_succ]
    refine wpL_q 3 ?_ rfl (Or.inl ⟨by rfl, fun w_ hS_ => ?_⟩) (marks 18 15) ?_
    rotate_left
    next => (go_simp; try (first | rfl | exact (Bool.not_not _).symm))
    try simp only [Act.put, List.setIfInBounds_toArray, List.set_cons_zero, List.set_cons_succ]
    refine wpL_m 4 ?_ rfl (.head _) (Or.inl ⟨by rfl, fun w_ hS_ => ?_⟩) (marks 18 31) ?_
    rotate_left
    next => (subst hS_; go_simp; try (first | rfl | exact (Bool.not_not _).symm))
    try simp only [Act.put, List.setIfInBounds_toArray, List.set_cons_zero, List.set_cons_succ]
    refine wpL_q 5 ?_ rfl (Or.inl ⟨by rfl, fun w_ hS_ => ?_⟩) (marks 18 63) ?_
    rotate_left
    next => (go_simp; try (first | rfl | exact (Bool.not_not _).symm))
    try simp only [Act.put, List.setIfInBounds_toArray, List.set_cons_zero, List.set_cons_succ]
    refine wpL_q 6 ?_ rfl (Or.inl ⟨by rfl, fun w_ hS_ => ?_⟩) (marks 18 127) ?_
    rotate_left
    next => (go_simp; try (first | rfl | exact (Bool.not_not _).symm))
    try simp only [Act.put, List.setIfInBounds_toArray, List.set_cons_zero, List.set_cons_succ]
    refine wpL_q 7 ?_ rfl (Or.inl ⟨by rfl, fun w_ hS_ => ?_⟩) (marks 18 255) ?_
    rotate_left
    next => (go_simp; try (first | rfl | exact (Bool.not_not _).symm))
    try simp only [Act.put, List.setIfInBounds_toArray, List.set_cons_zero, List.set_cons_succ]
    refine wpL_q 8 ?_ rfl (Or.inl ⟨by rfl, fun w_ hS_ => ?_⟩) (marks 18 511) ?_
    rotate_left
    next => (go_simp; try (first | rfl | exact (Bool.not_not _).symm))
    try simp only [Act.put, List.setIfInBounds_toArray, List.set_cons_zero, List.set_cons_succ]
    refine wpL_q 9 ?_ rfl (Or.inl ⟨by rfl, fun w_ hS_ => ?_⟩) (marks 18 1023) ?_
    rotate_left
    next => (go_simp; try (first | rfl | exact (Bool.not_not _).symm))
    try simp only [Act.put, List.setIfInBounds_toArray, List.set_cons_zero, List.set_cons_succ]
    refine wpL_m 10 ?_ rfl (.tail _ (.head _)) (Or.inl ⟨by rfl, fun w_ hS_ => ?_⟩) (marks 18 2047) ?_
    rotate_left
    next => (subst hS_; go_simp; try (first | rfl | exact (Bool.not_not _).symm))
    try simp only [Act.put, List.setIfInBounds_toArray, List.set_cons_zero, List.set_cons_succ]
    refine wpL_q 11 ?_ rfl (Or.inl ⟨by rfl, fun w_ hS_ => ?_⟩) (marks 18 4095) ?_
    rotate_left
    next => (go_simp; try (first | rfl | exact (Bool.not_not _).symm))
    try simp only [Act.put, List.setIfInBounds_toArray, List.set_cons_zero, List.set_cons_succ]
    refine wpL_q 12 ?_ rfl (Or.inl ⟨by rfl, fun w_ hS_ => ?_⟩) (marks 18 8191) ?_
    rotate_left
    next => (go_simp; try (first | rfl | exact (Bool.not_not _).symm))
    try simp only [Act.put, List.setIfInBounds_toArray, List.set_cons_zero, List.set_cons_succ]
    refine wpL_q 13 ?_ rfl (Or.inl ⟨by rfl, fun w_ hS_ => ?_⟩) (marks 18 16383) ?_
    rotate_left
    next => (go_simp; try (first | rfl | exact (Bool.not_not _).symm))
    try simp only [Act.put, List.setIfInBounds_toArray, List.set_cons_zero, List.set_cons_succ]
    refine wpL_q 14 ?_ rfl (Or.inl ⟨by rfl, fun w_ hS_ => ?_⟩) (marks 18 32767) ?_
    rotate_left
    next => (go_simp; try (first | rfl | exact (Bool.not_not _).symm))
    try simp only [Act.put, List.setIfInBounds_toArray, List.set_cons_zero, List.set_cons_succ]
    refine wpL_o 15 rfl (by rfl) (marks 18 65535) ?_
    (refine wp_store1 (v := .int .i64 (n : Int)) rfl rfl rfl hw (i := 2) rfl (by rw [nats_length, List.length_set, Ln.out]; exact hnN) rfl ?_; intro w_ hw_; rw [nats_set] at hw_; clear hw; have hw := hw_; clear hw_; (try simp only [List.map_cons, List.map_nil, List.getD_cons_zero, List.getD_cons_succ, List.getD_nil, List.set_cons_zero, List.set_cons_succ, List.cons_append, List.nil_append, Act.eval, Array.getD_eq_getD_getElem?, List.getElem?_toArray, List.getElem?_cons_succ, List.getElem?_cons_zero, Option.getD_some, Value.cells] at hw); (try simp (disch := first | (simp; done) | (simp; omega)) only [Sep.mid_set, Sep.mid_set2, Sep.mid_set0, Sep.mid_splice, Sep.mid_splice0, List.set_cons_zero, List.set_cons_succ] at hw); (try simp only [Sep.splice, List.take_succ_cons, List.take_zero, List.drop_succ_cons, List.drop_zero, List.length_cons, List.length_nil, Nat.reduceAdd, List.cons_append, List.nil_append] at hw); (try replace hc0 := Sep.Holds.cells hw (i := 0) rfl); (try replace hc1 := Sep.Holds.cells hw (i := 1) rfl); (try replace hc2 := Sep.Holds.cells hw (i := 2) rfl); (try replace hc3 := Sep.Holds.cells hw (i := 3) rfl); (try replace hc4 := Sep.Holds.cells hw (i := 4) rfl); (try replace hc5 := Sep.Holds.cells hw (i := 5) rfl); (try replace hc6 := Sep.Holds.cells hw (i := 6) rfl))
    refine ⟨(SL.drop 15 (by kernel_rfl) (SL.drop 15 (by kernel_rfl) SL.nil)), ?_⟩
    try simp only [Act.put, List.setIfInBounds_toArray, List.set_cons_zero, List.set_cons_succ]
    refine wpL_q 16 ?_ rfl (Or.inl ⟨by rfl, fun w_ hS_ => ?_⟩) (marks 18 131071) ?_
    rotate_left
    next => (go_simp; try (first | rfl | exact (Bool.not_not _).symm))
    try simp only [Act.put, List.setIfInBounds_toArray, List.set_cons_zero, List.set_cons_succ]
    refine wpL_o 17 rfl (by rfl) (marks 18 262143) ?_
    (refine wp_store1 (v := .int .i64 (n : Int)) rfl rfl rfl hw (i := 3) rfl (by rw [nats_length, List.length_set, Lp.out]; exact hnN) rfl ?_; intro w_ hw_; rw [nats_set] at hw_; clear hw; have hw := hw_; clear hw_; (try simp only [List.map_cons, List.map_nil, List.getD_cons_zero, List.getD_cons_succ, List.getD_nil, List.set_cons_zero, List.set_cons_succ, List.cons_append, List.nil_append, Act.eval, Array.getD_eq_getD_getElem?, List.getElem?_toArray, List.getElem?_cons_succ, List.getElem?_cons_zero, Option.getD_some, Value.cells] at hw); (try simp (disch := first | (simp; done) | (simp; omega)) only [Sep.mid_set, Sep.mid_set2, Sep.mid_set0, Sep.mid_splice, Sep.mid_splice0, List.set_cons_zero, List.set_cons_succ] at hw); (try simp only [Sep.splice, List.take_succ_cons, List.take_zero, List.drop_succ_cons, List.drop_zero, List.length_cons, List.length_nil, Nat.reduceAdd, List.cons_append, List.nil_append] at hw); (try replace hc0 := Sep.Holds.cells hw (i := 0) rfl); (try replace hc1 := Sep.Holds.cells hw (i := 1) rfl); (try replace hc2 := Sep.Holds.cells hw (i := 2) rfl); (try replace hc3 := Sep.Holds.cells hw (i := 3) rfl); (try replace hc4 := Sep.Holds.cells hw (i := 4) rfl); (try replace hc5 := Sep.Holds.cells hw (i := 5) rfl); (try replace hc6 := Sep.Holds.cells hw (i := 6) rfl))
    refine ⟨(SL.drop 15 (by kernel_rfl) (SL.drop 15 (by kernel_rfl) SL.nil)), ?_⟩
    try simp only [Act.put, List.setIfInBounds_toArray, List.set_cons_zero, List.set_cons_succ]
    all_goals refine wpL_done (by kernel_rfl) ?_ _
    go_wp2_with (first
      | (refine wpList_on rfl (wp_store1 (v := .int .i64 (-1)) rfl rfl rfl hw (i := 4) rfl (by rw [inns_length]; exact hn) rfl ?_); intro w_ hw_; rw [Hk2.out] at hw_; clear hw; have hw := hw_; clear hw_; (try simp only [List.map_cons, List.map_nil, List.getD_cons_zero, List.getD_cons_succ, List.getD_nil, List.set_cons_zero, List.set_cons_succ, List.cons_append, List.nil_append, Act.eval, Array.getD_eq_getD_getElem?, List.getElem?_toArray, List.getElem?_cons_succ, List.getElem?_cons_zero, Option.getD_some, Value.cells] at hw); (try simp (disch := first | (simp; done) | (simp; omega)) only [Sep.mid_set, Sep.mid_set2, Sep.mid_set0, Sep.mid_splice, Sep.mid_splice0, List.set_cons_zero, List.set_cons_succ] at hw); (try simp only [Sep.splice, List.take_succ_cons, List.take_zero, List.drop_succ_cons, List.drop_zero, List.length_cons, List.length_nil, Nat.reduceAdd, List.cons_append, List.nil_append] at hw); (try replace hc0 := Sep.Holds.cells hw (i := 0) rfl); (try replace hc1 := Sep.Holds.cells hw (i := 1) rfl); (try replace hc2 := Sep.Holds.cells hw (i := 2) rfl); (try replace hc3 := Sep.Holds.cells hw (i := 3) rfl); (try replace hc4 := Sep.Holds.cells hw (i := 4) rfl); (try replace hc5 := Sep.Holds.cells hw (i := 5) rfl); (try replace hc6 := Sep.Holds.cells hw (i := 6) rfl))
      | (refine wpList_on rfl (wp_store1 (v := .int .i64 (len : Int)) rfl rfl rfl hw (i := 5) rfl (by rw [longs_length]; exact hrl) rfl ?_); intro w_ hw_; rw [Hk3.out] at hw_; clear hw; have hw := hw_; clear hw_; (try simp only [List.map_cons, List.map_nil, List.getD_cons_zero, List.getD_cons_succ, List.getD_nil, List.set_cons_zero, List.set_cons_succ, List.cons_append, List.nil_append, Act.eval, Array.getD_eq_getD_getElem?, List.getElem?_toArray, List.getElem?_cons_succ, List.getElem?_cons_zero, Option.getD_some, Value.cells] at hw); (try simp (disch := first | (simp; done) | (simp; omega)) only [Sep.mid_set, Sep.mid_set2, Sep.mid_set0, Sep.mid_splice, Sep.mid_splice0, List.set_cons_zero, List.set_cons_succ] at hw); (try simp only [Sep.splice, List.take_succ_cons, List.take_zero, List.drop_succ_cons, List.drop_zero, List.length_cons, List.length_nil, Nat.reduceAdd, List.cons_append, List.nil_append] at hw); (try replace hc0 := Sep.Holds.cells hw (i := 0) rfl); (try replace hc1 := Sep.Holds.cells hw (i := 1) rfl); (try replace hc2 := Sep.Holds.cells hw (i := 2) rfl); (try replace hc3 := Sep.Holds.cells hw (i := 3) rfl); (try replace hc4 := Sep.Holds.cells hw (i := 4) rfl); (try replace hc5 := Sep.Holds.cells hw (i := 5) rfl); (try replace hc6 := Sep.Holds.cells hw (i := 6) rfl)))
    have hcells : ringCells R x = ringCells R' x := by rw [← HR'.out]; simp [ringCells, Ring.setRow]
    rw [hcells] at hw
    exact HP.out _ _ ⟨rfl, IsRing.mk Hk1.out hw⟩

set_option maxHeartbeats 800000 in
theorem rTake_calls (p : Nat) (R : Ring) (r : Int) (e w : World) (X : HProp) (hw : Holds e w [X, IsRing p R]) :
    Calls Try.prog 28 #[.pointer (some ⟨p, 0, none⟩), .int .i64 r] w fun en w' => en = .returned (.tuple #[.int .i64 (R.first r), .bool (!decide (R.in_ (R.first r) = -1))]) ∧ Holds e w' [X, IsRing p (R.drop (R.first r))] := by
  refine Sep.calls_post ?_
  intro Post_ hPost_
  have HP := Sep.hid hPost_
  clear hPost_
  go_enter Try.func28, Try.ntmps28
  go_wp2_with fail
  refine (rFirst_calls p R r e _ X hw).mono ?_
  rintro en_ w_ ⟨rfl, hw_⟩
  clear hw; have hw := hw_; clear hw_
  go_wp2_with fail
  refine (rDrop_calls p R _ e _ X hw).mono ?_
  rintro en_ w_ ⟨rfl, hw_⟩
  clear hw; have hw := hw_; clear hw_
  go_wp2_with fail
  exact HP.out _ _ ⟨rfl, hw⟩
end Go.Proofs.Ytcefnihhlbeebaa
