/-
  The walks of an arena's methods: who pushes, drops, takes.
-/
import Derived.Test.YtcefnihhlbeebaaRingWalkB
namespace Go.Proofs.Ytcefnihhlbeebaa
set_option linter.unusedSimpArgs false
set_option linter.unusedVariables false
open Go.RowKit Go.Sep Go.RingM

set_option maxHeartbeats 1600000 in
theorem rFirst_calls (p : Nat) (R : Ring) (r : Int) (e w : World) (X : HProp) (hw : Holds e w [X, IsRing p R]) :
    Calls Try.prog 33 #[.pointer (some ⟨p, 0, none⟩), .int .i64 r] w fun en w' => en = .returned (.int .i64 (R.first r)) ∧ Holds e w' [X, IsRing p R] := by
  have hw1 := hw
  obtain ⟨x, nx, pv, hok, hw⟩ := IsRing.open_ hw; have Hok := Sep.hid hok; clear hok; obtain ⟨N, hN⟩ : ∃ N, R.n + R.rows.length = N := ⟨_, rfl⟩; have HN := Sep.hid hN; have hrc0 : (ringCells R x)[0]? = some (.slice (some ⟨x.bn, 0, none⟩) N N) := by rw [← hN]; rfl
  have hrc1 : (ringCells R x)[1]? = some (.slice (some ⟨x.bp, 0, none⟩) N N) := by rw [← hN]; rfl
  have hrc2 : (ringCells R x)[2]? = some (.slice (some ⟨x.bi, 0, none⟩) R.n R.n) := rfl
  have hrc3 : (ringCells R x)[3]? = some (.slice (some ⟨x.bl, 0, none⟩) R.rows.length R.rows.length) := rfl
  clear hN; have Hc := Sep.hid (hw.cells (i := 1) rfl); (try replace hc0 := Sep.Holds.cells hw (i := 0) rfl); (try replace hc1 := Sep.Holds.cells hw (i := 1) rfl); (try replace hc2 := Sep.Holds.cells hw (i := 2) rfl); (try replace hc3 := Sep.Holds.cells hw (i := 3) rfl); (try replace hc4 := Sep.Holds.cells hw (i := 4) rfl); (try replace hc5 := Sep.Holds.cells hw (i := 5) rfl); (try replace hc6 := Sep.Holds.cells hw (i := 6) rfl)
  cases hr : R.isRow r with
  | false =>
    have e1 : R.first r = -1 := by simp [Ring.first, Ring.row, hr]
    rw [e1]
    refine Sep.calls_post ?_
    intro Post_ hPost_
    have HP := Sep.hid hPost_
    clear hPost_
    go_enter Try.func33, Try.ntmps33
    go_wp2_with (go_at_call 25; refine (rRow_calls p R x r _ Hc.out).mono ?_; rintro _ w_ ⟨rfl, rfl⟩; rw [hr])
    exact HP.out _ _ ⟨rfl, hw1⟩
  | true =>
    have h' := hr
    simp only [Ring.isRow, Bool.and_eq_true, decide_eq_true_eq] at h'
    obtain ⟨r, rfl⟩ := Int.eq_ofNat_of_zero_le h'.1
    have hrl : r < R.rows.length := by omega
    clear h'
    obtain ⟨l, hl⟩ : ∃ l, R.rows[r]? = some l := ⟨_, List.getElem?_eq_getElem hrl⟩
    have hg := longs_get hl
    have hends := Hok.out.ends (l1 := []) (l2 := l) (r := r) (by simpa using hl)
    cases l with
    | nil =>
      have e1 : R.first r = -1 := by unfold Ring.first; rw [Ring.row_of hl]
      rw [e1]
      clear e1 hl
      refine Sep.calls_post ?_
      intro Post_ hPost_
      have HP := Sep.hid hPost_
      clear hPost_
      go_enter Try.func33, Try.ntmps33
      go_wp2_with (go_at_call 25; refine (rRow_calls p R x r _ Hc.out).mono ?_; rintro _ w_ ⟨rfl, rfl⟩; rw [hr])
      exact HP.out _ _ ⟨rfl, hw1⟩
    | cons y l =>
      have e1 : R.first r = (y : Int) := by unfold Ring.first; rw [Ring.row_of hl]
      rw [e1]
      clear e1
      have Hl := Sep.hid hl; clear hl
      have hn1 := Hok.out.n2
      have hr1 := Hok.out.r2
      have hrN : R.n + r < N := by rw [← HN.out]; omega
      have hgn : (nats nx)[R.n + r]? = some (.int .i64 (y : Nat)) := by
        rw [nats_get (by rw [Hok.out.laid.lenN]; omega)]
        have h2 := hends.1
        simp only [lst, fst] at h2
        rw [h2]
      clear hends
      have hgl : (longs R)[r]? = some (.int .i64 ((l.length + 1 : Nat) : Int)) := by rw [hg]; simp
      clear hg
      have hpos : ¬ (((l.length + 1 : Nat) : Int) = 0) := by omega
      generalize hlen : l.length + 1 = len at *
      have Hlen := Sep.hid hlen; clear hlen
      generalize hhd : R.n + r = hd at *
      have Hhd := Sep.hid hhd; clear hhd
      have hw1 := Sep.hid hw1
      refine Sep.calls_post ?_
      intro Post_ hPost_
      have HP := Sep.hid hPost_
      clear hPost_
      go_enter Try.func33, Try.ntmps33
      go_wp2_with (go_at_call 25; refine (rRow_calls p R x r _ Hc.out).mono ?_; rintro _ w_ ⟨rfl, rfl⟩; rw [hr])
      refine wp_region_L [7] [(4, (fun w' => Holds e w' [X, pt p (ringCells R x) 68, pt x.bn (nats nx) 3, pt x.bp (nats pv) 3, pt x.bi (inns R) 3, pt x.bl (longs R) 3])), (9, (fun w' => Holds e w' [X, pt p (ringCells R x) 68, pt x.bn (nats nx) 3, pt x.bp (nats pv) 3, pt x.bi (inns R) 3, pt x.bl (longs R) 3]))] (n := 11) (listed := (marks 11 0)) (by kernel_rfl) rfl (by kernel_rfl) ?conds1 ?_
      case conds1 =>
       intro c hc
       simp only [List.mem_cons, List.not_mem_nil, or_false] at hc
       rcases hc with rfl | rfl
       · exact (by replace hw := hw.drew; exact hw)
       · exact (by replace hw := hw.drew; exact hw)
      replace hw := hw.drew
      (try replace hc0 := Sep.Holds.cells hw (i := 0) rfl); (try replace hc1 := Sep.Holds.cells hw (i := 1) rfl); (try replace hc2 := Sep.Holds.cells hw (i := 2) rfl); (try replace hc3 := Sep.Holds.cells hw (i := 3) rfl); (try replace hc4 := Sep.Holds.cells hw (i := 4) rfl); (try replace hc5 := Sep.Holds.cells hw (i := 5) rfl); (try replace hc6 := Sep.Holds.cells hw (i := 6) rfl)
      refine wpL_q 0 ?_ rfl (Or.inl ⟨by rfl, fun w_ hS_ => ?_⟩) (marks 11 1) ?_
      rotate_left
      next => (go_simp; try (first | rfl | exact (Bool.not_not _).symm))
      try simp only [Act.put, List.setIfInBounds_toArray, List.set_cons_zero, List.set_cons_succ]
      refine wpL_q 1 ?_ rfl (Or.inl ⟨by rfl, fun w_ hS_ => ?_⟩) (marks 11 3) ?_
      rotate_left
      next => (go_simp; try (first | rfl | exact (Bool.not_not _).symm))
      try simp only [Act.put, List.setIfInBounds_toArray, List.set_cons_zero, List.set_cons_succ]
      refine wpL_q 2 ?_ rfl (Or.inl ⟨by rfl, fun w_ hS_ => ?_⟩) (marks 11 7) ?_
      rotate_left
      next => (go_simp; try (first | rfl | exact (Bool.not_not _).symm))
      try simp only [Act.put, List.setIfInBounds_toArray, List.set_cons_zero, List.set_cons_succ]
      refine wpL_q 3 ?_ rfl (Or.inl ⟨by rfl, fun w_ hS_ => ?_⟩) (marks 11 15) ?_
      rotate_left
      next => (go_simp; try (first | rfl | exact (Bool.not_not _).symm))
      try simp only [Act.put, List.setIfInBounds_toArray, List.set_cons_zero, List.set_cons_succ]
      refine wpL_m 4 ?_ rfl (.head _) (Or.inl ⟨by rfl, fun w_ hS_ => ?_⟩) (marks 11 31) ?_
      rotate_left
      next => (dsimp only at hS_; (try have q0 := Sep.Holds.cells hS_ (i := 0) rfl); (try have q1 := Sep.Holds.cells hS_ (i := 1) rfl); (try have q2 := Sep.Holds.cells hS_ (i := 2) rfl); (try have q3 := Sep.Holds.cells hS_ (i := 3) rfl); (try have q4 := Sep.Holds.cells hS_ (i := 4) rfl); (try have q5 := Sep.Holds.cells hS_ (i := 5) rfl); (try have q6 := Sep.Holds.cells hS_ (i := 6) rfl); go_simp; try (first | rfl | exact (Bool.not_not _).symm))
      try simp only [Act.put, List.setIfInBounds_toArray, List.set_cons_zero, List.set_cons_succ]
      refine wpL_q 5 ?_ rfl (Or.inl ⟨by rfl, fun w_ hS_ => ?_⟩) (marks 11 63) ?_
      rotate_left
      next => (go_simp; try (first | rfl | exact (Bool.not_not _).symm))
      try simp only [Act.put, List.setIfInBounds_toArray, List.set_cons_zero, List.set_cons_succ]
      refine wpL_q 6 ?_ rfl (Or.inl ⟨by rfl, fun w_ hS_ => ?_⟩) (marks 11 127) ?_
      rotate_left
      next => (go_simp; try (first | rfl | exact (Bool.not_not _).symm))
      try simp only [Act.put, List.setIfInBounds_toArray, List.set_cons_zero, List.set_cons_succ]
      refine wpL_o 7 rfl (by rfl) (marks 11 255) ?_
      (go_simp; go_at_call 26; refine (rHead_calls p R x r hn1 (by omega) _ hc1).mono ?_; rintro _ w_ ⟨rfl, rfl⟩; rw [Hhd.out])
      refine ⟨(SL.keep (by exact hw) (SL.keep (by exact hw) SL.nil)), ?_⟩
      try simp only [Act.put, List.setIfInBounds_toArray, List.set_cons_zero, List.set_cons_succ]
      refine wpL_q 8 ?_ rfl (Or.inl ⟨by rfl, fun w_ hS_ => ?_⟩) (marks 11 511) ?_
      rotate_left
      next => (go_simp; try (first | rfl | exact (Bool.not_not _).symm))
      try simp only [Act.put, List.setIfInBounds_toArray, List.set_cons_zero, List.set_cons_succ]
      refine wpL_m 9 ?_ rfl (.tail _ (.head _)) (Or.inl ⟨by rfl, fun w_ hS_ => ?_⟩) (marks 11 1023) ?_
      rotate_left
      next => (dsimp only at hS_; (try have q0 := Sep.Holds.cells hS_ (i := 0) rfl); (try have q1 := Sep.Holds.cells hS_ (i := 1) rfl); (try have q2 := Sep.Holds.cells hS_ (i := 2) rfl); (try have q3 := Sep.Holds.cells hS_ (i := 3) rfl); (try have q4 := Sep.Holds.cells hS_ (i := 4) rfl); (try have q5 := Sep.Holds.cells hS_ (i := 5) rfl); (try have q6 := Sep.Holds.cells hS_ (i := 6) rfl); go_simp; try (first | rfl | exact (Bool.not_not _).symm))
      try simp only [Act.put, List.setIfInBounds_toArray, List.set_cons_zero, List.set_cons_succ]
      refine wpL_q 10 ?_ rfl (Or.inl ⟨by rfl, fun w_ hS_ => ?_⟩) (marks 11 2047) ?_
      rotate_left
      next => (go_simp; try (first | rfl | exact (Bool.not_not _).symm))
      try simp only [Act.put, List.setIfInBounds_toArray, List.set_cons_zero, List.set_cons_succ]
      all_goals refine wpL_done (by kernel_rfl) ?_ _
      go_wp2_with fail
      exact HP.out _ _ ⟨rfl, IsRing.mk Hok.out hw⟩
end Go.Proofs.Ytcefnihhlbeebaa
