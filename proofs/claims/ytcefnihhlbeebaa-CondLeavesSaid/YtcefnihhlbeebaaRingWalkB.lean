/-
  The walks of an arena's methods: who joins, lays, puts.
-/
import Derived.Test.YtcefnihhlbeebaaRingWalkA
namespace Go.Proofs.Ytcefnihhlbeebaa
set_option linter.unusedSimpArgs false
set_option linter.unusedVariables false
open Go.RowKit Go.Sep Go.RingM

theorem nodup_le {n : Nat} {l : List Nat} (h : l.Nodup) (hl : ∀ x ∈ l, x < n) : l.length ≤ n := by
  induction n generalizing l with
  | zero =>
    cases l with
    | nil => simp
    | cons y l => exact absurd (hl y (by simp)) (by omega)
  | succ n ih =>
    by_cases hm : n ∈ l
    · have h1 := ih (l := l.erase n) (h.erase n) (fun x hx => by
        have := (h.mem_erase_iff).1 hx
        have := hl x this.2
        omega)
      rw [List.length_erase_of_mem hm] at h1
      omega
    · have := ih h (fun x hx => by
        have := hl x hx
        have : x ≠ n := fun e => hm (e ▸ hx)
        omega)
      omega

set_option maxHeartbeats 800000 in
theorem rJoin_calls (p : Nat) (R : Ring) (x : RingAt) (nx pv : List Nat) (f s N : Nat) (hf : f < N) (hs : s < N) (ln : nx.length = N) (lp : pv.length = N) (HN : Hid (R.n + R.rows.length = N)) (e w : World) (X Y Z : HProp)
    (hw : Holds e w [X, pt p (ringCells R x) 68, pt x.bn (nats nx) 3, pt x.bp (nats pv) 3, Y, Z]) :
    Calls Try.prog 30 #[.pointer (some ⟨p, 0, none⟩), .int .i64 (f : Int), .int .i64 (s : Int)] w fun en w' =>
      en = .returned (.tuple #[]) ∧ Holds e w' [X, pt p (ringCells R x) 68, pt x.bn (nats (nx.set f s)) 3, pt x.bp (nats (pv.set s f)) 3, Y, Z] := by
  have hrc0 : (ringCells R x)[0]? = some (.slice (some ⟨x.bn, 0, none⟩) N N) := by rw [← HN.out]; rfl
  have hrc1 : (ringCells R x)[1]? = some (.slice (some ⟨x.bp, 0, none⟩) N N) := by rw [← HN.out]; rfl
  have Ln := Sep.hid ln; have Lp := Sep.hid lp; clear ln lp
  (try replace hc0 := Sep.Holds.cells hw (i := 0) rfl); (try replace hc1 := Sep.Holds.cells hw (i := 1) rfl); (try replace hc2 := Sep.Holds.cells hw (i := 2) rfl); (try replace hc3 := Sep.Holds.cells hw (i := 3) rfl); (try replace hc4 := Sep.Holds.cells hw (i := 4) rfl); (try replace hc5 := Sep.Holds.cells hw (i := 5) rfl); (try replace hc6 := Sep.Holds.cells hw (i := 6) rfl)
  refine Sep.calls_post ?_
  intro Post_ hPost_
  have HP := Sep.hid hPost_
  clear hPost_
  go_enter Try.func30, Try.ntmps30
  go_wp2_with fail
  refine wp_region_L [13, 15] [(3, (fun w' => w' = w.drew)), (8, (fun w' => w' = w.drew))] (n := 16) (listed := (marks 16 0)) (by kernel_rfl) rfl (by kernel_rfl) ?conds1 ?_
  case conds1 =>
   intro c hc
   simp only [List.mem_cons, List.not_mem_nil, or_false] at hc
   rcases hc with rfl | rfl
   · rfl
   · rfl
  replace hw := hw.drew
  (try replace hc0 := Sep.Holds.cells hw (i := 0) rfl); (try replace hc1 := Sep.Holds.cells hw (i := 1) rfl); (try replace hc2 := Sep.Holds.cells hw (i := 2) rfl); (try replace hc3 := Sep.Holds.cells hw (i := 3) rfl); (try replace hc4 := Sep.Holds.cells hw (i := 4) rfl); (try replace hc5 := Sep.Holds.cells hw (i := 5) rfl); (try replace hc6 := Sep.Holds.cells hw (i := 6) rfl)
  refine wpL_q 0 ?_ rfl (Or.inl ⟨by rfl, fun w_ hS_ => ?_⟩) (marks 16 1) ?_
  rotate_left
  next => (go_simp; try (first | rfl | exact (Bool.not_not _).symm))
  try simp only [Act.put, List.setIfInBounds_toArray, List.set_cons_zero, List.set_cons_succ]
  refine wpL_q 1 ?_ rfl (Or.inl ⟨by rfl, fun w_ hS_ => ?_⟩) (marks 16 3) ?_
  rotate_left
  next => (go_simp; try (first | rfl | exact (Bool.not_not _).symm))
  try simp only [Act.put, List.setIfInBounds_toArray, List.set_cons_zero, List.set_cons_succ]
  refine wpL_q 2 ?_ rfl (Or.inl ⟨by rfl, fun w_ hS_ => ?_⟩) (marks 16 7) ?_
  rotate_left
  next => (go_simp; try (first | rfl | exact (Bool.not_not _).symm))
  try simp only [Act.put, List.setIfInBounds_toArray, List.set_cons_zero, List.set_cons_succ]
  refine wpL_m 3 ?_ rfl (.head _) (Or.inl ⟨by rfl, fun w_ hS_ => ?_⟩) (marks 16 15) ?_
  rotate_left
  next => (subst hS_; go_simp; try (first | rfl | exact (Bool.not_not _).symm))
  try simp only [Act.put, List.setIfInBounds_toArray, List.set_cons_zero, List.set_cons_succ]
  refine wpL_q 4 ?_ rfl (Or.inl ⟨by rfl, fun w_ hS_ => ?_⟩) (marks 16 31) ?_
  rotate_left
  next => (go_simp; try (first | rfl | exact (Bool.not_not _).symm))
  try simp only [Act.put, List.setIfInBounds_toArray, List.set_cons_zero, List.set_cons_succ]
  refine wpL_q 5 ?_ rfl (Or.inl ⟨by rfl, fun w_ hS_ => ?_⟩) (marks 16 63) ?_
  rotate_left
  next => (go_simp; try (first | rfl | exact (Bool.not_not _).symm))
  try simp only [Act.put, List.setIfInBounds_toArray, List.set_cons_zero, List.set_cons_succ]
  refine wpL_q 6 ?_ rfl (Or.inl ⟨by rfl, fun w_ hS_ => ?_⟩) (marks 16 127) ?_
  rotate_left
  next => (go_simp; try (first | rfl | exact (Bool.not_not _).symm))
  try simp only [Act.put, List.setIfInBounds_toArray, List.set_cons_zero, List.set_cons_succ]
  refine wpL_q 7 ?_ rfl (Or.inl ⟨by rfl, fun w_ hS_ => ?_⟩) (marks 16 255) ?_
  rotate_left
  next => (go_simp; try (first | rfl | exact (Bool.not_not _).symm))
  try simp only [Act.put, List.setIfInBounds_toArray, List.set_cons_zero, List.set_cons_succ]
  refine wpL_m 8 ?_ rfl (.tail _ (.head _)) (Or.inl ⟨by rfl, fun w_ hS_ => ?_⟩) (marks 16 511) ?_
  rotate_left
  next => (subst hS_; go_simp; try (first | rfl | exact (Bool.not_not _).symm))
  try simp only [Act.put, List.setIfInBounds_toArray, List.set_cons_zero, List.set_cons_succ]
  refine wpL_q 9 ?_ rfl (Or.inl ⟨by rfl, fun w_ hS_ => ?_⟩) (marks 16 1023) ?_
  rotate_left
  next => (go_simp; try (first | rfl | exact (Bool.not_not _).symm))
  try simp only [Act.put, List.setIfInBounds_toArray, List.set_cons_zero, List.set_cons_succ]
  refine wpL_q 10 ?_ rfl (Or.inl ⟨by rfl, fun w_ hS_ => ?_⟩) (marks 16 2047) ?_
  rotate_left
  next => (go_simp; try (first | rfl | exact (Bool.not_not _).symm))
  try simp only [Act.put, List.setIfInBounds_toArray, List.set_cons_zero, List.set_cons_succ]
  refine wpL_q 11 ?_ rfl (Or.inl ⟨by rfl, fun w_ hS_ => ?_⟩) (marks 16 4095) ?_
  rotate_left
  next => (go_simp; try (first | rfl | exact (Bool.not_not _).symm))
  try simp only [Act.put, List.setIfInBounds_toArray, List.set_cons_zero, List.set_cons_succ]
  refine wpL_q 12 ?_ rfl (Or.inl ⟨by rfl, fun w_ hS_ => ?_⟩) (marks 16 8191) ?_
  rotate_left
  next => (go_simp; try (first | rfl | exact (Bool.not_not _).symm))
  try simp only [Act.put, List.setIfInBounds_toArray, List.set_cons_zero, List.set_cons_succ]
  refine wpL_o 13 rfl (by rfl) (marks 16 16383) ?_
  (refine wp_store1 (v := .int .i64 (s : Int)) rfl rfl rfl hw (i := 2) rfl (by rw [nats_length, Ln.out]; exact hf) rfl ?_; intro w_ hw_; rw [nats_set] at hw_; clear hw; have hw := hw_; clear hw_; (try simp only [List.map_cons, List.map_nil, List.getD_cons_zero, List.getD_cons_succ, List.getD_nil, List.set_cons_zero, List.set_cons_succ, List.cons_append, List.nil_append, Act.eval, Array.getD_eq_getD_getElem?, List.getElem?_toArray, List.getElem?_cons_succ, List.getElem?_cons_zero, Option.getD_some, Value.cells] at hw); (try simp (disch := first | (simp; done) | (simp; omega)) only [Sep.mid_set, Sep.mid_set2, Sep.mid_set0, Sep.mid_splice, Sep.mid_splice0, List.set_cons_zero, List.set_cons_succ] at hw); (try simp only [Sep.splice, List.take_succ_cons, List.take_zero, List.drop_succ_cons, List.drop_zero, List.length_cons, List.length_nil, Nat.reduceAdd, List.cons_append, List.nil_append] at hw); (try replace hc0 := Sep.Holds.cells hw (i := 0) rfl); (try replace hc1 := Sep.Holds.cells hw (i := 1) rfl); (try replace hc2 := Sep.Holds.cells hw (i := 2) rfl); (try replace hc3 := Sep.Holds.cells hw (i := 3) rfl); (try replace hc4 := Sep.Holds.cells hw (i := 4) rfl); (try replace hc5 := Sep.Holds.cells hw (i := 5) rfl); (try replace hc6 := Sep.Holds.cells hw (i := 6) rfl))
  refine ⟨(SL.drop 13 (by kernel_rfl) (SL.drop 13 (by kernel_rfl) SL.nil)), ?_⟩
  try simp only [Act.put, List.setIfInBounds_toArray, List.set_cons_zero, List.set_cons_succ]
  refine wpL_q 14 ?_ rfl (Or.inl ⟨by rfl, fun w_ hS_ => ?_⟩) (marks 16 32767) ?_
  rotate_left
  next => (go_simp; try (first | rfl | exact (Bool.not_not _).symm))
  try simp only [Act.put, List.setIfInBounds_toArray, List.set_cons_zero, List.set_cons_succ]
  refine wpL_o 15 rfl (by rfl) (marks 16 65535) ?_
  (refine wp_store1 (v := .int .i64 (f : Int)) rfl rfl rfl hw (i := 3) rfl (by rw [nats_length, Lp.out]; exact hs) rfl ?_; intro w_ hw_; rw [nats_set] at hw_; clear hw; have hw := hw_; clear hw_; (try simp only [List.map_cons, List.map_nil, List.getD_cons_zero, List.getD_cons_succ, List.getD_nil, List.set_cons_zero, List.set_cons_succ, List.cons_append, List.nil_append, Act.eval, Array.getD_eq_getD_getElem?, List.getElem?_toArray, List.getElem?_cons_succ, List.getElem?_cons_zero, Option.getD_some, Value.cells] at hw); (try simp (disch := first | (simp; done) | (simp; omega)) only [Sep.mid_set, Sep.mid_set2, Sep.mid_set0, Sep.mid_splice, Sep.mid_splice0, List.set_cons_zero, List.set_cons_succ] at hw); (try simp only [Sep.splice, List.take_succ_cons, List.take_zero, List.drop_succ_cons, List.drop_zero, List.length_cons, List.length_nil, Nat.reduceAdd, List.cons_append, List.nil_append] at hw); (try replace hc0 := Sep.Holds.cells hw (i := 0) rfl); (try replace hc1 := Sep.Holds.cells hw (i := 1) rfl); (try replace hc2 := Sep.Holds.cells hw (i := 2) rfl); (try replace hc3 := Sep.Holds.cells hw (i := 3) rfl); (try replace hc4 := Sep.Holds.cells hw (i := 4) rfl); (try replace hc5 := Sep.Holds.cells hw (i := 5) rfl); (try replace hc6 := Sep.Holds.cells hw (i := 6) rfl))
  refine ⟨(SL.drop 13 (by kernel_rfl) (SL.drop 13 (by kernel_rfl) SL.nil)), ?_⟩
  try simp only [Act.put, List.setIfInBounds_toArray, List.set_cons_zero, List.set_cons_succ]
  all_goals refine wpL_done (by kernel_rfl) ?_ _
  go_wp2_with fail
  go_end0
  exact HP.out _ _ ⟨rfl, hw⟩

set_option maxHeartbeats 1600000 in
/-- A node is laid between two halves of a row. -/
theorem rLay_calls (p : Nat) (R : Ring) (r k : Nat) (l1 l2 : List Nat) (hr : R.rows[r]? = some (l1 ++ l2)) (hk : k < R.n) (hin : ∀ (s : Nat) (m : List Nat), R.rows[s]? = some m → k ∉ m) (e w : World) (X : HProp)
    (hw : Holds e w [X, IsRing p R]) :
    Calls Try.prog 32 #[.pointer (some ⟨p, 0, none⟩), .int .i64 (r : Int), .int .i64 (k : Int), .int .i64 (lst (R.n + r) l1 : Nat)] w fun en w' =>
      en = .returned (.int .i64 0) ∧ Holds e w' [X, IsRing p (R.setRow r (l1 ++ k :: l2))] := by
  obtain ⟨x, nx, pv, hok, hw⟩ := IsRing.open_ hw; have Hok := Sep.hid hok; clear hok; obtain ⟨N, hN⟩ : ∃ N, R.n + R.rows.length = N := ⟨_, rfl⟩; have HN := Sep.hid hN; have hrc0 : (ringCells R x)[0]? = some (.slice (some ⟨x.bn, 0, none⟩) N N) := by rw [← hN]; rfl
  have hrc1 : (ringCells R x)[1]? = some (.slice (some ⟨x.bp, 0, none⟩) N N) := by rw [← hN]; rfl
  have hrc2 : (ringCells R x)[2]? = some (.slice (some ⟨x.bi, 0, none⟩) R.n R.n) := rfl
  have hrc3 : (ringCells R x)[3]? = some (.slice (some ⟨x.bl, 0, none⟩) R.rows.length R.rows.length) := rfl
  clear hN; have Hc := Sep.hid (hw.cells (i := 1) rfl); (try replace hc0 := Sep.Holds.cells hw (i := 0) rfl); (try replace hc1 := Sep.Holds.cells hw (i := 1) rfl); (try replace hc2 := Sep.Holds.cells hw (i := 2) rfl); (try replace hc3 := Sep.Holds.cells hw (i := 3) rfl); (try replace hc4 := Sep.Holds.cells hw (i := 4) rfl); (try replace hc5 := Sep.Holds.cells hw (i := 5) rfl); (try replace hc6 := Sep.Holds.cells hw (i := 6) rfl)
  have hins := Hok.out.insert hr hk hin
  have hends := Hok.out.ends hr
  have hlen : (l1 ++ l2).length ≤ 1000 := Nat.le_trans (nodup_le (Hok.out.wf.one r _ hr).1 (Hok.out.wf.one r _ hr).2) Hok.out.n2
  have hrl : r < R.rows.length := (List.getElem?_eq_some_iff.1 hr).1
  have hgl := longs_get hr
  have Hr := Sep.hid hr; clear hr
  have Hin := Sep.hid hin; clear hin
  generalize hR' : R.setRow r (l1 ++ k :: l2) = R' at *
  have HR' := Sep.hid hR'; clear hR'
  generalize hbe : lst (R.n + r) l1 = be at *
  generalize haf : fst l2 (R.n + r) = af at *
  generalize hln : (l1 ++ l2).length = len at *
  have Hx := Sep.hid hbe; clear hbe
  have Hx2 := Sep.hid haf; clear haf
  have Hx3 := Sep.hid hln; clear hln
  obtain ⟨hk1, hk2, hk3⟩ := hins
  obtain ⟨he1, he2, he3, he4⟩ := hends
  have Hk1 := Sep.hid hk1; clear hk1
  have Hk2 := Sep.hid hk2; clear hk2
  have Hk3 := Sep.hid hk3; clear hk3
  have He2 := Sep.hid he2; clear he2
  have ln : nx.length = N := Hok.out.laid.lenN.trans HN.out
  have lp : pv.length = N := Hok.out.laid.lenP.trans HN.out
  have hbe : be < N := by rw [← HN.out]; exact he3
  have haf : af < N := by rw [← HN.out]; exact he4
  have hkN : k < N := by rw [← HN.out]; omega
  clear he3 he4
  have hgn : (nats nx)[be]? = some (.int .i64 (af : Nat)) := by rw [nats_get (by rw [ln]; exact hbe), he1]
  clear he1
  have Ln := Sep.hid ln; have Lp := Sep.hid lp; clear ln lp
  have hwr : IntKind.i64.wrap ((len : Int) + 1) = ((len + 1 : Nat) : Int) := by rw [IntWalk.i64_in _ (by omega)]; omega
  refine Sep.calls_post ?_
  intro Post_ hPost_
  have HP := Sep.hid hPost_
  clear hPost_
  go_enter Try.func32, Try.ntmps32
  go_wp2_with fail
  refine (rJoin_calls p R x nx pv be k N hbe hkN Ln.out Lp.out HN e _ _ _ _ hw).mono ?_
  rintro en_ w_ ⟨rfl, hw_⟩
  clear hw; (try clear hc0); (try clear hc1); (try clear hc2); (try clear hc3); (try clear hc4); (try clear hc5); (try clear hc6); have hw := hw_; clear hw_
  (try replace hc0 := Sep.Holds.cells hw (i := 0) rfl); (try replace hc1 := Sep.Holds.cells hw (i := 1) rfl); (try replace hc2 := Sep.Holds.cells hw (i := 2) rfl); (try replace hc3 := Sep.Holds.cells hw (i := 3) rfl); (try replace hc4 := Sep.Holds.cells hw (i := 4) rfl); (try replace hc5 := Sep.Holds.cells hw (i := 5) rfl); (try replace hc6 := Sep.Holds.cells hw (i := 6) rfl)
  go_wp2_with fail
  refine (rJoin_calls p R x _ _ k af N hkN haf (by rw [List.length_set]; exact Ln.out) (by rw [List.length_set]; exact Lp.out) HN e _ _ _ _ hw).mono ?_
  rintro en_ w_ ⟨rfl, hw_⟩
  clear hw; (try clear hc0); (try clear hc1); (try clear hc2); (try clear hc3); (try clear hc4); (try clear hc5); (try clear hc6); have hw := hw_; clear hw_
  (try replace hc0 := Sep.Holds.cells hw (i := 0) rfl); (try replace hc1 := Sep.Holds.cells hw (i := 1) rfl); (try replace hc2 := Sep.Holds.cells hw (i := 2) rfl); (try replace hc3 := Sep.Holds.cells hw (i := 3) rfl); (try replace hc4 := Sep.Holds.cells hw (i := 4) rfl); (try replace hc5 := Sep.Holds.cells hw (i := 5) rfl); (try replace hc6 := Sep.Holds.cells hw (i := 6) rfl)
  go_wp2_with (first
    | (refine wpList_on rfl (wp_store1 (v := .int .i64 (r : Int)) rfl rfl rfl hw (i := 4) rfl (by rw [inns_length]; exact hk) rfl ?_); intro w_ hw_; rw [Hk2.out] at hw_; clear hw; have hw := hw_; clear hw_; (try simp only [List.map_cons, List.map_nil, List.getD_cons_zero, List.getD_cons_succ, List.getD_nil, List.set_cons_zero, List.set_cons_succ, List.cons_append, List.nil_append, Act.eval, Array.getD_eq_getD_getElem?, List.getElem?_toArray, List.getElem?_cons_succ, List.getElem?_cons_zero, Option.getD_some, Value.cells] at hw); (try simp (disch := first | (simp; done) | (simp; omega)) only [Sep.mid_set, Sep.mid_set2, Sep.mid_set0, Sep.mid_splice, Sep.mid_splice0, List.set_cons_zero, List.set_cons_succ] at hw); (try simp only [Sep.splice, List.take_succ_cons, List.take_zero, List.drop_succ_cons, List.drop_zero, List.length_cons, List.length_nil, Nat.reduceAdd, List.cons_append, List.nil_append] at hw); (try replace hc0 := Sep.Holds.cells hw (i := 0) rfl); (try replace hc1 := Sep.Holds.cells hw (i := 1) rfl); (try replace hc2 := Sep.Holds.cells hw (i := 2) rfl); (try replace hc3 := Sep.Holds.cells hw (i := 3) rfl); (try replace hc4 := Sep.Holds.cells hw (i := 4) rfl); (try replace hc5 := Sep.Holds.cells hw (i := 5) rfl); (try replace hc6 := Sep.Holds.cells hw (i := 6) rfl))
    | (refine wpList_on rfl (wp_store1 (v := .int .i64 ((len + 1 : Nat) : Int)) rfl rfl rfl hw (i := 5) rfl (by rw [longs_length]; exact hrl) rfl ?_); intro w_ hw_; rw [Hk3.out] at hw_; clear hw; have hw := hw_; clear hw_; (try simp only [List.map_cons, List.map_nil, List.getD_cons_zero, List.getD_cons_succ, List.getD_nil, List.set_cons_zero, List.set_cons_succ, List.cons_append, List.nil_append, Act.eval, Array.getD_eq_getD_getElem?, List.getElem?_toArray, List.getElem?_cons_succ, List.getElem?_cons_zero, Option.getD_some, Value.cells] at hw); (try simp (disch := first | (simp; done) | (simp; omega)) only [Sep.mid_set, Sep.mid_set2, Sep.mid_set0, Sep.mid_splice, Sep.mid_splice0, List.set_cons_zero, List.set_cons_succ] at hw); (try simp only [Sep.splice, List.take_succ_cons, List.take_zero, List.drop_succ_cons, List.drop_zero, List.length_cons, List.length_nil, Nat.reduceAdd, List.cons_append, List.nil_append] at hw); (try replace hc0 := Sep.Holds.cells hw (i := 0) rfl); (try replace hc1 := Sep.Holds.cells hw (i := 1) rfl); (try replace hc2 := Sep.Holds.cells hw (i := 2) rfl); (try replace hc3 := Sep.Holds.cells hw (i := 3) rfl); (try replace hc4 := Sep.Holds.cells hw (i := 4) rfl); (try replace hc5 := Sep.Holds.cells hw (i := 5) rfl); (try replace hc6 := Sep.Holds.cells hw (i := 6) rfl)))
  have hcells : ringCells R x = ringCells R' x := by rw [← HR'.out]; simp [ringCells, Ring.setRow]
  rw [hcells] at hw
  exact HP.out _ _ ⟨rfl, IsRing.mk Hk1.out hw⟩

set_option maxHeartbeats 800000 in
theorem rMay_calls (p : Nat) (R : Ring) (r n : Int) (e w : World) (X : HProp) (hw : Holds e w [X, IsRing p R]) :
    Calls Try.prog 31 #[.pointer (some ⟨p, 0, none⟩), .int .i64 r, .int .i64 n] w fun en w' => en = .returned (.int .i64 (R.mayE r n)) ∧ w' = w := by
  obtain ⟨x, nx, pv, hok, hw⟩ := IsRing.open_ hw
  have Hok := Sep.hid hok; clear hok
  have Hc := Sep.hid (hw.cells (i := 1) rfl)
  have hrc2 : (ringCells R x)[2]? = some (.slice (some ⟨x.bi, 0, none⟩) R.n R.n) := rfl
  cases hr : R.isRow r with
  | false =>
    have e1 : R.mayE r n = 3 := by simp [Ring.mayE, hr]
    rw [e1]
    refine Sep.calls_post ?_
    intro Post_ hPost_
    have HP := Sep.hid hPost_
    clear hPost_
    go_enter Try.func31, Try.ntmps31
    go_wp2_with (go_at_call 25; refine (rRow_calls p R x r _ Hc.out).mono ?_; rintro _ w_ ⟨rfl, rfl⟩; rw [hr])
    exact HP.out _ _ ⟨rfl, rfl⟩
  | true =>
    cases hn : R.isNode n with
    | false =>
      have e1 : R.mayE r n = 3 := by simp [Ring.mayE, hr, hn]
      rw [e1]
      refine Sep.calls_post ?_
      intro Post_ hPost_
      have HP := Sep.hid hPost_
      clear hPost_
      go_enter Try.func31, Try.ntmps31
      go_wp2_with (first
        | (go_at_call 25; refine (rRow_calls p R x r _ Hc.out).mono ?_; rintro _ w_ ⟨rfl, rfl⟩; rw [hr])
        | (go_at_call 34; refine (rNode_calls p R x n _ Hc.out).mono ?_; rintro _ w_ ⟨rfl, rfl⟩; rw [hn]))
      exact HP.out _ _ ⟨rfl, rfl⟩
    | true =>
      have h' := hn
      simp only [Ring.isNode, Bool.and_eq_true, decide_eq_true_eq] at h'
      obtain ⟨m, rfl⟩ := Int.eq_ofNat_of_zero_le h'.1
      have hm : m < R.n := by omega
      clear h'
      have e1 : R.mayE r m = if R.inOf m = -1 then 0 else 6 := by simp [Ring.mayE, hr, hn, Ring.in_]
      rw [e1]
      have hg := inns_get hm
      (try replace hc0 := Sep.Holds.cells hw (i := 0) rfl); (try replace hc1 := Sep.Holds.cells hw (i := 1) rfl); (try replace hc2 := Sep.Holds.cells hw (i := 2) rfl); (try replace hc3 := Sep.Holds.cells hw (i := 3) rfl); (try replace hc4 := Sep.Holds.cells hw (i := 4) rfl); (try replace hc5 := Sep.Holds.cells hw (i := 5) rfl); (try replace hc6 := Sep.Holds.cells hw (i := 6) rfl)
      by_cases hi : R.inOf m = -1
      · rw [if_pos hi]
        rw [hi] at hg
        clear hi
        refine Sep.calls_post ?_
        intro Post_ hPost_
        have HP := Sep.hid hPost_
        clear hPost_
        go_enter Try.func31, Try.ntmps31
        go_wp2_with (first
          | (go_at_call 25; refine (rRow_calls p R x r _ Hc.out).mono ?_; rintro _ w_ ⟨rfl, rfl⟩; rw [hr])
          | (go_at_call 34; refine (rNode_calls p R x m _ Hc.out).mono ?_; rintro _ w_ ⟨rfl, rfl⟩; rw [hn]))
        exact HP.out _ _ ⟨rfl, rfl⟩
      · rw [if_neg hi]
        refine Sep.calls_post ?_
        intro Post_ hPost_
        have HP := Sep.hid hPost_
        clear hPost_
        go_enter Try.func31, Try.ntmps31
        go_wp2_with (first
          | (go_at_call 25; refine (rRow_calls p R x r _ Hc.out).mono ?_; rintro _ w_ ⟨rfl, rfl⟩; rw [hr])
          | (go_at_call 34; refine (rNode_calls p R x m _ Hc.out).mono ?_; rintro _ w_ ⟨rfl, rfl⟩; rw [hn]))
        exact HP.out _ _ ⟨rfl, rfl⟩

set_option maxHeartbeats 1600000 in
theorem rPut_calls (p : Nat) (R : Ring) (r n : Int) (e w : World) (X : HProp) (hw : Holds e w [X, IsRing p R]) :
    Calls Try.prog 24 #[.pointer (some ⟨p, 0, none⟩), .int .i64 r, .int .i64 n] w fun en w' => en = .returned (.int .i64 (R.mayE r n)) ∧ Holds e w' [X, IsRing p (R.add false r n)] := by
  by_cases hm : R.mayE r n = 0
  · have hwf : R.Wf := by obtain ⟨_, _, _, hok, _⟩ := IsRing.open_ hw; exact hok.wf
    obtain ⟨r, n, l, rfl, rfl, hn, hrl, hr, hrow, hi, hin⟩ := may_data hwf hm
    have hadd : R.add false r n = R.setRow r (l ++ [n]) := Ring.add_eq hm hrow false
    rw [hadd, hm]
    have Hwf := Sep.hid hwf; clear hwf
    have Hrow := Sep.hid hrow; clear hrow; have Hadd := Sep.hid hadd; clear hadd
    have hw1 := hw
    obtain ⟨x, nx, pv, hok, hw⟩ := IsRing.open_ hw; have Hok := Sep.hid hok; clear hok; obtain ⟨N, hN⟩ : ∃ N, R.n + R.rows.length = N := ⟨_, rfl⟩; have HN := Sep.hid hN; have hrc0 : (ringCells R x)[0]? = some (.slice (some ⟨x.bn, 0, none⟩) N N) := by rw [← hN]; rfl
    have hrc1 : (ringCells R x)[1]? = some (.slice (some ⟨x.bp, 0, none⟩) N N) := by rw [← hN]; rfl
    have hrc2 : (ringCells R x)[2]? = some (.slice (some ⟨x.bi, 0, none⟩) R.n R.n) := rfl
    have hrc3 : (ringCells R x)[3]? = some (.slice (some ⟨x.bl, 0, none⟩) R.rows.length R.rows.length) := rfl
    clear hN; have Hc := Sep.hid (hw.cells (i := 1) rfl); (try replace hc0 := Sep.Holds.cells hw (i := 0) rfl); (try replace hc1 := Sep.Holds.cells hw (i := 1) rfl); (try replace hc2 := Sep.Holds.cells hw (i := 2) rfl); (try replace hc3 := Sep.Holds.cells hw (i := 3) rfl); (try replace hc4 := Sep.Holds.cells hw (i := 4) rfl); (try replace hc5 := Sep.Holds.cells hw (i := 5) rfl); (try replace hc6 := Sep.Holds.cells hw (i := 6) rfl)
    have hends := Hok.out.ends (l1 := l) (l2 := []) (r := r) (by simpa using hr)
    have Hr := Sep.hid hr; clear hr
    have Hin := Sep.hid hin; clear hin
    have Hi := Sep.hid hi; clear hi
    have hn1 := Hok.out.n2
    have hr1 := Hok.out.r2
    generalize hbe : lst (R.n + r) l = be at *
    have Hbe := Sep.hid hbe; clear hbe
    have hbN : be < N := by rw [← HN.out]; exact hends.2.2.1
    have hgp : (nats pv)[R.n + r]? = some (.int .i64 (be : Nat)) := by
      rw [nats_get (by rw [Hok.out.laid.lenP]; omega)]
      have h2 := hends.2.1
      unfold fst at h2
      rw [h2]
    have hrN : R.n + r < N := by rw [← HN.out]; omega
    clear hends
    generalize hhd : R.n + r = hd at *
    have Hhd := Sep.hid hhd; clear hhd
    refine Sep.calls_post ?_
    intro Post_ hPost_
    have HP := Sep.hid hPost_
    clear hPost_
    go_enter Try.func24, Try.ntmps24
    go_wp2_with (go_at_call 31; refine (rMay_calls p R r n e _ X hw1).mono ?_; rintro _ w_ ⟨rfl, rfl⟩; rw [hm])
    clear hw1
    refine wp_region_L [10, 13] [(7, (fun w' => Holds e w' [X, pt p (ringCells R x) 68, pt x.bn (nats nx) 3, pt x.bp (nats pv) 3, pt x.bi (inns R) 3, pt x.bl (longs R) 3])), (12, (fun w' => Holds e w' [X, pt p (ringCells R x) 68, pt x.bn (nats nx) 3, pt x.bp (nats pv) 3, pt x.bi (inns R) 3, pt x.bl (longs R) 3]))] (n := 15) (listed := (marks 15 0)) (by kernel_rfl) rfl (by kernel_rfl) ?conds2 ?_
    case conds2 =>
     intro c hc
     simp only [List.mem_cons, List.not_mem_nil, or_false] at hc
     rcases hc with rfl | rfl
     · exact (by replace hw := hw.drew; exact hw)
     · exact (by replace hw := hw.drew; exact hw)
    replace hw := hw.drew
    (try replace hc0 := Sep.Holds.cells hw (i := 0) rfl); (try replace hc1 := Sep.Holds.cells hw (i := 1) rfl); (try replace hc2 := Sep.Holds.cells hw (i := 2) rfl); (try replace hc3 := Sep.Holds.cells hw (i := 3) rfl); (try replace hc4 := Sep.Holds.cells hw (i := 4) rfl); (try replace hc5 := Sep.Holds.cells hw (i := 5) rfl); (try replace hc6 := Sep.Holds.cells hw (i := 6) rfl)
    refine wpL_q 0 ?_ rfl (Or.inl ⟨by rfl, fun w_ hS_ => ?_⟩) (marks 15 1) ?_
    rotate_left
    next => (go_simp; try (first | rfl | exact (Bool.not_not _).symm))
    try simp only [Act.put, List.setIfInBounds_toArray, List.set_cons_zero, List.set_cons_succ]
    refine wpL_q 1 ?_ rfl (Or.inl ⟨by rfl, fun w_ hS_ => ?_⟩) (marks 15 3) ?_
    rotate_left
    next => (go_simp; try (first | rfl | exact (Bool.not_not _).symm))
    try simp only [Act.put, List.setIfInBounds_toArray, List.set_cons_zero, List.set_cons_succ]
    refine wpL_q 2 ?_ rfl (Or.inl ⟨by rfl, fun w_ hS_ => ?_⟩) (marks 15 7) ?_
    rotate_left
    next => (go_simp; try (first | rfl | exact (Bool.not_not _).symm))
    try simp only [Act.put, List.setIfInBounds_toArray, List.set_cons_zero, List.set_cons_succ]
    refine wpL_q 3 ?_ rfl (Or.inl ⟨by rfl, fun w_ hS_ => ?_⟩) (marks 15 15) ?_
    rotate_left
    next => (go_simp; try (first | rfl | exact (Bool.not_not _).symm))
    try simp only [Act.put, List.setIfInBounds_toArray, List.set_cons_zero, List.set_cons_succ]
    refine wpL_q 4 ?_ rfl (Or.inl ⟨by rfl, fun w_ hS_ => ?_⟩) (marks 15 31) ?_
    rotate_left
    next => (go_simp; try (first | rfl | exact (Bool.not_not _).symm))
    try simp only [Act.put, List.setIfInBounds_toArray, List.set_cons_zero, List.set_cons_succ]
    refine wpL_q 5 ?_ rfl (Or.inl ⟨by rfl, fun w_ hS_ => ?_⟩) (marks 15 63) ?_
    rotate_left
    next => (go_simp; try (first | rfl | exact (Bool.not_not _).symm))
    try simp only [Act.put, List.setIfInBounds_toArray, List.set_cons_zero, List.set_cons_succ]
    refine wpL_q 6 ?_ rfl (Or.inl ⟨by rfl, fun w_ hS_ => ?_⟩) (marks 15 127) ?_
    rotate_left
    next => (go_simp; try (first | rfl | exact (Bool.not_not _).symm))
    try simp only [Act.put, List.setIfInBounds_toArray, List.set_cons_zero, List.set_cons_succ]
    refine wpL_m 7 ?_ rfl (.head _) (Or.inl ⟨by rfl, fun w_ hS_ => ?_⟩) (marks 15 255) ?_
    rotate_left
    next => (dsimp only at hS_; (try have q0 := Sep.Holds.cells hS_ (i := 0) rfl); (try have q1 := Sep.Holds.cells hS_ (i := 1) rfl); (try have q2 := Sep.Holds.cells hS_ (i := 2) rfl); (try have q3 := Sep.Holds.cells hS_ (i := 3) rfl); (try have q4 := Sep.Holds.cells hS_ (i := 4) rfl); (try have q5 := Sep.Holds.cells hS_ (i := 5) rfl); (try have q6 := Sep.Holds.cells hS_ (i := 6) rfl); go_simp; try (first | rfl | exact (Bool.not_not _).symm))
    try simp only [Act.put, List.setIfInBounds_toArray, List.set_cons_zero, List.set_cons_succ]
    refine wpL_q 8 ?_ rfl (Or.inl ⟨by rfl, fun w_ hS_ => ?_⟩) (marks 15 511) ?_
    rotate_left
    next => (go_simp; try (first | rfl | exact (Bool.not_not _).symm))
    try simp only [Act.put, List.setIfInBounds_toArray, List.set_cons_zero, List.set_cons_succ]
    refine wpL_q 9 ?_ rfl (Or.inl ⟨by rfl, fun w_ hS_ => ?_⟩) (marks 15 1023) ?_
    rotate_left
    next => (go_simp; try (first | rfl | exact (Bool.not_not _).symm))
    try simp only [Act.put, List.setIfInBounds_toArray, List.set_cons_zero, List.set_cons_succ]
    refine wpL_o 10 rfl (by rfl) (marks 15 2047) ?_
    (go_simp; go_at_call 26; refine (rHead_calls p R x r hn1 (by omega) _ hc1).mono ?_; rintro _ w_ ⟨rfl, rfl⟩; rw [Hhd.out])
    refine ⟨(SL.keep (by exact hw) (SL.keep (by exact hw) SL.nil)), ?_⟩
    try simp only [Act.put, List.setIfInBounds_toArray, List.set_cons_zero, List.set_cons_succ]
    refine wpL_q 11 ?_ rfl (Or.inl ⟨by rfl, fun w_ hS_ => ?_⟩) (marks 15 4095) ?_
    rotate_left
    next => (go_simp; try (first | rfl | exact (Bool.not_not _).symm))
    try simp only [Act.put, List.setIfInBounds_toArray, List.set_cons_zero, List.set_cons_succ]
    refine wpL_m 12 ?_ rfl (.tail _ (.head _)) (Or.inl ⟨by rfl, fun w_ hS_ => ?_⟩) (marks 15 8191) ?_
    rotate_left
    next => (dsimp only at hS_; (try have q0 := Sep.Holds.cells hS_ (i := 0) rfl); (try have q1 := Sep.Holds.cells hS_ (i := 1) rfl); (try have q2 := Sep.Holds.cells hS_ (i := 2) rfl); (try have q3 := Sep.Holds.cells hS_ (i := 3) rfl); (try have q4 := Sep.Holds.cells hS_ (i := 4) rfl); (try have q5 := Sep.Holds.cells hS_ (i := 5) rfl); (try have q6 := Sep.Holds.cells hS_ (i := 6) rfl); go_simp; try (first | rfl | exact (Bool.not_not _).symm))
    try simp only [Act.put, List.setIfInBounds_toArray, List.set_cons_zero, List.set_cons_succ]
    refine wpL_o 13 rfl (by rfl) (marks 15 16383) ?_
    (go_simp; go_at_call 32; rw [← Hbe.out, ← Hhd.out]; refine (rLay_calls p R r n l [] (by simpa using Hr.out) hn Hin.out e _ X (IsRing.mk Hok.out hw)).mono ?_; rintro _ w_ ⟨rfl, hw_⟩; clear hw; (try clear hc0); (try clear hc1); (try clear hc2); (try clear hc3); (try clear hc4); (try clear hc5); (try clear hc6); have hw := hw_; clear hw_)
    refine ⟨(SL.drop 13 (by kernel_rfl) (SL.drop 13 (by kernel_rfl) SL.nil)), ?_⟩
    try simp only [Act.put, List.setIfInBounds_toArray, List.set_cons_zero, List.set_cons_succ]
    refine wpL_q 14 ?_ rfl (Or.inl ⟨by rfl, fun w_ hS_ => ?_⟩) (marks 15 32767) ?_
    rotate_left
    next => (go_simp; try (first | rfl | exact (Bool.not_not _).symm))
    try simp only [Act.put, List.setIfInBounds_toArray, List.set_cons_zero, List.set_cons_succ]
    all_goals refine wpL_done (by kernel_rfl) ?_ _
    go_wp2_with fail
    exact HP.out _ _ ⟨rfl, hw⟩
  · have hadd : R.add false r n = R := by unfold Ring.add; rw [if_neg hm]
    rw [hadd]
    refine Sep.calls_post ?_
    intro Post_ hPost_
    have HP := Sep.hid hPost_
    clear hPost_
    go_enter Try.func24, Try.ntmps24
    go_wp2_with (go_at_call 31; refine (rMay_calls p R r n e _ X hw).mono ?_; rintro _ w_ ⟨rfl, rfl⟩)
    exact HP.out _ _ ⟨rfl, hw⟩
end Go.Proofs.Ytcefnihhlbeebaa
