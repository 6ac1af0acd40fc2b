/-
  The walks of slices.Chunk and of what it hands back.
-/
import Derived.Test.YtmokklkckecmdaaDoorCodeI
import Derived.Test.YtmokklkckecmdaaDoorSepRound
import Derived.LoopIn
import Derived.BigFrameIn
import Derived.OwnWalkIn
namespace Go.Proofs.YtmokklkckecmdaaDoor
set_option linter.unusedSimpArgs false
set_option linter.unusedVariables false
open Go.RowKit Go.Sep

theorem entersC : ∀ args w, (callFunc 31 args).run Tryd.prog w = .ok (.enter 31 args) w := callFunc_run ⟨_, Tryd.func31, rfl, by kernel_rfl⟩
set_option maxHeartbeats 400000 in
theorem oChunk (p : Addr) (n ca : Nat) (e w : World) (X : HProp) (hw : Holds e w [X]) :
    Calls Tryd.prog 22 #[.slice (some p) n ca, .int .i64 11] w fun en w' => ∃ b2 b3, en = .returned (.func (.func 31) #[] #[.pointer (some ⟨b2, 0, none⟩), .pointer (some ⟨b3, 0, none⟩)]) ∧ Holds e w' [X, pt b2 [.slice (some p) n ca] 25, pt b3 [.int .i64 11] 3] := by
  have hmf : ∀ (fn : Fn) (first cap : Array Value) (w : World), (Instr.makeFunc fn first cap).run Tryd.prog w = .ok (.func fn first cap) w := fun _ _ _ _ => rfl
  refine Sep.calls_post ?_
  intro Post_ hPost_
  have HP := Sep.hid hPost_
  clear hPost_
  go_enter Tryd.func22, Tryd.ntmps22
  go_wp2_with (first | (refine wpList_on rfl (wp_box (L := [_]) rfl hw ?_); intro b2_ w_ hw_; clear hw; have hw := hw_; clear hw_; (try simp only [List.map_cons, List.map_nil, List.getD_cons_zero, List.getD_cons_succ, List.getD_nil, List.set_cons_zero, List.set_cons_succ, List.cons_append, List.nil_append, Act.eval, Array.getD_eq_getD_getElem?, List.getElem?_toArray, List.getElem?_cons_succ, List.getElem?_cons_zero, Option.getD_some, Value.cells] at hw); (try simp (disch := first | (simp; done) | (simp; omega)) only [Sep.mid_set, Sep.mid_set2, Sep.mid_set0, Sep.mid_splice, Sep.mid_splice0, List.set_cons_zero, List.set_cons_succ] at hw); (try simp only [Sep.splice, List.take_succ_cons, List.take_zero, List.drop_succ_cons, List.drop_zero, List.length_cons, List.length_nil, Nat.reduceAdd, List.cons_append, List.nil_append] at hw); (try replace hc0 := Sep.Holds.cells hw (i := 0) rfl); (try replace hc1 := Sep.Holds.cells hw (i := 1) rfl); (try replace hc2 := Sep.Holds.cells hw (i := 2) rfl); (try replace hc3 := Sep.Holds.cells hw (i := 3) rfl); (try replace hc4 := Sep.Holds.cells hw (i := 4) rfl); (try replace hc5 := Sep.Holds.cells hw (i := 5) rfl); (try replace hc6 := Sep.Holds.cells hw (i := 6) rfl); (try simp only [Act.put, List.setIfInBounds_toArray, List.set_cons_zero, List.set_cons_succ])) | (refine wpList_on rfl (wp_box rfl hw ?_); intro b3_ w_ hw_; clear hw; have hw := hw_; clear hw_; (try simp only [List.map_cons, List.map_nil, List.getD_cons_zero, List.getD_cons_succ, List.getD_nil, List.set_cons_zero, List.set_cons_succ, List.cons_append, List.nil_append, Act.eval, Array.getD_eq_getD_getElem?, List.getElem?_toArray, List.getElem?_cons_succ, List.getElem?_cons_zero, Option.getD_some, Value.cells] at hw); (try simp (disch := first | (simp; done) | (simp; omega)) only [Sep.mid_set, Sep.mid_set2, Sep.mid_set0, Sep.mid_splice, Sep.mid_splice0, List.set_cons_zero, List.set_cons_succ] at hw); (try simp only [Sep.splice, List.take_succ_cons, List.take_zero, List.drop_succ_cons, List.drop_zero, List.length_cons, List.length_nil, Nat.reduceAdd, List.cons_append, List.nil_append] at hw); (try replace hc0 := Sep.Holds.cells hw (i := 0) rfl); (try replace hc1 := Sep.Holds.cells hw (i := 1) rfl); (try replace hc2 := Sep.Holds.cells hw (i := 2) rfl); (try replace hc3 := Sep.Holds.cells hw (i := 3) rfl); (try replace hc4 := Sep.Holds.cells hw (i := 4) rfl); (try replace hc5 := Sep.Holds.cells hw (i := 5) rfl); (try replace hc6 := Sep.Holds.cells hw (i := 6) rfl)))
  exact HP.out _ _ ⟨_, _, rfl, hw⟩
set_option maxRecDepth 20000 in
set_option maxHeartbeats 4000000 in
theorem chunk_in (b2 b3 l m : Nat) (p : Addr) (hm : m ≤ 24) (e : World) (Xg : Nat → HProp)
    (hY : ∀ (k : Nat) (C : HProp) (w : World), k < m → Holds e w [C, Xg k] → YieldAt Fence.wide 8 Tryd.prog l #[.slice (some (p.add (k * 11))) 11 11] w fun en w' => en = .returned (.bool true) ∧ Holds e w' [C, Xg (k + 1)])
    (w : World) (hw : Holds e w [Xg 0, pt b2 [.slice (some p) (m * 11) (m * 11)] 25, pt b3 [.int .i64 11] 3]) :
    CallsIn Fence.wide 9 Tryd.prog 31 #[.func (.yield l) #[] #[], .pointer (some ⟨b2, 0, none⟩), .pointer (some ⟨b3, 0, none⟩)] w fun en w' => (∃ v, en = .returned v) ∧ Holds e w' [Xg m, pt b2 [.slice (some p) (m * 11) (m * 11)] 25, pt b3 [.int .i64 11] 3] := by
  have hmix : Tryd.prog.follows .mixedOrders = true := by kernel_rfl
  refine Sep.callsIn_post ?_
  intro Post_ hPost_
  have HP := Sep.hid hPost_
  clear hPost_
  refine callsIn_of_wp Tryd.func31 rfl trivial ?_
  simp only [Tryd.ntmps31, List.size_toArray, List.length_cons, List.length_nil, Nat.reduceAdd, Nat.reduceSub, Array.replicate_succ, Array.replicate_zero, List.push_toArray, List.append_toArray, List.nil_append, List.cons_append]
  gi_wp2
  have Hw0 := Sep.hid hw; clear hw
  gi_loopw [4] (fun i wr => ∃ k : Nat, k ≤ m ∧ i = .int .i64 ((k * 11 : Nat) : Int) ∧ Holds e wr [Xg k, pt b2 [.slice (some p) (m * 11) (m * 11)] 25, pt b3 [.int .i64 11] 3]) (fun i _ => m * 11 - (intOf i).toNat)
  case atStart => exact ⟨0, Nat.zero_le _, rfl, Hw0.out⟩
  case round =>
    clear Hw0
    obtain ⟨k, hk, rfl, hw⟩ := hrel
    by_cases hlt : k < m
    · obtain ⟨i, hi⟩ : ∃ i, k * 11 = i := ⟨_, rfl⟩
      obtain ⟨N, hN⟩ : ∃ N, m * 11 = N := ⟨_, rfl⟩
      have HY := fun C w' hw' => hY k C w' hlt hw'
      rw [hi] at HY ⊢
      rw [hN] at hw ⊢
      have hiN : i + 11 ≤ N := by omega
      have HYh := Sep.hid HY; clear HY
      have Hle : Hid (i ≤ N) := Sep.hid (by omega)
      have Hne : Hid (¬ N = i) := Sep.hid (by omega)
      (try replace hc0 := Sep.Holds.cells hw (i := 0) rfl); (try replace hc1 := Sep.Holds.cells hw (i := 1) rfl); (try replace hc2 := Sep.Holds.cells hw (i := 2) rfl); (try replace hc3 := Sep.Holds.cells hw (i := 3) rfl); (try replace hc4 := Sep.Holds.cells hw (i := 4) rfl); (try replace hc5 := Sep.Holds.cells hw (i := 5) rfl); (try replace hc6 := Sep.Holds.cells hw (i := 6) rfl)
      gi_wp2
      refine wpIn_wide.2 ?_
      refine wp_region_L [] [(0, (fun w' => w' = wr.drew)), (1, (fun w' => w' = wr.drew))] (n := 7) (listed := (marks 7 0)) (by kernel_rfl) rfl (by kernel_rfl) ?conds1 ?_
      case conds1 =>
       intro c hc
       simp only [List.mem_cons, List.not_mem_nil, or_false] at hc
       rcases hc with rfl | rfl
       · rfl
       · rfl
      replace hw := hw.drew
      (try replace hc0 := Sep.Holds.cells hw (i := 0) rfl); (try replace hc1 := Sep.Holds.cells hw (i := 1) rfl); (try replace hc2 := Sep.Holds.cells hw (i := 2) rfl); (try replace hc3 := Sep.Holds.cells hw (i := 3) rfl); (try replace hc4 := Sep.Holds.cells hw (i := 4) rfl); (try replace hc5 := Sep.Holds.cells hw (i := 5) rfl); (try replace hc6 := Sep.Holds.cells hw (i := 6) rfl)
      refine wpL_m 0 ?_ rfl (.head _) (Or.inl ⟨by rfl, fun w_ hS_ => ?_⟩) (marks 7 1) ?_
      rotate_left
      next => (subst hS_; first | ((go_simp; first | rfl | (rw [if_pos Hle.out, if_neg Hne.out]; done) | (rw [if_pos Hle.out, if_neg Hne.out]; rfl))) | (go_simp; try (first | rfl | exact (Bool.not_not _).symm)))
      try simp only [Act.put, List.setIfInBounds_toArray, List.set_cons_zero, List.set_cons_succ]
      refine wpL_m 1 ?_ rfl (.tail _ (.head _)) (Or.inl ⟨by rfl, fun w_ hS_ => ?_⟩) (marks 7 3) ?_
      rotate_left
      next => (subst hS_; first | ((go_simp; first | rfl | (rw [if_pos Hle.out, if_neg Hne.out]; done) | (rw [if_pos Hle.out, if_neg Hne.out]; rfl))) | (go_simp; try (first | rfl | exact (Bool.not_not _).symm)))
      try simp only [Act.put, List.setIfInBounds_toArray, List.set_cons_zero, List.set_cons_succ]
      refine wpL_q 2 ?_ rfl (Or.inl ⟨by rfl, fun w_ hS_ => ?_⟩) (marks 7 7) ?_
      rotate_left
      next => (go_simp; try (first | rfl | exact (Bool.not_not _).symm))
      try simp only [Act.put, List.setIfInBounds_toArray, List.set_cons_zero, List.set_cons_succ]
      refine wpL_q 3 ?_ rfl (Or.inl ⟨by rfl, fun w_ hS_ => ?_⟩) (marks 7 15) ?_
      rotate_left
      next => (first | ((go_simp; first | rfl | (rw [if_pos Hle.out, if_neg Hne.out]; done) | (rw [if_pos Hle.out, if_neg Hne.out]; rfl))) | (go_simp; try (first | rfl | exact (Bool.not_not _).symm)))
      try simp only [Act.put, List.setIfInBounds_toArray, List.set_cons_zero, List.set_cons_succ]
      refine wpL_q 4 ?_ rfl (Or.inl ⟨by rfl, fun w_ hS_ => ?_⟩) (marks 7 31) ?_
      rotate_left
      next => (go_simp; try (first | rfl | exact (Bool.not_not _).symm))
      try simp only [Act.put, List.setIfInBounds_toArray, List.set_cons_zero, List.set_cons_succ]
      refine wpL_q 5 ?_ rfl (Or.inl ⟨by rfl, fun w_ hS_ => ?_⟩) (marks 7 63) ?_
      rotate_left
      next => (go_simp; try (first | rfl | exact (Bool.not_not _).symm))
      try simp only [Act.put, List.setIfInBounds_toArray, List.set_cons_zero, List.set_cons_succ]
      refine wpL_q 6 ?_ rfl (Or.inl ⟨by rfl, fun w_ hS_ => ?_⟩) (marks 7 127) ?_
      rotate_left
      next => (go_simp; try (first | rfl | exact (Bool.not_not _).symm))
      try simp only [Act.put, List.setIfInBounds_toArray, List.set_cons_zero, List.set_cons_succ]
      all_goals refine wpL_done (by kernel_rfl) ?_ _
      obtain ⟨fn, tmps, assign, body, hy, hR⟩ := HYh.out _ _ (hw.focus1 0 rfl)
      gi_wp2
      refine hR.mono ?_
      rintro en_ w3 ⟨rfl, hw_⟩
      clear hw hy hR; (try clear hc0); (try clear hc1); (try clear hc2); (try clear hc3); (try clear hc4); (try clear hc5); (try clear hc6); have hw := Holds.unfocus1 0 (by simp) hw_; clear hw_
      (try simp only [List.map_cons, List.map_nil, List.getD_cons_zero, List.getD_cons_succ, List.getD_nil, List.set_cons_zero, List.set_cons_succ, List.cons_append, List.nil_append, Act.eval, Array.getD_eq_getD_getElem?, List.getElem?_toArray, List.getElem?_cons_succ, List.getElem?_cons_zero, Option.getD_some, Value.cells] at hw); (try simp (disch := first | (simp; done) | (simp; omega)) only [Sep.mid_set, Sep.mid_set2, Sep.mid_set0, Sep.mid_splice, Sep.mid_splice0, List.set_cons_zero, List.set_cons_succ] at hw); (try simp only [Sep.splice, List.take_succ_cons, List.take_zero, List.drop_succ_cons, List.drop_zero, List.length_cons, List.length_nil, Nat.reduceAdd, List.cons_append, List.nil_append] at hw)
      (try replace hc0 := Sep.Holds.cells hw (i := 0) rfl); (try replace hc1 := Sep.Holds.cells hw (i := 1) rfl); (try replace hc2 := Sep.Holds.cells hw (i := 2) rfl); (try replace hc3 := Sep.Holds.cells hw (i := 3) rfl); (try replace hc4 := Sep.Holds.cells hw (i := 4) rfl); (try replace hc5 := Sep.Holds.cells hw (i := 5) rfl); (try replace hc6 := Sep.Holds.cells hw (i := 6) rfl)
      gi_wp2
      go_roundw
      case rel => exact ⟨k + 1, by omega, by rw [← hi]; congr 1; push_cast; omega, hw⟩
      case measure => simp [intOf]; omega
    · have hke : m = k := by omega
      subst hke
      (try replace hc0 := Sep.Holds.cells hw (i := 0) rfl); (try replace hc1 := Sep.Holds.cells hw (i := 1) rfl); (try replace hc2 := Sep.Holds.cells hw (i := 2) rfl); (try replace hc3 := Sep.Holds.cells hw (i := 3) rfl); (try replace hc4 := Sep.Holds.cells hw (i := 4) rfl); (try replace hc5 := Sep.Holds.cells hw (i := 5) rfl); (try replace hc6 := Sep.Holds.cells hw (i := 6) rfl)
      gi_wp2
      refine bodyPost_ret (results_none rfl _ _ _) rfl ?_
      exact HP.out _ _ ⟨⟨_, rfl⟩, hw⟩
end Go.Proofs.YtmokklkckecmdaaDoor
