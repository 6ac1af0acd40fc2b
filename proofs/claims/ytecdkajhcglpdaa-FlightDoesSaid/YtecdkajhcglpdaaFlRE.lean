/-
  The reference's flight: Leave.
-/
import Derived.Test.YtecdkajhcglpdaaFlRD
namespace Go.Proofs.Ytecdkajhcglpdaa
set_option linter.unusedSimpArgs false
set_option linter.unusedVariables false
open Go.RowKit Go.Sep Go.RingM

def CallV.drop (c : CallV) (t : Int) : CallV := { c with joined := without c.joined t }
def dropC (cs : List CallV) (t : Int) (k : Nat) : List CallV := cs.mapIdx (fun i c => if i < k then c.drop t else c)
theorem dropC_zero (cs : List CallV) (t : Int) : dropC cs t 0 = cs := by
  apply List.ext_getElem?; intro i; unfold dropC; rw [List.getElem?_mapIdx]; cases cs[i]? <;> simp
theorem dropC_length (cs : List CallV) (t : Int) (k : Nat) : (dropC cs t k).length = cs.length := by unfold dropC; simp
theorem dropC_at {cs : List CallV} {k : Nat} {c : CallV} (h : cs[k]? = some c) (t : Int) : (dropC cs t k)[k]? = some c := by
  unfold dropC; rw [List.getElem?_mapIdx, h]; simp
theorem dropC_succ {cs : List CallV} {k : Nat} {c : CallV} (h : cs[k]? = some c) (t : Int) : (dropC cs t k).set k (c.drop t) = dropC cs t (k + 1) := by
  apply List.ext_getElem?
  intro i
  have hk := (List.getElem?_eq_some_iff.1 h).1
  rw [List.getElem?_set, dropC_length]
  unfold dropC
  rw [List.getElem?_mapIdx, List.getElem?_mapIdx]
  by_cases hi : k = i
  · subst hi; rw [h]; simp [hk]
  · rw [if_neg hi]
    cases cs[i]? with
    | none => rfl
    | some m =>
      show some (if i < k then m.drop t else m) = some (if i < k + 1 then m.drop t else m)
      have : (i < k) = (i < k + 1) := by apply propext; omega
      simp only [this]
theorem dropC_end {cs : List CallV} {k : Nat} (h : cs.length ≤ k) (t : Int) : dropC cs t k = cs.map (fun c => c.drop t) := by
  apply List.ext_getElem?
  intro i
  unfold dropC
  rw [List.getElem?_mapIdx, List.getElem?_map]
  by_cases hi : i < cs.length
  · rw [List.getElem?_eq_getElem hi]
    show some (if i < k then _ else _) = _
    rw [if_pos (by omega)]; rfl
  · rw [List.getElem?_eq_none (by omega)]; rfl
set_option maxHeartbeats 4000000 in
theorem rfLeave (p n : Nat) (cs : List CallV) (t : Int) (hcl : cs.length ≤ 100000) (hjl : Hid (∀ c ∈ cs, c.joined.length ≤ 1000000)) (e w : World) (X : HProp) (hw : Holds e w [X, IsRF p n cs]) :
    Calls Try.prog 13 #[.pointer (some ⟨p, 0, none⟩), .int .i64 t] w fun en w' => en = .returned (.bool (decide (0 ≤ joinsC cs t))) ∧ Holds e w' [X, IsRF p n (cs.map fun c => c.drop t)] := by
  refine Sep.calls_post ?_
  intro Post_ hPost_
  have HP := Sep.hid hPost_
  clear hPost_
  go_enter Try.func13, Try.ntmps13
  go_wp2_with fail
  refine (rJoins p n cs t hcl hjl e _ _ hw).mono ?_
  rintro _ w_ ⟨rfl, hw_⟩
  clear hw; have hw := hw_; clear hw_
  obtain ⟨⟨a, cap, vs0⟩, hw⟩ := exL.open_ hw
  have hw := hw.open_ 1 rfl
  (try simp only [List.map_cons, List.map_nil, List.getD_cons_zero, List.getD_cons_succ, List.getD_nil, List.set_cons_zero, List.set_cons_succ, List.cons_append, List.nil_append, Act.eval, Array.getD_eq_getD_getElem?, List.getElem?_toArray, List.getElem?_cons_succ, List.getElem?_cons_zero, Option.getD_some, Value.cells] at hw); (try simp (disch := first | (simp; done) | (simp; omega)) only [Sep.mid_set, Sep.mid_set2, Sep.mid_set0, Sep.mid_splice, Sep.mid_splice0, List.set_cons_zero, List.set_cons_succ] at hw); (try simp only [Sep.splice, List.take_succ_cons, List.take_zero, List.drop_succ_cons, List.drop_zero, List.length_cons, List.length_nil, Nat.reduceAdd, List.cons_append, List.nil_append] at hw)
  obtain ⟨len, hlen'⟩ : ∃ n, cs.length = n := ⟨_, rfl⟩
  have Hlen := Sep.hid hlen'
  have Hvl0 := Sep.hid (Holds.fct (i := 4) rfl hw)
  rw [hlen'] at hw hcl
  clear hlen'
  replace hw := hw.sel [0, 1, 2, 3] (by decide)
  (try simp only [List.map_cons, List.map_nil, List.getD_cons_zero, List.getD_cons_succ, List.getD_nil, List.set_cons_zero, List.set_cons_succ, List.cons_append, List.nil_append, Act.eval, Array.getD_eq_getD_getElem?, List.getElem?_toArray, List.getElem?_cons_succ, List.getElem?_cons_zero, Option.getD_some, Value.cells] at hw); (try simp (disch := first | (simp; done) | (simp; omega)) only [Sep.mid_set, Sep.mid_set2, Sep.mid_set0, Sep.mid_splice, Sep.mid_splice0, List.set_cons_zero, List.set_cons_succ] at hw); (try simp only [Sep.splice, List.take_succ_cons, List.take_zero, List.drop_succ_cons, List.drop_zero, List.length_cons, List.length_nil, Nat.reduceAdd, List.cons_append, List.nil_append] at hw)
  (try replace hc0 := Sep.Holds.cells hw (i := 0) rfl); (try replace hc1 := Sep.Holds.cells hw (i := 1) rfl); (try replace hc2 := Sep.Holds.cells hw (i := 2) rfl); (try replace hc3 := Sep.Holds.cells hw (i := 3) rfl); (try replace hc4 := Sep.Holds.cells hw (i := 4) rfl); (try replace hc5 := Sep.Holds.cells hw (i := 5) rfl); (try replace hc6 := Sep.Holds.cells hw (i := 6) rfl)
  go_wp2_with fail
  have Hw1 := Sep.hid hw; clear hw; (try clear hc0); (try clear hc1); (try clear hc2); (try clear hc3); (try clear hc4); (try clear hc5); (try clear hc6)
  go_loopw [6] (fun i wr => ∃ (q : Nat) (vs : List Value), q ≤ len ∧ i = .int .i64 q ∧ Hid (vs.length = (dropC cs t q).length) ∧ Holds e wr [X, pt p [.slice a len cap, .int .i64 (n : Int)] 47, Sl 44 4 (.slice a len cap) len (encCs (dropC cs t q) vs), sepL (joinedOf vs (dropC cs t q))]) (fun i _ => len - (intOf i).toNat)
  case atStart => exact ⟨0, vs0, Nat.zero_le _, rfl, Sep.hid (by rw [dropC_length]; exact Hvl0.out), by rw [dropC_zero]; exact Hw1.out⟩
  case round =>
    clear Hw1
    obtain ⟨q, vs, hq, rfl, Hvl, hw⟩ := hrel
    by_cases hlt : q < len
    · obtain ⟨c, hc⟩ : ∃ c, cs[q]? = some c := ⟨_, List.getElem?_eq_getElem (by rw [Hlen.out]; exact hlt)⟩
      have Hjc : Hid (c.joined.length ≤ 1000000) := Sep.hid (hjl.out c (List.mem_of_getElem? hc))
      have Hsu := Sep.hid (dropC_succ hc t)
      have Hc := Sep.hid (dropC_at hc t); clear hc
      obtain ⟨D, hD⟩ : ∃ D, dropC cs t q = D := ⟨_, rfl⟩
      have HDl : Hid (D.length = len) := Sep.hid (by rw [← hD, dropC_length]; exact Hlen.out)
      rw [hD] at hw Hvl Hc Hsu
      clear hD
      obtain ⟨ja, jc, hv, hw⟩ := jo_pick Hvl.out Hc.out hw
      have Hv := Sep.hid hv; clear hv
      obtain ⟨b, off, rfl, h0, h1, h2, h3⟩ := call_at (i := 2) hw rfl Hvl.out Hc.out Hv.out
      clear h0 h1 h2 h3
      have Hj : Hid (q * 4 + 3 < (encCs D vs).length) := Sep.hid (by rw [encCs_length Hvl.out, HDl.out]; omega)
      (try replace hc0 := Sep.Holds.cells hw (i := 0) rfl); (try replace hc1 := Sep.Holds.cells hw (i := 1) rfl); (try replace hc2 := Sep.Holds.cells hw (i := 2) rfl); (try replace hc3 := Sep.Holds.cells hw (i := 3) rfl); (try replace hc4 := Sep.Holds.cells hw (i := 4) rfl); (try replace hc5 := Sep.Holds.cells hw (i := 5) rfl); (try replace hc6 := Sep.Holds.cells hw (i := 6) rfl)
      go_wp2_with fail
      refine wp_region_L [14, 17] [(8, (fun w' => w' = wr.drew)), (12, (fun w' => w' = wr.drew)), (3, (fun w' => Holds e w' [pt p [.slice (some ⟨b, off, none⟩) len cap, .int .i64 (n : Int)] 47]))] (n := 18) (listed := (marks 18 0)) (by kernel_rfl) rfl (by kernel_rfl) ?conds1 ?_
      case conds1 =>
       intro c hc
       simp only [List.mem_cons, List.not_mem_nil, or_false] at hc
       rcases hc with rfl | rfl | rfl
       · rfl
       · rfl
       · exact (by replace hw := hw.drew; exact hw.sel [1] (by decide))
      replace hw := hw.drew
      (obtain ⟨b2, off2, hb2, h0, h1, h2, h3⟩ := call_at (i := 2) hw rfl Hvl.out Hc.out Hv.out; cases hb2; (try replace hc0 := Sep.Holds.cells hw (i := 0) rfl); (try replace hc1 := Sep.Holds.cells hw (i := 1) rfl); (try replace hc2 := Sep.Holds.cells hw (i := 2) rfl); (try replace hc3 := Sep.Holds.cells hw (i := 3) rfl); (try replace hc4 := Sep.Holds.cells hw (i := 4) rfl); (try replace hc5 := Sep.Holds.cells hw (i := 5) rfl); (try replace hc6 := Sep.Holds.cells hw (i := 6) rfl))
      refine wpL_q 0 ?_ rfl (Or.inl ⟨by rfl, fun w_ hS_ => ?_⟩) (marks 18 1) ?_
      rotate_left
      next => (go_simp; try (first | rfl | exact (Bool.not_not _).symm))
      try simp only [Act.put, List.setIfInBounds_toArray, List.set_cons_zero, List.set_cons_succ]
      refine wpL_q 1 ?_ rfl (Or.inl ⟨by rfl, fun w_ hS_ => ?_⟩) (marks 18 3) ?_
      rotate_left
      next => (go_simp; try (first | rfl | exact (Bool.not_not _).symm))
      try simp only [Act.put, List.setIfInBounds_toArray, List.set_cons_zero, List.set_cons_succ]
      refine wpL_q 2 ?_ rfl (Or.inl ⟨by rfl, fun w_ hS_ => ?_⟩) (marks 18 7) ?_
      rotate_left
      next => (go_simp; try (first | rfl | exact (Bool.not_not _).symm))
      try simp only [Act.put, List.setIfInBounds_toArray, List.set_cons_zero, List.set_cons_succ]
      refine wpL_m 3 ?_ rfl (.tail _ (.tail _ (.head _))) (Or.inl ⟨by rfl, fun w_ hS_ => ?_⟩) (marks 18 15) ?_
      rotate_left
      next => (dsimp only at hS_; (try have q0 := Sep.Holds.cells hS_ (i := 0) rfl); (try have q1 := Sep.Holds.cells hS_ (i := 1) rfl); (try have q2 := Sep.Holds.cells hS_ (i := 2) rfl); (try have q3 := Sep.Holds.cells hS_ (i := 3) rfl); (try have q4 := Sep.Holds.cells hS_ (i := 4) rfl); (try have q5 := Sep.Holds.cells hS_ (i := 5) rfl); (try have q6 := Sep.Holds.cells hS_ (i := 6) rfl); go_simp; try (first | rfl | exact (Bool.not_not _).symm))
      try simp only [Act.put, List.setIfInBounds_toArray, List.set_cons_zero, List.set_cons_succ]
      refine wpL_q 4 ?_ rfl (Or.inl ⟨by rfl, fun w_ hS_ => ?_⟩) (marks 18 31) ?_
      rotate_left
      next => (go_simp; try (first | rfl | exact (Bool.not_not _).symm))
      try simp only [Act.put, List.setIfInBounds_toArray, List.set_cons_zero, List.set_cons_succ]
      refine wpL_q 5 ?_ rfl (Or.inl ⟨by rfl, fun w_ hS_ => ?_⟩) (marks 18 63) ?_
      rotate_left
      next => (go_simp; try (first | rfl | exact (Bool.not_not _).symm))
      try simp only [Act.put, List.setIfInBounds_toArray, List.set_cons_zero, List.set_cons_succ]
      refine wpL_q 6 ?_ rfl (Or.inl ⟨by rfl, fun w_ hS_ => ?_⟩) (marks 18 127) ?_
      rotate_left
      next => (go_simp; try (first | rfl | exact (Bool.not_not _).symm))
      try simp only [Act.put, List.setIfInBounds_toArray, List.set_cons_zero, List.set_cons_succ]
      refine wpL_q 7 ?_ rfl (Or.inl ⟨by rfl, fun w_ hS_ => ?_⟩) (marks 18 255) ?_
      rotate_left
      next => (go_simp; try (first | rfl | exact (Bool.not_not _).symm))
      try simp only [Act.put, List.setIfInBounds_toArray, List.set_cons_zero, List.set_cons_succ]
      refine wpL_m 8 ?_ rfl (.head _) (Or.inl ⟨by rfl, fun w_ hS_ => ?_⟩) (marks 18 511) ?_
      rotate_left
      next => (subst hS_; go_simp; try (first | rfl | exact (Bool.not_not _).symm))
      try simp only [Act.put, List.setIfInBounds_toArray, List.set_cons_zero, List.set_cons_succ]
      refine wpL_q 9 ?_ rfl (Or.inl ⟨by rfl, fun w_ hS_ => ?_⟩) (marks 18 1023) ?_
      rotate_left
      next => (go_simp; try (first | rfl | exact (Bool.not_not _).symm))
      try simp only [Act.put, List.setIfInBounds_toArray, List.set_cons_zero, List.set_cons_succ]
      refine wpL_q 10 ?_ rfl (Or.inl ⟨by rfl, fun w_ hS_ => ?_⟩) (marks 18 2047) ?_
      rotate_left
      next => (go_simp; try (first | rfl | exact (Bool.not_not _).symm))
      try simp only [Act.put, List.setIfInBounds_toArray, List.set_cons_zero, List.set_cons_succ]
      refine wpL_q 11 ?_ rfl (Or.inl ⟨by rfl, fun w_ hS_ => ?_⟩) (marks 18 4095) ?_
      rotate_left
      next => (go_simp; try (first | rfl | exact (Bool.not_not _).symm))
      try simp only [Act.put, List.setIfInBounds_toArray, List.set_cons_zero, List.set_cons_succ]
      refine wpL_m 12 ?_ rfl (.tail _ (.head _)) (Or.inl ⟨by rfl, fun w_ hS_ => ?_⟩) (marks 18 8191) ?_
      rotate_left
      next => (subst hS_; go_simp; try (first | rfl | exact (Bool.not_not _).symm))
      try simp only [Act.put, List.setIfInBounds_toArray, List.set_cons_zero, List.set_cons_succ]
      refine wpL_q 13 ?_ rfl (Or.inl ⟨by rfl, fun w_ hS_ => ?_⟩) (marks 18 16383) ?_
      rotate_left
      next => (go_simp; try (first | rfl | exact (Bool.not_not _).symm))
      try simp only [Act.put, List.setIfInBounds_toArray, List.set_cons_zero, List.set_cons_succ]
      refine wpL_o 14 rfl (by rfl) (marks 18 32767) ?_
      (go_simp; go_at_call 23; refine (without8_calls _ c.joined t Hjc.out e _ _ (hw.focus1 4 rfl)).mono ?_; rintro _ w_ ⟨y, rfl, hw_⟩; clear hw h0 h1 h2 h3; (try clear hc0); (try clear hc1); (try clear hc2); (try clear hc3); (try clear hc4); (try clear hc5); (try clear hc6); have hw := Holds.unfocus1 4 (by simp) hw_; clear hw_; (try simp only [List.map_cons, List.map_nil, List.getD_cons_zero, List.getD_cons_succ, List.getD_nil, List.set_cons_zero, List.set_cons_succ, List.cons_append, List.nil_append, Act.eval, Array.getD_eq_getD_getElem?, List.getElem?_toArray, List.getElem?_cons_succ, List.getElem?_cons_zero, Option.getD_some, Value.cells] at hw); (try simp (disch := first | (simp; done) | (simp; omega)) only [Sep.mid_set, Sep.mid_set2, Sep.mid_set0, Sep.mid_splice, Sep.mid_splice0, List.set_cons_zero, List.set_cons_succ] at hw); (try simp only [Sep.splice, List.take_succ_cons, List.take_zero, List.drop_succ_cons, List.drop_zero, List.length_cons, List.length_nil, Nat.reduceAdd, List.cons_append, List.nil_append] at hw); obtain ⟨ya, yc, rfl⟩ := Sl.value (i := 5) rfl hw; (try replace hc0 := Sep.Holds.cells hw (i := 0) rfl); (try replace hc1 := Sep.Holds.cells hw (i := 1) rfl); (try replace hc2 := Sep.Holds.cells hw (i := 2) rfl); (try replace hc3 := Sep.Holds.cells hw (i := 3) rfl); (try replace hc4 := Sep.Holds.cells hw (i := 4) rfl); (try replace hc5 := Sep.Holds.cells hw (i := 5) rfl); (try replace hc6 := Sep.Holds.cells hw (i := 6) rfl))
      refine ⟨(SL.drop 14 (by kernel_rfl) (SL.drop 14 (by kernel_rfl) (SL.keep (by exact hw.sel [1] (by decide)) SL.nil))), ?_⟩
      try simp only [Act.put, List.setIfInBounds_toArray, List.set_cons_zero, List.set_cons_succ]
      refine wpL_q 15 ?_ rfl (Or.inl ⟨by rfl, fun w_ hS_ => ?_⟩) (marks 18 65535) ?_
      rotate_left
      next => (go_simp; try (first | rfl | exact (Bool.not_not _).symm))
      try simp only [Act.put, List.setIfInBounds_toArray, List.set_cons_zero, List.set_cons_succ]
      refine wpL_q 16 ?_ rfl (Or.inl ⟨by rfl, fun w_ hS_ => ?_⟩) (marks 18 131071) ?_
      rotate_left
      next => (go_simp; try (first | rfl | exact (Bool.not_not _).symm))
      try simp only [Act.put, List.setIfInBounds_toArray, List.set_cons_zero, List.set_cons_succ]
      refine wpL_o 17 rfl (by rfl) (marks 18 262143) ?_
      (refine wp_storeSl (i := 2) (j := q * 4 + 3) rfl rfl rfl hw rfl Hj.out rfl ?_; intro w_ hw_; clear hw; have hw := hw_; clear hw_; (try simp only [List.map_cons, List.map_nil, List.getD_cons_zero, List.getD_cons_succ, List.getD_nil, List.set_cons_zero, List.set_cons_succ, List.cons_append, List.nil_append, Act.eval, Array.getD_eq_getD_getElem?, List.getElem?_toArray, List.getElem?_cons_succ, List.getElem?_cons_zero, Option.getD_some, Value.cells] at hw); (try simp (disch := first | (simp; done) | (simp; omega)) only [Sep.mid_set, Sep.mid_set2, Sep.mid_set0, Sep.mid_splice, Sep.mid_splice0, List.set_cons_zero, List.set_cons_succ] at hw); (try simp only [Sep.splice, List.take_succ_cons, List.take_zero, List.drop_succ_cons, List.drop_zero, List.length_cons, List.length_nil, Nat.reduceAdd, List.cons_append, List.nil_append] at hw); (try replace hc0 := Sep.Holds.cells hw (i := 0) rfl); (try replace hc1 := Sep.Holds.cells hw (i := 1) rfl); (try replace hc2 := Sep.Holds.cells hw (i := 2) rfl); (try replace hc3 := Sep.Holds.cells hw (i := 3) rfl); (try replace hc4 := Sep.Holds.cells hw (i := 4) rfl); (try replace hc5 := Sep.Holds.cells hw (i := 5) rfl); (try replace hc6 := Sep.Holds.cells hw (i := 6) rfl))
      refine ⟨(SL.drop 14 (by kernel_rfl) (SL.drop 14 (by kernel_rfl) (SL.drop 17 (by kernel_rfl) SL.nil))), ?_⟩
      try simp only [Act.put, List.setIfInBounds_toArray, List.set_cons_zero, List.set_cons_succ]
      all_goals refine wpL_done (by kernel_rfl) ?_ _
      go_wp2_with fail
      go_roundw
      case rel =>
        rw [encCs_set Hvl.out Hc.out Hv.out (j := 3) (by omega) (c' := c.drop t) (v' := .slice ya (without c.joined t).length yc) rfl] at hw
        have h1 : Holds e _ [X, pt p [.slice (some ⟨b, off, none⟩) len cap, .int .i64 (n : Int)] 47, Sl 44 4 (.slice (some ⟨b, off, none⟩) len cap) len (encCs (D.set q (c.drop t)) (vs.set q (.slice ya (without c.joined t).length yc))), sepL ((joinedOf vs D).set q (IsInts (.slice ya (without c.joined t).length yc) (without c.joined t)))] := Holds.unpick (L := [X, pt p [.slice (some ⟨b, off, none⟩) len cap, .int .i64 (n : Int)] 47, Sl 44 4 (.slice (some ⟨b, off, none⟩) len cap) len (encCs (D.set q (c.drop t)) (vs.set q (.slice ya (without c.joined t).length yc))), sepL ((joinedOf vs D).set q emp)]) (R := joinedOf vs D) 3 q rfl (by rw [joinedOf_length Hvl.out, HDl.out]; exact hlt) (hw.sel [0, 1, 2, 3, 5] (by decide))
        have e1 : (joinedOf vs D).set q (IsInts (.slice ya (without c.joined t).length yc) (without c.joined t)) = joinedOf (vs.set q (.slice ya (without c.joined t).length yc)) (D.set q (c.drop t)) := joinedOf_set (c' := c.drop t) Hvl.out
        rw [e1, Hsu.out] at h1
        exact ⟨q + 1, vs.set q (.slice ya (without c.joined t).length yc), by omega, by go_num, Sep.hid (by rw [dropC_length, List.length_set, Hvl.out, HDl.out, Hlen.out]), h1⟩
      case measure => simp [intOf]; omega
    · have Hend := Sep.hid (dropC_end (cs := cs) (k := q) (by rw [Hlen.out]; omega) t)
      rw [Hend.out] at hw Hvl
      (try replace hc0 := Sep.Holds.cells hw (i := 0) rfl); (try replace hc1 := Sep.Holds.cells hw (i := 1) rfl); (try replace hc2 := Sep.Holds.cells hw (i := 2) rfl); (try replace hc3 := Sep.Holds.cells hw (i := 3) rfl); (try replace hc4 := Sep.Holds.cells hw (i := 4) rfl); (try replace hc5 := Sep.Holds.cells hw (i := 5) rfl); (try replace hc6 := Sep.Holds.cells hw (i := 6) rfl)
      go_wp2_with fail
      refine HP.out _ _ ⟨rfl, ?_⟩
      refine exL.mk (f := rfParts p n (cs.map fun c => c.drop t)) ⟨a, cap, vs⟩ ?_
      unfold rfParts
      rw [List.length_map, Hlen.out]
      exact hw.addFct (by rw [Hvl.out, List.length_map, Hlen.out])
end Go.Proofs.Ytecdkajhcglpdaa
