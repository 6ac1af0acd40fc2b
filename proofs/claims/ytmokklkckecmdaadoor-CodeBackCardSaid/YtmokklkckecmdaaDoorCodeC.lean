/-
  The walk of the document's Bytes.
-/
import Derived.Test.YtmokklkckecmdaaDoorCodeE
namespace Go.Proofs.YtmokklkckecmdaaDoor
set_option linter.unusedSimpArgs false
set_option linter.unusedVariables false
open Go.RowKit Go.Sep

set_option maxHeartbeats 800000 in
theorem rBytes_no (l : List Deed) (n ca : Nat) (a : Option Addr) (hn : Hid (l.length = n)) (hn2 : n ≤ 1000000) (e w : World) (X : HProp) (hR : RdA e X a l) (hm : mayP l = false) (hw : Holds e w [X]) :
    Calls Tryd.prog 8 #[.slice a n ca] w fun en w' => en = .returned (.tuple #[.slice none 0 0, .int .i64 1]) ∧ Holds e w' [X] := by
  have hmay := fun w hw => rMay l n ca a hn hn2 e w X hR hw
  rw [hm] at hmay; clear hm hR
  refine Sep.calls_post ?_
  intro Post_ hPost_
  have HP := Sep.hid hPost_
  clear hPost_
  go_enter Tryd.func8, Tryd.ntmps8
  go_wp2_with fail
  refine (hmay _ hw).mono ?_
  rintro _ w_ ⟨rfl, hw_⟩
  clear hw hmay; have hw := hw_; clear hw_
  go_wp2_with fail
  exact HP.out _ _ ⟨rfl, hw⟩
set_option maxRecDepth 20000 in
set_option maxHeartbeats 8000000 in
theorem rBytes (l : List Deed) (n ca : Nat) (a : Option Addr) (hn : Hid (l.length = n)) (e w : World) (X : HProp) (hR : RdA e X a l) (hm : mayP l = true) (hw : Holds e w [X]) :
    Calls Tryd.prog 8 #[.slice a n ca] w fun en w' => ∃ v, en = .returned (.tuple #[v, .int .i64 0]) ∧ Holds e w' [X, IsB v (bytesP l)] := by
  have Hn24 : Hid (1 ≤ n ∧ n ≤ 24) := Sep.hid (by
    unfold mayP at hm; rw [Bool.and_eq_true, decide_eq_true_eq, hn.out] at hm; exact hm.1)
  have hmay := fun w hw => rMay l n ca a hn (by have := Hn24.out; omega) e w X hR hw
  rw [hm] at hmay; clear hm
  have HR := Sep.hid hR; clear hR
  refine Sep.calls_post ?_
  intro Post_ hPost_
  have HP := Sep.hid hPost_
  clear hPost_
  go_enter Tryd.func8, Tryd.ntmps8
  go_wp2_with fail
  refine (hmay _ hw).mono ?_
  rintro _ w_ ⟨rfl, hw_⟩
  clear hw hmay; have hw := hw_; clear hw_
  go_wp2_with (refine wpList_on rfl (wp_bsl1 rfl rfl (by rfl) (by rfl) (by decide) hw ?_); intro b_ w_ hw_; replace hw_ := hw_.newSl (i := 1) rfl 1 1 rfl (by decide); clear hw; have hw := hw_; clear hw_; (try simp only [List.map_cons, List.map_nil, List.getD_cons_zero, List.getD_cons_succ, List.getD_nil, List.set_cons_zero, List.set_cons_succ, List.cons_append, List.nil_append, Act.eval, Array.getD_eq_getD_getElem?, List.getElem?_toArray, List.getElem?_cons_succ, List.getElem?_cons_zero, Option.getD_some, Value.cells] at hw); (try simp (disch := first | (simp; done) | (simp; omega)) only [Sep.mid_set, Sep.mid_set2, Sep.mid_set0, Sep.mid_splice, Sep.mid_splice0, List.set_cons_zero, List.set_cons_succ] at hw); (try simp only [Sep.splice, List.take_succ_cons, List.take_zero, List.drop_succ_cons, List.drop_zero, List.length_cons, List.length_nil, Nat.reduceAdd, List.cons_append, List.nil_append] at hw); (try replace hc0 := Sep.Holds.cells hw (i := 0) rfl); (try replace hc1 := Sep.Holds.cells hw (i := 1) rfl); (try replace hc2 := Sep.Holds.cells hw (i := 2) rfl); (try replace hc3 := Sep.Holds.cells hw (i := 3) rfl); (try replace hc4 := Sep.Holds.cells hw (i := 4) rfl); (try replace hc5 := Sep.Holds.cells hw (i := 5) rfl); (try replace hc6 := Sep.Holds.cells hw (i := 6) rfl))
  have Hw0 := Sep.hid hw; clear hw; (try clear hc0); (try clear hc1); (try clear hc2); (try clear hc3); (try clear hc4); (try clear hc5); (try clear hc6)
  go_loopw [5, 4] (fun i o wr => ∃ (k : Nat) (c : List Int), k ≤ n ∧ i = .int .i64 k ∧ Hid (c = (n : Int) % 256 :: (l.take k).flatMap encIns) ∧ Hid (c.length = 1 + k * 11) ∧ Holds e wr [X, Sl 5 1 o (1 + k * 11) (encB c)]) (fun i _ _ => n - (intOf i).toNat)
  case atStart => exact ⟨0, [(n : Int) % 256], Nat.zero_le _, rfl, Sep.hid rfl, Sep.hid rfl, Hw0.out⟩
  case round =>
    clear Hw0
    obtain ⟨k, c, hk, rfl, Hc, Hcl, hw⟩ := hrel
    obtain ⟨oa, oc, rfl⟩ := Sl.value (i := 1) rfl hw
    by_cases hlt : k < n
    · obtain ⟨x, hx⟩ : ∃ x, l[k]? = some x := ⟨_, List.getElem?_eq_getElem (by rw [hn.out]; exact hlt)⟩
      obtain ⟨p, rfl, hcc⟩ := HR.out _ _ 0 hw rfl k x hx
      have hcc2 := HR.out
      have Hg : Hid (∀ w', Holds e w' [X] → w'.cell? (p.add (k * 4)) = some (.int .i64 x.f0) ∧ w'.cell? ⟨(p.add (k * 4)).block, (p.add (k * 4)).off + 1, none⟩ = some (.int .i64 x.f1) ∧ w'.cell? ⟨(p.add (k * 4)).block, (p.add (k * 4)).off + 2, none⟩ = some (.int .i64 x.f2) ∧ w'.cell? ⟨(p.add (k * 4)).block, (p.add (k * 4)).off + 3, none⟩ = some (.int .i64 x.f3)) := Sep.hid (fun w' hw' => by
        obtain ⟨p2, hp2, hc⟩ := hcc2 w' [X] 0 hw' rfl k x hx
        cases hp2
        have h0 := hc 0 _ rfl
        rw [show ((p.add (k * 4)).add 0) = p.add (k * 4) by rw [Go.Deep.add_add]; rfl] at h0
        exact ⟨h0, hc 1 _ rfl, hc 2 _ rfl, hc 3 _ rfl⟩)
      clear hcc hcc2
      have Hx := Sep.hid hx; clear hx
      have hk24 : k ≤ 24 := by have := Hn24.out; omega
      obtain ⟨g0, g1, g2, g3⟩ := Hg.out _ (hw.sel [0] (by decide))
      go_wp2_with fail
      refine wp_region_L [19, 20] [(5, (fun w' => w' = wr.drew)), (11, (fun w' => w' = wr.drew)), (17, (fun w' => w' = wr.drew))] (n := 22) (listed := (marks 22 0)) (by kernel_rfl) rfl (by kernel_rfl) ?conds1 ?_
      case conds1 =>
       intro c hc
       simp only [List.mem_cons, List.not_mem_nil, or_false] at hc
       rcases hc with rfl | rfl | rfl
       · rfl
       · rfl
       · rfl
      replace hw := hw.drew
      refine wpL_q 0 ?_ rfl (Or.inl ⟨by rfl, fun w_ hS_ => ?_⟩) (marks 22 1) ?_
      rotate_left
      next => (go_simp; try (first | rfl | exact (Bool.not_not _).symm))
      try simp only [Act.put, List.setIfInBounds_toArray, List.set_cons_zero, List.set_cons_succ]
      refine wpL_q 1 ?_ rfl (Or.inl ⟨by rfl, fun w_ hS_ => ?_⟩) (marks 22 3) ?_
      rotate_left
      next => (go_simp; try (first | rfl | exact (Bool.not_not _).symm))
      try simp only [Act.put, List.setIfInBounds_toArray, List.set_cons_zero, List.set_cons_succ]
      refine wpL_q 2 ?_ rfl (Or.inl ⟨by rfl, fun w_ hS_ => ?_⟩) (marks 22 7) ?_
      rotate_left
      next => (go_simp; try (first | rfl | exact (Bool.not_not _).symm))
      try simp only [Act.put, List.setIfInBounds_toArray, List.set_cons_zero, List.set_cons_succ]
      refine wpL_q 3 ?_ rfl (Or.inl ⟨by rfl, fun w_ hS_ => ?_⟩) (marks 22 15) ?_
      rotate_left
      next => (go_simp; try (first | rfl | exact (Bool.not_not _).symm))
      try simp only [Act.put, List.setIfInBounds_toArray, List.set_cons_zero, List.set_cons_succ]
      refine wpL_q 4 ?_ rfl (Or.inl ⟨by rfl, fun w_ hS_ => ?_⟩) (marks 22 31) ?_
      rotate_left
      next => (go_simp; try (first | rfl | exact (Bool.not_not _).symm))
      try simp only [Act.put, List.setIfInBounds_toArray, List.set_cons_zero, List.set_cons_succ]
      refine wpL_m 5 ?_ rfl (.head _) (Or.inl ⟨by rfl, fun w_ hS_ => ?_⟩) (marks 22 63) ?_
      rotate_left
      next => (subst hS_; go_simp; try (first | rfl | exact (Bool.not_not _).symm))
      try simp only [Act.put, List.setIfInBounds_toArray, List.set_cons_zero, List.set_cons_succ]
      refine wpL_q 6 ?_ rfl (Or.inl ⟨by rfl, fun w_ hS_ => ?_⟩) (marks 22 127) ?_
      rotate_left
      next => (go_simp; try (first | rfl | exact (Bool.not_not _).symm))
      try simp only [Act.put, List.setIfInBounds_toArray, List.set_cons_zero, List.set_cons_succ]
      refine wpL_q 7 ?_ rfl (Or.inl ⟨by rfl, fun w_ hS_ => ?_⟩) (marks 22 255) ?_
      rotate_left
      next => (go_simp; try (first | rfl | exact (Bool.not_not _).symm))
      try simp only [Act.put, List.setIfInBounds_toArray, List.set_cons_zero, List.set_cons_succ]
      refine wpL_q 8 ?_ rfl (Or.inl ⟨by rfl, fun w_ hS_ => ?_⟩) (marks 22 511) ?_
      rotate_left
      next => (go_simp; try (first | rfl | exact (Bool.not_not _).symm))
      try simp only [Act.put, List.setIfInBounds_toArray, List.set_cons_zero, List.set_cons_succ]
      refine wpL_q 9 ?_ rfl (Or.inl ⟨by rfl, fun w_ hS_ => ?_⟩) (marks 22 1023) ?_
      rotate_left
      next => (go_simp; try (first | rfl | exact (Bool.not_not _).symm))
      try simp only [Act.put, List.setIfInBounds_toArray, List.set_cons_zero, List.set_cons_succ]
      refine wpL_q 10 ?_ rfl (Or.inl ⟨by rfl, fun w_ hS_ => ?_⟩) (marks 22 2047) ?_
      rotate_left
      next => (go_simp; try (first | rfl | exact (Bool.not_not _).symm))
      try simp only [Act.put, List.setIfInBounds_toArray, List.set_cons_zero, List.set_cons_succ]
      refine wpL_m 11 ?_ rfl (.tail _ (.head _)) (Or.inl ⟨by rfl, fun w_ hS_ => ?_⟩) (marks 22 4095) ?_
      rotate_left
      next => (subst hS_; go_simp; try (first | rfl | exact (Bool.not_not _).symm))
      try simp only [Act.put, List.setIfInBounds_toArray, List.set_cons_zero, List.set_cons_succ]
      refine wpL_q 12 ?_ rfl (Or.inl ⟨by rfl, fun w_ hS_ => ?_⟩) (marks 22 8191) ?_
      rotate_left
      next => (go_simp; try (first | rfl | exact (Bool.not_not _).symm))
      try simp only [Act.put, List.setIfInBounds_toArray, List.set_cons_zero, List.set_cons_succ]
      refine wpL_q 13 ?_ rfl (Or.inl ⟨by rfl, fun w_ hS_ => ?_⟩) (marks 22 16383) ?_
      rotate_left
      next => (go_simp; try (first | rfl | exact (Bool.not_not _).symm))
      try simp only [Act.put, List.setIfInBounds_toArray, List.set_cons_zero, List.set_cons_succ]
      refine wpL_q 14 ?_ rfl (Or.inl ⟨by rfl, fun w_ hS_ => ?_⟩) (marks 22 32767) ?_
      rotate_left
      next => (go_simp; try (first | rfl | exact (Bool.not_not _).symm))
      try simp only [Act.put, List.setIfInBounds_toArray, List.set_cons_zero, List.set_cons_succ]
      refine wpL_q 15 ?_ rfl (Or.inl ⟨by rfl, fun w_ hS_ => ?_⟩) (marks 22 65535) ?_
      rotate_left
      next => (go_simp; try (first | rfl | exact (Bool.not_not _).symm))
      try simp only [Act.put, List.setIfInBounds_toArray, List.set_cons_zero, List.set_cons_succ]
      refine wpL_q 16 ?_ rfl (Or.inl ⟨by rfl, fun w_ hS_ => ?_⟩) (marks 22 131071) ?_
      rotate_left
      next => (go_simp; try (first | rfl | exact (Bool.not_not _).symm))
      try simp only [Act.put, List.setIfInBounds_toArray, List.set_cons_zero, List.set_cons_succ]
      refine wpL_m 17 ?_ rfl (.tail _ (.tail _ (.head _))) (Or.inl ⟨by rfl, fun w_ hS_ => ?_⟩) (marks 22 262143) ?_
      rotate_left
      next => (subst hS_; go_simp; try (first | rfl | exact (Bool.not_not _).symm))
      try simp only [Act.put, List.setIfInBounds_toArray, List.set_cons_zero, List.set_cons_succ]
      refine wpL_q 18 ?_ rfl (Or.inl ⟨by rfl, fun w_ hS_ => ?_⟩) (marks 22 524287) ?_
      rotate_left
      next => (go_simp; try (first | rfl | exact (Bool.not_not _).symm))
      try simp only [Act.put, List.setIfInBounds_toArray, List.set_cons_zero, List.set_cons_succ]
      refine wpL_o 19 rfl (by rfl) (marks 22 1048575) ?_
      (refine wp_buildSlice [.int .u8 (x.f0 % 256), .int .u8 (x.f1 % 256), .int .u8 (x.f2 % 256)] rfl hw (by decide) (by go_simp; exact ⟨IntKind.wrap_u8 _, IntKind.wrap_u8 _, IntKind.wrap_u8 _⟩) rfl ?_; intro b3_ w_ hw_; clear hw; have hw := hw_; clear hw_; (try simp only [List.map_cons, List.map_nil, List.getD_cons_zero, List.getD_cons_succ, List.getD_nil, List.set_cons_zero, List.set_cons_succ, List.cons_append, List.nil_append, Act.eval, Array.getD_eq_getD_getElem?, List.getElem?_toArray, List.getElem?_cons_succ, List.getElem?_cons_zero, Option.getD_some, Value.cells] at hw); (try simp (disch := first | (simp; done) | (simp; omega)) only [Sep.mid_set, Sep.mid_set2, Sep.mid_set0, Sep.mid_splice, Sep.mid_splice0, List.set_cons_zero, List.set_cons_succ] at hw); (try simp only [Sep.splice, List.take_succ_cons, List.take_zero, List.drop_succ_cons, List.drop_zero, List.length_cons, List.length_nil, Nat.reduceAdd, List.cons_append, List.nil_append] at hw); (try replace hc0 := Sep.Holds.cells hw (i := 0) rfl); (try replace hc1 := Sep.Holds.cells hw (i := 1) rfl); (try replace hc2 := Sep.Holds.cells hw (i := 2) rfl); (try replace hc3 := Sep.Holds.cells hw (i := 3) rfl); (try replace hc4 := Sep.Holds.cells hw (i := 4) rfl); (try replace hc5 := Sep.Holds.cells hw (i := 5) rfl); (try replace hc6 := Sep.Holds.cells hw (i := 6) rfl))
      refine ⟨(SL.drop 19 (by kernel_rfl) (SL.drop 19 (by kernel_rfl) (SL.drop 19 (by kernel_rfl) SL.nil))), ?_⟩
      try simp only [Act.put, List.setIfInBounds_toArray, List.set_cons_zero, List.set_cons_succ]
      refine wpL_o 20 rfl (by rfl) (marks 22 2097151) ?_
      (refine wp_appendPt (i := 1) (j := 2) rfl rfl hw rfl rfl rfl rfl (by simp [Value.oneCell']) (by decide) (by rfl) (by (try unfold maxLen); omega) (by (try unfold maxLen); omega) ?_; intro b2_ cap2_ off2_ w_ hcap2_ hw_; clear hw; have hw := hw_; clear hw_; (try simp only [List.map_cons, List.map_nil, List.getD_cons_zero, List.getD_cons_succ, List.getD_nil, List.set_cons_zero, List.set_cons_succ, List.cons_append, List.nil_append, Act.eval, Array.getD_eq_getD_getElem?, List.getElem?_toArray, List.getElem?_cons_succ, List.getElem?_cons_zero, Option.getD_some, Value.cells] at hw); (try simp (disch := first | (simp; done) | (simp; omega)) only [Sep.mid_set, Sep.mid_set2, Sep.mid_set0, Sep.mid_splice, Sep.mid_splice0, List.set_cons_zero, List.set_cons_succ] at hw); (try simp only [Sep.splice, List.take_succ_cons, List.take_zero, List.drop_succ_cons, List.drop_zero, List.length_cons, List.length_nil, Nat.reduceAdd, List.cons_append, List.nil_append] at hw); (try replace hc0 := Sep.Holds.cells hw (i := 0) rfl); (try replace hc1 := Sep.Holds.cells hw (i := 1) rfl); (try replace hc2 := Sep.Holds.cells hw (i := 2) rfl); (try replace hc3 := Sep.Holds.cells hw (i := 3) rfl); (try replace hc4 := Sep.Holds.cells hw (i := 4) rfl); (try replace hc5 := Sep.Holds.cells hw (i := 5) rfl); (try replace hc6 := Sep.Holds.cells hw (i := 6) rfl))
      refine ⟨(SL.drop 19 (by kernel_rfl) (SL.drop 19 (by kernel_rfl) (SL.drop 19 (by kernel_rfl) SL.nil))), ?_⟩
      try simp only [Act.put, List.setIfInBounds_toArray, List.set_cons_zero, List.set_cons_succ]
      refine wpL_q 21 ?_ rfl (Or.inl ⟨by rfl, fun w_ hS_ => ?_⟩) (marks 22 4194303) ?_
      rotate_left
      next => (go_simp; try (first | rfl | exact (Bool.not_not _).symm))
      try simp only [Act.put, List.setIfInBounds_toArray, List.set_cons_zero, List.set_cons_succ]
      all_goals refine wpL_done (by kernel_rfl) ?_ _
      clear g0 g1 g2 g3
      obtain ⟨g0, g1, g2, g3⟩ := Hg.out _ (hw.sel [0] (by decide))
      go_wp2_with fail
      refine (rEight x.f3 e _ _ hw.focus0).mono ?_
      rintro _ w_ ⟨b8, rfl, hw_⟩
      clear hw g0 g1 g2 g3; (try clear hc0); (try clear hc1); (try clear hc2); (try clear hc3); (try clear hc4); (try clear hc5); (try clear hc6); have hw := Holds.unfocus0 hw_; clear hw_
      (try simp only [List.map_cons, List.map_nil, List.getD_cons_zero, List.getD_cons_succ, List.getD_nil, List.set_cons_zero, List.set_cons_succ, List.cons_append, List.nil_append, Act.eval, Array.getD_eq_getD_getElem?, List.getElem?_toArray, List.getElem?_cons_succ, List.getElem?_cons_zero, Option.getD_some, Value.cells] at hw); (try simp (disch := first | (simp; done) | (simp; omega)) only [Sep.mid_set, Sep.mid_set2, Sep.mid_set0, Sep.mid_splice, Sep.mid_splice0, List.set_cons_zero, List.set_cons_succ] at hw); (try simp only [Sep.splice, List.take_succ_cons, List.take_zero, List.drop_succ_cons, List.drop_zero, List.length_cons, List.length_nil, Nat.reduceAdd, List.cons_append, List.nil_append] at hw)
      go_wp2_with (at_builtin; refine wpList_on rfl (wp_appendPt (i := 1) (j := 3) rfl rfl hw rfl rfl rfl rfl (encB_one _) (by decide) (by rfl) (by (try unfold maxLen); omega) (by (try unfold maxLen); omega) ?_); intro b2_ cap2_ off2_ w_ hcap2_ hw_; clear hw; have hw := hw_; clear hw_; (try simp only [List.map_cons, List.map_nil, List.getD_cons_zero, List.getD_cons_succ, List.getD_nil, List.set_cons_zero, List.set_cons_succ, List.cons_append, List.nil_append, Act.eval, Array.getD_eq_getD_getElem?, List.getElem?_toArray, List.getElem?_cons_succ, List.getElem?_cons_zero, Option.getD_some, Value.cells] at hw); (try simp (disch := first | (simp; done) | (simp; omega)) only [Sep.mid_set, Sep.mid_set2, Sep.mid_set0, Sep.mid_splice, Sep.mid_splice0, List.set_cons_zero, List.set_cons_succ] at hw); (try simp only [Sep.splice, List.take_succ_cons, List.take_zero, List.drop_succ_cons, List.drop_zero, List.length_cons, List.length_nil, Nat.reduceAdd, List.cons_append, List.nil_append] at hw); (try replace hc0 := Sep.Holds.cells hw (i := 0) rfl); (try replace hc1 := Sep.Holds.cells hw (i := 1) rfl); (try replace hc2 := Sep.Holds.cells hw (i := 2) rfl); (try replace hc3 := Sep.Holds.cells hw (i := 3) rfl); (try replace hc4 := Sep.Holds.cells hw (i := 4) rfl); (try replace hc5 := Sep.Holds.cells hw (i := 5) rfl); (try replace hc6 := Sep.Holds.cells hw (i := 6) rfl))
      go_roundw
      case rel =>
        refine ⟨k + 1, c ++ encIns x, by omega, by go_num, Sep.hid (by rw [takeA Hx.out, List.flatMap_append, ← List.cons_append, ← Hc.out]; simp), Sep.hid (by rw [List.length_append, Hcl.out, encIns_len]; omega), ?_⟩
        rw [show 1 + (k + 1) * 11 = 1 + k * 11 + 3 + 8 by omega, encB_append]
        unfold encIns
        rw [encB_append, ← List.append_assoc]
        exact hw.sel [0, 1] (by decide)
      case measure => simp [intOf]; omega
    · have hke : n = k := by omega
      subst hke
      have Hd : Hid (c = bytesP l) := Sep.hid (by rw [Hc.out, List.take_of_length_le (by rw [hn.out]; omega)]; unfold bytesP; rw [hn.out])
      go_wp2_with fail
      refine HP.out _ _ ⟨_, rfl, ?_⟩
      unfold IsB
      rw [bytesP_len, hn.out, ← Hd.out]
      exact hw
end Go.Proofs.YtmokklkckecmdaaDoor
