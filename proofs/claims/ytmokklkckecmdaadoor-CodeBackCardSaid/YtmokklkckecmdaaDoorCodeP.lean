/-
  The walk of the document's Read.
-/
import Derived.Test.YtmokklkckecmdaaDoorCodeD
namespace Go.Proofs.YtmokklkckecmdaaDoor
set_option linter.unusedSimpArgs false
set_option linter.unusedVariables false
open Go.RowKit Go.Sep
attribute [local go_sem] Oper.semAt_some

theorem insP_at (b : List Int) (s : Nat) : insP ((b.drop s).take 11) = ⟨b[s]?.getD 0, b[s + 1]?.getD 0, b[s + 2]?.getD 0, numP ((b.drop (s + 3)).take 8)⟩ := by
  unfold insP
  rw [List.drop_take, List.drop_drop, List.take_take]
  simp [List.getElem?_take, List.getElem?_drop]
theorem rd_from {e w : World} {X : HProp} {p : Addr} {b : List Int} {L : List HProp} {i : Nat} (h : RdB e X (some p) b) (hw : Holds e w L) (hi : L[i]? = some X) (k : Nat) : ReadsB w (some (p.add k)) (b.drop k) := by
  intro j x hj
  rw [List.getElem?_drop] at hj
  obtain ⟨p2, hp2, hc⟩ := h w L i hw hi _ x hj
  cases hp2
  exact ⟨_, rfl, by rw [Go.Deep.add_add]; exact hc⟩
set_option maxRecDepth 20000 in
set_option maxHeartbeats 8000000 in
theorem rRead (b : List Int) (n ca : Nat) (a : Option Addr) (hn : Hid (b.length = n)) (hca : n ≤ ca) (hb : Bys b) (e w : World) (X : HProp) (hR : RdB e X a b) (hw : Holds e w [X]) :
    Calls Tryd.prog 11 #[.slice a n ca] w fun en w' => ∃ v, en = .returned (.tuple #[v, .int .i64 (readP b).2.1, .int .i64 (readP b).2.2]) ∧ Holds e w' [X, IsAs 40 v (readP b).1] := by
  have HR := Sep.hid hR; clear hR
  have Hb := Sep.hid hb; clear hb
  by_cases h0 : n = 0
  · have hp : readP b = ([], 0, 8) := by unfold readP; rw [if_pos (by rw [hn.out]; exact h0)]
    rw [hp]; clear hp
    subst h0
    refine Sep.calls_post ?_
    intro Post_ hPost_
    have HP := Sep.hid hPost_
    clear hPost_
    go_enter Tryd.func11, Tryd.ntmps11
    go_wp2_with fail
    refine bodyPost_ret (results_tmp3 rfl _ _ _) rfl ?_
    refine HP.out _ _ ⟨.slice none 0 0, rfl, hw.addEmp (X := IsAs 40 (.slice none 0 0) []) (Sl.nil _ _ _)⟩
  obtain ⟨p, rfl⟩ : ∃ p, a = some p := by
    obtain ⟨p, hp, _⟩ := HR.out _ _ 0 hw rfl 0 _ (List.getElem?_eq_getElem (by rw [hn.out]; omega))
    exact ⟨p, hp⟩
  obtain ⟨c, hc⟩ : ∃ c, b.getD 0 0 = c := ⟨_, rfl⟩
  have hcb : b[0]? = some c := by rw [← hc, List.getD_eq_getElem?_getD, List.getElem?_eq_getElem (by rw [hn.out]; omega)]; rfl
  have hc255 := Hb.out c (List.mem_of_getElem? hcb)
  have Hc8 : Hid (IntKind.i64.wrap c = c) := Sep.hid (IntWalk.i64_in _ (by omega))
  have g0 : w.cell? p = some (.int .u8 c) := by
    obtain ⟨p2, hp2, h⟩ := HR.out _ _ 0 hw rfl 0 c hcb
    cases hp2; exact h
  have hcw : wrap64 c = c := IntWalk.wrap64_in _ (by omega)
  by_cases h1 : c < 1
  · have hp : readP b = ([], 0, 7) := by unfold readP; rw [if_neg (by rw [hn.out]; exact h0), if_pos (by rw [hc]; exact .inl h1)]
    rw [hp]; clear hp hcb
    refine Sep.calls_post ?_
    intro Post_ hPost_
    have HP := Sep.hid hPost_
    clear hPost_
    go_enter Tryd.func11, Tryd.ntmps11
    go_wp2_with fail
    refine bodyPost_ret (results_tmp3 rfl _ _ _) rfl ?_
    refine HP.out _ _ ⟨.slice none 0 0, rfl, hw.addEmp (X := IsAs 40 (.slice none 0 0) []) (Sl.nil _ _ _)⟩
  by_cases h2 : 24 < c
  · have hp : readP b = ([], 0, 7) := by unfold readP; rw [if_neg (by rw [hn.out]; exact h0), if_pos (by rw [hc]; exact .inr h2)]
    rw [hp]; clear hp hcb
    refine Sep.calls_post ?_
    intro Post_ hPost_
    have HP := Sep.hid hPost_
    clear hPost_
    go_enter Tryd.func11, Tryd.ntmps11
    go_wp2_with fail
    refine bodyPost_ret (results_tmp3 rfl _ _ _) rfl ?_
    refine HP.out _ _ ⟨.slice none 0 0, rfl, hw.addEmp (X := IsAs 40 (.slice none 0 0) []) (Sl.nil _ _ _)⟩
  obtain ⟨m, rfl⟩ : ∃ m : Nat, c = m := ⟨c.toNat, by omega⟩
  have hm1 : 1 ≤ m := by omega
  have hm24 : m ≤ 24 := by omega
  by_cases h3 : (n : Int) < 1 + 11 * m
  · have hp : readP b = ([], 0, 8) := by
      unfold readP
      rw [if_neg (by rw [hn.out]; exact h0), if_neg (by rw [hc]; omega), if_pos (by rw [hc, hn.out]; exact h3)]
    rw [hp]; clear hp hcb
    refine Sep.calls_post ?_
    intro Post_ hPost_
    have HP := Sep.hid hPost_
    clear hPost_
    go_enter Tryd.func11, Tryd.ntmps11
    go_wp2_with fail
    refine bodyPost_ret (results_tmp3 rfl _ _ _) rfl ?_
    refine HP.out _ _ ⟨.slice none 0 0, rfl, hw.addEmp (X := IsAs 40 (.slice none 0 0) []) (Sl.nil _ _ _)⟩
  have Hp : Hid (readP b = if mayP (readL b m) = true then (readL b m, 1 + 11 * (m : Int), 0) else ([], 0, 1)) := Sep.hid (by
    unfold readP
    rw [if_neg (by rw [hn.out]; exact h0), if_neg (by rw [hc]; omega), if_neg (by rw [hc, hn.out]; exact h3), hc]
    rfl)
  clear hcb hc hc255 h0
  refine Sep.calls_post ?_
  intro Post_ hPost_
  have HP := Sep.hid hPost_
  clear hPost_
  go_enter Tryd.func11, Tryd.ntmps11
  go_wp2_with (refine wpList_on rfl (wp_bsl0 rfl hw ?_); intro b_ w_ hw_; replace hw_ := hw_.newSl (i := 1) rfl 4 0 rfl (by decide); clear hw; have hw := hw_; clear hw_; (try simp only [List.map_cons, List.map_nil, List.getD_cons_zero, List.getD_cons_succ, List.getD_nil, List.set_cons_zero, List.set_cons_succ, List.cons_append, List.nil_append, Act.eval, Array.getD_eq_getD_getElem?, List.getElem?_toArray, List.getElem?_cons_succ, List.getElem?_cons_zero, Option.getD_some, Value.cells] at hw); (try simp (disch := first | (simp; done) | (simp; omega)) only [Sep.mid_set, Sep.mid_set2, Sep.mid_set0, Sep.mid_splice, Sep.mid_splice0, List.set_cons_zero, List.set_cons_succ] at hw); (try simp only [Sep.splice, List.take_succ_cons, List.take_zero, List.drop_succ_cons, List.drop_zero, List.length_cons, List.length_nil, Nat.reduceAdd, List.cons_append, List.nil_append] at hw); (try replace hc0 := Sep.Holds.cells hw (i := 0) rfl); (try replace hc1 := Sep.Holds.cells hw (i := 1) rfl); (try replace hc2 := Sep.Holds.cells hw (i := 2) rfl); (try replace hc3 := Sep.Holds.cells hw (i := 3) rfl); (try replace hc4 := Sep.Holds.cells hw (i := 4) rfl); (try replace hc5 := Sep.Holds.cells hw (i := 5) rfl); (try replace hc6 := Sep.Holds.cells hw (i := 6) rfl))
  have Hw0 := Sep.hid hw; clear hw; (try clear hc0); (try clear hc1); (try clear hc2); (try clear hc3); (try clear hc4); (try clear hc5); (try clear hc6)
  go_loopw [7, 6] (fun i o wr => ∃ k : Nat, k ≤ m ∧ i = .int .i64 k ∧ Holds e wr [X, Sl 40 4 o k (encAs (readL b k))]) (fun i _ _ => m - (intOf i).toNat)
  case atStart => exact ⟨0, Nat.zero_le _, rfl, Hw0.out⟩
  case round =>
    clear Hw0
    obtain ⟨k, hk, rfl, hw⟩ := hrel
    obtain ⟨oa, oc, rfl⟩ := Sl.value (i := 1) rfl hw
    by_cases hlt : k < m
    · have Hsn := Sep.hid (readL_snoc b k)
      go_wp2_with fail
      obtain ⟨s, hs⟩ : ∃ s, 1 + 11 * k = s := ⟨_, rfl⟩
      have hsi : (1 : Int) + 11 * (k : Int) = (s : Int) := by rw [← hs]; push_cast; rfl
      rw [hsi]
      have hsn : s + 11 ≤ n := by omega
      have hs3 : s ≤ 300 := by omega
      have Hx : Hid (insP ((b.drop (1 + k * 11)).take 11) = ⟨b[s]?.getD 0, b[s + 1]?.getD 0, b[s + 2]?.getD 0, numP ((b.drop (s + 3)).take 8)⟩) := Sep.hid (by rw [Nat.mul_comm k 11, hs]; exact insP_at b s)
      have Hget : Hid (∀ j, s + j < n → IntKind.i64.wrap (b[s + j]?.getD 0) = b[s + j]?.getD 0 ∧ ∀ w', Holds e w' [X] → w'.cell? (p.add (s + j)) = some (.int .u8 (b[s + j]?.getD 0))) := Sep.hid (fun j hj => by
        have hj' : b[s + j]? = some (b[s + j]?.getD 0) := by rw [List.getElem?_eq_getElem (by rw [hn.out]; exact hj)]; rfl
        refine ⟨IntWalk.i64_in _ (by have := Hb.out _ (List.mem_of_getElem? hj'); omega), fun w' hw' => ?_⟩
        obtain ⟨p2, hp2, hc⟩ := HR.out w' [X] 0 hw' rfl _ _ hj'
        cases hp2; exact hc)
      have Hnum : Hid (∀ w' L, Holds e w' (X :: L) → Calls Tryd.prog 24 #[.slice (some (p.add (s + 3))) (n - (s + 3)) (ca - (s + 3))] w' fun en w2 => en = .returned (.int .i64 (numP ((b.drop (s + 3)).take 8))) ∧ w2 = w') := Sep.hid (fun w' L hw' => rNum _ (b.drop (s + 3)) _ _ (by omega) (Sep.hid (by rw [List.length_drop, hn.out])) (Hb.out.drop _) w' (rd_from (i := 0) HR.out hw' rfl _))
      clear hs hsi
      obtain ⟨c0, hc0⟩ : ∃ c0, b[s]?.getD 0 = c0 := ⟨_, rfl⟩
      obtain ⟨c1, hc1⟩ : ∃ c1, b[s + 1]?.getD 0 = c1 := ⟨_, rfl⟩
      obtain ⟨c2, hc2⟩ : ∃ c2, b[s + 2]?.getD 0 = c2 := ⟨_, rfl⟩
      have Hg : Hid ((IntKind.i64.wrap c0 = c0 ∧ IntKind.i64.wrap c1 = c1 ∧ IntKind.i64.wrap c2 = c2) ∧ ∀ w', Holds e w' [X] → w'.cell? (p.add s) = some (.int .u8 c0) ∧ w'.cell? (p.add (s + 1)) = some (.int .u8 c1) ∧ w'.cell? (p.add (s + 2)) = some (.int .u8 c2)) := Sep.hid (by
        have g0 := Hget.out 0 (by omega)
        have g1 := Hget.out 1 (by omega)
        have g2 := Hget.out 2 (by omega)
        rw [Nat.add_zero, hc0] at g0
        rw [hc1] at g1
        rw [hc2] at g2
        exact ⟨⟨g0.1, g1.1, g2.1⟩, fun w' hw' => ⟨g0.2 w' hw', g1.2 w' hw', g2.2 w' hw'⟩⟩)
      rw [hc0, hc1, hc2] at Hx
      rw [Hx.out] at Hsn
      clear hc0 hc1 hc2 Hget Hx
      generalize numP ((b.drop (s + 3)).take 8) = c3 at *
      obtain ⟨s1, hs1⟩ : ∃ s1, s + 1 = s1 := ⟨_, rfl⟩
      obtain ⟨s2, hs2⟩ : ∃ s2, s + 2 = s2 := ⟨_, rfl⟩
      obtain ⟨s3, hs3'⟩ : ∃ s3, s + 3 = s3 := ⟨_, rfl⟩
      have e1 : IntKind.i64.wrap ((s : Int) + 1) = (s1 : Int) := by rw [← hs1, IntWalk.i64_in _ (by omega)]; rfl
      have e2 : IntKind.i64.wrap ((s : Int) + 2) = (s2 : Int) := by rw [← hs2, IntWalk.i64_in _ (by omega)]; rfl
      have e3 : IntKind.i64.wrap ((s : Int) + 3) = (s3 : Int) := by rw [← hs3', IntWalk.i64_in _ (by omega)]; rfl
      have l0 : s < n := by omega
      have l1 : s1 < n := by omega
      have l2 : s2 < n := by omega
      have l3 : s3 ≤ n := by omega
      have l4 : n ≤ ca := hca
      have l5 : ¬ ca = s3 := by omega
      rw [hs1, hs2] at Hg
      rw [hs3'] at Hnum
      clear hs1 hs2 hs3' hsn hs3 hca
      obtain ⟨A, hA⟩ : ∃ A, A = encAs (readL b k) := ⟨_, rfl⟩
      have HA := Sep.hid hA
      rw [← hA] at hw
      clear hA h1 h2 h3 Hp
      refine wp_region_L [22, 24, 25] [(4, (fun w' => Holds e w' [X])), (10, (fun w' => Holds e w' [X])), (16, (fun w' => Holds e w' [X]))] (n := 27) (listed := (marks 27 0)) (by kernel_rfl) rfl (by kernel_rfl) ?conds1 ?_
      case conds1 =>
       intro c hc
       simp only [List.mem_cons, List.not_mem_nil, or_false] at hc
       rcases hc with rfl | rfl | rfl
       · exact (by replace hw := hw.drew; exact hw.sel [0] (by decide))
       · exact (by replace hw := hw.drew; exact hw.sel [0] (by decide))
       · exact (by replace hw := hw.drew; exact hw.sel [0] (by decide))
      replace hw := hw.drew
      (try replace hc0 := Sep.Holds.cells hw (i := 0) rfl); (try replace hc1 := Sep.Holds.cells hw (i := 1) rfl); (try replace hc2 := Sep.Holds.cells hw (i := 2) rfl); (try replace hc3 := Sep.Holds.cells hw (i := 3) rfl); (try replace hc4 := Sep.Holds.cells hw (i := 4) rfl); (try replace hc5 := Sep.Holds.cells hw (i := 5) rfl); (try replace hc6 := Sep.Holds.cells hw (i := 6) rfl)
      refine wpL_q 0 ?_ rfl (Or.inl ⟨by rfl, fun w_ hS_ => ?_⟩) (marks 27 1) ?_
      rotate_left
      next => (go_simp; try (first | rfl | exact (Bool.not_not _).symm))
      try simp only [Act.put, List.setIfInBounds_toArray, List.set_cons_zero, List.set_cons_succ]
      refine wpL_q 1 ?_ rfl (Or.inl ⟨by rfl, fun w_ hS_ => ?_⟩) (marks 27 3) ?_
      rotate_left
      next => (go_simp; try (first | rfl | exact (Bool.not_not _).symm))
      try simp only [Act.put, List.setIfInBounds_toArray, List.set_cons_zero, List.set_cons_succ]
      refine wpL_q 2 ?_ rfl (Or.inl ⟨by rfl, fun w_ hS_ => ?_⟩) (marks 27 7) ?_
      rotate_left
      next => (go_simp; try (first | rfl | exact (Bool.not_not _).symm))
      try simp only [Act.put, List.setIfInBounds_toArray, List.set_cons_zero, List.set_cons_succ]
      refine wpL_q 3 ?_ rfl (Or.inl ⟨by rfl, fun w_ hS_ => ?_⟩) (marks 27 15) ?_
      rotate_left
      next => (go_simp; try (first | rfl | exact (Bool.not_not _).symm))
      try simp only [Act.put, List.setIfInBounds_toArray, List.set_cons_zero, List.set_cons_succ]
      refine wpL_m 4 ?_ rfl (.head _) (Or.inl ⟨by rfl, fun w_ hS_ => ?_⟩) (marks 27 31) ?_
      rotate_left
      next => (dsimp only at hS_; (try have q0 := Sep.Holds.cells hS_ (i := 0) rfl); (try have q1 := Sep.Holds.cells hS_ (i := 1) rfl); (try have q2 := Sep.Holds.cells hS_ (i := 2) rfl); (try have q3 := Sep.Holds.cells hS_ (i := 3) rfl); (try have q4 := Sep.Holds.cells hS_ (i := 4) rfl); (try have q5 := Sep.Holds.cells hS_ (i := 5) rfl); (try have q6 := Sep.Holds.cells hS_ (i := 6) rfl); first | ((first | (go_simp; (try rfl); done) | (obtain ⟨g0, g1, g2⟩ := Hg.out.2 _ hS_; go_simp; (try rfl); done))) | (go_simp; try (first | rfl | exact (Bool.not_not _).symm)))
      try simp only [Act.put, List.setIfInBounds_toArray, List.set_cons_zero, List.set_cons_succ]
      refine wpL_q 5 ?_ rfl (Or.inl ⟨by rfl, fun w_ hS_ => ?_⟩) (marks 27 63) ?_
      rotate_left
      next => (go_simp; try (first | rfl | exact (Bool.not_not _).symm))
      try simp only [Act.put, List.setIfInBounds_toArray, List.set_cons_zero, List.set_cons_succ]
      refine wpL_q 6 ?_ rfl (Or.inl ⟨by rfl, fun w_ hS_ => ?_⟩) (marks 27 127) ?_
      rotate_left
      next => (go_simp; try (first | rfl | exact (Bool.not_not _).symm))
      try simp only [Act.put, List.setIfInBounds_toArray, List.set_cons_zero, List.set_cons_succ]
      refine wpL_q 7 ?_ rfl (Or.inl ⟨by rfl, fun w_ hS_ => ?_⟩) (marks 27 255) ?_
      rotate_left
      next => (go_simp; try (first | rfl | exact (Bool.not_not _).symm))
      try simp only [Act.put, List.setIfInBounds_toArray, List.set_cons_zero, List.set_cons_succ]
      refine wpL_q 8 ?_ rfl (Or.inl ⟨by rfl, fun w_ hS_ => ?_⟩) (marks 27 511) ?_
      rotate_left
      next => (go_simp; try (first | rfl | exact (Bool.not_not _).symm))
      try simp only [Act.put, List.setIfInBounds_toArray, List.set_cons_zero, List.set_cons_succ]
      refine wpL_q 9 ?_ rfl (Or.inl ⟨by rfl, fun w_ hS_ => ?_⟩) (marks 27 1023) ?_
      rotate_left
      next => (go_simp; try (first | rfl | exact (Bool.not_not _).symm))
      try simp only [Act.put, List.setIfInBounds_toArray, List.set_cons_zero, List.set_cons_succ]
      refine wpL_m 10 ?_ rfl (.tail _ (.head _)) (Or.inl ⟨by rfl, fun w_ hS_ => ?_⟩) (marks 27 2047) ?_
      rotate_left
      next => (dsimp only at hS_; (try have q0 := Sep.Holds.cells hS_ (i := 0) rfl); (try have q1 := Sep.Holds.cells hS_ (i := 1) rfl); (try have q2 := Sep.Holds.cells hS_ (i := 2) rfl); (try have q3 := Sep.Holds.cells hS_ (i := 3) rfl); (try have q4 := Sep.Holds.cells hS_ (i := 4) rfl); (try have q5 := Sep.Holds.cells hS_ (i := 5) rfl); (try have q6 := Sep.Holds.cells hS_ (i := 6) rfl); first | ((first | (go_simp; (try rfl); done) | (obtain ⟨g0, g1, g2⟩ := Hg.out.2 _ hS_; go_simp; (try rfl); done))) | (go_simp; try (first | rfl | exact (Bool.not_not _).symm)))
      try simp only [Act.put, List.setIfInBounds_toArray, List.set_cons_zero, List.set_cons_succ]
      refine wpL_q 11 ?_ rfl (Or.inl ⟨by rfl, fun w_ hS_ => ?_⟩) (marks 27 4095) ?_
      rotate_left
      next => (go_simp; try (first | rfl | exact (Bool.not_not _).symm))
      try simp only [Act.put, List.setIfInBounds_toArray, List.set_cons_zero, List.set_cons_succ]
      refine wpL_q 12 ?_ rfl (Or.inl ⟨by rfl, fun w_ hS_ => ?_⟩) (marks 27 8191) ?_
      rotate_left
      next => (go_simp; try (first | rfl | exact (Bool.not_not _).symm))
      try simp only [Act.put, List.setIfInBounds_toArray, List.set_cons_zero, List.set_cons_succ]
      refine wpL_q 13 ?_ rfl (Or.inl ⟨by rfl, fun w_ hS_ => ?_⟩) (marks 27 16383) ?_
      rotate_left
      next => (go_simp; try (first | rfl | exact (Bool.not_not _).symm))
      try simp only [Act.put, List.setIfInBounds_toArray, List.set_cons_zero, List.set_cons_succ]
      refine wpL_q 14 ?_ rfl (Or.inl ⟨by rfl, fun w_ hS_ => ?_⟩) (marks 27 32767) ?_
      rotate_left
      next => (go_simp; try (first | rfl | exact (Bool.not_not _).symm))
      try simp only [Act.put, List.setIfInBounds_toArray, List.set_cons_zero, List.set_cons_succ]
      refine wpL_q 15 ?_ rfl (Or.inl ⟨by rfl, fun w_ hS_ => ?_⟩) (marks 27 65535) ?_
      rotate_left
      next => (go_simp; try (first | rfl | exact (Bool.not_not _).symm))
      try simp only [Act.put, List.setIfInBounds_toArray, List.set_cons_zero, List.set_cons_succ]
      refine wpL_m 16 ?_ rfl (.tail _ (.tail _ (.head _))) (Or.inl ⟨by rfl, fun w_ hS_ => ?_⟩) (marks 27 131071) ?_
      rotate_left
      next => (dsimp only at hS_; (try have q0 := Sep.Holds.cells hS_ (i := 0) rfl); (try have q1 := Sep.Holds.cells hS_ (i := 1) rfl); (try have q2 := Sep.Holds.cells hS_ (i := 2) rfl); (try have q3 := Sep.Holds.cells hS_ (i := 3) rfl); (try have q4 := Sep.Holds.cells hS_ (i := 4) rfl); (try have q5 := Sep.Holds.cells hS_ (i := 5) rfl); (try have q6 := Sep.Holds.cells hS_ (i := 6) rfl); first | ((first | (go_simp; (try rfl); done) | (obtain ⟨g0, g1, g2⟩ := Hg.out.2 _ hS_; go_simp; (try rfl); done))) | (go_simp; try (first | rfl | exact (Bool.not_not _).symm)))
      try simp only [Act.put, List.setIfInBounds_toArray, List.set_cons_zero, List.set_cons_succ]
      refine wpL_q 17 ?_ rfl (Or.inl ⟨by rfl, fun w_ hS_ => ?_⟩) (marks 27 262143) ?_
      rotate_left
      next => (go_simp; try (first | rfl | exact (Bool.not_not _).symm))
      try simp only [Act.put, List.setIfInBounds_toArray, List.set_cons_zero, List.set_cons_succ]
      refine wpL_q 18 ?_ rfl (Or.inl ⟨by rfl, fun w_ hS_ => ?_⟩) (marks 27 524287) ?_
      rotate_left
      next => (go_simp; try (first | rfl | exact (Bool.not_not _).symm))
      try simp only [Act.put, List.setIfInBounds_toArray, List.set_cons_zero, List.set_cons_succ]
      refine wpL_q 19 ?_ rfl (Or.inl ⟨by rfl, fun w_ hS_ => ?_⟩) (marks 27 1048575) ?_
      rotate_left
      next => (go_simp; try (first | rfl | exact (Bool.not_not _).symm))
      try simp only [Act.put, List.setIfInBounds_toArray, List.set_cons_zero, List.set_cons_succ]
      refine wpL_q 20 ?_ rfl (Or.inl ⟨by rfl, fun w_ hS_ => ?_⟩) (marks 27 2097151) ?_
      rotate_left
      next => (go_simp; try (first | rfl | exact (Bool.not_not _).symm))
      try simp only [Act.put, List.setIfInBounds_toArray, List.set_cons_zero, List.set_cons_succ]
      refine wpL_q 21 ?_ rfl (Or.inl ⟨by rfl, fun w_ hS_ => ?_⟩) (marks 27 4194303) ?_
      rotate_left
      next => (first | ((first | (go_simp; (try rfl); done) | (obtain ⟨g0, g1, g2⟩ := Hg.out.2 _ hS_; go_simp; (try rfl); done))) | (go_simp; try (first | rfl | exact (Bool.not_not _).symm)))
      try simp only [Act.put, List.setIfInBounds_toArray, List.set_cons_zero, List.set_cons_succ]
      refine wpL_o 22 rfl (by rfl) (marks 27 8388607) ?_
      (go_simp; go_at_call 24; refine (Hnum.out _ _ hw).mono ?_; rintro _ w_ ⟨rfl, hw_⟩; subst hw_; (try simp only [List.map_cons, List.map_nil, List.getD_cons_zero, List.getD_cons_succ, List.getD_nil, List.set_cons_zero, List.set_cons_succ, List.cons_append, List.nil_append, Act.eval, Array.getD_eq_getD_getElem?, List.getElem?_toArray, List.getElem?_cons_succ, List.getElem?_cons_zero, Option.getD_some, Value.cells] at hw); (try simp (disch := first | (simp; done) | (simp; omega)) only [Sep.mid_set, Sep.mid_set2, Sep.mid_set0, Sep.mid_splice, Sep.mid_splice0, List.set_cons_zero, List.set_cons_succ] at hw); (try simp only [Sep.splice, List.take_succ_cons, List.take_zero, List.drop_succ_cons, List.drop_zero, List.length_cons, List.length_nil, Nat.reduceAdd, List.cons_append, List.nil_append] at hw))
      refine ⟨(SL.keep (by exact hw.sel [0] (by decide)) (SL.keep (by exact hw.sel [0] (by decide)) (SL.keep (by exact hw.sel [0] (by decide)) SL.nil))), ?_⟩
      try simp only [Act.put, List.setIfInBounds_toArray, List.set_cons_zero, List.set_cons_succ]
      refine wpL_q 23 ?_ rfl (Or.inl ⟨by rfl, fun w_ hS_ => ?_⟩) (marks 27 16777215) ?_
      rotate_left
      next => (go_simp; try (first | rfl | exact (Bool.not_not _).symm))
      try simp only [Act.put, List.setIfInBounds_toArray, List.set_cons_zero, List.set_cons_succ]
      refine wpL_o 24 rfl (by rfl) (marks 27 33554431) ?_
      (refine wp_bsl1 (v := .agg #[.int .i64 (IntKind.i64.wrap c0), .int .i64 (IntKind.i64.wrap c1), .int .i64 (IntKind.i64.wrap c2), .int .i64 c3]) rfl rfl (by rfl) (by rfl) (by decide) hw ?_; intro b_ w_ hw_; clear hw; have hw := hw_; clear hw_; (try simp only [List.map_cons, List.map_nil, List.getD_cons_zero, List.getD_cons_succ, List.getD_nil, List.set_cons_zero, List.set_cons_succ, List.cons_append, List.nil_append, Act.eval, Array.getD_eq_getD_getElem?, List.getElem?_toArray, List.getElem?_cons_succ, List.getElem?_cons_zero, Option.getD_some, Value.cells] at hw); (try simp (disch := first | (simp; done) | (simp; omega)) only [Sep.mid_set, Sep.mid_set2, Sep.mid_set0, Sep.mid_splice, Sep.mid_splice0, List.set_cons_zero, List.set_cons_succ] at hw); (try simp only [Sep.splice, List.take_succ_cons, List.take_zero, List.drop_succ_cons, List.drop_zero, List.length_cons, List.length_nil, Nat.reduceAdd, List.cons_append, List.nil_append] at hw); (try replace hc0 := Sep.Holds.cells hw (i := 0) rfl); (try replace hc1 := Sep.Holds.cells hw (i := 1) rfl); (try replace hc2 := Sep.Holds.cells hw (i := 2) rfl); (try replace hc3 := Sep.Holds.cells hw (i := 3) rfl); (try replace hc4 := Sep.Holds.cells hw (i := 4) rfl); (try replace hc5 := Sep.Holds.cells hw (i := 5) rfl); (try replace hc6 := Sep.Holds.cells hw (i := 6) rfl))
      refine ⟨(SL.drop 24 (by kernel_rfl) (SL.drop 24 (by kernel_rfl) (SL.drop 24 (by kernel_rfl) SL.nil))), ?_⟩
      try simp only [Act.put, List.setIfInBounds_toArray, List.set_cons_zero, List.set_cons_succ]
      refine wpL_o 25 rfl (by rfl) (marks 27 67108863) ?_
      (refine wp_appendPt (i := 1) (j := 2) rfl rfl hw rfl rfl rfl (by rfl) (by simp [Value.oneCell']) (by decide) (by rfl) (by (try unfold maxLen); omega) (by (try unfold maxLen); omega) ?_; intro b2_ cap2_ off2_ w_ hcap2_ hw_; clear hw; have hw := hw_; clear hw_; (try simp only [List.map_cons, List.map_nil, List.getD_cons_zero, List.getD_cons_succ, List.getD_nil, List.set_cons_zero, List.set_cons_succ, List.cons_append, List.nil_append, Act.eval, Array.getD_eq_getD_getElem?, List.getElem?_toArray, List.getElem?_cons_succ, List.getElem?_cons_zero, Option.getD_some, Value.cells] at hw); (try simp (disch := first | (simp; done) | (simp; omega)) only [Sep.mid_set, Sep.mid_set2, Sep.mid_set0, Sep.mid_splice, Sep.mid_splice0, List.set_cons_zero, List.set_cons_succ] at hw); (try simp only [Sep.splice, List.take_succ_cons, List.take_zero, List.drop_succ_cons, List.drop_zero, List.length_cons, List.length_nil, Nat.reduceAdd, List.cons_append, List.nil_append] at hw); (try replace hc0 := Sep.Holds.cells hw (i := 0) rfl); (try replace hc1 := Sep.Holds.cells hw (i := 1) rfl); (try replace hc2 := Sep.Holds.cells hw (i := 2) rfl); (try replace hc3 := Sep.Holds.cells hw (i := 3) rfl); (try replace hc4 := Sep.Holds.cells hw (i := 4) rfl); (try replace hc5 := Sep.Holds.cells hw (i := 5) rfl); (try replace hc6 := Sep.Holds.cells hw (i := 6) rfl))
      refine ⟨(SL.drop 24 (by kernel_rfl) (SL.drop 24 (by kernel_rfl) (SL.drop 24 (by kernel_rfl) SL.nil))), ?_⟩
      try simp only [Act.put, List.setIfInBounds_toArray, List.set_cons_zero, List.set_cons_succ]
      refine wpL_q 26 ?_ rfl (Or.inl ⟨by rfl, fun w_ hS_ => ?_⟩) (marks 27 134217727) ?_
      rotate_left
      next => (go_simp; try (first | rfl | exact (Bool.not_not _).symm))
      try simp only [Act.put, List.setIfInBounds_toArray, List.set_cons_zero, List.set_cons_succ]
      all_goals refine wpL_done (by kernel_rfl) ?_ _
      rw [Hg.out.1.1, Hg.out.1.2.1, Hg.out.1.2.2] at hw
      clear l0 l1 l2 l3 l4 l5 e1 e2 e3
      (try clear hc0); (try clear hc1); (try clear hc2); (try clear hc3); (try clear hc4); (try clear hc5); (try clear hc6)
      go_wp2_with fail
      go_roundw
      case rel =>
        refine ⟨k + 1, by omega, by go_num, ?_⟩
        rw [Hsn.out, encAs_snoc, ← HA.out]
        exact hw.sel [0, 1] (by decide)
      case measure => simp [intOf]; omega
    · have hke : m = k := by omega
      subst hke
      clear h1 h2 h3
      have Hlen := Sep.hid (readL_len b m)
      generalize readL b m = l2 at *
      have hm2 : m ≤ 24 := hm24
      go_wp2_with fail
      refine (rMay l2 m oc oa Hlen (by omega) e _ _ (RdA.two rdA) hw.focus0).mono ?_
      rintro _ w_ ⟨rfl, hw_⟩
      clear hw; (try clear hc0); (try clear hc1); (try clear hc2); (try clear hc3); (try clear hc4); (try clear hc5); (try clear hc6)
      have hw := Holds.unfocus0 hw_; clear hw_
      (try simp only [List.map_cons, List.map_nil, List.getD_cons_zero, List.getD_cons_succ, List.getD_nil, List.set_cons_zero, List.set_cons_succ, List.cons_append, List.nil_append, Act.eval, Array.getD_eq_getD_getElem?, List.getElem?_toArray, List.getElem?_cons_succ, List.getElem?_cons_zero, Option.getD_some, Value.cells] at hw); (try simp (disch := first | (simp; done) | (simp; omega)) only [Sep.mid_set, Sep.mid_set2, Sep.mid_set0, Sep.mid_splice, Sep.mid_splice0, List.set_cons_zero, List.set_cons_succ] at hw); (try simp only [Sep.splice, List.take_succ_cons, List.take_zero, List.drop_succ_cons, List.drop_zero, List.length_cons, List.length_nil, Nat.reduceAdd, List.cons_append, List.nil_append] at hw)
      cases hma : mayP l2 with
      | true =>
        have Hp2 : Hid (readP b = (l2, 1 + 11 * (m : Int), 0)) := Sep.hid (by rw [Hp.out, if_pos hma])
        clear Hp; have Hma := Sep.hid hma; clear hma
        go_wp2_with fail
        refine bodyPost_ret (results_tmp3 rfl _ _ _) rfl ?_
        refine HP.out _ _ ⟨.slice oa m oc, by rw [Hp2.out]; rfl, ?_⟩
        rw [Hp2.out]
        unfold IsAs
        rw [Hlen.out]
        exact hw
      | false =>
        have Hp2 : Hid (readP b = ([], 0, 1)) := Sep.hid (by rw [Hp.out, if_neg (by rw [hma]; decide)])
        clear Hp; have Hma := Sep.hid hma; clear hma
        go_wp2_with fail
        refine bodyPost_ret (results_tmp3 rfl _ _ _) rfl ?_
        refine HP.out _ _ ⟨.slice none 0 0, by rw [Hp2.out]; rfl, ?_⟩
        rw [Hp2.out]
        exact (hw.sel [0] (by decide)).addEmp (X := IsAs 40 (.slice none 0 0) []) (Sl.nil _ _ _)
end Go.Proofs.YtmokklkckecmdaaDoor
