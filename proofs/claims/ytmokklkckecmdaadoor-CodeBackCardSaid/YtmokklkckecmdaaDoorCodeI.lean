/-
  The walk of instr.
-/
import Derived.Test.YtmokklkckecmdaaDoorCodeN
namespace Go.Proofs.YtmokklkckecmdaaDoor
set_option linter.unusedSimpArgs false
set_option linter.unusedVariables false
open Go.RowKit Go.Sep

theorem or_step (U x : Int) (h0 : 0 ≤ U) (hU : U < 72057594037927936) (hx : 0 ≤ x ∧ x ≤ 255) : bits .or .i64 (wrap64 (wrap64 U * 256)) (wrap64 x) = wrap64 (256 * U + x) := by
  obtain ⟨u, rfl⟩ : ∃ u : Nat, U = u := ⟨U.toNat, by omega⟩
  obtain ⟨c, rfl⟩ : ∃ c : Nat, x = c := ⟨x.toNat, by omega⟩
  have hc : c < 256 := by omega
  have hu : u < 72057594037927936 := by omega
  have e1 : BitVec.ofInt 64 (wrap64 (wrap64 (u : Int) * 256)) = BitVec.ofNat 64 (256 * u) := by
    apply BitVec.eq_of_toNat_eq
    rw [BitVec.toNat_ofInt, BitVec.toNat_ofNat]
    unfold wrap64
    omega
  have e2 : BitVec.ofInt 64 (wrap64 (c : Int)) = BitVec.ofNat 64 c := by
    apply BitVec.eq_of_toNat_eq
    rw [BitVec.toNat_ofInt, BitVec.toNat_ofNat]
    unfold wrap64
    omega
  have e3 : (BitVec.ofNat 64 (256 * u) ||| BitVec.ofNat 64 c).toNat = 256 * u + c := by
    rw [BitVec.toNat_or, BitVec.toNat_ofNat, BitVec.toNat_ofNat, Nat.mod_eq_of_lt (by omega), Nat.mod_eq_of_lt (by omega)]
    exact (Nat.two_pow_add_eq_or_of_lt (i := 8) hc u).symm
  have e4 : bits .or .i64 (wrap64 (wrap64 (u : Int) * 256)) (wrap64 (c : Int)) = IntKind.i64.wrap ((BitVec.ofInt 64 (wrap64 (wrap64 (u : Int) * 256)) ||| BitVec.ofInt 64 (wrap64 (c : Int))).toNat : Int) := rfl
  rw [e4, e1, e2, e3, IntWalk.i64_left]
  simp
theorem Bys.drop {l : List Int} (h : Bys l) (k : Nat) : Bys (l.drop k) := fun x hx => h x (List.mem_of_mem_drop hx)
theorem Bys.take {l : List Int} (h : Bys l) (k : Nat) : Bys (l.take k) := fun x hx => h x (List.mem_of_mem_take hx)
theorem numU_small {l : List Int} (h : Bys l) (hl : l.length ≤ 7) : 0 ≤ numU l ∧ numU l < 72057594037927936 := by
  have h1 := numU_in h
  have h5 : (256 : Nat) ^ l.length ≤ 256 ^ 7 := Nat.pow_le_pow_right (by decide) hl
  have h6 : ((256 ^ l.length : Nat) : Int) ≤ ((256 ^ 7 : Nat) : Int) := Int.ofNat_le.2 h5
  have h7 : (256 : Int) ^ l.length ≤ 72057594037927936 := by simpa using h6
  omega
set_option maxRecDepth 20000 in
set_option maxHeartbeats 8000000 in
theorem oInstr (a : Option Addr) (l : List Int) (ca : Nat) (hl : Hid (l.length = 11)) (hca : 11 ≤ ca) (hb : Bys l) (e w : World) (X : HProp) (hR : RdB e X a l) (hw : Holds e w [X]) :
    Calls Tryd.prog 23 #[.slice a 11 ca] w fun en w' => en = .returned (.agg (encA (insP l)).toArray) ∧ Holds e w' [X] := by
  have HR := Sep.hid hR; clear hR
  have Hb := Sep.hid hb; clear hb
  obtain ⟨p, rfl⟩ : ∃ p, a = some p := by
    obtain ⟨p, hp, _⟩ := HR.out _ _ 0 hw rfl 0 _ (List.getElem?_eq_getElem (by rw [hl.out]; decide))
    exact ⟨p, hp⟩
  have Hg : Hid (∀ w', Holds e w' [X] → w'.cell? p = some (.int .u8 (l[0]?.getD 0)) ∧ w'.cell? ⟨p.block, p.off + 1, none⟩ = some (.int .u8 (l[1]?.getD 0)) ∧ w'.cell? ⟨p.block, p.off + 2, none⟩ = some (.int .u8 (l[2]?.getD 0))) := Sep.hid (fun w' hw' => by
    have key : ∀ k, k < 11 → w'.cell? (p.add k) = some (.int .u8 (l[k]?.getD 0)) := fun k hk => by
      have hk' : l[k]? = some (l[k]?.getD 0) := by rw [List.getElem?_eq_getElem (by rw [hl.out]; exact hk)]; rfl
      obtain ⟨p2, hp2, hc⟩ := HR.out w' [X] 0 hw' rfl k _ hk'
      cases hp2; exact hc
    exact ⟨key 0 (by decide), key 1 (by decide), key 2 (by decide)⟩)
  have hc3 : ¬ ca = 3 := by omega
  have Hw8 : Hid (∀ k, k < 3 → IntKind.i64.wrap (l[k]?.getD 0) = l[k]?.getD 0) := Sep.hid (fun k hk => by
    have hk' : l[k]? = some (l[k]?.getD 0) := by rw [List.getElem?_eq_getElem (by rw [hl.out]; omega)]; rfl
    have := Hb.out _ (List.mem_of_getElem? hk')
    exact IntWalk.i64_in _ (by omega))
  refine Sep.calls_post ?_
  intro Post_ hPost_
  have HP := Sep.hid hPost_
  clear hPost_
  go_enter Tryd.func23, Tryd.ntmps23
  go_wp2_with (refine wpList_on rfl (wp_alloc rfl hw ?_); intro b2_ w_ hw_; clear hw; have hw := hw_; clear hw_; (try simp only [List.map_cons, List.map_nil, List.getD_cons_zero, List.getD_cons_succ, List.getD_nil, List.set_cons_zero, List.set_cons_succ, List.cons_append, List.nil_append, Act.eval, Array.getD_eq_getD_getElem?, List.getElem?_toArray, List.getElem?_cons_succ, List.getElem?_cons_zero, Option.getD_some, Value.cells] at hw); (try simp (disch := first | (simp; done) | (simp; omega)) only [Sep.mid_set, Sep.mid_set2, Sep.mid_set0, Sep.mid_splice, Sep.mid_splice0, List.set_cons_zero, List.set_cons_succ] at hw); (try simp only [Sep.splice, List.take_succ_cons, List.take_zero, List.drop_succ_cons, List.drop_zero, List.length_cons, List.length_nil, Nat.reduceAdd, List.cons_append, List.nil_append] at hw); (try replace hc0 := Sep.Holds.cells hw (i := 0) rfl); (try replace hc1 := Sep.Holds.cells hw (i := 1) rfl); (try replace hc2 := Sep.Holds.cells hw (i := 2) rfl); (try replace hc3 := Sep.Holds.cells hw (i := 3) rfl); (try replace hc4 := Sep.Holds.cells hw (i := 4) rfl); (try replace hc5 := Sep.Holds.cells hw (i := 5) rfl); (try replace hc6 := Sep.Holds.cells hw (i := 6) rfl))
  refine wp_region_L [13, 14] [(2, (fun w' => Holds e w' [X])), (6, (fun w' => Holds e w' [X])), (10, (fun w' => Holds e w' [X]))] (n := 15) (listed := (marks 15 0)) (by kernel_rfl) rfl (by kernel_rfl) ?conds1 ?_
  case conds1 =>
   intro c hc
   simp only [List.mem_cons, List.not_mem_nil, or_false] at hc
   rcases hc with rfl | rfl | rfl
   · exact (by replace hw := hw.drew; exact hw.sel [0] (by decide))
   · exact (by replace hw := hw.drew; exact hw.sel [0] (by decide))
   · exact (by replace hw := hw.drew; exact hw.sel [0] (by decide))
  replace hw := hw.drew
  (try replace hc0 := Sep.Holds.cells hw (i := 0) rfl); (try replace hc1 := Sep.Holds.cells hw (i := 1) rfl); (try replace hc2 := Sep.Holds.cells hw (i := 2) rfl); (try replace hc3 := Sep.Holds.cells hw (i := 3) rfl); (try replace hc4 := Sep.Holds.cells hw (i := 4) rfl); (try replace hc5 := Sep.Holds.cells hw (i := 5) rfl); (try replace hc6 := Sep.Holds.cells hw (i := 6) rfl)
  refine wpL_q 0 ?_ rfl (Or.inl ⟨by rfl, fun w_ hS_ => ?_⟩) (marks 15 1) ?_
  rotate_left
  next => (go_simp; try (first | rfl | exact (Bool.not_not _).symm))
  try simp only [Act.put, List.setIfInBounds_toArray, List.set_cons_zero, List.set_cons_succ]
  refine wpL_q 1 ?_ rfl (Or.inl ⟨by rfl, fun w_ hS_ => ?_⟩) (marks 15 3) ?_
  rotate_left
  next => (go_simp; try (first | rfl | exact (Bool.not_not _).symm))
  try simp only [Act.put, List.setIfInBounds_toArray, List.set_cons_zero, List.set_cons_succ]
  refine wpL_m 2 ?_ rfl (.head _) (Or.inl ⟨by rfl, fun w_ hS_ => ?_⟩) (marks 15 7) ?_
  rotate_left
  next => (dsimp only at hS_; (try have q0 := Sep.Holds.cells hS_ (i := 0) rfl); (try have q1 := Sep.Holds.cells hS_ (i := 1) rfl); (try have q2 := Sep.Holds.cells hS_ (i := 2) rfl); (try have q3 := Sep.Holds.cells hS_ (i := 3) rfl); (try have q4 := Sep.Holds.cells hS_ (i := 4) rfl); (try have q5 := Sep.Holds.cells hS_ (i := 5) rfl); (try have q6 := Sep.Holds.cells hS_ (i := 6) rfl); first | ((obtain ⟨g0, g1, g2⟩ := Hg.out _ hS_; go_simp; (try rfl); done)) | (go_simp; try (first | rfl | exact (Bool.not_not _).symm)))
  try simp only [Act.put, List.setIfInBounds_toArray, List.set_cons_zero, List.set_cons_succ]
  refine wpL_q 3 ?_ rfl (Or.inl ⟨by rfl, fun w_ hS_ => ?_⟩) (marks 15 15) ?_
  rotate_left
  next => (go_simp; try (first | rfl | exact (Bool.not_not _).symm))
  try simp only [Act.put, List.setIfInBounds_toArray, List.set_cons_zero, List.set_cons_succ]
  refine wpL_q 4 ?_ rfl (Or.inl ⟨by rfl, fun w_ hS_ => ?_⟩) (marks 15 31) ?_
  rotate_left
  next => (go_simp; try (first | rfl | exact (Bool.not_not _).symm))
  try simp only [Act.put, List.setIfInBounds_toArray, List.set_cons_zero, List.set_cons_succ]
  refine wpL_q 5 ?_ rfl (Or.inl ⟨by rfl, fun w_ hS_ => ?_⟩) (marks 15 63) ?_
  rotate_left
  next => (go_simp; try (first | rfl | exact (Bool.not_not _).symm))
  try simp only [Act.put, List.setIfInBounds_toArray, List.set_cons_zero, List.set_cons_succ]
  refine wpL_m 6 ?_ rfl (.tail _ (.head _)) (Or.inl ⟨by rfl, fun w_ hS_ => ?_⟩) (marks 15 127) ?_
  rotate_left
  next => (dsimp only at hS_; (try have q0 := Sep.Holds.cells hS_ (i := 0) rfl); (try have q1 := Sep.Holds.cells hS_ (i := 1) rfl); (try have q2 := Sep.Holds.cells hS_ (i := 2) rfl); (try have q3 := Sep.Holds.cells hS_ (i := 3) rfl); (try have q4 := Sep.Holds.cells hS_ (i := 4) rfl); (try have q5 := Sep.Holds.cells hS_ (i := 5) rfl); (try have q6 := Sep.Holds.cells hS_ (i := 6) rfl); first | ((obtain ⟨g0, g1, g2⟩ := Hg.out _ hS_; go_simp; (try rfl); done)) | (go_simp; try (first | rfl | exact (Bool.not_not _).symm)))
  try simp only [Act.put, List.setIfInBounds_toArray, List.set_cons_zero, List.set_cons_succ]
  refine wpL_q 7 ?_ rfl (Or.inl ⟨by rfl, fun w_ hS_ => ?_⟩) (marks 15 255) ?_
  rotate_left
  next => (go_simp; try (first | rfl | exact (Bool.not_not _).symm))
  try simp only [Act.put, List.setIfInBounds_toArray, List.set_cons_zero, List.set_cons_succ]
  refine wpL_q 8 ?_ rfl (Or.inl ⟨by rfl, fun w_ hS_ => ?_⟩) (marks 15 511) ?_
  rotate_left
  next => (go_simp; try (first | rfl | exact (Bool.not_not _).symm))
  try simp only [Act.put, List.setIfInBounds_toArray, List.set_cons_zero, List.set_cons_succ]
  refine wpL_q 9 ?_ rfl (Or.inl ⟨by rfl, fun w_ hS_ => ?_⟩) (marks 15 1023) ?_
  rotate_left
  next => (go_simp; try (first | rfl | exact (Bool.not_not _).symm))
  try simp only [Act.put, List.setIfInBounds_toArray, List.set_cons_zero, List.set_cons_succ]
  refine wpL_m 10 ?_ rfl (.tail _ (.tail _ (.head _))) (Or.inl ⟨by rfl, fun w_ hS_ => ?_⟩) (marks 15 2047) ?_
  rotate_left
  next => (dsimp only at hS_; (try have q0 := Sep.Holds.cells hS_ (i := 0) rfl); (try have q1 := Sep.Holds.cells hS_ (i := 1) rfl); (try have q2 := Sep.Holds.cells hS_ (i := 2) rfl); (try have q3 := Sep.Holds.cells hS_ (i := 3) rfl); (try have q4 := Sep.Holds.cells hS_ (i := 4) rfl); (try have q5 := Sep.Holds.cells hS_ (i := 5) rfl); (try have q6 := Sep.Holds.cells hS_ (i := 6) rfl); first | ((obtain ⟨g0, g1, g2⟩ := Hg.out _ hS_; go_simp; (try rfl); done)) | (go_simp; try (first | rfl | exact (Bool.not_not _).symm)))
  try simp only [Act.put, List.setIfInBounds_toArray, List.set_cons_zero, List.set_cons_succ]
  refine wpL_q 11 ?_ rfl (Or.inl ⟨by rfl, fun w_ hS_ => ?_⟩) (marks 15 4095) ?_
  rotate_left
  next => (go_simp; try (first | rfl | exact (Bool.not_not _).symm))
  try simp only [Act.put, List.setIfInBounds_toArray, List.set_cons_zero, List.set_cons_succ]
  refine wpL_q 12 ?_ rfl (Or.inl ⟨by rfl, fun w_ hS_ => ?_⟩) (marks 15 8191) ?_
  rotate_left
  next => (go_simp; try (first | rfl | exact (Bool.not_not _).symm))
  try simp only [Act.put, List.setIfInBounds_toArray, List.set_cons_zero, List.set_cons_succ]
  refine wpL_o 13 rfl (by rfl) (marks 15 16383) ?_
  (refine wp_alloc rfl hw ?_; intro b3_ w_ hw_; clear hw; have hw := hw_; clear hw_; (try simp only [List.map_cons, List.map_nil, List.getD_cons_zero, List.getD_cons_succ, List.getD_nil, List.set_cons_zero, List.set_cons_succ, List.cons_append, List.nil_append, Act.eval, Array.getD_eq_getD_getElem?, List.getElem?_toArray, List.getElem?_cons_succ, List.getElem?_cons_zero, Option.getD_some, Value.cells] at hw); (try simp (disch := first | (simp; done) | (simp; omega)) only [Sep.mid_set, Sep.mid_set2, Sep.mid_set0, Sep.mid_splice, Sep.mid_splice0, List.set_cons_zero, List.set_cons_succ] at hw); (try simp only [Sep.splice, List.take_succ_cons, List.take_zero, List.drop_succ_cons, List.drop_zero, List.length_cons, List.length_nil, Nat.reduceAdd, List.cons_append, List.nil_append] at hw); (try replace hc0 := Sep.Holds.cells hw (i := 0) rfl); (try replace hc1 := Sep.Holds.cells hw (i := 1) rfl); (try replace hc2 := Sep.Holds.cells hw (i := 2) rfl); (try replace hc3 := Sep.Holds.cells hw (i := 3) rfl); (try replace hc4 := Sep.Holds.cells hw (i := 4) rfl); (try replace hc5 := Sep.Holds.cells hw (i := 5) rfl); (try replace hc6 := Sep.Holds.cells hw (i := 6) rfl))
  refine ⟨(SL.keep (by exact hw.sel [0] (by decide)) (SL.keep (by exact hw.sel [0] (by decide)) (SL.keep (by exact hw.sel [0] (by decide)) SL.nil))), ?_⟩
  try simp only [Act.put, List.setIfInBounds_toArray, List.set_cons_zero, List.set_cons_succ]
  refine wpL_o 14 rfl (by rfl) (marks 15 32767) ?_
  (refine wp_storeAll (vs := [.int .i64 (IntKind.i64.wrap (l[0]?.getD 0)), .int .i64 (IntKind.i64.wrap (l[1]?.getD 0)), .int .i64 (IntKind.i64.wrap (l[2]?.getD 0)), .int .i64 0]) rfl rfl (by rfl) hw (i := 2) rfl rfl rfl (by simp [Value.oneCell']) ?_; intro w_ hw_; clear hw; have hw := hw_; clear hw_; (try simp only [List.map_cons, List.map_nil, List.getD_cons_zero, List.getD_cons_succ, List.getD_nil, List.set_cons_zero, List.set_cons_succ, List.cons_append, List.nil_append, Act.eval, Array.getD_eq_getD_getElem?, List.getElem?_toArray, List.getElem?_cons_succ, List.getElem?_cons_zero, Option.getD_some, Value.cells] at hw); (try simp (disch := first | (simp; done) | (simp; omega)) only [Sep.mid_set, Sep.mid_set2, Sep.mid_set0, Sep.mid_splice, Sep.mid_splice0, List.set_cons_zero, List.set_cons_succ] at hw); (try simp only [Sep.splice, List.take_succ_cons, List.take_zero, List.drop_succ_cons, List.drop_zero, List.length_cons, List.length_nil, Nat.reduceAdd, List.cons_append, List.nil_append] at hw); (try replace hc0 := Sep.Holds.cells hw (i := 0) rfl); (try replace hc1 := Sep.Holds.cells hw (i := 1) rfl); (try replace hc2 := Sep.Holds.cells hw (i := 2) rfl); (try replace hc3 := Sep.Holds.cells hw (i := 3) rfl); (try replace hc4 := Sep.Holds.cells hw (i := 4) rfl); (try replace hc5 := Sep.Holds.cells hw (i := 5) rfl); (try replace hc6 := Sep.Holds.cells hw (i := 6) rfl))
  refine ⟨(SL.drop 14 (by kernel_rfl) (SL.drop 14 (by kernel_rfl) (SL.drop 14 (by kernel_rfl) SL.nil))), ?_⟩
  try simp only [Act.put, List.setIfInBounds_toArray, List.set_cons_zero, List.set_cons_succ]
  all_goals refine wpL_done (by kernel_rfl) ?_ _
  rw [Hw8.out 0 (by decide), Hw8.out 1 (by decide), Hw8.out 2 (by decide)] at hw
  (try clear hc0); (try clear hc1); (try clear hc2); (try clear hc3); (try clear hc4); (try clear hc5); (try clear hc6)
  go_wp2_with fail
  rw [Hw8.out 0 (by decide), Hw8.out 1 (by decide), Hw8.out 2 (by decide)]
  have Hw0 := Sep.hid hw; clear hw
  go_loopw [22] (fun i wr => ∃ k : Nat, k ≤ 8 ∧ i = .int .i64 k ∧ Holds e wr [X, pt b2_ [.int .i64 0, .int .i64 0, .int .i64 0, .int .i64 0] 23, pt b3_ [.int .i64 (l[0]?.getD 0), .int .i64 (l[1]?.getD 0), .int .i64 (l[2]?.getD 0), .int .i64 (numP ((l.drop 3).take k))] 23]) (fun i _ => 8 - (intOf i).toNat)
  case atStart => exact ⟨0, Nat.zero_le _, rfl, by rw [show numP ((l.drop 3).take 0) = 0 by simp [numP, numU, wrap64]]; exact Hw0.out⟩
  case round =>
    clear Hw0
    obtain ⟨k, hk, rfl, hw⟩ := hrel
    by_cases hlt : k < 8
    · obtain ⟨x, hx⟩ : ∃ x, l[3 + k]? = some x := ⟨_, List.getElem?_eq_getElem (by rw [hl.out]; omega)⟩
      have gx : wr.cell? ⟨p.block, p.off + 3 + k, none⟩ = some (.int .u8 x) := by
        obtain ⟨p2, hp2, hc⟩ := HR.out _ _ 0 hw rfl (3 + k) x hx
        cases hp2
        have e1 : p.add (3 + k) = ⟨p.block, p.off + 3 + k, none⟩ := by unfold Addr.add; rw [if_neg (by omega), Nat.add_assoc]
        rwa [e1] at hc
      have Hx := Sep.hid hx; clear hx
      (try replace hc0 := Sep.Holds.cells hw (i := 0) rfl); (try replace hc1 := Sep.Holds.cells hw (i := 1) rfl); (try replace hc2 := Sep.Holds.cells hw (i := 2) rfl); (try replace hc3 := Sep.Holds.cells hw (i := 3) rfl); (try replace hc4 := Sep.Holds.cells hw (i := 4) rfl); (try replace hc5 := Sep.Holds.cells hw (i := 5) rfl); (try replace hc6 := Sep.Holds.cells hw (i := 6) rfl)
      have Hor : Hid (bits .or .i64 (wrap64 (numP ((l.drop 3).take k) * 256)) (wrap64 x) = numP ((l.drop 3).take (k + 1))) := Sep.hid (by
        have h1 := numU_small ((Hb.out.drop 3).take k) (by rw [List.length_take]; omega)
        have h2 := or_step (numU ((l.drop 3).take k)) x h1.1 h1.2 (Hb.out x (List.mem_of_getElem? Hx.out))
        have h3 : (l.drop 3)[k]? = some x := by rw [List.getElem?_drop]; exact Hx.out
        unfold numP
        rw [h2, takeB h3, numU_snoc])
      go_wp2_with (first | (refine wpList_on rfl (wp_store1 (v := _) rfl rfl rfl hw (i := 2) rfl (by simp [Sep.mid_length, Act.eval, Value.cells]; try omega) rfl ?_); intro w_ hw_; clear hw; have hw := hw_; clear hw_; (try simp only [List.map_cons, List.map_nil, List.getD_cons_zero, List.getD_cons_succ, List.getD_nil, List.set_cons_zero, List.set_cons_succ, List.cons_append, List.nil_append, Act.eval, Array.getD_eq_getD_getElem?, List.getElem?_toArray, List.getElem?_cons_succ, List.getElem?_cons_zero, Option.getD_some, Value.cells] at hw); (try simp (disch := first | (simp; done) | (simp; omega)) only [Sep.mid_set, Sep.mid_set2, Sep.mid_set0, Sep.mid_splice, Sep.mid_splice0, List.set_cons_zero, List.set_cons_succ] at hw); (try simp only [Sep.splice, List.take_succ_cons, List.take_zero, List.drop_succ_cons, List.drop_zero, List.length_cons, List.length_nil, Nat.reduceAdd, List.cons_append, List.nil_append] at hw); (try replace hc0 := Sep.Holds.cells hw (i := 0) rfl); (try replace hc1 := Sep.Holds.cells hw (i := 1) rfl); (try replace hc2 := Sep.Holds.cells hw (i := 2) rfl); (try replace hc3 := Sep.Holds.cells hw (i := 3) rfl); (try replace hc4 := Sep.Holds.cells hw (i := 4) rfl); (try replace hc5 := Sep.Holds.cells hw (i := 5) rfl); (try replace hc6 := Sep.Holds.cells hw (i := 6) rfl)))
      go_roundw
      case rel =>
        refine ⟨k + 1, by omega, by go_num, ?_⟩
        rw [← Hor.out]
        exact hw
      case measure => simp [intOf]; omega
    · have hke : k = 8 := by omega
      subst hke
      (try replace hc0 := Sep.Holds.cells hw (i := 0) rfl); (try replace hc1 := Sep.Holds.cells hw (i := 1) rfl); (try replace hc2 := Sep.Holds.cells hw (i := 2) rfl); (try replace hc3 := Sep.Holds.cells hw (i := 3) rfl); (try replace hc4 := Sep.Holds.cells hw (i := 4) rfl); (try replace hc5 := Sep.Holds.cells hw (i := 5) rfl); (try replace hc6 := Sep.Holds.cells hw (i := 6) rfl)
      go_wp2_with (first | (refine wpList_on rfl (wp_storeAll (vs := [.int .i64 (l[0]?.getD 0), .int .i64 (l[1]?.getD 0), .int .i64 (l[2]?.getD 0), .int .i64 (numP ((l.drop 3).take 8))]) rfl rfl (by rfl) hw (i := 1) rfl rfl rfl (by simp [Value.oneCell']) ?_); intro w_ hw_; clear hw; have hw := hw_; clear hw_; (try simp only [List.map_cons, List.map_nil, List.getD_cons_zero, List.getD_cons_succ, List.getD_nil, List.set_cons_zero, List.set_cons_succ, List.cons_append, List.nil_append, Act.eval, Array.getD_eq_getD_getElem?, List.getElem?_toArray, List.getElem?_cons_succ, List.getElem?_cons_zero, Option.getD_some, Value.cells] at hw); (try simp (disch := first | (simp; done) | (simp; omega)) only [Sep.mid_set, Sep.mid_set2, Sep.mid_set0, Sep.mid_splice, Sep.mid_splice0, List.set_cons_zero, List.set_cons_succ] at hw); (try simp only [Sep.splice, List.take_succ_cons, List.take_zero, List.drop_succ_cons, List.drop_zero, List.length_cons, List.length_nil, Nat.reduceAdd, List.cons_append, List.nil_append] at hw); (try replace hc0 := Sep.Holds.cells hw (i := 0) rfl); (try replace hc1 := Sep.Holds.cells hw (i := 1) rfl); (try replace hc2 := Sep.Holds.cells hw (i := 2) rfl); (try replace hc3 := Sep.Holds.cells hw (i := 3) rfl); (try replace hc4 := Sep.Holds.cells hw (i := 4) rfl); (try replace hc5 := Sep.Holds.cells hw (i := 5) rfl); (try replace hc6 := Sep.Holds.cells hw (i := 6) rfl)))
      refine bodyPost_ret (v := .agg (encA (insP l)).toArray) (res_cell (ty := 23) rfl rfl hw (i := 1) rfl rfl) rfl ?_
      exact HP.out _ _ ⟨rfl, hw.sel [0] (by decide)⟩
end Go.Proofs.YtmokklkckecmdaaDoor
