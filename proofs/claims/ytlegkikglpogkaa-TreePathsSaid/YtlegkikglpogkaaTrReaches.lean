/-
  TreeReaches: the walk.
-/
import Derived.Test.YtlegkikglpogkaaTreeIn
import Derived.Deep.CutBlock
import Derived.Deep.DeepCutAuto
namespace Go.Proofs.Ytlegkikglpogkaa
set_option linter.unusedSimpArgs false
set_option linter.unusedVariables false
open Go.RowKit Go.Sep Go.TreeM

theorem isInts_at' {l : List Int} {n : Nat} {v : Value} (h : l.length = n) : IsInts v l = Sl 3 1 v n (encI l) := by unfold IsInts; rw [h]
theorem mod_there {T : Tree} {n : Int} (h0 : 0 ≤ n) (hl : 0 < T.l.length) : there T.l (n.tmod (T.l.length : Int)) = true := by
  refine there_iff.2 ⟨Int.tmod_nonneg _ h0, ?_⟩
  exact Int.tmod_lt_of_pos _ (by omega)
set_option maxRecDepth 20000 in
set_option maxHeartbeats 40000000 in
theorem tree_reaches_walk (e : World) (a0 : Option Addr) (cap0 : Nat) (l0 : List Deed) (hl0 : Hid (ActsAt e a0 l0)) (hlen0 : l0.length ≤ 9223372036854775807) (n1 : Int) (hn1 : Hid (0 ≤ n1 ∧ n1 ≤ 255)) (n2 : Int) (hn2 : Hid (0 ≤ n2 ∧ n2 ≤ 255)) :
    Calls Try.prog 4 #[.slice a0 l0.length cap0, .int .u8 n1, .int .u8 n2] e fun en w' => en = .returned (.bool true) ∧ Holds e w' [Old e] := by
  have hw := Holds.start e
  by_cases hlong : (40 : Int) < l0.length
  · refine Sep.calls_post ?_
    intro Post_ hPost_
    have HP := Sep.hid hPost_
    clear hPost_
    go_enter Try.func4, Try.ntmps4
    go_wp2_with fail
    refine (awake_calls e _ _ hw.focus0).mono ?_
    rintro en_ w_ ⟨rfl, hw_⟩
    clear hw; (try clear hc0); (try clear hc1); (try clear hc2); (try clear hc3); (try clear hc4); (try clear hc5); (try clear hc6); have hw := Holds.unfocus0 hw_; clear hw_
    (try simp only [List.map_cons, List.map_nil, List.getD_cons_zero, List.getD_cons_succ, List.getD_nil, List.set_cons_zero, List.set_cons_succ, List.cons_append, List.nil_append, Act.eval, Array.getD_eq_getD_getElem?, List.getElem?_toArray, List.getElem?_cons_succ, List.getElem?_cons_zero, Option.getD_some, Value.cells] at hw); (try simp (disch := first | (simp; done) | (simp; omega)) only [Sep.mid_set, Sep.mid_set2, Sep.mid_set0, Sep.mid_splice, Sep.mid_splice0, List.set_cons_zero, List.set_cons_succ] at hw); (try simp only [Sep.splice, List.take_succ_cons, List.take_zero, List.drop_succ_cons, List.drop_zero, List.length_cons, List.length_nil, Nat.reduceAdd, List.cons_append, List.nil_append] at hw)
    go_wp2_with fail
    exact HP.out _ _ ⟨rfl, hw.sel [0] (by decide)⟩
  generalize hlen' : l0.length = len at *
  have Hlen := Sep.hid hlen'; clear hlen'
  have hlong2 : len ≤ 40 := by omega
  refine Sep.calls_post ?_
  intro Post_ hPost_
  have HP := Sep.hid hPost_
  clear hPost_
  go_enter Try.func4, Try.ntmps4
  go_wp2_with fail
  refine (awake_calls e _ _ hw.focus0).mono ?_
  rintro en_ w_ ⟨rfl, hw_⟩
  clear hw; (try clear hc0); (try clear hc1); (try clear hc2); (try clear hc3); (try clear hc4); (try clear hc5); (try clear hc6); have hw := Holds.unfocus0 hw_; clear hw_
  (try simp only [List.map_cons, List.map_nil, List.getD_cons_zero, List.getD_cons_succ, List.getD_nil, List.set_cons_zero, List.set_cons_succ, List.cons_append, List.nil_append, Act.eval, Array.getD_eq_getD_getElem?, List.getElem?_toArray, List.getElem?_cons_succ, List.getElem?_cons_zero, Option.getD_some, Value.cells] at hw); (try simp (disch := first | (simp; done) | (simp; omega)) only [Sep.mid_set, Sep.mid_set2, Sep.mid_set0, Sep.mid_splice, Sep.mid_splice0, List.set_cons_zero, List.set_cons_succ] at hw); (try simp only [Sep.splice, List.take_succ_cons, List.take_zero, List.drop_succ_cons, List.drop_zero, List.length_cons, List.length_nil, Nat.reduceAdd, List.cons_append, List.nil_append] at hw)
  go_wp2_with fail
  refine (tNew_ok 40 (by decide) (by decide) e _ _ hw.focus0).mono ?_
  rintro en_ w_ ⟨p, rfl, hw_⟩
  clear hw; have hw := Holds.unfocus0 hw_; clear hw_
  (try simp only [List.map_cons, List.map_nil, List.getD_cons_zero, List.getD_cons_succ, List.getD_nil, List.set_cons_zero, List.set_cons_succ, List.cons_append, List.nil_append, Act.eval, Array.getD_eq_getD_getElem?, List.getElem?_toArray, List.getElem?_cons_succ, List.getElem?_cons_zero, Option.getD_some, Value.cells] at hw); (try simp (disch := first | (simp; done) | (simp; omega)) only [Sep.mid_set, Sep.mid_set2, Sep.mid_set0, Sep.mid_splice, Sep.mid_splice0, List.set_cons_zero, List.set_cons_succ] at hw); (try simp only [Sep.splice, List.take_succ_cons, List.take_zero, List.drop_succ_cons, List.drop_zero, List.length_cons, List.length_nil, Nat.reduceAdd, List.cons_append, List.nil_append] at hw)
  go_wp2_with fail
  have Hw0 := Sep.hid hw; clear hw
  (try clear hc0); (try clear hc1); (try clear hc2); (try clear hc3); (try clear hc4); (try clear hc5); (try clear hc6)
  go_loopw [30] (fun i wr => ∃ (q : Nat) (T : Tree), q ≤ len ∧ i = .int .i64 q ∧ Hid T.Ok ∧ Holds e wr [Old e, IsTree p T]) (fun i _ => len - (intOf i).toNat)
  case atStart => exact ⟨0, ⟨[], 40⟩, Nat.zero_le _, rfl, Sep.hid (Tree.Ok.new (by omega)), Hw0.out⟩
  case round =>
    clear Hw0
    obtain ⟨q, T, hq, rfl, HT, hw⟩ := hrel
    by_cases hlt : q < len
    · obtain ⟨d, hd⟩ : ∃ d, l0[q]? = some d := ⟨_, List.getElem?_eq_getElem (by rw [Hlen.out]; exact hlt)⟩
      obtain ⟨hdok, ad, rfl, hcell⟩ := hl0.out q d hd
      have Hcell := Sep.hid hcell; clear hcell hd hdok
      go_wp2_with (first | ((with_reducible refine wpList_act (x := ?hx0x7) (y := ?hy0x7) (x1 := ?hx1x7) (x3 := ?hx3x7) (y3 := ?hy3x7) (cap := ?hcpx7) (vs := encA d) (q := q) (ad := ad) ti32 agg32 sl22 ?a1x7 ?a2x7 hlt hw (i := 0) ?a3x7 ?a4x7 ?a5x7 (encA_one d) Hcell.out ?b0x7 ?c0x7 ?b1x7 ?c1x7 ?d1x7 ?b2x7 ?c2x7 ?b3x7 ?c3x7 ?d3x7 ?f3x7 ?ggx7); (case b0x7 => rfl); (case b1x7 => rfl); (case b2x7 => rfl); (case b3x7 => rfl); (case a1x7 => rfl); (case a2x7 => rfl); (case a3x7 => rfl); (case a4x7 => rfl); (case a5x7 => rfl); (case c0x7 => rfl); (case c1x7 => rfl); (case d1x7 => rfl); (case c2x7 => rfl); (case c3x7 => (intro b; rfl)); (case d3x7 => (intro b; rfl)); (case f3x7 => (intro b; rfl)); intro bd w_ hw_; clear hw; have hw := hw_; clear hw_; (try simp only [List.map_cons, List.map_nil, List.getD_cons_zero, List.getD_cons_succ, List.getD_nil, List.set_cons_zero, List.set_cons_succ, List.cons_append, List.nil_append, Act.eval, Array.getD_eq_getD_getElem?, List.getElem?_toArray, List.getElem?_cons_succ, List.getElem?_cons_zero, Option.getD_some, Value.cells] at hw); (try simp (disch := first | (simp; done) | (simp; omega)) only [Sep.mid_set, Sep.mid_set2, Sep.mid_set0, Sep.mid_splice, Sep.mid_splice0, List.set_cons_zero, List.set_cons_succ] at hw); (try simp only [Sep.splice, List.take_succ_cons, List.take_zero, List.drop_succ_cons, List.drop_zero, List.length_cons, List.length_nil, Nat.reduceAdd, List.cons_append, List.nil_append] at hw); (try replace hc0 := Sep.Holds.cells hw (i := 0) rfl); (try replace hc1 := Sep.Holds.cells hw (i := 1) rfl); (try replace hc2 := Sep.Holds.cells hw (i := 2) rfl); (try replace hc3 := Sep.Holds.cells hw (i := 3) rfl); (try replace hc4 := Sep.Holds.cells hw (i := 4) rfl); (try replace hc5 := Sep.Holds.cells hw (i := 5) rfl); (try replace hc6 := Sep.Holds.cells hw (i := 6) rfl)) | (refine wpList_on rfl (wp_loadN (vs := encA d) rfl rfl hw (i := 2) rfl rfl (by intro j v hj; simpa using hj) ?_)))
      refine (do_calls p T HT.out d e _ _ (hw.focus1 1 rfl)).mono ?_
      rintro en_ w_ ⟨rfl, hw_⟩
      clear hw; (try clear hc0); (try clear hc1); (try clear hc2); (try clear hc3); (try clear hc4); (try clear hc5); (try clear hc6); have hw := Holds.unfocus1 1 (by simp) hw_; clear hw_
      (try simp only [List.map_cons, List.map_nil, List.getD_cons_zero, List.getD_cons_succ, List.getD_nil, List.set_cons_zero, List.set_cons_succ, List.cons_append, List.nil_append, Act.eval, Array.getD_eq_getD_getElem?, List.getElem?_toArray, List.getElem?_cons_succ, List.getElem?_cons_zero, Option.getD_some, Value.cells] at hw); (try simp (disch := first | (simp; done) | (simp; omega)) only [Sep.mid_set, Sep.mid_set2, Sep.mid_set0, Sep.mid_splice, Sep.mid_splice0, List.set_cons_zero, List.set_cons_succ] at hw); (try simp only [Sep.splice, List.take_succ_cons, List.take_zero, List.drop_succ_cons, List.drop_zero, List.length_cons, List.length_nil, Nat.reduceAdd, List.cons_append, List.nil_append] at hw)
      go_wp2_with fail
      go_roundw
      case rel => exact ⟨q + 1, _, by omega, by go_num, Sep.hid (actT_ok HT.out d), hw.sel [0, 1] (by decide)⟩
      case measure => simp [intOf]; omega
    · by_cases h0 : T.l.length = 0
      · have h00 : ((T.l.length : Nat) : Int) = 0 := by omega
        have H00 := Sep.hid h00
        clear h0 h00
        go_wp2_with fail
        refine (tLen' p T e _ _ (hw.focus1 1 rfl)).mono ?_
        rintro _ w_ ⟨rfl, rfl⟩
        rw [H00.out]
        go_wp2_with fail
        refine (tLen' p T e _ _ (hw.focus1 1 rfl)).mono ?_
        rintro _ w_ ⟨rfl, rfl⟩
        rw [H00.out]
        go_wp2_with fail
        exact HP.out _ _ ⟨rfl, hw.sel [0] (by decide)⟩
      · obtain ⟨m, hm⟩ : ∃ m, T.l.length = m := ⟨_, rfl⟩
        have Hm := Sep.hid hm
        have hm1 : 1 ≤ m := by omega
        have hm2 : m ≤ 200 := by have := HT.out.2; rw [hm] at this; omega
        have hm3 : ¬ m = 0 := by omega
        have hwn1 : IntKind.i64.wrap n1 = n1 := IntWalk.i64_in _ (by have := hn1.out; omega)
        have hwn2 : IntKind.i64.wrap n2 = n2 := IntWalk.i64_in _ (by have := hn2.out; omega)
        have HA : Hid (there T.l (n1.tmod (m : Int)) = true) := Sep.hid (by rw [← hm]; exact mod_there hn1.out.1 (by omega))
        have HB : Hid (there T.l (n2.tmod (m : Int)) = true) := Sep.hid (by rw [← hm]; exact mod_there hn2.out.1 (by omega))
        clear h0 hm
        go_wp2_with fail
        refine (tLen' p T e _ _ (hw.focus1 1 rfl)).mono ?_
        rintro _ w_ ⟨rfl, rfl⟩
        rw [Hm.out]
        go_wp2_with fail
        refine wp_region_L [3, 8] [] (n := 12) (listed := (marks 12 0)) (by kernel_rfl) rfl (by kernel_rfl) (by intro c hc; cases hc) ?_
        replace hw := hw.drew
        (try replace hc0 := Sep.Holds.cells hw (i := 0) rfl); (try replace hc1 := Sep.Holds.cells hw (i := 1) rfl); (try replace hc2 := Sep.Holds.cells hw (i := 2) rfl); (try replace hc3 := Sep.Holds.cells hw (i := 3) rfl); (try replace hc4 := Sep.Holds.cells hw (i := 4) rfl); (try replace hc5 := Sep.Holds.cells hw (i := 5) rfl); (try replace hc6 := Sep.Holds.cells hw (i := 6) rfl)
        refine wpL_q 0 ?_ rfl (Or.inl ⟨by rfl, fun w_ hS_ => ?_⟩) (marks 12 1) ?_
        rotate_left
        next => (go_simp; try (first | rfl | exact (Bool.not_not _).symm))
        try simp only [Act.put, List.setIfInBounds_toArray, List.set_cons_zero, List.set_cons_succ]
        refine wpL_q 1 ?_ rfl (Or.inl ⟨by rfl, fun w_ hS_ => ?_⟩) (marks 12 3) ?_
        rotate_left
        next => (go_simp; try (first | rfl | exact (Bool.not_not _).symm))
        try simp only [Act.put, List.setIfInBounds_toArray, List.set_cons_zero, List.set_cons_succ]
        refine wpL_q 2 ?_ rfl (Or.inl ⟨by rfl, fun w_ hS_ => ?_⟩) (marks 12 7) ?_
        rotate_left
        next => (go_simp; try (first | rfl | exact (Bool.not_not _).symm))
        try simp only [Act.put, List.setIfInBounds_toArray, List.set_cons_zero, List.set_cons_succ]
        refine wpL_q 5 ?_ rfl (Or.inl ⟨by rfl, fun w_ hS_ => ?_⟩) (marks 12 39) ?_
        rotate_left
        next => (go_simp; try (first | rfl | exact (Bool.not_not _).symm))
        try simp only [Act.put, List.setIfInBounds_toArray, List.set_cons_zero, List.set_cons_succ]
        refine wpL_q 6 ?_ rfl (Or.inl ⟨by rfl, fun w_ hS_ => ?_⟩) (marks 12 103) ?_
        rotate_left
        next => (go_simp; try (first | rfl | exact (Bool.not_not _).symm))
        try simp only [Act.put, List.setIfInBounds_toArray, List.set_cons_zero, List.set_cons_succ]
        refine wpL_q 7 ?_ rfl (Or.inl ⟨by rfl, fun w_ hS_ => ?_⟩) (marks 12 231) ?_
        rotate_left
        next => (go_simp; try (first | rfl | exact (Bool.not_not _).symm))
        try simp only [Act.put, List.setIfInBounds_toArray, List.set_cons_zero, List.set_cons_succ]
        refine wpL_o 3 rfl (by rfl) (marks 12 239) ?_
        (go_simp; go_at_call 12; refine (tLen' p T e _ _ (hw.focus1 1 rfl)).mono ?_; rintro _ w_ ⟨rfl, rfl⟩; rw [Hm.out])
        refine ⟨SL.nil, ?_⟩
        try simp only [Act.put, List.setIfInBounds_toArray, List.set_cons_zero, List.set_cons_succ]
        refine wpL_q 4 ?_ rfl (Or.inl ⟨by rfl, fun w_ hS_ => ?_⟩) (marks 12 255) ?_
        rotate_left
        next => (go_simp; try (first | rfl | exact (Bool.not_not _).symm))
        try simp only [Act.put, List.setIfInBounds_toArray, List.set_cons_zero, List.set_cons_succ]
        refine wpL_o 8 rfl (by rfl) (marks 12 511) ?_
        (go_simp; go_at_call 12; refine (tLen' p T e _ _ (hw.focus1 1 rfl)).mono ?_; rintro _ w_ ⟨rfl, rfl⟩; rw [Hm.out])
        refine ⟨SL.nil, ?_⟩
        try simp only [Act.put, List.setIfInBounds_toArray, List.set_cons_zero, List.set_cons_succ]
        refine wpL_q 9 ?_ rfl (Or.inl ⟨by rfl, fun w_ hS_ => ?_⟩) (marks 12 1023) ?_
        rotate_left
        next => (go_simp; try (first | rfl | exact (Bool.not_not _).symm))
        try simp only [Act.put, List.setIfInBounds_toArray, List.set_cons_zero, List.set_cons_succ]
        refine wpL_q 10 ?_ rfl (Or.inl ⟨by rfl, fun w_ hS_ => ?_⟩) (marks 12 2047) ?_
        rotate_left
        next => (go_simp; try (first | rfl | exact (Bool.not_not _).symm))
        try simp only [Act.put, List.setIfInBounds_toArray, List.set_cons_zero, List.set_cons_succ]
        refine wpL_q 11 ?_ rfl (Or.inl ⟨by rfl, fun w_ hS_ => ?_⟩) (marks 12 4095) ?_
        rotate_left
        next => (go_simp; try (first | rfl | exact (Bool.not_not _).symm))
        try simp only [Act.put, List.setIfInBounds_toArray, List.set_cons_zero, List.set_cons_succ]
        refine wpL_done (by kernel_rfl) ?_ _
        skip
        clear hwn1 hwn2 hm3
        obtain ⟨A, hA⟩ : ∃ A, n1.tmod (m : Int) = A := ⟨_, rfl⟩
        obtain ⟨B, hB⟩ : ∃ B, n2.tmod (m : Int) = B := ⟨_, rfl⟩
        rw [hA] at HA ⊢
        rw [hB] at HB ⊢
        clear hA hB
        have HL := Sep.hid (reaches_law HT.out.1 HA.out HB.out)
        have Hr1 : Hid ((reach T.l A).length ≤ 1000000) := Sep.hid (by have := reach_len HT.out.1 HA.out; rw [Hm.out] at this; omega)
        have Hr2 : Hid ((reach T.l B).length ≤ 1000000) := Sep.hid (by have := reach_len HT.out.1 HB.out; rw [Hm.out] at this; omega)
        have Hc1 : Hid ((chain T.l B).length ≤ 1000000) := Sep.hid (by have := chain_len HT.out.1 B; rw [Hm.out] at this; omega)
        have Hcc : Hid (((reach T.l A).count B = 1 ∧ (chain T.l B).count A = 1) ∨ ((reach T.l A).count B = 0 ∧ (chain T.l B).count A = 0)) := Sep.hid (by
          obtain ⟨g1, g2, g3, _, _⟩ := HL.out
          by_cases h : (reach T.l A).count B = 1
          · exact .inl ⟨h, g2.1 h⟩
          · refine .inr ⟨by omega, ?_⟩
            by_cases h2 : (chain T.l B).count A = 1
            · exact absurd (g2.2 h2) h
            · omega)
        obtain ⟨rt, hrt⟩ := HL.out.2.2.2.1
        have Hrt := Sep.hid hrt
        obtain ⟨rn, hrn⟩ : ∃ rn, (reach T.l A).length = rn := ⟨_, rfl⟩
        have Hrn := Sep.hid hrn
        have hrn1 : ((rn : Int) == 0) = false := by rw [← hrn, hrt]; simp; omega
        have hrn2 : (0 : Int) < rn := by rw [← hrn, hrt]; simp
        clear hrt hrn
        go_wp2_with fail
        refine (tReach p T HT.out A e _ _ (hw.focus1 1 rfl)).mono ?_
        rintro _ w_ ⟨v1, rfl, hw_⟩
        clear hw; (try clear hc0); (try clear hc1); (try clear hc2); (try clear hc3); (try clear hc4); (try clear hc5); (try clear hc6); have hw := Holds.unfocus1 1 (by simp) hw_; clear hw_
        (try simp only [List.map_cons, List.map_nil, List.getD_cons_zero, List.getD_cons_succ, List.getD_nil, List.set_cons_zero, List.set_cons_succ, List.cons_append, List.nil_append, Act.eval, Array.getD_eq_getD_getElem?, List.getElem?_toArray, List.getElem?_cons_succ, List.getElem?_cons_zero, Option.getD_some, Value.cells] at hw); (try simp (disch := first | (simp; done) | (simp; omega)) only [Sep.mid_set, Sep.mid_set2, Sep.mid_set0, Sep.mid_splice, Sep.mid_splice0, List.set_cons_zero, List.set_cons_succ] at hw); (try simp only [Sep.splice, List.take_succ_cons, List.take_zero, List.drop_succ_cons, List.drop_zero, List.length_cons, List.length_nil, Nat.reduceAdd, List.cons_append, List.nil_append] at hw)
        obtain ⟨va, vc, hv1⟩ := Sl.value (i := 2) rfl hw
        rw [Hrn.out] at hv1
        subst hv1
        go_wp2_with fail
        refine (in_calls _ (reach T.l A) B Hr1.out e _ _ (hw.focus1 2 rfl)).mono ?_
        rintro _ w_ ⟨rfl, hw_⟩
        clear hw; (try clear hc0); (try clear hc1); (try clear hc2); (try clear hc3); (try clear hc4); (try clear hc5); (try clear hc6); have hw := Holds.unfocus1 2 (by simp) hw_; clear hw_
        (try simp only [List.map_cons, List.map_nil, List.getD_cons_zero, List.getD_cons_succ, List.getD_nil, List.set_cons_zero, List.set_cons_succ, List.cons_append, List.nil_append, Act.eval, Array.getD_eq_getD_getElem?, List.getElem?_toArray, List.getElem?_cons_succ, List.getElem?_cons_zero, Option.getD_some, Value.cells] at hw); (try simp (disch := first | (simp; done) | (simp; omega)) only [Sep.mid_set, Sep.mid_set2, Sep.mid_set0, Sep.mid_splice, Sep.mid_splice0, List.set_cons_zero, List.set_cons_succ] at hw); (try simp only [Sep.splice, List.take_succ_cons, List.take_zero, List.drop_succ_cons, List.drop_zero, List.length_cons, List.length_nil, Nat.reduceAdd, List.cons_append, List.nil_append] at hw)
        rcases Hcc.out with ⟨h1, h2⟩ | ⟨h1, h2⟩
        · rw [h1]
          have H1 := Sep.hid h1; have H2 := Sep.hid h2
          clear h1 h2
          have HLn : Hid (∀ n ∈ reach T.l B, (reach T.l A).count n = 1) := Sep.hid (HL.out.2.2.2.2 H1.out)
          go_wp2_with fail
          refine (tChain p T HT.out B e _ _ (hw.focus1 1 rfl)).mono ?_
          rintro _ w_ ⟨v2, rfl, hw_⟩
          clear hw; (try clear hc0); (try clear hc1); (try clear hc2); (try clear hc3); (try clear hc4); (try clear hc5); (try clear hc6); have hw := Holds.unfocus1 1 (by simp) hw_; clear hw_
          (try simp only [List.map_cons, List.map_nil, List.getD_cons_zero, List.getD_cons_succ, List.getD_nil, List.set_cons_zero, List.set_cons_succ, List.cons_append, List.nil_append, Act.eval, Array.getD_eq_getD_getElem?, List.getElem?_toArray, List.getElem?_cons_succ, List.getElem?_cons_zero, Option.getD_some, Value.cells] at hw); (try simp (disch := first | (simp; done) | (simp; omega)) only [Sep.mid_set, Sep.mid_set2, Sep.mid_set0, Sep.mid_splice, Sep.mid_splice0, List.set_cons_zero, List.set_cons_succ] at hw); (try simp only [Sep.splice, List.take_succ_cons, List.take_zero, List.drop_succ_cons, List.drop_zero, List.length_cons, List.length_nil, Nat.reduceAdd, List.cons_append, List.nil_append] at hw)
          go_wp2_with fail
          refine (in_calls _ (chain T.l B) A Hc1.out e _ _ (hw.focus1 3 rfl)).mono ?_
          rintro _ w_ ⟨rfl, hw_⟩
          clear hw; (try clear hc0); (try clear hc1); (try clear hc2); (try clear hc3); (try clear hc4); (try clear hc5); (try clear hc6); have hw := Holds.unfocus1 3 (by simp) hw_; clear hw_
          (try simp only [List.map_cons, List.map_nil, List.getD_cons_zero, List.getD_cons_succ, List.getD_nil, List.set_cons_zero, List.set_cons_succ, List.cons_append, List.nil_append, Act.eval, Array.getD_eq_getD_getElem?, List.getElem?_toArray, List.getElem?_cons_succ, List.getElem?_cons_zero, Option.getD_some, Value.cells] at hw); (try simp (disch := first | (simp; done) | (simp; omega)) only [Sep.mid_set, Sep.mid_set2, Sep.mid_set0, Sep.mid_splice, Sep.mid_splice0, List.set_cons_zero, List.set_cons_succ] at hw); (try simp only [Sep.splice, List.take_succ_cons, List.take_zero, List.drop_succ_cons, List.drop_zero, List.length_cons, List.length_nil, Nat.reduceAdd, List.cons_append, List.nil_append] at hw)
          rw [H2.out]
          replace hw := hw.sel [0, 1, 2] (by decide)
          (try simp only [List.map_cons, List.map_nil, List.getD_cons_zero, List.getD_cons_succ, List.getD_nil, List.set_cons_zero, List.set_cons_succ, List.cons_append, List.nil_append, Act.eval, Array.getD_eq_getD_getElem?, List.getElem?_toArray, List.getElem?_cons_succ, List.getElem?_cons_zero, Option.getD_some, Value.cells] at hw); (try simp (disch := first | (simp; done) | (simp; omega)) only [Sep.mid_set, Sep.mid_set2, Sep.mid_set0, Sep.mid_splice, Sep.mid_splice0, List.set_cons_zero, List.set_cons_succ] at hw); (try simp only [Sep.splice, List.take_succ_cons, List.take_zero, List.drop_succ_cons, List.drop_zero, List.length_cons, List.length_nil, Nat.reduceAdd, List.cons_append, List.nil_append] at hw)
          go_wp2_with fail
          refine (tChain p T HT.out B e _ _ (hw.focus1 1 rfl)).mono ?_
          rintro _ w_ ⟨v3, rfl, hw_⟩
          clear hw; (try clear hc0); (try clear hc1); (try clear hc2); (try clear hc3); (try clear hc4); (try clear hc5); (try clear hc6); have hw := Holds.unfocus1 1 (by simp) hw_; clear hw_
          (try simp only [List.map_cons, List.map_nil, List.getD_cons_zero, List.getD_cons_succ, List.getD_nil, List.set_cons_zero, List.set_cons_succ, List.cons_append, List.nil_append, Act.eval, Array.getD_eq_getD_getElem?, List.getElem?_toArray, List.getElem?_cons_succ, List.getElem?_cons_zero, Option.getD_some, Value.cells] at hw); (try simp (disch := first | (simp; done) | (simp; omega)) only [Sep.mid_set, Sep.mid_set2, Sep.mid_set0, Sep.mid_splice, Sep.mid_splice0, List.set_cons_zero, List.set_cons_succ] at hw); (try simp only [Sep.splice, List.take_succ_cons, List.take_zero, List.drop_succ_cons, List.drop_zero, List.length_cons, List.length_nil, Nat.reduceAdd, List.cons_append, List.nil_append] at hw)
          go_wp2_with fail
          refine (in_calls _ (chain T.l B) A Hc1.out e _ _ (hw.focus1 3 rfl)).mono ?_
          rintro _ w_ ⟨rfl, hw_⟩
          clear hw; (try clear hc0); (try clear hc1); (try clear hc2); (try clear hc3); (try clear hc4); (try clear hc5); (try clear hc6); have hw := Holds.unfocus1 3 (by simp) hw_; clear hw_
          (try simp only [List.map_cons, List.map_nil, List.getD_cons_zero, List.getD_cons_succ, List.getD_nil, List.set_cons_zero, List.set_cons_succ, List.cons_append, List.nil_append, Act.eval, Array.getD_eq_getD_getElem?, List.getElem?_toArray, List.getElem?_cons_succ, List.getElem?_cons_zero, Option.getD_some, Value.cells] at hw); (try simp (disch := first | (simp; done) | (simp; omega)) only [Sep.mid_set, Sep.mid_set2, Sep.mid_set0, Sep.mid_splice, Sep.mid_splice0, List.set_cons_zero, List.set_cons_succ] at hw); (try simp only [Sep.splice, List.take_succ_cons, List.take_zero, List.drop_succ_cons, List.drop_zero, List.length_cons, List.length_nil, Nat.reduceAdd, List.cons_append, List.nil_append] at hw)
          rw [H2.out]
          replace hw := hw.sel [0, 1, 2] (by decide)
          (try simp only [List.map_cons, List.map_nil, List.getD_cons_zero, List.getD_cons_succ, List.getD_nil, List.set_cons_zero, List.set_cons_succ, List.cons_append, List.nil_append, Act.eval, Array.getD_eq_getD_getElem?, List.getElem?_toArray, List.getElem?_cons_succ, List.getElem?_cons_zero, Option.getD_some, Value.cells] at hw); (try simp (disch := first | (simp; done) | (simp; omega)) only [Sep.mid_set, Sep.mid_set2, Sep.mid_set0, Sep.mid_splice, Sep.mid_splice0, List.set_cons_zero, List.set_cons_succ] at hw); (try simp only [Sep.splice, List.take_succ_cons, List.take_zero, List.drop_succ_cons, List.drop_zero, List.length_cons, List.length_nil, Nat.reduceAdd, List.cons_append, List.nil_append] at hw)
          rw [isInts_at' Hrn.out] at hw
          obtain ⟨vb, voff, rfl, g0⟩ := num_at (k := 0) (x := A) (i := 2) hw rfl (by rw [Hrt.out]; rfl)
          simp only [Nat.add_zero] at g0
          (try replace hc0 := Sep.Holds.cells hw (i := 0) rfl); (try replace hc1 := Sep.Holds.cells hw (i := 1) rfl); (try replace hc2 := Sep.Holds.cells hw (i := 2) rfl); (try replace hc3 := Sep.Holds.cells hw (i := 3) rfl); (try replace hc4 := Sep.Holds.cells hw (i := 4) rfl); (try replace hc5 := Sep.Holds.cells hw (i := 5) rfl); (try replace hc6 := Sep.Holds.cells hw (i := 6) rfl)
          go_wp2_with fail
          refine (tReach p T HT.out B e _ _ (hw.focus1 1 rfl)).mono ?_
          rintro _ w_ ⟨v4, rfl, hw_⟩
          clear hw g0; (try clear hc0); (try clear hc1); (try clear hc2); (try clear hc3); (try clear hc4); (try clear hc5); (try clear hc6); have hw := Holds.unfocus1 1 (by simp) hw_; clear hw_
          (try simp only [List.map_cons, List.map_nil, List.getD_cons_zero, List.getD_cons_succ, List.getD_nil, List.set_cons_zero, List.set_cons_succ, List.cons_append, List.nil_append, Act.eval, Array.getD_eq_getD_getElem?, List.getElem?_toArray, List.getElem?_cons_succ, List.getElem?_cons_zero, Option.getD_some, Value.cells] at hw); (try simp (disch := first | (simp; done) | (simp; omega)) only [Sep.mid_set, Sep.mid_set2, Sep.mid_set0, Sep.mid_splice, Sep.mid_splice0, List.set_cons_zero, List.set_cons_succ] at hw); (try simp only [Sep.splice, List.take_succ_cons, List.take_zero, List.drop_succ_cons, List.drop_zero, List.length_cons, List.length_nil, Nat.reduceAdd, List.cons_append, List.nil_append] at hw)
          obtain ⟨wn, hwn⟩ : ∃ wn, (reach T.l B).length = wn := ⟨_, rfl⟩
          have Hwn := Sep.hid hwn
          have hwn2 : wn ≤ 1000000 := by have := Hr2.out; omega
          rw [isInts_at' hwn] at hw
          clear hwn
          obtain ⟨wa, wc, rfl⟩ := Sl.value (i := 3) rfl hw
          go_wp2_with fail
          have Hw0 := Sep.hid hw; clear hw; (try clear hc0); (try clear hc1); (try clear hc2); (try clear hc3); (try clear hc4); (try clear hc5); (try clear hc6)
          go_loopw [97] (fun i wr => ∃ q : Nat, q ≤ wn ∧ i = .int .i64 q ∧ Holds e wr [Old e, IsTree p T, Sl 3 1 (.slice (some ⟨vb, voff, none⟩) rn vc) rn (encI (reach T.l A)), Sl 3 1 (.slice wa wn wc) wn (encI (reach T.l B))]) (fun i _ => wn - (intOf i).toNat)
          case atStart => exact ⟨0, Nat.zero_le _, rfl, Hw0.out⟩
          case round =>
            clear Hw0
            obtain ⟨q, hq, rfl, hw⟩ := hrel
            by_cases hlt : q < wn
            · obtain ⟨x, hx⟩ : ∃ x, (reach T.l B)[q]? = some x := ⟨_, List.getElem?_eq_getElem (by rw [Hwn.out]; exact hlt)⟩
              have Hx1 := Sep.hid (HLn.out x (List.mem_of_getElem? hx))
              obtain ⟨xb, xoff, rfl, g⟩ := num_at (i := 3) hw rfl hx
              clear hx
              go_wp2_with fail
              rw [← isInts_at' (v := .slice (some ⟨vb, voff, none⟩) rn vc) Hrn.out] at hw
              refine (in_calls _ (reach T.l A) x Hr1.out e _ _ (hw.focus1 2 rfl)).mono ?_
              rintro _ w_ ⟨rfl, hw_⟩
              clear hw g; (try clear hc0); (try clear hc1); (try clear hc2); (try clear hc3); (try clear hc4); (try clear hc5); (try clear hc6); have hw := Holds.unfocus1 2 (by simp) hw_; clear hw_
              (try simp only [List.map_cons, List.map_nil, List.getD_cons_zero, List.getD_cons_succ, List.getD_nil, List.set_cons_zero, List.set_cons_succ, List.cons_append, List.nil_append, Act.eval, Array.getD_eq_getD_getElem?, List.getElem?_toArray, List.getElem?_cons_succ, List.getElem?_cons_zero, Option.getD_some, Value.cells] at hw); (try simp (disch := first | (simp; done) | (simp; omega)) only [Sep.mid_set, Sep.mid_set2, Sep.mid_set0, Sep.mid_splice, Sep.mid_splice0, List.set_cons_zero, List.set_cons_succ] at hw); (try simp only [Sep.splice, List.take_succ_cons, List.take_zero, List.drop_succ_cons, List.drop_zero, List.length_cons, List.length_nil, Nat.reduceAdd, List.cons_append, List.nil_append] at hw)
              rw [Hx1.out]
              rw [isInts_at' (v := .slice (some ⟨vb, voff, none⟩) rn vc) Hrn.out] at hw
              go_wp2_with fail
              go_roundw
              case rel => exact ⟨q + 1, by omega, by go_num, hw⟩
              case measure => simp [intOf]; omega
            · go_wp2_with fail
              exact HP.out _ _ ⟨rfl, hw.sel [0] (by decide)⟩
        · rw [h1]
          have H1 := Sep.hid h1; have H2 := Sep.hid h2
          clear h1 h2
          go_wp2_with fail
          refine (tChain p T HT.out B e _ _ (hw.focus1 1 rfl)).mono ?_
          rintro _ w_ ⟨v2, rfl, hw_⟩
          clear hw; (try clear hc0); (try clear hc1); (try clear hc2); (try clear hc3); (try clear hc4); (try clear hc5); (try clear hc6); have hw := Holds.unfocus1 1 (by simp) hw_; clear hw_
          (try simp only [List.map_cons, List.map_nil, List.getD_cons_zero, List.getD_cons_succ, List.getD_nil, List.set_cons_zero, List.set_cons_succ, List.cons_append, List.nil_append, Act.eval, Array.getD_eq_getD_getElem?, List.getElem?_toArray, List.getElem?_cons_succ, List.getElem?_cons_zero, Option.getD_some, Value.cells] at hw); (try simp (disch := first | (simp; done) | (simp; omega)) only [Sep.mid_set, Sep.mid_set2, Sep.mid_set0, Sep.mid_splice, Sep.mid_splice0, List.set_cons_zero, List.set_cons_succ] at hw); (try simp only [Sep.splice, List.take_succ_cons, List.take_zero, List.drop_succ_cons, List.drop_zero, List.length_cons, List.length_nil, Nat.reduceAdd, List.cons_append, List.nil_append] at hw)
          go_wp2_with fail
          refine (in_calls _ (chain T.l B) A Hc1.out e _ _ (hw.focus1 3 rfl)).mono ?_
          rintro _ w_ ⟨rfl, hw_⟩
          clear hw; (try clear hc0); (try clear hc1); (try clear hc2); (try clear hc3); (try clear hc4); (try clear hc5); (try clear hc6); have hw := Holds.unfocus1 3 (by simp) hw_; clear hw_
          (try simp only [List.map_cons, List.map_nil, List.getD_cons_zero, List.getD_cons_succ, List.getD_nil, List.set_cons_zero, List.set_cons_succ, List.cons_append, List.nil_append, Act.eval, Array.getD_eq_getD_getElem?, List.getElem?_toArray, List.getElem?_cons_succ, List.getElem?_cons_zero, Option.getD_some, Value.cells] at hw); (try simp (disch := first | (simp; done) | (simp; omega)) only [Sep.mid_set, Sep.mid_set2, Sep.mid_set0, Sep.mid_splice, Sep.mid_splice0, List.set_cons_zero, List.set_cons_succ] at hw); (try simp only [Sep.splice, List.take_succ_cons, List.take_zero, List.drop_succ_cons, List.drop_zero, List.length_cons, List.length_nil, Nat.reduceAdd, List.cons_append, List.nil_append] at hw)
          rw [H2.out]
          replace hw := hw.sel [0, 1, 2] (by decide)
          (try simp only [List.map_cons, List.map_nil, List.getD_cons_zero, List.getD_cons_succ, List.getD_nil, List.set_cons_zero, List.set_cons_succ, List.cons_append, List.nil_append, Act.eval, Array.getD_eq_getD_getElem?, List.getElem?_toArray, List.getElem?_cons_succ, List.getElem?_cons_zero, Option.getD_some, Value.cells] at hw); (try simp (disch := first | (simp; done) | (simp; omega)) only [Sep.mid_set, Sep.mid_set2, Sep.mid_set0, Sep.mid_splice, Sep.mid_splice0, List.set_cons_zero, List.set_cons_succ] at hw); (try simp only [Sep.splice, List.take_succ_cons, List.take_zero, List.drop_succ_cons, List.drop_zero, List.length_cons, List.length_nil, Nat.reduceAdd, List.cons_append, List.nil_append] at hw)
          go_wp2_with fail
          refine (tChain p T HT.out B e _ _ (hw.focus1 1 rfl)).mono ?_
          rintro _ w_ ⟨v3, rfl, hw_⟩
          clear hw; (try clear hc0); (try clear hc1); (try clear hc2); (try clear hc3); (try clear hc4); (try clear hc5); (try clear hc6); have hw := Holds.unfocus1 1 (by simp) hw_; clear hw_
          (try simp only [List.map_cons, List.map_nil, List.getD_cons_zero, List.getD_cons_succ, List.getD_nil, List.set_cons_zero, List.set_cons_succ, List.cons_append, List.nil_append, Act.eval, Array.getD_eq_getD_getElem?, List.getElem?_toArray, List.getElem?_cons_succ, List.getElem?_cons_zero, Option.getD_some, Value.cells] at hw); (try simp (disch := first | (simp; done) | (simp; omega)) only [Sep.mid_set, Sep.mid_set2, Sep.mid_set0, Sep.mid_splice, Sep.mid_splice0, List.set_cons_zero, List.set_cons_succ] at hw); (try simp only [Sep.splice, List.take_succ_cons, List.take_zero, List.drop_succ_cons, List.drop_zero, List.length_cons, List.length_nil, Nat.reduceAdd, List.cons_append, List.nil_append] at hw)
          go_wp2_with fail
          refine (in_calls _ (chain T.l B) A Hc1.out e _ _ (hw.focus1 3 rfl)).mono ?_
          rintro _ w_ ⟨rfl, hw_⟩
          clear hw; (try clear hc0); (try clear hc1); (try clear hc2); (try clear hc3); (try clear hc4); (try clear hc5); (try clear hc6); have hw := Holds.unfocus1 3 (by simp) hw_; clear hw_
          (try simp only [List.map_cons, List.map_nil, List.getD_cons_zero, List.getD_cons_succ, List.getD_nil, List.set_cons_zero, List.set_cons_succ, List.cons_append, List.nil_append, Act.eval, Array.getD_eq_getD_getElem?, List.getElem?_toArray, List.getElem?_cons_succ, List.getElem?_cons_zero, Option.getD_some, Value.cells] at hw); (try simp (disch := first | (simp; done) | (simp; omega)) only [Sep.mid_set, Sep.mid_set2, Sep.mid_set0, Sep.mid_splice, Sep.mid_splice0, List.set_cons_zero, List.set_cons_succ] at hw); (try simp only [Sep.splice, List.take_succ_cons, List.take_zero, List.drop_succ_cons, List.drop_zero, List.length_cons, List.length_nil, Nat.reduceAdd, List.cons_append, List.nil_append] at hw)
          rw [H2.out]
          replace hw := hw.sel [0, 1, 2] (by decide)
          (try simp only [List.map_cons, List.map_nil, List.getD_cons_zero, List.getD_cons_succ, List.getD_nil, List.set_cons_zero, List.set_cons_succ, List.cons_append, List.nil_append, Act.eval, Array.getD_eq_getD_getElem?, List.getElem?_toArray, List.getElem?_cons_succ, List.getElem?_cons_zero, Option.getD_some, Value.cells] at hw); (try simp (disch := first | (simp; done) | (simp; omega)) only [Sep.mid_set, Sep.mid_set2, Sep.mid_set0, Sep.mid_splice, Sep.mid_splice0, List.set_cons_zero, List.set_cons_succ] at hw); (try simp only [Sep.splice, List.take_succ_cons, List.take_zero, List.drop_succ_cons, List.drop_zero, List.length_cons, List.length_nil, Nat.reduceAdd, List.cons_append, List.nil_append] at hw)
          rw [isInts_at' Hrn.out] at hw
          obtain ⟨vb, voff, rfl, g0⟩ := num_at (k := 0) (x := A) (i := 2) hw rfl (by rw [Hrt.out]; rfl)
          simp only [Nat.add_zero] at g0
          (try replace hc0 := Sep.Holds.cells hw (i := 0) rfl); (try replace hc1 := Sep.Holds.cells hw (i := 1) rfl); (try replace hc2 := Sep.Holds.cells hw (i := 2) rfl); (try replace hc3 := Sep.Holds.cells hw (i := 3) rfl); (try replace hc4 := Sep.Holds.cells hw (i := 4) rfl); (try replace hc5 := Sep.Holds.cells hw (i := 5) rfl); (try replace hc6 := Sep.Holds.cells hw (i := 6) rfl)
          go_wp2_with fail
          refine (tReach p T HT.out B e _ _ (hw.focus1 1 rfl)).mono ?_
          rintro _ w_ ⟨v4, rfl, hw_⟩
          clear hw g0; (try clear hc0); (try clear hc1); (try clear hc2); (try clear hc3); (try clear hc4); (try clear hc5); (try clear hc6); have hw := Holds.unfocus1 1 (by simp) hw_; clear hw_
          (try simp only [List.map_cons, List.map_nil, List.getD_cons_zero, List.getD_cons_succ, List.getD_nil, List.set_cons_zero, List.set_cons_succ, List.cons_append, List.nil_append, Act.eval, Array.getD_eq_getD_getElem?, List.getElem?_toArray, List.getElem?_cons_succ, List.getElem?_cons_zero, Option.getD_some, Value.cells] at hw); (try simp (disch := first | (simp; done) | (simp; omega)) only [Sep.mid_set, Sep.mid_set2, Sep.mid_set0, Sep.mid_splice, Sep.mid_splice0, List.set_cons_zero, List.set_cons_succ] at hw); (try simp only [Sep.splice, List.take_succ_cons, List.take_zero, List.drop_succ_cons, List.drop_zero, List.length_cons, List.length_nil, Nat.reduceAdd, List.cons_append, List.nil_append] at hw)
          obtain ⟨wn, hwn⟩ : ∃ wn, (reach T.l B).length = wn := ⟨_, rfl⟩
          have Hwn := Sep.hid hwn
          have hwn2 : wn ≤ 1000000 := by have := Hr2.out; omega
          rw [isInts_at' hwn] at hw
          clear hwn
          obtain ⟨wa, wc, rfl⟩ := Sl.value (i := 3) rfl hw
          go_wp2_with fail
          have Hw0 := Sep.hid hw; clear hw; (try clear hc0); (try clear hc1); (try clear hc2); (try clear hc3); (try clear hc4); (try clear hc5); (try clear hc6)
          go_loopw [97] (fun i wr => ∃ q : Nat, q ≤ wn ∧ i = .int .i64 q ∧ Holds e wr [Old e, IsTree p T, Sl 3 1 (.slice (some ⟨vb, voff, none⟩) rn vc) rn (encI (reach T.l A)), Sl 3 1 (.slice wa wn wc) wn (encI (reach T.l B))]) (fun i _ => wn - (intOf i).toNat)
          case atStart => exact ⟨0, Nat.zero_le _, rfl, Hw0.out⟩
          case round =>
            clear Hw0
            obtain ⟨q, hq, rfl, hw⟩ := hrel
            by_cases hlt : q < wn
            · obtain ⟨x, hx⟩ : ∃ x, (reach T.l B)[q]? = some x := ⟨_, List.getElem?_eq_getElem (by rw [Hwn.out]; exact hlt)⟩
              obtain ⟨xb, xoff, rfl, g⟩ := num_at (i := 3) hw rfl hx
              clear hx
              go_wp2_with fail
              clear g
              go_roundw
              case rel => exact ⟨q + 1, by omega, by go_num, hw⟩
              case measure => simp [intOf]; omega
            · go_wp2_with fail
              exact HP.out _ _ ⟨rfl, hw.sel [0] (by decide)⟩
end Go.Proofs.Ytlegkikglpogkaa
