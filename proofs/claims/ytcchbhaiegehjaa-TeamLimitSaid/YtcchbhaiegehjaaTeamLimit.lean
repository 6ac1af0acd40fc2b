/-
  TeamLimit: the walk.
-/
import Derived.Test.YtcchbhaiegehjaaTeamL
import Derived.Test.YtcchbhaiegehjaaTeamMisuse
import Derived.Test.YtcchbhaiegehjaaReads
import Derived.Deep.CutBlock
import Derived.Deep.DeepCutAuto
namespace Go.Proofs.Ytcchbhaiegehjaa
set_option linter.unusedSimpArgs false
set_option linter.unusedVariables false
open Go.RowKit Go.Sep Go.RingM

theorem fin_fst (M : TM) (x : Int) (h : M.fst = 0) : (if M.isFirst x then x else M.fst) = x := by
  unfold TM.isFirst
  by_cases hx : x = 0
  · simp [h, hx]
  · simp [h, hx]
theorem fin_fst' (M : TM) (x : Int) (h : ¬ M.fst = 0) : (if M.isFirst x then x else M.fst) = M.fst := by
  unfold TM.isFirst; simp [h]
set_option maxRecDepth 20000 in
set_option maxHeartbeats 40000000 in
theorem team_limit_walk (e : World) (a0 : Option Addr) (cap0 : Nat) (l0 : List Deed) (hl0 : Hid (ActsAt e a0 l0)) (hlen0 : l0.length ≤ 9223372036854775807) :
    Calls Try.prog 4 #[.slice a0 l0.length cap0] e fun en w' => en = .returned (.bool true) ∧ Holds e w' [Old e] := by
  have hw := Holds.start e
  by_cases hlong : (100 : Int) < l0.length
  · refine Sep.calls_post ?_
    intro Post_ hPost_
    have HP := Sep.hid hPost_
    clear hPost_
    go_enter Try.func4, Try.ntmps4
    go_wp2_with fail
    refine (awake_calls e _ _ hw.focus0).mono ?_
    rintro en_ w_ ⟨rfl, hw_⟩
    clear hw; (try clear hc0); (try clear hc1); (try clear hc2); (try clear hc3); (try clear hc4); (try clear hc5); (try clear hc6); have hw := Holds.unfocus0 hw_; clear hw_
    (try simp only [List.map_cons, List.map_nil, List.getD_cons_zero, List.getD_cons_succ, List.getD_nil, List.set_cons_zero, List.set_cons_succ, List.cons_append, List.nil_append, Act.eval, Array.getD_eq_getD_getElem?, List.getElem?_toArray, List.getElem?_cons_succ, List.getElem?_cons_zero, Option.getD_some, Value.cells] at hw); (try simp (disch := first | (simp; done) | (simp; omega)) only [Sep.mid_set, Sep.mid_set2, Sep.mid_set0, Sep.mid_splice, Sep.mid_splice0, List.set_cons_zero, List.set_cons_succ] at hw); (try simp only [Sep.splice, List.take_succ_cons, List.take_zero, List.drop_succ_cons, List.drop_zero, List.length_cons, List.length_nil, Nat.reduceAdd, List.cons_append, List.nil_append] at hw)
    go_wp2_with fail
    exact HP.out _ _ ⟨rfl, hw.sel [0] (by decide)⟩
  generalize hlen' : l0.length = len at *
  have Hlen := Sep.hid hlen'; clear hlen'
  have hlong2 : len ≤ 100 := by omega
  refine Sep.calls_post ?_
  intro Post_ hPost_
  have HP := Sep.hid hPost_
  clear hPost_
  go_enter Try.func4, Try.ntmps4
  go_wp2_with fail
  refine (awake_calls e _ _ hw.focus0).mono ?_
  rintro en_ w_ ⟨rfl, hw_⟩
  clear hw; (try clear hc0); (try clear hc1); (try clear hc2); (try clear hc3); (try clear hc4); (try clear hc5); (try clear hc6); have hw := Holds.unfocus0 hw_; clear hw_
  (try simp only [List.map_cons, List.map_nil, List.getD_cons_zero, List.getD_cons_succ, List.getD_nil, List.set_cons_zero, List.set_cons_succ, List.cons_append, List.nil_append, Act.eval, Array.getD_eq_getD_getElem?, List.getElem?_toArray, List.getElem?_cons_succ, List.getElem?_cons_zero, Option.getD_some, Value.cells] at hw); (try simp (disch := first | (simp; done) | (simp; omega)) only [Sep.mid_set, Sep.mid_set2, Sep.mid_set0, Sep.mid_splice, Sep.mid_splice0, List.set_cons_zero, List.set_cons_succ] at hw); (try simp only [Sep.splice, List.take_succ_cons, List.take_zero, List.drop_succ_cons, List.drop_zero, List.length_cons, List.length_nil, Nat.reduceAdd, List.cons_append, List.nil_append] at hw)
  go_wp2_with fail
  refine (oNew_ok 20 (by decide) (by decide) e _ _ hw.focus0).mono ?_
  rintro en_ w_ ⟨p, rfl, hw_⟩
  clear hw; have hw := Holds.unfocus0 hw_; clear hw_
  (try simp only [List.map_cons, List.map_nil, List.getD_cons_zero, List.getD_cons_succ, List.getD_nil, List.set_cons_zero, List.set_cons_succ, List.cons_append, List.nil_append, Act.eval, Array.getD_eq_getD_getElem?, List.getElem?_toArray, List.getElem?_cons_succ, List.getElem?_cons_zero, Option.getD_some, Value.cells] at hw); (try simp (disch := first | (simp; done) | (simp; omega)) only [Sep.mid_set, Sep.mid_set2, Sep.mid_set0, Sep.mid_splice, Sep.mid_splice0, List.set_cons_zero, List.set_cons_succ] at hw); (try simp only [Sep.splice, List.take_succ_cons, List.take_zero, List.drop_succ_cons, List.drop_zero, List.length_cons, List.length_nil, Nat.reduceAdd, List.cons_append, List.nil_append] at hw)
  go_wp2_with (first | (refine wpList_on rfl (wp_bsl0 rfl hw ?_); intro b_ w_ hw_; replace hw_ := hw_.newSl (i := 2) rfl 1 0 rfl (by decide); clear hw; have hw := hw_; clear hw_; (try simp only [List.map_cons, List.map_nil, List.getD_cons_zero, List.getD_cons_succ, List.getD_nil, List.set_cons_zero, List.set_cons_succ, List.cons_append, List.nil_append, Act.eval, Array.getD_eq_getD_getElem?, List.getElem?_toArray, List.getElem?_cons_succ, List.getElem?_cons_zero, Option.getD_some, Value.cells] at hw); (try simp (disch := first | (simp; done) | (simp; omega)) only [Sep.mid_set, Sep.mid_set2, Sep.mid_set0, Sep.mid_splice, Sep.mid_splice0, List.set_cons_zero, List.set_cons_succ] at hw); (try simp only [Sep.splice, List.take_succ_cons, List.take_zero, List.drop_succ_cons, List.drop_zero, List.length_cons, List.length_nil, Nat.reduceAdd, List.cons_append, List.nil_append] at hw); (try replace hc0 := Sep.Holds.cells hw (i := 0) rfl); (try replace hc1 := Sep.Holds.cells hw (i := 1) rfl); (try replace hc2 := Sep.Holds.cells hw (i := 2) rfl); (try replace hc3 := Sep.Holds.cells hw (i := 3) rfl); (try replace hc4 := Sep.Holds.cells hw (i := 4) rfl); (try replace hc5 := Sep.Holds.cells hw (i := 5) rfl); (try replace hc6 := Sep.Holds.cells hw (i := 6) rfl)) | (refine wpList_on rfl (wp_bsl0 rfl hw ?_); intro b_ w_ hw_; replace hw_ := hw_.newSl (i := 3) rfl 1 0 rfl (by decide); clear hw; have hw := hw_; clear hw_; (try simp only [List.map_cons, List.map_nil, List.getD_cons_zero, List.getD_cons_succ, List.getD_nil, List.set_cons_zero, List.set_cons_succ, List.cons_append, List.nil_append, Act.eval, Array.getD_eq_getD_getElem?, List.getElem?_toArray, List.getElem?_cons_succ, List.getElem?_cons_zero, Option.getD_some, Value.cells] at hw); (try simp (disch := first | (simp; done) | (simp; omega)) only [Sep.mid_set, Sep.mid_set2, Sep.mid_set0, Sep.mid_splice, Sep.mid_splice0, List.set_cons_zero, List.set_cons_succ] at hw); (try simp only [Sep.splice, List.take_succ_cons, List.take_zero, List.drop_succ_cons, List.drop_zero, List.length_cons, List.length_nil, Nat.reduceAdd, List.cons_append, List.nil_append] at hw); (try replace hc0 := Sep.Holds.cells hw (i := 0) rfl); (try replace hc1 := Sep.Holds.cells hw (i := 1) rfl); (try replace hc2 := Sep.Holds.cells hw (i := 2) rfl); (try replace hc3 := Sep.Holds.cells hw (i := 3) rfl); (try replace hc4 := Sep.Holds.cells hw (i := 4) rfl); (try replace hc5 := Sep.Holds.cells hw (i := 5) rfl); (try replace hc6 := Sep.Holds.cells hw (i := 6) rfl)))
  have Hw0 := Sep.hid hw; clear hw
  (try clear hc0); (try clear hc1); (try clear hc2); (try clear hc3); (try clear hc4); (try clear hc5); (try clear hc6)
  go_loopw [5, 6, 7, 8, 32] (fun av fv cv wv i wr => ∃ (q : Nat) (M : TM), q ≤ len ∧ i = .int .i64 q ∧ av = .int .i64 M.act ∧ fv = .int .i64 M.fst ∧ M.act ≤ (q : Int) ∧ M.inv ∧ Holds e wr [Old e, IsTeam p M, IsInts cv M.c, IsInts wv M.w]) (fun _ _ _ _ i _ => len - (intOf i).toNat)
  case atStart => exact ⟨0, ⟨20, -1, 0, 0, [], []⟩, Nat.zero_le _, rfl, rfl, rfl, by simp, .inl ⟨rfl, rfl⟩, Hw0.out⟩
  case round =>
    clear Hw0
    obtain ⟨q, M, hq, rfl, rfl, rfl, hqa, hinv, hw⟩ := hrel
    by_cases hlt : q < len
    · obtain ⟨d, hd⟩ : ∃ d, l0[q]? = some d := ⟨_, List.getElem?_eq_getElem (by rw [Hlen.out]; exact hlt)⟩
      obtain ⟨hdok, ad, rfl, hcell⟩ := hl0.out q d hd
      have Hcell := Sep.hid hcell; clear hcell hd hdok
      have Hlm := Sep.hid (team_len (i := 1) rfl hw)
      have Hab : Hid (0 ≤ M.act ∧ M.act ≤ 1000000) := Sep.hid ⟨(team_ok (i := 1) rfl hw).2.2, by omega⟩
      obtain ⟨hinv', hcs⟩ := limit_cases M d Hab.out.1 hinv (fun x hx => ((team_ok (i := 1) rfl hw).1.pos M.c (by simp) x hx).1)
      have hda := deed_act M d
      obtain ⟨T, b, er, M', hb⟩ : ∃ T b er M', M.deed d = (T, b, er, M') := ⟨_, _, _, _, rfl⟩
      rw [hb] at hinv' hda
      have Hinv' : Hid (M'.inv ∧ M'.act ≤ ((q + 1 : Nat) : Int)) := Sep.hid ⟨hinv', by simp only at hda; omega⟩
      have Hcs := Sep.hid hcs
      have Hb := Sep.hid hb
      clear hinv' hcs hda hb hinv hqa
      obtain ⟨ca, cc, rfl⟩ := Sl.value (i := 2) rfl hw
      obtain ⟨wa, wc, rfl⟩ := Sl.value (i := 3) rfl hw
      go_wp2_with (first | ((with_reducible refine wpList_act (x := ?hx0x9) (y := ?hy0x9) (x1 := ?hx1x9) (x3 := ?hx3x9) (y3 := ?hy3x9) (cap := ?hcpx9) (vs := encA d) (q := q) (ad := ad) ti32 agg32 sl22 ?a1x9 ?a2x9 hlt hw (i := 0) ?a3x9 ?a4x9 ?a5x9 (encA_one d) Hcell.out ?b0x9 ?c0x9 ?b1x9 ?c1x9 ?d1x9 ?b2x9 ?c2x9 ?b3x9 ?c3x9 ?d3x9 ?f3x9 ?ggx9); (case b0x9 => rfl); (case b1x9 => rfl); (case b2x9 => rfl); (case b3x9 => rfl); (case a1x9 => rfl); (case a2x9 => rfl); (case a3x9 => rfl); (case a4x9 => rfl); (case a5x9 => rfl); (case c0x9 => rfl); (case c1x9 => rfl); (case d1x9 => rfl); (case c2x9 => rfl); (case c3x9 => (intro b; rfl)); (case d3x9 => (intro b; rfl)); (case f3x9 => (intro b; rfl)); intro bd w_ hw_; clear hw; have hw := hw_; clear hw_; (try simp only [List.map_cons, List.map_nil, List.getD_cons_zero, List.getD_cons_succ, List.getD_nil, List.set_cons_zero, List.set_cons_succ, List.cons_append, List.nil_append, Act.eval, Array.getD_eq_getD_getElem?, List.getElem?_toArray, List.getElem?_cons_succ, List.getElem?_cons_zero, Option.getD_some, Value.cells] at hw); (try simp (disch := first | (simp; done) | (simp; omega)) only [Sep.mid_set, Sep.mid_set2, Sep.mid_set0, Sep.mid_splice, Sep.mid_splice0, List.set_cons_zero, List.set_cons_succ] at hw); (try simp only [Sep.splice, List.take_succ_cons, List.take_zero, List.drop_succ_cons, List.drop_zero, List.length_cons, List.length_nil, Nat.reduceAdd, List.cons_append, List.nil_append] at hw); (try replace hc0 := Sep.Holds.cells hw (i := 0) rfl); (try replace hc1 := Sep.Holds.cells hw (i := 1) rfl); (try replace hc2 := Sep.Holds.cells hw (i := 2) rfl); (try replace hc3 := Sep.Holds.cells hw (i := 3) rfl); (try replace hc4 := Sep.Holds.cells hw (i := 4) rfl); (try replace hc5 := Sep.Holds.cells hw (i := 5) rfl); (try replace hc6 := Sep.Holds.cells hw (i := 6) rfl)) | (refine wpList_on rfl (wp_loadN (vs := encA d) rfl rfl hw (i := 4) rfl rfl (by intro j v hj; simpa using hj) ?_)))
      have hdo := fun w X hw => do_calls p M d Hab.out.2 e w X hw
      simp only [Hb.out] at hdo
      refine (hdo _ _ (hw.focus1 1 rfl)).mono ?_
      rintro en_ w_ ⟨v, rfl, hw_⟩
      clear hw; (try clear hc0); (try clear hc1); (try clear hc2); (try clear hc3); (try clear hc4); (try clear hc5); (try clear hc6); have hw := Holds.unfocus1 1 (by simp) hw_; clear hw_ hdo
      have hA : encA d = [.int .i64 d.f0, .int .i64 d.f1, .int .i64 d.f2] := rfl
      rw [hA] at hw
      clear hA
      (try simp only [List.map_cons, List.map_nil, List.getD_cons_zero, List.getD_cons_succ, List.getD_nil, List.set_cons_zero, List.set_cons_succ, List.cons_append, List.nil_append, Act.eval, Array.getD_eq_getD_getElem?, List.getElem?_toArray, List.getElem?_cons_succ, List.getElem?_cons_zero, Option.getD_some, Value.cells] at hw); (try simp (disch := first | (simp; done) | (simp; omega)) only [Sep.mid_set, Sep.mid_set2, Sep.mid_set0, Sep.mid_splice, Sep.mid_splice0, List.set_cons_zero, List.set_cons_succ] at hw); (try simp only [Sep.splice, List.take_succ_cons, List.take_zero, List.drop_succ_cons, List.drop_zero, List.length_cons, List.length_nil, Nat.reduceAdd, List.cons_append, List.nil_append] at hw)
      obtain ⟨va, vc, rfl⟩ := Sl.value (i := 5) rfl hw
      (try simp only [List.map_cons, List.map_nil, List.getD_cons_zero, List.getD_cons_succ, List.getD_nil, List.set_cons_zero, List.set_cons_succ, List.cons_append, List.nil_append, Act.eval, Array.getD_eq_getD_getElem?, List.getElem?_toArray, List.getElem?_cons_succ, List.getElem?_cons_zero, Option.getD_some, Value.cells] at hw); (try simp (disch := first | (simp; done) | (simp; omega)) only [Sep.mid_set, Sep.mid_set2, Sep.mid_set0, Sep.mid_splice, Sep.mid_splice0, List.set_cons_zero, List.set_cons_succ] at hw); (try simp only [Sep.splice, List.take_succ_cons, List.take_zero, List.drop_succ_cons, List.drop_zero, List.length_cons, List.length_nil, Nat.reduceAdd, List.cons_append, List.nil_append] at hw)
      (try replace hc0 := Sep.Holds.cells hw (i := 0) rfl); (try replace hc1 := Sep.Holds.cells hw (i := 1) rfl); (try replace hc2 := Sep.Holds.cells hw (i := 2) rfl); (try replace hc3 := Sep.Holds.cells hw (i := 3) rfl); (try replace hc4 := Sep.Holds.cells hw (i := 4) rfl); (try replace hc5 := Sep.Holds.cells hw (i := 5) rfl); (try replace hc6 := Sep.Holds.cells hw (i := 6) rfl)
      go_upto_block 2 with (first | (refine wpList_on rfl (wp_alloc rfl hw ?_); intro b11 w_ hw_; clear hw; have hw := hw_; clear hw_; (try simp only [List.map_cons, List.map_nil, List.getD_cons_zero, List.getD_cons_succ, List.getD_nil, List.set_cons_zero, List.set_cons_succ, List.cons_append, List.nil_append, Act.eval, Array.getD_eq_getD_getElem?, List.getElem?_toArray, List.getElem?_cons_succ, List.getElem?_cons_zero, Option.getD_some, Value.cells] at hw); (try simp (disch := first | (simp; done) | (simp; omega)) only [Sep.mid_set, Sep.mid_set2, Sep.mid_set0, Sep.mid_splice, Sep.mid_splice0, List.set_cons_zero, List.set_cons_succ] at hw); (try simp only [Sep.splice, List.take_succ_cons, List.take_zero, List.drop_succ_cons, List.drop_zero, List.length_cons, List.length_nil, Nat.reduceAdd, List.cons_append, List.nil_append] at hw); (try replace hc0 := Sep.Holds.cells hw (i := 0) rfl); (try replace hc1 := Sep.Holds.cells hw (i := 1) rfl); (try replace hc2 := Sep.Holds.cells hw (i := 2) rfl); (try replace hc3 := Sep.Holds.cells hw (i := 3) rfl); (try replace hc4 := Sep.Holds.cells hw (i := 4) rfl); (try replace hc5 := Sep.Holds.cells hw (i := 5) rfl); (try replace hc6 := Sep.Holds.cells hw (i := 6) rfl)) | (refine wpList_on rfl (wp_storeAll (vs := [.int .i64 T.caller, .slice va T.waiters.length vc, .bool T.first]) rfl rfl (by rfl) hw (i := 6) rfl rfl rfl (by simp [Value.oneCell']) ?_); intro w_ hw_; clear hw; have hw := hw_; clear hw_; (try simp only [List.map_cons, List.map_nil, List.getD_cons_zero, List.getD_cons_succ, List.getD_nil, List.set_cons_zero, List.set_cons_succ, List.cons_append, List.nil_append, Act.eval, Array.getD_eq_getD_getElem?, List.getElem?_toArray, List.getElem?_cons_succ, List.getElem?_cons_zero, Option.getD_some, Value.cells] at hw); (try simp (disch := first | (simp; done) | (simp; omega)) only [Sep.mid_set, Sep.mid_set2, Sep.mid_set0, Sep.mid_splice, Sep.mid_splice0, List.set_cons_zero, List.set_cons_succ] at hw); (try simp only [Sep.splice, List.take_succ_cons, List.take_zero, List.drop_succ_cons, List.drop_zero, List.length_cons, List.length_nil, Nat.reduceAdd, List.cons_append, List.nil_append] at hw); (try replace hc0 := Sep.Holds.cells hw (i := 0) rfl); (try replace hc1 := Sep.Holds.cells hw (i := 1) rfl); (try replace hc2 := Sep.Holds.cells hw (i := 2) rfl); (try replace hc3 := Sep.Holds.cells hw (i := 3) rfl); (try replace hc4 := Sep.Holds.cells hw (i := 4) rfl); (try replace hc5 := Sep.Holds.cells hw (i := 5) rfl); (try replace hc6 := Sep.Holds.cells hw (i := 6) rfl)))
      go_cut [5, 6, 7, 8] from 33 to 226 (fun av fv cv wv wx => av = .int .i64 M'.act ∧ fv = .int .i64 M'.fst ∧ Holds e wx [Old e, IsTeam p M', IsInts cv M'.c, IsInts wv M'.w])
      case first =>
        as_aux_lemma =>
        have hb := Hb.out
        rcases Hcs.out with ⟨er', her, hc⟩ | ⟨h01, hc⟩ | ⟨h0, hc⟩ | ⟨h1, hc⟩ | ⟨h2, hact, y, l, hcl, hy, hc⟩ | ⟨h2, hact, hcl, hc⟩ | ⟨h2, hact, hcl, hc⟩ | ⟨h3, hact, hc⟩ | ⟨h3, hact, hc⟩ | ⟨h4, hc⟩ | ⟨h4, hc⟩ | ⟨h5, l, hc⟩ | ⟨h0, h1, h2, h3, h4, h5, hc⟩
        all_goals rw [hc] at hb
        all_goals clear hc Hcs Hb
        all_goals cases hb
        · as_aux_lemma =>
            have herq : (er != 0) = true := by simpa using her
            clear her
            go_wp2_with fail
            go_meet
            exact ⟨rfl, rfl, hw.sel [0, 1, 2, 3] (by decide)⟩
        · as_aux_lemma =>
            have hwr : IntKind.i64.wrap (M.act + 1) = M.act + 1 := IntWalk.i64_in _ (by have := Hab.out; (try simp only at this); omega)
            rcases h01 with h0 | h1
            · go_wp2_with fail
              go_meet
              exact ⟨rfl, rfl, hw.sel [0, 1, 2, 3] (by decide)⟩
            · go_wp2_with fail
              go_meet
              exact ⟨rfl, rfl, hw.sel [0, 1, 2, 3] (by decide)⟩
        · as_aux_lemma =>
            go_wp2_with (first | (refine wpList_on rfl (wp_bsl1 rfl rfl (by rfl) (by rfl) (by decide) hw ?_); intro b_ w_ hw_; clear hw; have hw := hw_; clear hw_; (try simp only [List.map_cons, List.map_nil, List.getD_cons_zero, List.getD_cons_succ, List.getD_nil, List.set_cons_zero, List.set_cons_succ, List.cons_append, List.nil_append, Act.eval, Array.getD_eq_getD_getElem?, List.getElem?_toArray, List.getElem?_cons_succ, List.getElem?_cons_zero, Option.getD_some, Value.cells] at hw); (try simp (disch := first | (simp; done) | (simp; omega)) only [Sep.mid_set, Sep.mid_set2, Sep.mid_set0, Sep.mid_splice, Sep.mid_splice0, List.set_cons_zero, List.set_cons_succ] at hw); (try simp only [Sep.splice, List.take_succ_cons, List.take_zero, List.drop_succ_cons, List.drop_zero, List.length_cons, List.length_nil, Nat.reduceAdd, List.cons_append, List.nil_append] at hw); (try replace hc0 := Sep.Holds.cells hw (i := 0) rfl); (try replace hc1 := Sep.Holds.cells hw (i := 1) rfl); (try replace hc2 := Sep.Holds.cells hw (i := 2) rfl); (try replace hc3 := Sep.Holds.cells hw (i := 3) rfl); (try replace hc4 := Sep.Holds.cells hw (i := 4) rfl); (try replace hc5 := Sep.Holds.cells hw (i := 5) rfl); (try replace hc6 := Sep.Holds.cells hw (i := 6) rfl)) | (at_builtin; refine wpList_on rfl (wp_appendPt (i := 2) (j := 7) rfl rfl hw rfl rfl rfl (by rfl) (by simp [Value.oneCell']) (by decide) (by rfl) (by have := Hlm.out.1; (try simp only at this); (try unfold maxLen); omega) (by have := Hlm.out.1; (try simp only at this); (try unfold maxLen); omega) ?_); intro b2_ cap2_ off2_ w_ hcap2_ hw_; clear hw; have hw := hw_; clear hw_; (try simp only [List.map_cons, List.map_nil, List.getD_cons_zero, List.getD_cons_succ, List.getD_nil, List.set_cons_zero, List.set_cons_succ, List.cons_append, List.nil_append, Act.eval, Array.getD_eq_getD_getElem?, List.getElem?_toArray, List.getElem?_cons_succ, List.getElem?_cons_zero, Option.getD_some, Value.cells] at hw); (try simp (disch := first | (simp; done) | (simp; omega)) only [Sep.mid_set, Sep.mid_set2, Sep.mid_set0, Sep.mid_splice, Sep.mid_splice0, List.set_cons_zero, List.set_cons_succ] at hw); (try simp only [Sep.splice, List.take_succ_cons, List.take_zero, List.drop_succ_cons, List.drop_zero, List.length_cons, List.length_nil, Nat.reduceAdd, List.cons_append, List.nil_append] at hw); (try replace hc0 := Sep.Holds.cells hw (i := 0) rfl); (try replace hc1 := Sep.Holds.cells hw (i := 1) rfl); (try replace hc2 := Sep.Holds.cells hw (i := 2) rfl); (try replace hc3 := Sep.Holds.cells hw (i := 3) rfl); (try replace hc4 := Sep.Holds.cells hw (i := 4) rfl); (try replace hc5 := Sep.Holds.cells hw (i := 5) rfl); (try replace hc6 := Sep.Holds.cells hw (i := 6) rfl)))
            rw [sl_snoc] at hw
            go_meet
            exact ⟨rfl, rfl, hw.sel [0, 1, 2, 3] (by decide)⟩
        · as_aux_lemma =>
            go_wp2_with fail
            go_meet
            exact ⟨rfl, rfl, hw.sel [0, 1, 2, 3] (by decide)⟩
        · as_aux_lemma =>
            have hwr : IntKind.i64.wrap (M.act - 1) = M.act - 1 := IntWalk.i64_in _ (by have := Hab.out; (try simp only at this); omega)
            have Hwa : Hid (wrap64 M.act = M.act) := Sep.hid (by have := Hab.out; (try simp only at this); unfold wrap64; omega)
            have hwr2 : IntKind.i64.wrap M.act = M.act := IntWalk.i64_in _ (by have := Hab.out; (try simp only at this); omega)
            have hact : 0 < M.act := hact
            have hactq : (M.act == 0) = false := by simp; omega
            rw [hcl] at hw ⊢
            clear hcl
            obtain ⟨bo, oo, rfl, go⟩ := num_at (i := 2) (k := 0) (l := y :: l) (n := l.length + 1) hw rfl rfl
            have gx : w_.drew.cell? ⟨bo, oo, none⟩ = some (.int .i64 y) := go
            clear go
            by_cases hf0 : M.fst = 0
            · have Hnew := Sep.hid (fin_fst M d.f2 hf0)
              have hq0 : (M.fst == 0) = true := by simpa using hf0
              by_cases hn : d.f2 = 0
              · have hfi : M.isFirst d.f2 = false := by simp [TM.isFirst, hn]
                have hq1 : (d.f2 != 0) = false := by simpa using hn
                have Hfi := Sep.hid hfi
                rw [hfi] at hw
                (try replace hc0 := Sep.Holds.cells hw (i := 0) rfl); (try replace hc1 := Sep.Holds.cells hw (i := 1) rfl); (try replace hc2 := Sep.Holds.cells hw (i := 2) rfl); (try replace hc3 := Sep.Holds.cells hw (i := 3) rfl); (try replace hc4 := Sep.Holds.cells hw (i := 4) rfl); (try replace hc5 := Sep.Holds.cells hw (i := 5) rfl); (try replace hc6 := Sep.Holds.cells hw (i := 6) rfl)
                clear hf0 hn hfi
                as_aux_lemma =>
                  go_wp2_with fail
                  refine wp_region_L [] [(1, (fun w' => w' = w_.drew)), (13, (fun w' => w' = w_.drew)), (16, (fun w' => w' = w_.drew))] (n := 20) (listed := (marks 20 0)) (by kernel_rfl) rfl (by kernel_rfl) ?conds1 ?_
                  case conds1 =>
                   intro c hc
                   simp only [List.mem_cons, List.not_mem_nil, or_false] at hc
                   rcases hc with rfl | rfl | rfl
                   · rfl
                   · rfl
                   · rfl
                  replace hw := hw.drew
                  (try replace hc0 := Sep.Holds.cells hw (i := 0) rfl); (try replace hc1 := Sep.Holds.cells hw (i := 1) rfl); (try replace hc2 := Sep.Holds.cells hw (i := 2) rfl); (try replace hc3 := Sep.Holds.cells hw (i := 3) rfl); (try replace hc4 := Sep.Holds.cells hw (i := 4) rfl); (try replace hc5 := Sep.Holds.cells hw (i := 5) rfl); (try replace hc6 := Sep.Holds.cells hw (i := 6) rfl)
                  refine wpL_q 0 ?_ rfl (Or.inl ⟨by rfl, fun w_ hS_ => ?_⟩) (marks 20 1) ?_
                  rotate_left
                  next => (go_simp; try (first | rfl | exact (Bool.not_not _).symm))
                  try simp only [Act.put, List.setIfInBounds_toArray, List.set_cons_zero, List.set_cons_succ]
                  refine wpL_m 1 ?_ rfl (.head _) (Or.inl ⟨by rfl, fun w_ hS_ => ?_⟩) (marks 20 3) ?_
                  rotate_left
                  next => (subst hS_; go_simp; try (first | rfl | exact (Bool.not_not _).symm))
                  try simp only [Act.put, List.setIfInBounds_toArray, List.set_cons_zero, List.set_cons_succ]
                  refine wpL_q 2 ?_ rfl (Or.inl ⟨by rfl, fun w_ hS_ => ?_⟩) (marks 20 7) ?_
                  rotate_left
                  next => (go_simp; try (first | rfl | exact (Bool.not_not _).symm))
                  try simp only [Act.put, List.setIfInBounds_toArray, List.set_cons_zero, List.set_cons_succ]
                  refine wpL_q 3 ?_ rfl (Or.inl ⟨by rfl, fun w_ hS_ => ?_⟩) (marks 20 15) ?_
                  rotate_left
                  next => (go_simp; try (first | rfl | exact (Bool.not_not _).symm))
                  try simp only [Act.put, List.setIfInBounds_toArray, List.set_cons_zero, List.set_cons_succ]
                  refine wpL_q 4 ?_ rfl (Or.inl ⟨by rfl, fun w_ hS_ => ?_⟩) (marks 20 31) ?_
                  rotate_left
                  next => (go_simp; try (first | rfl | exact (Bool.not_not _).symm))
                  try simp only [Act.put, List.setIfInBounds_toArray, List.set_cons_zero, List.set_cons_succ]
                  refine wpL_q 5 ?_ rfl (Or.inl ⟨by rfl, fun w_ hS_ => ?_⟩) (marks 20 63) ?_
                  rotate_left
                  next => (go_simp; try (first | rfl | exact (Bool.not_not _).symm))
                  try simp only [Act.put, List.setIfInBounds_toArray, List.set_cons_zero, List.set_cons_succ]
                  refine wpL_q 6 ?_ rfl (Or.inl ⟨by rfl, fun w_ hS_ => ?_⟩) (marks 20 127) ?_
                  rotate_left
                  next => (go_simp; try (first | rfl | exact (Bool.not_not _).symm))
                  try simp only [Act.put, List.setIfInBounds_toArray, List.set_cons_zero, List.set_cons_succ]
                  refine wpL_b 7 ?_ rfl (Or.inl ⟨by rfl, fun w_ hS_ => ?_⟩) (marks 20 255) ?_
                  rotate_left
                  next => (go_simp; try (first | rfl | exact (Bool.not_not _).symm))
                  intro bb_ hg7
                  cases bb_
                  case' true =>
                   (try simp only [decide_eq_true_eq, decide_eq_false_iff_not, beq_iff_eq, beq_eq_false_iff_ne, bne_iff_ne, bne_eq_false_iff_eq, Bool.not_eq_true', Bool.not_eq_false', Int.not_lt, Int.not_le] at hg7)
                   first | (cases hg7; done) | (exfalso; omega; done)
                  case' false =>
                   (try simp only [decide_eq_true_eq, decide_eq_false_iff_not, beq_iff_eq, beq_eq_false_iff_ne, bne_iff_ne, bne_eq_false_iff_eq, Bool.not_eq_true', Bool.not_eq_false', Int.not_lt, Int.not_le] at hg7)
                   first | (cases hg7; done) | (exfalso; omega; done) | skip
                   all_goals
                    try replace hg7 := Sep.hid hg7
                    try simp only [Act.put, List.setIfInBounds_toArray, List.set_cons_zero, List.set_cons_succ]
                    refine wpL_q 8 ?_ rfl (Or.inl ⟨by rfl, fun w_ hS_ => ?_⟩) (marks 20 511) ?_
                    rotate_left
                    next => (go_simp; try (first | rfl | exact (Bool.not_not _).symm))
                    try simp only [Act.put, List.setIfInBounds_toArray, List.set_cons_zero, List.set_cons_succ]
                    refine wpL_q 9 ?_ rfl (Or.inl ⟨by rfl, fun w_ hS_ => ?_⟩) (marks 20 1023) ?_
                    rotate_left
                    next => (go_simp; try (first | rfl | exact (Bool.not_not _).symm))
                    try simp only [Act.put, List.setIfInBounds_toArray, List.set_cons_zero, List.set_cons_succ]
                    refine wpL_q 10 ?_ rfl (Or.inl ⟨by rfl, fun w_ hS_ => ?_⟩) (marks 20 2047) ?_
                    rotate_left
                    next => (go_simp; try (first | rfl | exact (Bool.not_not _).symm))
                    try simp only [Act.put, List.setIfInBounds_toArray, List.set_cons_zero, List.set_cons_succ]
                    refine wpL_b 11 ?_ rfl (Or.inl ⟨by rfl, fun w_ hS_ => ?_⟩) (marks 20 4095) ?_
                    rotate_left
                    next => (go_simp; try (first | rfl | exact (Bool.not_not _).symm))
                    intro bb_ hg11
                    cases bb_
                    case' true =>
                     (try simp only [decide_eq_true_eq, decide_eq_false_iff_not, beq_iff_eq, beq_eq_false_iff_ne, bne_iff_ne, bne_eq_false_iff_eq, Bool.not_eq_true', Bool.not_eq_false', Int.not_lt, Int.not_le] at hg11)
                     first | (cases hg11; done) | (exfalso; omega; done) | skip
                     all_goals
                      try replace hg11 := Sep.hid hg11
                      try simp only [Act.put, List.setIfInBounds_toArray, List.set_cons_zero, List.set_cons_succ]
                      refine wpL_q 12 ?_ rfl (Or.inl ⟨by rfl, fun w_ hS_ => ?_⟩) (marks 20 8191) ?_
                      rotate_left
                      next => (go_simp; try (first | rfl | exact (Bool.not_not _).symm))
                      try simp only [Act.put, List.setIfInBounds_toArray, List.set_cons_zero, List.set_cons_succ]
                      refine wpL_m 13 ?_ rfl (.tail _ (.head _)) (Or.inl ⟨by rfl, fun w_ hS_ => ?_⟩) (marks 20 16383) ?_
                      rotate_left
                      next => (subst hS_; go_simp; try (first | rfl | exact (Bool.not_not _).symm))
                      try simp only [Act.put, List.setIfInBounds_toArray, List.set_cons_zero, List.set_cons_succ]
                      refine wpL_q 14 ?_ rfl (Or.inl ⟨by rfl, fun w_ hS_ => ?_⟩) (marks 20 32767) ?_
                      rotate_left
                      next => (go_simp; try (first | rfl | exact (Bool.not_not _).symm))
                      try simp only [Act.put, List.setIfInBounds_toArray, List.set_cons_zero, List.set_cons_succ]
                      refine wpL_q 15 ?_ rfl (Or.inl ⟨by rfl, fun w_ hS_ => ?_⟩) (marks 20 65535) ?_
                      rotate_left
                      next => (go_simp; try (first | rfl | exact (Bool.not_not _).symm))
                      try simp only [Act.put, List.setIfInBounds_toArray, List.set_cons_zero, List.set_cons_succ]
                      refine wpL_m 16 ?_ rfl (.tail _ (.tail _ (.head _))) (Or.inl ⟨by rfl, fun w_ hS_ => ?_⟩) (marks 20 131071) ?_
                      rotate_left
                      next => (subst hS_; go_simp; try (first | rfl | exact (Bool.not_not _).symm))
                      try simp only [Act.put, List.setIfInBounds_toArray, List.set_cons_zero, List.set_cons_succ]
                      refine wpL_q 17 ?_ rfl (Or.inl ⟨by rfl, fun w_ hS_ => ?_⟩) (marks 20 262143) ?_
                      rotate_left
                      next => (go_simp; try (first | rfl | exact (Bool.not_not _).symm))
                      try simp only [Act.put, List.setIfInBounds_toArray, List.set_cons_zero, List.set_cons_succ]
                    case' false =>
                     (try simp only [decide_eq_true_eq, decide_eq_false_iff_not, beq_iff_eq, beq_eq_false_iff_ne, bne_iff_ne, bne_eq_false_iff_eq, Bool.not_eq_true', Bool.not_eq_false', Int.not_lt, Int.not_le] at hg11)
                     first | (cases hg11; done) | (exfalso; omega; done)
                    all_goals
                     refine wpL_q 18 ?_ rfl (Or.inl ⟨by rfl, fun w_ hS_ => ?_⟩) (marks 20 524287) ?_
                     rotate_left
                     next => (go_simp; try (first | rfl | exact (Bool.not_not _).symm))
                     try simp only [Act.put, List.setIfInBounds_toArray, List.set_cons_zero, List.set_cons_succ]
                  all_goals
                   refine wpL_q 19 ?_ rfl (Or.inl ⟨by rfl, fun w_ hS_ => ?_⟩) (marks 20 1048575) ?_
                   rotate_left
                   next => (go_simp; try (first | rfl | exact (Bool.not_not _).symm))
                   try simp only [Act.put, List.setIfInBounds_toArray, List.set_cons_zero, List.set_cons_succ]
                   all_goals refine wpL_done (by kernel_rfl) ?_ _
                  go_upto_region 35 with (refine wpList_on rfl (wp_sliceFrom (i := 2) (l := 1) rfl rfl rfl hw rfl (by simp) ?_); intro a3_ c3_ hw_; clear hw; have hw := hw_; clear hw_; (try simp only [List.map_cons, List.map_nil, List.getD_cons_zero, List.getD_cons_succ, List.getD_nil, List.set_cons_zero, List.set_cons_succ, List.cons_append, List.nil_append, Act.eval, Array.getD_eq_getD_getElem?, List.getElem?_toArray, List.getElem?_cons_succ, List.getElem?_cons_zero, Option.getD_some, Value.cells] at hw); (try simp (disch := first | (simp; done) | (simp; omega)) only [Sep.mid_set, Sep.mid_set2, Sep.mid_set0, Sep.mid_splice, Sep.mid_splice0, List.set_cons_zero, List.set_cons_succ] at hw); (try simp only [Sep.splice, List.take_succ_cons, List.take_zero, List.drop_succ_cons, List.drop_zero, List.length_cons, List.length_nil, Nat.reduceAdd, List.cons_append, List.nil_append] at hw); (try replace hc0 := Sep.Holds.cells hw (i := 0) rfl); (try replace hc1 := Sep.Holds.cells hw (i := 1) rfl); (try replace hc2 := Sep.Holds.cells hw (i := 2) rfl); (try replace hc3 := Sep.Holds.cells hw (i := 3) rfl); (try replace hc4 := Sep.Holds.cells hw (i := 4) rfl); (try replace hc5 := Sep.Holds.cells hw (i := 5) rfl); (try replace hc6 := Sep.Holds.cells hw (i := 6) rfl))
                  clear hwr hwr2 gx
                  go_wp2_with fail
                  go_meet
                  refine ⟨(by first | rfl | exact congrArg (Value.int .i64) Hwa.out), by rw [Hnew.out], ?_⟩
                  rw [Hfi.out]
                  exact hw.sel [0, 1, 2, 3] (by decide)
              · have hfi : M.isFirst d.f2 = true := by simp [TM.isFirst, hn, hf0]
                have hq1 : (d.f2 != 0) = true := by simpa using hn
                have Hfi := Sep.hid hfi
                rw [hfi] at hw
                (try replace hc0 := Sep.Holds.cells hw (i := 0) rfl); (try replace hc1 := Sep.Holds.cells hw (i := 1) rfl); (try replace hc2 := Sep.Holds.cells hw (i := 2) rfl); (try replace hc3 := Sep.Holds.cells hw (i := 3) rfl); (try replace hc4 := Sep.Holds.cells hw (i := 4) rfl); (try replace hc5 := Sep.Holds.cells hw (i := 5) rfl); (try replace hc6 := Sep.Holds.cells hw (i := 6) rfl)
                clear hf0 hn hfi
                as_aux_lemma =>
                  go_wp2_with fail
                  refine wp_region_L [] [(1, (fun w' => w' = w_.drew)), (13, (fun w' => w' = w_.drew)), (16, (fun w' => w' = w_.drew))] (n := 20) (listed := (marks 20 0)) (by kernel_rfl) rfl (by kernel_rfl) ?conds2 ?_
                  case conds2 =>
                   intro c hc
                   simp only [List.mem_cons, List.not_mem_nil, or_false] at hc
                   rcases hc with rfl | rfl | rfl
                   · rfl
                   · rfl
                   · rfl
                  replace hw := hw.drew
                  (try replace hc0 := Sep.Holds.cells hw (i := 0) rfl); (try replace hc1 := Sep.Holds.cells hw (i := 1) rfl); (try replace hc2 := Sep.Holds.cells hw (i := 2) rfl); (try replace hc3 := Sep.Holds.cells hw (i := 3) rfl); (try replace hc4 := Sep.Holds.cells hw (i := 4) rfl); (try replace hc5 := Sep.Holds.cells hw (i := 5) rfl); (try replace hc6 := Sep.Holds.cells hw (i := 6) rfl)
                  refine wpL_q 0 ?_ rfl (Or.inl ⟨by rfl, fun w_ hS_ => ?_⟩) (marks 20 1) ?_
                  rotate_left
                  next => (go_simp; try (first | rfl | exact (Bool.not_not _).symm))
                  try simp only [Act.put, List.setIfInBounds_toArray, List.set_cons_zero, List.set_cons_succ]
                  refine wpL_m 1 ?_ rfl (.head _) (Or.inl ⟨by rfl, fun w_ hS_ => ?_⟩) (marks 20 3) ?_
                  rotate_left
                  next => (subst hS_; go_simp; try (first | rfl | exact (Bool.not_not _).symm))
                  try simp only [Act.put, List.setIfInBounds_toArray, List.set_cons_zero, List.set_cons_succ]
                  refine wpL_q 2 ?_ rfl (Or.inl ⟨by rfl, fun w_ hS_ => ?_⟩) (marks 20 7) ?_
                  rotate_left
                  next => (go_simp; try (first | rfl | exact (Bool.not_not _).symm))
                  try simp only [Act.put, List.setIfInBounds_toArray, List.set_cons_zero, List.set_cons_succ]
                  refine wpL_q 3 ?_ rfl (Or.inl ⟨by rfl, fun w_ hS_ => ?_⟩) (marks 20 15) ?_
                  rotate_left
                  next => (go_simp; try (first | rfl | exact (Bool.not_not _).symm))
                  try simp only [Act.put, List.setIfInBounds_toArray, List.set_cons_zero, List.set_cons_succ]
                  refine wpL_q 4 ?_ rfl (Or.inl ⟨by rfl, fun w_ hS_ => ?_⟩) (marks 20 31) ?_
                  rotate_left
                  next => (go_simp; try (first | rfl | exact (Bool.not_not _).symm))
                  try simp only [Act.put, List.setIfInBounds_toArray, List.set_cons_zero, List.set_cons_succ]
                  refine wpL_q 5 ?_ rfl (Or.inl ⟨by rfl, fun w_ hS_ => ?_⟩) (marks 20 63) ?_
                  rotate_left
                  next => (go_simp; try (first | rfl | exact (Bool.not_not _).symm))
                  try simp only [Act.put, List.setIfInBounds_toArray, List.set_cons_zero, List.set_cons_succ]
                  refine wpL_q 6 ?_ rfl (Or.inl ⟨by rfl, fun w_ hS_ => ?_⟩) (marks 20 127) ?_
                  rotate_left
                  next => (go_simp; try (first | rfl | exact (Bool.not_not _).symm))
                  try simp only [Act.put, List.setIfInBounds_toArray, List.set_cons_zero, List.set_cons_succ]
                  refine wpL_b 7 ?_ rfl (Or.inl ⟨by rfl, fun w_ hS_ => ?_⟩) (marks 20 255) ?_
                  rotate_left
                  next => (go_simp; try (first | rfl | exact (Bool.not_not _).symm))
                  intro bb_ hg7
                  cases bb_
                  case' true =>
                   (try simp only [decide_eq_true_eq, decide_eq_false_iff_not, beq_iff_eq, beq_eq_false_iff_ne, bne_iff_ne, bne_eq_false_iff_eq, Bool.not_eq_true', Bool.not_eq_false', Int.not_lt, Int.not_le] at hg7)
                   first | (cases hg7; done) | (exfalso; omega; done)
                  case' false =>
                   (try simp only [decide_eq_true_eq, decide_eq_false_iff_not, beq_iff_eq, beq_eq_false_iff_ne, bne_iff_ne, bne_eq_false_iff_eq, Bool.not_eq_true', Bool.not_eq_false', Int.not_lt, Int.not_le] at hg7)
                   first | (cases hg7; done) | (exfalso; omega; done) | skip
                   all_goals
                    try replace hg7 := Sep.hid hg7
                    try simp only [Act.put, List.setIfInBounds_toArray, List.set_cons_zero, List.set_cons_succ]
                    refine wpL_q 8 ?_ rfl (Or.inl ⟨by rfl, fun w_ hS_ => ?_⟩) (marks 20 511) ?_
                    rotate_left
                    next => (go_simp; try (first | rfl | exact (Bool.not_not _).symm))
                    try simp only [Act.put, List.setIfInBounds_toArray, List.set_cons_zero, List.set_cons_succ]
                    refine wpL_q 9 ?_ rfl (Or.inl ⟨by rfl, fun w_ hS_ => ?_⟩) (marks 20 1023) ?_
                    rotate_left
                    next => (go_simp; try (first | rfl | exact (Bool.not_not _).symm))
                    try simp only [Act.put, List.setIfInBounds_toArray, List.set_cons_zero, List.set_cons_succ]
                    refine wpL_q 10 ?_ rfl (Or.inl ⟨by rfl, fun w_ hS_ => ?_⟩) (marks 20 2047) ?_
                    rotate_left
                    next => (go_simp; try (first | rfl | exact (Bool.not_not _).symm))
                    try simp only [Act.put, List.setIfInBounds_toArray, List.set_cons_zero, List.set_cons_succ]
                    refine wpL_b 11 ?_ rfl (Or.inl ⟨by rfl, fun w_ hS_ => ?_⟩) (marks 20 4095) ?_
                    rotate_left
                    next => (go_simp; try (first | rfl | exact (Bool.not_not _).symm))
                    intro bb_ hg11
                    cases bb_
                    case' true =>
                     (try simp only [decide_eq_true_eq, decide_eq_false_iff_not, beq_iff_eq, beq_eq_false_iff_ne, bne_iff_ne, bne_eq_false_iff_eq, Bool.not_eq_true', Bool.not_eq_false', Int.not_lt, Int.not_le] at hg11)
                     first | (cases hg11; done) | (exfalso; omega; done) | skip
                     all_goals
                      try replace hg11 := Sep.hid hg11
                      try simp only [Act.put, List.setIfInBounds_toArray, List.set_cons_zero, List.set_cons_succ]
                      refine wpL_q 12 ?_ rfl (Or.inl ⟨by rfl, fun w_ hS_ => ?_⟩) (marks 20 8191) ?_
                      rotate_left
                      next => (go_simp; try (first | rfl | exact (Bool.not_not _).symm))
                      try simp only [Act.put, List.setIfInBounds_toArray, List.set_cons_zero, List.set_cons_succ]
                      refine wpL_m 13 ?_ rfl (.tail _ (.head _)) (Or.inl ⟨by rfl, fun w_ hS_ => ?_⟩) (marks 20 16383) ?_
                      rotate_left
                      next => (subst hS_; go_simp; try (first | rfl | exact (Bool.not_not _).symm))
                      try simp only [Act.put, List.setIfInBounds_toArray, List.set_cons_zero, List.set_cons_succ]
                      refine wpL_q 14 ?_ rfl (Or.inl ⟨by rfl, fun w_ hS_ => ?_⟩) (marks 20 32767) ?_
                      rotate_left
                      next => (go_simp; try (first | rfl | exact (Bool.not_not _).symm))
                      try simp only [Act.put, List.setIfInBounds_toArray, List.set_cons_zero, List.set_cons_succ]
                      refine wpL_q 15 ?_ rfl (Or.inl ⟨by rfl, fun w_ hS_ => ?_⟩) (marks 20 65535) ?_
                      rotate_left
                      next => (go_simp; try (first | rfl | exact (Bool.not_not _).symm))
                      try simp only [Act.put, List.setIfInBounds_toArray, List.set_cons_zero, List.set_cons_succ]
                      refine wpL_m 16 ?_ rfl (.tail _ (.tail _ (.head _))) (Or.inl ⟨by rfl, fun w_ hS_ => ?_⟩) (marks 20 131071) ?_
                      rotate_left
                      next => (subst hS_; go_simp; try (first | rfl | exact (Bool.not_not _).symm))
                      try simp only [Act.put, List.setIfInBounds_toArray, List.set_cons_zero, List.set_cons_succ]
                      refine wpL_q 17 ?_ rfl (Or.inl ⟨by rfl, fun w_ hS_ => ?_⟩) (marks 20 262143) ?_
                      rotate_left
                      next => (go_simp; try (first | rfl | exact (Bool.not_not _).symm))
                      try simp only [Act.put, List.setIfInBounds_toArray, List.set_cons_zero, List.set_cons_succ]
                    case' false =>
                     (try simp only [decide_eq_true_eq, decide_eq_false_iff_not, beq_iff_eq, beq_eq_false_iff_ne, bne_iff_ne, bne_eq_false_iff_eq, Bool.not_eq_true', Bool.not_eq_false', Int.not_lt, Int.not_le] at hg11)
                     first | (cases hg11; done) | (exfalso; omega; done)
                    all_goals
                     refine wpL_q 18 ?_ rfl (Or.inl ⟨by rfl, fun w_ hS_ => ?_⟩) (marks 20 524287) ?_
                     rotate_left
                     next => (go_simp; try (first | rfl | exact (Bool.not_not _).symm))
                     try simp only [Act.put, List.setIfInBounds_toArray, List.set_cons_zero, List.set_cons_succ]
                  all_goals
                   refine wpL_q 19 ?_ rfl (Or.inl ⟨by rfl, fun w_ hS_ => ?_⟩) (marks 20 1048575) ?_
                   rotate_left
                   next => (go_simp; try (first | rfl | exact (Bool.not_not _).symm))
                   try simp only [Act.put, List.setIfInBounds_toArray, List.set_cons_zero, List.set_cons_succ]
                   all_goals refine wpL_done (by kernel_rfl) ?_ _
                  go_upto_region 35 with (refine wpList_on rfl (wp_sliceFrom (i := 2) (l := 1) rfl rfl rfl hw rfl (by simp) ?_); intro a3_ c3_ hw_; clear hw; have hw := hw_; clear hw_; (try simp only [List.map_cons, List.map_nil, List.getD_cons_zero, List.getD_cons_succ, List.getD_nil, List.set_cons_zero, List.set_cons_succ, List.cons_append, List.nil_append, Act.eval, Array.getD_eq_getD_getElem?, List.getElem?_toArray, List.getElem?_cons_succ, List.getElem?_cons_zero, Option.getD_some, Value.cells] at hw); (try simp (disch := first | (simp; done) | (simp; omega)) only [Sep.mid_set, Sep.mid_set2, Sep.mid_set0, Sep.mid_splice, Sep.mid_splice0, List.set_cons_zero, List.set_cons_succ] at hw); (try simp only [Sep.splice, List.take_succ_cons, List.take_zero, List.drop_succ_cons, List.drop_zero, List.length_cons, List.length_nil, Nat.reduceAdd, List.cons_append, List.nil_append] at hw); (try replace hc0 := Sep.Holds.cells hw (i := 0) rfl); (try replace hc1 := Sep.Holds.cells hw (i := 1) rfl); (try replace hc2 := Sep.Holds.cells hw (i := 2) rfl); (try replace hc3 := Sep.Holds.cells hw (i := 3) rfl); (try replace hc4 := Sep.Holds.cells hw (i := 4) rfl); (try replace hc5 := Sep.Holds.cells hw (i := 5) rfl); (try replace hc6 := Sep.Holds.cells hw (i := 6) rfl))
                  clear hwr hwr2 gx
                  go_wp2_with fail
                  go_meet
                  refine ⟨(by first | rfl | exact congrArg (Value.int .i64) Hwa.out), by rw [Hnew.out], ?_⟩
                  rw [Hfi.out]
                  exact hw.sel [0, 1, 2, 3] (by decide)
            · have Hnew := Sep.hid (fin_fst' M d.f2 hf0)
              have hq0 : (M.fst == 0) = false := by simpa using hf0
              have hfi : M.isFirst d.f2 = false := by simp [TM.isFirst, hf0]
              have Hfi := Sep.hid hfi
              rw [hfi] at hw
              (try replace hc0 := Sep.Holds.cells hw (i := 0) rfl); (try replace hc1 := Sep.Holds.cells hw (i := 1) rfl); (try replace hc2 := Sep.Holds.cells hw (i := 2) rfl); (try replace hc3 := Sep.Holds.cells hw (i := 3) rfl); (try replace hc4 := Sep.Holds.cells hw (i := 4) rfl); (try replace hc5 := Sep.Holds.cells hw (i := 5) rfl); (try replace hc6 := Sep.Holds.cells hw (i := 6) rfl)
              clear hf0 hfi
              as_aux_lemma =>
                go_wp2_with fail
                refine wp_region_L [] [(1, (fun w' => w' = w_.drew)), (13, (fun w' => w' = w_.drew)), (16, (fun w' => w' = w_.drew))] (n := 20) (listed := (marks 20 0)) (by kernel_rfl) rfl (by kernel_rfl) ?conds3 ?_
                case conds3 =>
                 intro c hc
                 simp only [List.mem_cons, List.not_mem_nil, or_false] at hc
                 rcases hc with rfl | rfl | rfl
                 · rfl
                 · rfl
                 · rfl
                replace hw := hw.drew
                (try replace hc0 := Sep.Holds.cells hw (i := 0) rfl); (try replace hc1 := Sep.Holds.cells hw (i := 1) rfl); (try replace hc2 := Sep.Holds.cells hw (i := 2) rfl); (try replace hc3 := Sep.Holds.cells hw (i := 3) rfl); (try replace hc4 := Sep.Holds.cells hw (i := 4) rfl); (try replace hc5 := Sep.Holds.cells hw (i := 5) rfl); (try replace hc6 := Sep.Holds.cells hw (i := 6) rfl)
                refine wpL_q 0 ?_ rfl (Or.inl ⟨by rfl, fun w_ hS_ => ?_⟩) (marks 20 1) ?_
                rotate_left
                next => (go_simp; try (first | rfl | exact (Bool.not_not _).symm))
                try simp only [Act.put, List.setIfInBounds_toArray, List.set_cons_zero, List.set_cons_succ]
                refine wpL_m 1 ?_ rfl (.head _) (Or.inl ⟨by rfl, fun w_ hS_ => ?_⟩) (marks 20 3) ?_
                rotate_left
                next => (subst hS_; go_simp; try (first | rfl | exact (Bool.not_not _).symm))
                try simp only [Act.put, List.setIfInBounds_toArray, List.set_cons_zero, List.set_cons_succ]
                refine wpL_q 2 ?_ rfl (Or.inl ⟨by rfl, fun w_ hS_ => ?_⟩) (marks 20 7) ?_
                rotate_left
                next => (go_simp; try (first | rfl | exact (Bool.not_not _).symm))
                try simp only [Act.put, List.setIfInBounds_toArray, List.set_cons_zero, List.set_cons_succ]
                refine wpL_q 3 ?_ rfl (Or.inl ⟨by rfl, fun w_ hS_ => ?_⟩) (marks 20 15) ?_
                rotate_left
                next => (go_simp; try (first | rfl | exact (Bool.not_not _).symm))
                try simp only [Act.put, List.setIfInBounds_toArray, List.set_cons_zero, List.set_cons_succ]
                refine wpL_q 4 ?_ rfl (Or.inl ⟨by rfl, fun w_ hS_ => ?_⟩) (marks 20 31) ?_
                rotate_left
                next => (go_simp; try (first | rfl | exact (Bool.not_not _).symm))
                try simp only [Act.put, List.setIfInBounds_toArray, List.set_cons_zero, List.set_cons_succ]
                refine wpL_q 5 ?_ rfl (Or.inl ⟨by rfl, fun w_ hS_ => ?_⟩) (marks 20 63) ?_
                rotate_left
                next => (go_simp; try (first | rfl | exact (Bool.not_not _).symm))
                try simp only [Act.put, List.setIfInBounds_toArray, List.set_cons_zero, List.set_cons_succ]
                refine wpL_q 6 ?_ rfl (Or.inl ⟨by rfl, fun w_ hS_ => ?_⟩) (marks 20 127) ?_
                rotate_left
                next => (go_simp; try (first | rfl | exact (Bool.not_not _).symm))
                try simp only [Act.put, List.setIfInBounds_toArray, List.set_cons_zero, List.set_cons_succ]
                refine wpL_b 7 ?_ rfl (Or.inl ⟨by rfl, fun w_ hS_ => ?_⟩) (marks 20 255) ?_
                rotate_left
                next => (go_simp; try (first | rfl | exact (Bool.not_not _).symm))
                intro bb_ hg7
                cases bb_
                case' true =>
                 (try simp only [decide_eq_true_eq, decide_eq_false_iff_not, beq_iff_eq, beq_eq_false_iff_ne, bne_iff_ne, bne_eq_false_iff_eq, Bool.not_eq_true', Bool.not_eq_false', Int.not_lt, Int.not_le] at hg7)
                 first | (cases hg7; done) | (exfalso; omega; done)
                case' false =>
                 (try simp only [decide_eq_true_eq, decide_eq_false_iff_not, beq_iff_eq, beq_eq_false_iff_ne, bne_iff_ne, bne_eq_false_iff_eq, Bool.not_eq_true', Bool.not_eq_false', Int.not_lt, Int.not_le] at hg7)
                 first | (cases hg7; done) | (exfalso; omega; done) | skip
                 all_goals
                  try replace hg7 := Sep.hid hg7
                  try simp only [Act.put, List.setIfInBounds_toArray, List.set_cons_zero, List.set_cons_succ]
                  refine wpL_q 8 ?_ rfl (Or.inl ⟨by rfl, fun w_ hS_ => ?_⟩) (marks 20 511) ?_
                  rotate_left
                  next => (go_simp; try (first | rfl | exact (Bool.not_not _).symm))
                  try simp only [Act.put, List.setIfInBounds_toArray, List.set_cons_zero, List.set_cons_succ]
                  refine wpL_q 9 ?_ rfl (Or.inl ⟨by rfl, fun w_ hS_ => ?_⟩) (marks 20 1023) ?_
                  rotate_left
                  next => (go_simp; try (first | rfl | exact (Bool.not_not _).symm))
                  try simp only [Act.put, List.setIfInBounds_toArray, List.set_cons_zero, List.set_cons_succ]
                  refine wpL_q 10 ?_ rfl (Or.inl ⟨by rfl, fun w_ hS_ => ?_⟩) (marks 20 2047) ?_
                  rotate_left
                  next => (go_simp; try (first | rfl | exact (Bool.not_not _).symm))
                  try simp only [Act.put, List.setIfInBounds_toArray, List.set_cons_zero, List.set_cons_succ]
                  refine wpL_b 11 ?_ rfl (Or.inl ⟨by rfl, fun w_ hS_ => ?_⟩) (marks 20 4095) ?_
                  rotate_left
                  next => (go_simp; try (first | rfl | exact (Bool.not_not _).symm))
                  intro bb_ hg11
                  cases bb_
                  case' true =>
                   (try simp only [decide_eq_true_eq, decide_eq_false_iff_not, beq_iff_eq, beq_eq_false_iff_ne, bne_iff_ne, bne_eq_false_iff_eq, Bool.not_eq_true', Bool.not_eq_false', Int.not_lt, Int.not_le] at hg11)
                   first | (cases hg11; done) | (exfalso; omega; done) | skip
                   all_goals
                    try replace hg11 := Sep.hid hg11
                    try simp only [Act.put, List.setIfInBounds_toArray, List.set_cons_zero, List.set_cons_succ]
                    refine wpL_q 12 ?_ rfl (Or.inl ⟨by rfl, fun w_ hS_ => ?_⟩) (marks 20 8191) ?_
                    rotate_left
                    next => (go_simp; try (first | rfl | exact (Bool.not_not _).symm))
                    try simp only [Act.put, List.setIfInBounds_toArray, List.set_cons_zero, List.set_cons_succ]
                    refine wpL_m 13 ?_ rfl (.tail _ (.head _)) (Or.inl ⟨by rfl, fun w_ hS_ => ?_⟩) (marks 20 16383) ?_
                    rotate_left
                    next => (subst hS_; go_simp; try (first | rfl | exact (Bool.not_not _).symm))
                    try simp only [Act.put, List.setIfInBounds_toArray, List.set_cons_zero, List.set_cons_succ]
                    refine wpL_q 14 ?_ rfl (Or.inl ⟨by rfl, fun w_ hS_ => ?_⟩) (marks 20 32767) ?_
                    rotate_left
                    next => (go_simp; try (first | rfl | exact (Bool.not_not _).symm))
                    try simp only [Act.put, List.setIfInBounds_toArray, List.set_cons_zero, List.set_cons_succ]
                    refine wpL_q 15 ?_ rfl (Or.inl ⟨by rfl, fun w_ hS_ => ?_⟩) (marks 20 65535) ?_
                    rotate_left
                    next => (go_simp; try (first | rfl | exact (Bool.not_not _).symm))
                    try simp only [Act.put, List.setIfInBounds_toArray, List.set_cons_zero, List.set_cons_succ]
                    refine wpL_m 16 ?_ rfl (.tail _ (.tail _ (.head _))) (Or.inl ⟨by rfl, fun w_ hS_ => ?_⟩) (marks 20 131071) ?_
                    rotate_left
                    next => (subst hS_; go_simp; try (first | rfl | exact (Bool.not_not _).symm))
                    try simp only [Act.put, List.setIfInBounds_toArray, List.set_cons_zero, List.set_cons_succ]
                    refine wpL_q 17 ?_ rfl (Or.inl ⟨by rfl, fun w_ hS_ => ?_⟩) (marks 20 262143) ?_
                    rotate_left
                    next => (go_simp; try (first | rfl | exact (Bool.not_not _).symm))
                    try simp only [Act.put, List.setIfInBounds_toArray, List.set_cons_zero, List.set_cons_succ]
                  case' false =>
                   (try simp only [decide_eq_true_eq, decide_eq_false_iff_not, beq_iff_eq, beq_eq_false_iff_ne, bne_iff_ne, bne_eq_false_iff_eq, Bool.not_eq_true', Bool.not_eq_false', Int.not_lt, Int.not_le] at hg11)
                   first | (cases hg11; done) | (exfalso; omega; done)
                  all_goals
                   refine wpL_q 18 ?_ rfl (Or.inl ⟨by rfl, fun w_ hS_ => ?_⟩) (marks 20 524287) ?_
                   rotate_left
                   next => (go_simp; try (first | rfl | exact (Bool.not_not _).symm))
                   try simp only [Act.put, List.setIfInBounds_toArray, List.set_cons_zero, List.set_cons_succ]
                all_goals
                 refine wpL_q 19 ?_ rfl (Or.inl ⟨by rfl, fun w_ hS_ => ?_⟩) (marks 20 1048575) ?_
                 rotate_left
                 next => (go_simp; try (first | rfl | exact (Bool.not_not _).symm))
                 try simp only [Act.put, List.setIfInBounds_toArray, List.set_cons_zero, List.set_cons_succ]
                 all_goals refine wpL_done (by kernel_rfl) ?_ _
                go_upto_region 35 with (refine wpList_on rfl (wp_sliceFrom (i := 2) (l := 1) rfl rfl rfl hw rfl (by simp) ?_); intro a3_ c3_ hw_; clear hw; have hw := hw_; clear hw_; (try simp only [List.map_cons, List.map_nil, List.getD_cons_zero, List.getD_cons_succ, List.getD_nil, List.set_cons_zero, List.set_cons_succ, List.cons_append, List.nil_append, Act.eval, Array.getD_eq_getD_getElem?, List.getElem?_toArray, List.getElem?_cons_succ, List.getElem?_cons_zero, Option.getD_some, Value.cells] at hw); (try simp (disch := first | (simp; done) | (simp; omega)) only [Sep.mid_set, Sep.mid_set2, Sep.mid_set0, Sep.mid_splice, Sep.mid_splice0, List.set_cons_zero, List.set_cons_succ] at hw); (try simp only [Sep.splice, List.take_succ_cons, List.take_zero, List.drop_succ_cons, List.drop_zero, List.length_cons, List.length_nil, Nat.reduceAdd, List.cons_append, List.nil_append] at hw); (try replace hc0 := Sep.Holds.cells hw (i := 0) rfl); (try replace hc1 := Sep.Holds.cells hw (i := 1) rfl); (try replace hc2 := Sep.Holds.cells hw (i := 2) rfl); (try replace hc3 := Sep.Holds.cells hw (i := 3) rfl); (try replace hc4 := Sep.Holds.cells hw (i := 4) rfl); (try replace hc5 := Sep.Holds.cells hw (i := 5) rfl); (try replace hc6 := Sep.Holds.cells hw (i := 6) rfl))
                clear hwr hwr2 gx
                go_wp2_with fail
                go_meet
                refine ⟨(by first | rfl | exact congrArg (Value.int .i64) Hwa.out), by rw [Hnew.out], ?_⟩
                rw [Hfi.out]
                exact hw.sel [0, 1, 2, 3] (by decide)
        · as_aux_lemma =>
            have hwr : IntKind.i64.wrap (M.act - 1) = 0 := by rw [hact]; decide
            have hactq : (M.act == 0) = false := by simp; omega
            clear hact
            rw [hcl] at hw ⊢
            clear hcl
            by_cases hf0 : M.fst = 0
            · have Hnew := Sep.hid (fin_fst M d.f2 hf0)
              have hq0 : (M.fst == 0) = true := by simpa using hf0
              by_cases hn : d.f2 = 0
              · have hfi : M.isFirst d.f2 = false := by simp [TM.isFirst, hn]
                have hq1 : (d.f2 != 0) = false := by simpa using hn
                have Hfi := Sep.hid hfi
                rw [hfi] at hw
                (try replace hc0 := Sep.Holds.cells hw (i := 0) rfl); (try replace hc1 := Sep.Holds.cells hw (i := 1) rfl); (try replace hc2 := Sep.Holds.cells hw (i := 2) rfl); (try replace hc3 := Sep.Holds.cells hw (i := 3) rfl); (try replace hc4 := Sep.Holds.cells hw (i := 4) rfl); (try replace hc5 := Sep.Holds.cells hw (i := 5) rfl); (try replace hc6 := Sep.Holds.cells hw (i := 6) rfl)
                clear hf0 hn hfi
                as_aux_lemma =>
                  go_wp2_with fail
                  refine wp_region_L [] [(1, (fun w' => w' = w_.drew)), (13, (fun w' => w' = w_.drew)), (16, (fun w' => w' = w_.drew))] (n := 20) (listed := (marks 20 0)) (by kernel_rfl) rfl (by kernel_rfl) ?conds4 ?_
                  case conds4 =>
                   intro c hc
                   simp only [List.mem_cons, List.not_mem_nil, or_false] at hc
                   rcases hc with rfl | rfl | rfl
                   · rfl
                   · rfl
                   · rfl
                  replace hw := hw.drew
                  (try replace hc0 := Sep.Holds.cells hw (i := 0) rfl); (try replace hc1 := Sep.Holds.cells hw (i := 1) rfl); (try replace hc2 := Sep.Holds.cells hw (i := 2) rfl); (try replace hc3 := Sep.Holds.cells hw (i := 3) rfl); (try replace hc4 := Sep.Holds.cells hw (i := 4) rfl); (try replace hc5 := Sep.Holds.cells hw (i := 5) rfl); (try replace hc6 := Sep.Holds.cells hw (i := 6) rfl)
                  refine wpL_q 0 ?_ rfl (Or.inl ⟨by rfl, fun w_ hS_ => ?_⟩) (marks 20 1) ?_
                  rotate_left
                  next => (go_simp; try (first | rfl | exact (Bool.not_not _).symm))
                  try simp only [Act.put, List.setIfInBounds_toArray, List.set_cons_zero, List.set_cons_succ]
                  refine wpL_m 1 ?_ rfl (.head _) (Or.inl ⟨by rfl, fun w_ hS_ => ?_⟩) (marks 20 3) ?_
                  rotate_left
                  next => (subst hS_; go_simp; try (first | rfl | exact (Bool.not_not _).symm))
                  try simp only [Act.put, List.setIfInBounds_toArray, List.set_cons_zero, List.set_cons_succ]
                  refine wpL_q 2 ?_ rfl (Or.inl ⟨by rfl, fun w_ hS_ => ?_⟩) (marks 20 7) ?_
                  rotate_left
                  next => (go_simp; try (first | rfl | exact (Bool.not_not _).symm))
                  try simp only [Act.put, List.setIfInBounds_toArray, List.set_cons_zero, List.set_cons_succ]
                  refine wpL_q 3 ?_ rfl (Or.inl ⟨by rfl, fun w_ hS_ => ?_⟩) (marks 20 15) ?_
                  rotate_left
                  next => (go_simp; try (first | rfl | exact (Bool.not_not _).symm))
                  try simp only [Act.put, List.setIfInBounds_toArray, List.set_cons_zero, List.set_cons_succ]
                  refine wpL_q 4 ?_ rfl (Or.inl ⟨by rfl, fun w_ hS_ => ?_⟩) (marks 20 31) ?_
                  rotate_left
                  next => (go_simp; try (first | rfl | exact (Bool.not_not _).symm))
                  try simp only [Act.put, List.setIfInBounds_toArray, List.set_cons_zero, List.set_cons_succ]
                  refine wpL_q 5 ?_ rfl (Or.inl ⟨by rfl, fun w_ hS_ => ?_⟩) (marks 20 63) ?_
                  rotate_left
                  next => (go_simp; try (first | rfl | exact (Bool.not_not _).symm))
                  try simp only [Act.put, List.setIfInBounds_toArray, List.set_cons_zero, List.set_cons_succ]
                  refine wpL_q 6 ?_ rfl (Or.inl ⟨by rfl, fun w_ hS_ => ?_⟩) (marks 20 127) ?_
                  rotate_left
                  next => (go_simp; try (first | rfl | exact (Bool.not_not _).symm))
                  try simp only [Act.put, List.setIfInBounds_toArray, List.set_cons_zero, List.set_cons_succ]
                  refine wpL_b 7 ?_ rfl (Or.inl ⟨by rfl, fun w_ hS_ => ?_⟩) (marks 20 255) ?_
                  rotate_left
                  next => (go_simp; try (first | rfl | exact (Bool.not_not _).symm))
                  intro bb_ hg7
                  cases bb_
                  case' true =>
                   (try simp only [decide_eq_true_eq, decide_eq_false_iff_not, beq_iff_eq, beq_eq_false_iff_ne, bne_iff_ne, bne_eq_false_iff_eq, Bool.not_eq_true', Bool.not_eq_false', Int.not_lt, Int.not_le] at hg7)
                   first | (cases hg7; done) | (exfalso; omega; done)
                  case' false =>
                   (try simp only [decide_eq_true_eq, decide_eq_false_iff_not, beq_iff_eq, beq_eq_false_iff_ne, bne_iff_ne, bne_eq_false_iff_eq, Bool.not_eq_true', Bool.not_eq_false', Int.not_lt, Int.not_le] at hg7)
                   first | (cases hg7; done) | (exfalso; omega; done) | skip
                   all_goals
                    try replace hg7 := Sep.hid hg7
                    try simp only [Act.put, List.setIfInBounds_toArray, List.set_cons_zero, List.set_cons_succ]
                    refine wpL_q 8 ?_ rfl (Or.inl ⟨by rfl, fun w_ hS_ => ?_⟩) (marks 20 511) ?_
                    rotate_left
                    next => (go_simp; try (first | rfl | exact (Bool.not_not _).symm))
                    try simp only [Act.put, List.setIfInBounds_toArray, List.set_cons_zero, List.set_cons_succ]
                    refine wpL_q 9 ?_ rfl (Or.inl ⟨by rfl, fun w_ hS_ => ?_⟩) (marks 20 1023) ?_
                    rotate_left
                    next => (go_simp; try (first | rfl | exact (Bool.not_not _).symm))
                    try simp only [Act.put, List.setIfInBounds_toArray, List.set_cons_zero, List.set_cons_succ]
                    refine wpL_q 10 ?_ rfl (Or.inl ⟨by rfl, fun w_ hS_ => ?_⟩) (marks 20 2047) ?_
                    rotate_left
                    next => (go_simp; try (first | rfl | exact (Bool.not_not _).symm))
                    try simp only [Act.put, List.setIfInBounds_toArray, List.set_cons_zero, List.set_cons_succ]
                    refine wpL_b 11 ?_ rfl (Or.inl ⟨by rfl, fun w_ hS_ => ?_⟩) (marks 20 4095) ?_
                    rotate_left
                    next => (go_simp; try (first | rfl | exact (Bool.not_not _).symm))
                    intro bb_ hg11
                    cases bb_
                    case' true =>
                     (try simp only [decide_eq_true_eq, decide_eq_false_iff_not, beq_iff_eq, beq_eq_false_iff_ne, bne_iff_ne, bne_eq_false_iff_eq, Bool.not_eq_true', Bool.not_eq_false', Int.not_lt, Int.not_le] at hg11)
                     first | (cases hg11; done) | (exfalso; omega; done)
                    case' false =>
                     (try simp only [decide_eq_true_eq, decide_eq_false_iff_not, beq_iff_eq, beq_eq_false_iff_ne, bne_iff_ne, bne_eq_false_iff_eq, Bool.not_eq_true', Bool.not_eq_false', Int.not_lt, Int.not_le] at hg11)
                     first | (cases hg11; done) | (exfalso; omega; done) | skip
                     all_goals
                      try replace hg11 := Sep.hid hg11
                      try simp only [Act.put, List.setIfInBounds_toArray, List.set_cons_zero, List.set_cons_succ]
                      refine wpL_q 12 undef rfl (Or.inr ⟨by rfl, rfl⟩) (marks 20 8191) ?_
                      try simp only [Act.put, List.setIfInBounds_toArray, List.set_cons_zero, List.set_cons_succ]
                      refine wpL_m 13 undef rfl (.tail _ (.head _)) (Or.inr ⟨by rfl, rfl⟩) (marks 20 16383) ?_
                      try simp only [Act.put, List.setIfInBounds_toArray, List.set_cons_zero, List.set_cons_succ]
                      refine wpL_q 14 undef rfl (Or.inr ⟨by rfl, rfl⟩) (marks 20 32767) ?_
                      try simp only [Act.put, List.setIfInBounds_toArray, List.set_cons_zero, List.set_cons_succ]
                      refine wpL_q 15 undef rfl (Or.inr ⟨by rfl, rfl⟩) (marks 20 65535) ?_
                      try simp only [Act.put, List.setIfInBounds_toArray, List.set_cons_zero, List.set_cons_succ]
                      refine wpL_m 16 undef rfl (.tail _ (.tail _ (.head _))) (Or.inr ⟨by rfl, rfl⟩) (marks 20 131071) ?_
                      try simp only [Act.put, List.setIfInBounds_toArray, List.set_cons_zero, List.set_cons_succ]
                      refine wpL_q 17 undef rfl (Or.inr ⟨by rfl, rfl⟩) (marks 20 262143) ?_
                      try simp only [Act.put, List.setIfInBounds_toArray, List.set_cons_zero, List.set_cons_succ]
                    all_goals
                     refine wpL_q 18 ?_ rfl (Or.inl ⟨by rfl, fun w_ hS_ => ?_⟩) (marks 20 524287) ?_
                     rotate_left
                     next => (go_simp; try (first | rfl | exact (Bool.not_not _).symm))
                     try simp only [Act.put, List.setIfInBounds_toArray, List.set_cons_zero, List.set_cons_succ]
                  all_goals
                   refine wpL_q 19 ?_ rfl (Or.inl ⟨by rfl, fun w_ hS_ => ?_⟩) (marks 20 1048575) ?_
                   rotate_left
                   next => (go_simp; try (first | rfl | exact (Bool.not_not _).symm))
                   try simp only [Act.put, List.setIfInBounds_toArray, List.set_cons_zero, List.set_cons_succ]
                   all_goals refine wpL_done (by kernel_rfl) ?_ _
                  go_wp2_with fail
                  refine (same_calls _ _ M.w M.w (by have := Hlm.out.2; (try simp only at this ⊢); omega) e _ _ (hw.focus2 5 3 rfl rfl (by decide))).mono ?_
                  rintro en_ w_ ⟨he_, hw_⟩
                  rw [decide_eq_true rfl] at he_; subst he_
                  clear hw; (try clear hc0); (try clear hc1); (try clear hc2); (try clear hc3); (try clear hc4); (try clear hc5); (try clear hc6); have hw := Holds.unfocus2 5 3 (by simp) (by simp) (by decide) hw_; clear hw_
                  (try simp only [List.map_cons, List.map_nil, List.getD_cons_zero, List.getD_cons_succ, List.getD_nil, List.set_cons_zero, List.set_cons_succ, List.cons_append, List.nil_append, Act.eval, Array.getD_eq_getD_getElem?, List.getElem?_toArray, List.getElem?_cons_succ, List.getElem?_cons_zero, Option.getD_some, Value.cells] at hw); (try simp (disch := first | (simp; done) | (simp; omega)) only [Sep.mid_set, Sep.mid_set2, Sep.mid_set0, Sep.mid_splice, Sep.mid_splice0, List.set_cons_zero, List.set_cons_succ] at hw); (try simp only [Sep.splice, List.take_succ_cons, List.take_zero, List.drop_succ_cons, List.drop_zero, List.length_cons, List.length_nil, Nat.reduceAdd, List.cons_append, List.nil_append] at hw)
                  dsimp only
                  replace hw := hw.addEmp (X := IsInts (.slice none 0 0) []) (Sl.nil _ _ _)
                  (try simp only [List.map_cons, List.map_nil, List.getD_cons_zero, List.getD_cons_succ, List.getD_nil, List.set_cons_zero, List.set_cons_succ, List.cons_append, List.nil_append, Act.eval, Array.getD_eq_getD_getElem?, List.getElem?_toArray, List.getElem?_cons_succ, List.getElem?_cons_zero, Option.getD_some, Value.cells] at hw); (try simp (disch := first | (simp; done) | (simp; omega)) only [Sep.mid_set, Sep.mid_set2, Sep.mid_set0, Sep.mid_splice, Sep.mid_splice0, List.set_cons_zero, List.set_cons_succ] at hw); (try simp only [Sep.splice, List.take_succ_cons, List.take_zero, List.drop_succ_cons, List.drop_zero, List.length_cons, List.length_nil, Nat.reduceAdd, List.cons_append, List.nil_append] at hw)
                  (try replace hc0 := Sep.Holds.cells hw (i := 0) rfl); (try replace hc1 := Sep.Holds.cells hw (i := 1) rfl); (try replace hc2 := Sep.Holds.cells hw (i := 2) rfl); (try replace hc3 := Sep.Holds.cells hw (i := 3) rfl); (try replace hc4 := Sep.Holds.cells hw (i := 4) rfl); (try replace hc5 := Sep.Holds.cells hw (i := 5) rfl); (try replace hc6 := Sep.Holds.cells hw (i := 6) rfl)
                  go_wp2_with fail
                  go_meet
                  refine ⟨rfl, by rw [Hnew.out], ?_⟩
                  rw [Hfi.out]
                  exact hw.sel [0, 1, 2, 7] (by decide)
              · have hfi : M.isFirst d.f2 = true := by simp [TM.isFirst, hn, hf0]
                have hq1 : (d.f2 != 0) = true := by simpa using hn
                have Hfi := Sep.hid hfi
                rw [hfi] at hw
                (try replace hc0 := Sep.Holds.cells hw (i := 0) rfl); (try replace hc1 := Sep.Holds.cells hw (i := 1) rfl); (try replace hc2 := Sep.Holds.cells hw (i := 2) rfl); (try replace hc3 := Sep.Holds.cells hw (i := 3) rfl); (try replace hc4 := Sep.Holds.cells hw (i := 4) rfl); (try replace hc5 := Sep.Holds.cells hw (i := 5) rfl); (try replace hc6 := Sep.Holds.cells hw (i := 6) rfl)
                clear hf0 hn hfi
                as_aux_lemma =>
                  go_wp2_with fail
                  refine wp_region_L [] [(1, (fun w' => w' = w_.drew)), (13, (fun w' => w' = w_.drew)), (16, (fun w' => w' = w_.drew))] (n := 20) (listed := (marks 20 0)) (by kernel_rfl) rfl (by kernel_rfl) ?conds5 ?_
                  case conds5 =>
                   intro c hc
                   simp only [List.mem_cons, List.not_mem_nil, or_false] at hc
                   rcases hc with rfl | rfl | rfl
                   · rfl
                   · rfl
                   · rfl
                  replace hw := hw.drew
                  (try replace hc0 := Sep.Holds.cells hw (i := 0) rfl); (try replace hc1 := Sep.Holds.cells hw (i := 1) rfl); (try replace hc2 := Sep.Holds.cells hw (i := 2) rfl); (try replace hc3 := Sep.Holds.cells hw (i := 3) rfl); (try replace hc4 := Sep.Holds.cells hw (i := 4) rfl); (try replace hc5 := Sep.Holds.cells hw (i := 5) rfl); (try replace hc6 := Sep.Holds.cells hw (i := 6) rfl)
                  refine wpL_q 0 ?_ rfl (Or.inl ⟨by rfl, fun w_ hS_ => ?_⟩) (marks 20 1) ?_
                  rotate_left
                  next => (go_simp; try (first | rfl | exact (Bool.not_not _).symm))
                  try simp only [Act.put, List.setIfInBounds_toArray, List.set_cons_zero, List.set_cons_succ]
                  refine wpL_m 1 ?_ rfl (.head _) (Or.inl ⟨by rfl, fun w_ hS_ => ?_⟩) (marks 20 3) ?_
                  rotate_left
                  next => (subst hS_; go_simp; try (first | rfl | exact (Bool.not_not _).symm))
                  try simp only [Act.put, List.setIfInBounds_toArray, List.set_cons_zero, List.set_cons_succ]
                  refine wpL_q 2 ?_ rfl (Or.inl ⟨by rfl, fun w_ hS_ => ?_⟩) (marks 20 7) ?_
                  rotate_left
                  next => (go_simp; try (first | rfl | exact (Bool.not_not _).symm))
                  try simp only [Act.put, List.setIfInBounds_toArray, List.set_cons_zero, List.set_cons_succ]
                  refine wpL_q 3 ?_ rfl (Or.inl ⟨by rfl, fun w_ hS_ => ?_⟩) (marks 20 15) ?_
                  rotate_left
                  next => (go_simp; try (first | rfl | exact (Bool.not_not _).symm))
                  try simp only [Act.put, List.setIfInBounds_toArray, List.set_cons_zero, List.set_cons_succ]
                  refine wpL_q 4 ?_ rfl (Or.inl ⟨by rfl, fun w_ hS_ => ?_⟩) (marks 20 31) ?_
                  rotate_left
                  next => (go_simp; try (first | rfl | exact (Bool.not_not _).symm))
                  try simp only [Act.put, List.setIfInBounds_toArray, List.set_cons_zero, List.set_cons_succ]
                  refine wpL_q 5 ?_ rfl (Or.inl ⟨by rfl, fun w_ hS_ => ?_⟩) (marks 20 63) ?_
                  rotate_left
                  next => (go_simp; try (first | rfl | exact (Bool.not_not _).symm))
                  try simp only [Act.put, List.setIfInBounds_toArray, List.set_cons_zero, List.set_cons_succ]
                  refine wpL_q 6 ?_ rfl (Or.inl ⟨by rfl, fun w_ hS_ => ?_⟩) (marks 20 127) ?_
                  rotate_left
                  next => (go_simp; try (first | rfl | exact (Bool.not_not _).symm))
                  try simp only [Act.put, List.setIfInBounds_toArray, List.set_cons_zero, List.set_cons_succ]
                  refine wpL_b 7 ?_ rfl (Or.inl ⟨by rfl, fun w_ hS_ => ?_⟩) (marks 20 255) ?_
                  rotate_left
                  next => (go_simp; try (first | rfl | exact (Bool.not_not _).symm))
                  intro bb_ hg7
                  cases bb_
                  case' true =>
                   (try simp only [decide_eq_true_eq, decide_eq_false_iff_not, beq_iff_eq, beq_eq_false_iff_ne, bne_iff_ne, bne_eq_false_iff_eq, Bool.not_eq_true', Bool.not_eq_false', Int.not_lt, Int.not_le] at hg7)
                   first | (cases hg7; done) | (exfalso; omega; done)
                  case' false =>
                   (try simp only [decide_eq_true_eq, decide_eq_false_iff_not, beq_iff_eq, beq_eq_false_iff_ne, bne_iff_ne, bne_eq_false_iff_eq, Bool.not_eq_true', Bool.not_eq_false', Int.not_lt, Int.not_le] at hg7)
                   first | (cases hg7; done) | (exfalso; omega; done) | skip
                   all_goals
                    try replace hg7 := Sep.hid hg7
                    try simp only [Act.put, List.setIfInBounds_toArray, List.set_cons_zero, List.set_cons_succ]
                    refine wpL_q 8 ?_ rfl (Or.inl ⟨by rfl, fun w_ hS_ => ?_⟩) (marks 20 511) ?_
                    rotate_left
                    next => (go_simp; try (first | rfl | exact (Bool.not_not _).symm))
                    try simp only [Act.put, List.setIfInBounds_toArray, List.set_cons_zero, List.set_cons_succ]
                    refine wpL_q 9 ?_ rfl (Or.inl ⟨by rfl, fun w_ hS_ => ?_⟩) (marks 20 1023) ?_
                    rotate_left
                    next => (go_simp; try (first | rfl | exact (Bool.not_not _).symm))
                    try simp only [Act.put, List.setIfInBounds_toArray, List.set_cons_zero, List.set_cons_succ]
                    refine wpL_q 10 ?_ rfl (Or.inl ⟨by rfl, fun w_ hS_ => ?_⟩) (marks 20 2047) ?_
                    rotate_left
                    next => (go_simp; try (first | rfl | exact (Bool.not_not _).symm))
                    try simp only [Act.put, List.setIfInBounds_toArray, List.set_cons_zero, List.set_cons_succ]
                    refine wpL_b 11 ?_ rfl (Or.inl ⟨by rfl, fun w_ hS_ => ?_⟩) (marks 20 4095) ?_
                    rotate_left
                    next => (go_simp; try (first | rfl | exact (Bool.not_not _).symm))
                    intro bb_ hg11
                    cases bb_
                    case' true =>
                     (try simp only [decide_eq_true_eq, decide_eq_false_iff_not, beq_iff_eq, beq_eq_false_iff_ne, bne_iff_ne, bne_eq_false_iff_eq, Bool.not_eq_true', Bool.not_eq_false', Int.not_lt, Int.not_le] at hg11)
                     first | (cases hg11; done) | (exfalso; omega; done)
                    case' false =>
                     (try simp only [decide_eq_true_eq, decide_eq_false_iff_not, beq_iff_eq, beq_eq_false_iff_ne, bne_iff_ne, bne_eq_false_iff_eq, Bool.not_eq_true', Bool.not_eq_false', Int.not_lt, Int.not_le] at hg11)
                     first | (cases hg11; done) | (exfalso; omega; done) | skip
                     all_goals
                      try replace hg11 := Sep.hid hg11
                      try simp only [Act.put, List.setIfInBounds_toArray, List.set_cons_zero, List.set_cons_succ]
                      refine wpL_q 12 undef rfl (Or.inr ⟨by rfl, rfl⟩) (marks 20 8191) ?_
                      try simp only [Act.put, List.setIfInBounds_toArray, List.set_cons_zero, List.set_cons_succ]
                      refine wpL_m 13 undef rfl (.tail _ (.head _)) (Or.inr ⟨by rfl, rfl⟩) (marks 20 16383) ?_
                      try simp only [Act.put, List.setIfInBounds_toArray, List.set_cons_zero, List.set_cons_succ]
                      refine wpL_q 14 undef rfl (Or.inr ⟨by rfl, rfl⟩) (marks 20 32767) ?_
                      try simp only [Act.put, List.setIfInBounds_toArray, List.set_cons_zero, List.set_cons_succ]
                      refine wpL_q 15 undef rfl (Or.inr ⟨by rfl, rfl⟩) (marks 20 65535) ?_
                      try simp only [Act.put, List.setIfInBounds_toArray, List.set_cons_zero, List.set_cons_succ]
                      refine wpL_m 16 undef rfl (.tail _ (.tail _ (.head _))) (Or.inr ⟨by rfl, rfl⟩) (marks 20 131071) ?_
                      try simp only [Act.put, List.setIfInBounds_toArray, List.set_cons_zero, List.set_cons_succ]
                      refine wpL_q 17 undef rfl (Or.inr ⟨by rfl, rfl⟩) (marks 20 262143) ?_
                      try simp only [Act.put, List.setIfInBounds_toArray, List.set_cons_zero, List.set_cons_succ]
                    all_goals
                     refine wpL_q 18 ?_ rfl (Or.inl ⟨by rfl, fun w_ hS_ => ?_⟩) (marks 20 524287) ?_
                     rotate_left
                     next => (go_simp; try (first | rfl | exact (Bool.not_not _).symm))
                     try simp only [Act.put, List.setIfInBounds_toArray, List.set_cons_zero, List.set_cons_succ]
                  all_goals
                   refine wpL_q 19 ?_ rfl (Or.inl ⟨by rfl, fun w_ hS_ => ?_⟩) (marks 20 1048575) ?_
                   rotate_left
                   next => (go_simp; try (first | rfl | exact (Bool.not_not _).symm))
                   try simp only [Act.put, List.setIfInBounds_toArray, List.set_cons_zero, List.set_cons_succ]
                   all_goals refine wpL_done (by kernel_rfl) ?_ _
                  go_wp2_with fail
                  refine (same_calls _ _ M.w M.w (by have := Hlm.out.2; (try simp only at this ⊢); omega) e _ _ (hw.focus2 5 3 rfl rfl (by decide))).mono ?_
                  rintro en_ w_ ⟨he_, hw_⟩
                  rw [decide_eq_true rfl] at he_; subst he_
                  clear hw; (try clear hc0); (try clear hc1); (try clear hc2); (try clear hc3); (try clear hc4); (try clear hc5); (try clear hc6); have hw := Holds.unfocus2 5 3 (by simp) (by simp) (by decide) hw_; clear hw_
                  (try simp only [List.map_cons, List.map_nil, List.getD_cons_zero, List.getD_cons_succ, List.getD_nil, List.set_cons_zero, List.set_cons_succ, List.cons_append, List.nil_append, Act.eval, Array.getD_eq_getD_getElem?, List.getElem?_toArray, List.getElem?_cons_succ, List.getElem?_cons_zero, Option.getD_some, Value.cells] at hw); (try simp (disch := first | (simp; done) | (simp; omega)) only [Sep.mid_set, Sep.mid_set2, Sep.mid_set0, Sep.mid_splice, Sep.mid_splice0, List.set_cons_zero, List.set_cons_succ] at hw); (try simp only [Sep.splice, List.take_succ_cons, List.take_zero, List.drop_succ_cons, List.drop_zero, List.length_cons, List.length_nil, Nat.reduceAdd, List.cons_append, List.nil_append] at hw)
                  dsimp only
                  replace hw := hw.addEmp (X := IsInts (.slice none 0 0) []) (Sl.nil _ _ _)
                  (try simp only [List.map_cons, List.map_nil, List.getD_cons_zero, List.getD_cons_succ, List.getD_nil, List.set_cons_zero, List.set_cons_succ, List.cons_append, List.nil_append, Act.eval, Array.getD_eq_getD_getElem?, List.getElem?_toArray, List.getElem?_cons_succ, List.getElem?_cons_zero, Option.getD_some, Value.cells] at hw); (try simp (disch := first | (simp; done) | (simp; omega)) only [Sep.mid_set, Sep.mid_set2, Sep.mid_set0, Sep.mid_splice, Sep.mid_splice0, List.set_cons_zero, List.set_cons_succ] at hw); (try simp only [Sep.splice, List.take_succ_cons, List.take_zero, List.drop_succ_cons, List.drop_zero, List.length_cons, List.length_nil, Nat.reduceAdd, List.cons_append, List.nil_append] at hw)
                  (try replace hc0 := Sep.Holds.cells hw (i := 0) rfl); (try replace hc1 := Sep.Holds.cells hw (i := 1) rfl); (try replace hc2 := Sep.Holds.cells hw (i := 2) rfl); (try replace hc3 := Sep.Holds.cells hw (i := 3) rfl); (try replace hc4 := Sep.Holds.cells hw (i := 4) rfl); (try replace hc5 := Sep.Holds.cells hw (i := 5) rfl); (try replace hc6 := Sep.Holds.cells hw (i := 6) rfl)
                  go_wp2_with fail
                  go_meet
                  refine ⟨rfl, by rw [Hnew.out], ?_⟩
                  rw [Hfi.out]
                  exact hw.sel [0, 1, 2, 7] (by decide)
            · have Hnew := Sep.hid (fin_fst' M d.f2 hf0)
              have hq0 : (M.fst == 0) = false := by simpa using hf0
              have hfi : M.isFirst d.f2 = false := by simp [TM.isFirst, hf0]
              have Hfi := Sep.hid hfi
              rw [hfi] at hw
              (try replace hc0 := Sep.Holds.cells hw (i := 0) rfl); (try replace hc1 := Sep.Holds.cells hw (i := 1) rfl); (try replace hc2 := Sep.Holds.cells hw (i := 2) rfl); (try replace hc3 := Sep.Holds.cells hw (i := 3) rfl); (try replace hc4 := Sep.Holds.cells hw (i := 4) rfl); (try replace hc5 := Sep.Holds.cells hw (i := 5) rfl); (try replace hc6 := Sep.Holds.cells hw (i := 6) rfl)
              clear hf0 hfi
              as_aux_lemma =>
                go_wp2_with fail
                refine wp_region_L [] [(1, (fun w' => w' = w_.drew)), (13, (fun w' => w' = w_.drew)), (16, (fun w' => w' = w_.drew))] (n := 20) (listed := (marks 20 0)) (by kernel_rfl) rfl (by kernel_rfl) ?conds6 ?_
                case conds6 =>
                 intro c hc
                 simp only [List.mem_cons, List.not_mem_nil, or_false] at hc
                 rcases hc with rfl | rfl | rfl
                 · rfl
                 · rfl
                 · rfl
                replace hw := hw.drew
                (try replace hc0 := Sep.Holds.cells hw (i := 0) rfl); (try replace hc1 := Sep.Holds.cells hw (i := 1) rfl); (try replace hc2 := Sep.Holds.cells hw (i := 2) rfl); (try replace hc3 := Sep.Holds.cells hw (i := 3) rfl); (try replace hc4 := Sep.Holds.cells hw (i := 4) rfl); (try replace hc5 := Sep.Holds.cells hw (i := 5) rfl); (try replace hc6 := Sep.Holds.cells hw (i := 6) rfl)
                refine wpL_q 0 ?_ rfl (Or.inl ⟨by rfl, fun w_ hS_ => ?_⟩) (marks 20 1) ?_
                rotate_left
                next => (go_simp; try (first | rfl | exact (Bool.not_not _).symm))
                try simp only [Act.put, List.setIfInBounds_toArray, List.set_cons_zero, List.set_cons_succ]
                refine wpL_m 1 ?_ rfl (.head _) (Or.inl ⟨by rfl, fun w_ hS_ => ?_⟩) (marks 20 3) ?_
                rotate_left
                next => (subst hS_; go_simp; try (first | rfl | exact (Bool.not_not _).symm))
                try simp only [Act.put, List.setIfInBounds_toArray, List.set_cons_zero, List.set_cons_succ]
                refine wpL_q 2 ?_ rfl (Or.inl ⟨by rfl, fun w_ hS_ => ?_⟩) (marks 20 7) ?_
                rotate_left
                next => (go_simp; try (first | rfl | exact (Bool.not_not _).symm))
                try simp only [Act.put, List.setIfInBounds_toArray, List.set_cons_zero, List.set_cons_succ]
                refine wpL_q 3 ?_ rfl (Or.inl ⟨by rfl, fun w_ hS_ => ?_⟩) (marks 20 15) ?_
                rotate_left
                next => (go_simp; try (first | rfl | exact (Bool.not_not _).symm))
                try simp only [Act.put, List.setIfInBounds_toArray, List.set_cons_zero, List.set_cons_succ]
                refine wpL_q 4 ?_ rfl (Or.inl ⟨by rfl, fun w_ hS_ => ?_⟩) (marks 20 31) ?_
                rotate_left
                next => (go_simp; try (first | rfl | exact (Bool.not_not _).symm))
                try simp only [Act.put, List.setIfInBounds_toArray, List.set_cons_zero, List.set_cons_succ]
                refine wpL_q 5 ?_ rfl (Or.inl ⟨by rfl, fun w_ hS_ => ?_⟩) (marks 20 63) ?_
                rotate_left
                next => (go_simp; try (first | rfl | exact (Bool.not_not _).symm))
                try simp only [Act.put, List.setIfInBounds_toArray, List.set_cons_zero, List.set_cons_succ]
                refine wpL_q 6 ?_ rfl (Or.inl ⟨by rfl, fun w_ hS_ => ?_⟩) (marks 20 127) ?_
                rotate_left
                next => (go_simp; try (first | rfl | exact (Bool.not_not _).symm))
                try simp only [Act.put, List.setIfInBounds_toArray, List.set_cons_zero, List.set_cons_succ]
                refine wpL_b 7 ?_ rfl (Or.inl ⟨by rfl, fun w_ hS_ => ?_⟩) (marks 20 255) ?_
                rotate_left
                next => (go_simp; try (first | rfl | exact (Bool.not_not _).symm))
                intro bb_ hg7
                cases bb_
                case' true =>
                 (try simp only [decide_eq_true_eq, decide_eq_false_iff_not, beq_iff_eq, beq_eq_false_iff_ne, bne_iff_ne, bne_eq_false_iff_eq, Bool.not_eq_true', Bool.not_eq_false', Int.not_lt, Int.not_le] at hg7)
                 first | (cases hg7; done) | (exfalso; omega; done)
                case' false =>
                 (try simp only [decide_eq_true_eq, decide_eq_false_iff_not, beq_iff_eq, beq_eq_false_iff_ne, bne_iff_ne, bne_eq_false_iff_eq, Bool.not_eq_true', Bool.not_eq_false', Int.not_lt, Int.not_le] at hg7)
                 first | (cases hg7; done) | (exfalso; omega; done) | skip
                 all_goals
                  try replace hg7 := Sep.hid hg7
                  try simp only [Act.put, List.setIfInBounds_toArray, List.set_cons_zero, List.set_cons_succ]
                  refine wpL_q 8 ?_ rfl (Or.inl ⟨by rfl, fun w_ hS_ => ?_⟩) (marks 20 511) ?_
                  rotate_left
                  next => (go_simp; try (first | rfl | exact (Bool.not_not _).symm))
                  try simp only [Act.put, List.setIfInBounds_toArray, List.set_cons_zero, List.set_cons_succ]
                  refine wpL_q 9 ?_ rfl (Or.inl ⟨by rfl, fun w_ hS_ => ?_⟩) (marks 20 1023) ?_
                  rotate_left
                  next => (go_simp; try (first | rfl | exact (Bool.not_not _).symm))
                  try simp only [Act.put, List.setIfInBounds_toArray, List.set_cons_zero, List.set_cons_succ]
                  refine wpL_q 10 ?_ rfl (Or.inl ⟨by rfl, fun w_ hS_ => ?_⟩) (marks 20 2047) ?_
                  rotate_left
                  next => (go_simp; try (first | rfl | exact (Bool.not_not _).symm))
                  try simp only [Act.put, List.setIfInBounds_toArray, List.set_cons_zero, List.set_cons_succ]
                  refine wpL_b 11 ?_ rfl (Or.inl ⟨by rfl, fun w_ hS_ => ?_⟩) (marks 20 4095) ?_
                  rotate_left
                  next => (go_simp; try (first | rfl | exact (Bool.not_not _).symm))
                  intro bb_ hg11
                  cases bb_
                  case' true =>
                   (try simp only [decide_eq_true_eq, decide_eq_false_iff_not, beq_iff_eq, beq_eq_false_iff_ne, bne_iff_ne, bne_eq_false_iff_eq, Bool.not_eq_true', Bool.not_eq_false', Int.not_lt, Int.not_le] at hg11)
                   first | (cases hg11; done) | (exfalso; omega; done)
                  case' false =>
                   (try simp only [decide_eq_true_eq, decide_eq_false_iff_not, beq_iff_eq, beq_eq_false_iff_ne, bne_iff_ne, bne_eq_false_iff_eq, Bool.not_eq_true', Bool.not_eq_false', Int.not_lt, Int.not_le] at hg11)
                   first | (cases hg11; done) | (exfalso; omega; done) | skip
                   all_goals
                    try replace hg11 := Sep.hid hg11
                    try simp only [Act.put, List.setIfInBounds_toArray, List.set_cons_zero, List.set_cons_succ]
                    refine wpL_q 12 undef rfl (Or.inr ⟨by rfl, rfl⟩) (marks 20 8191) ?_
                    try simp only [Act.put, List.setIfInBounds_toArray, List.set_cons_zero, List.set_cons_succ]
                    refine wpL_m 13 undef rfl (.tail _ (.head _)) (Or.inr ⟨by rfl, rfl⟩) (marks 20 16383) ?_
                    try simp only [Act.put, List.setIfInBounds_toArray, List.set_cons_zero, List.set_cons_succ]
                    refine wpL_q 14 undef rfl (Or.inr ⟨by rfl, rfl⟩) (marks 20 32767) ?_
                    try simp only [Act.put, List.setIfInBounds_toArray, List.set_cons_zero, List.set_cons_succ]
                    refine wpL_q 15 undef rfl (Or.inr ⟨by rfl, rfl⟩) (marks 20 65535) ?_
                    try simp only [Act.put, List.setIfInBounds_toArray, List.set_cons_zero, List.set_cons_succ]
                    refine wpL_m 16 undef rfl (.tail _ (.tail _ (.head _))) (Or.inr ⟨by rfl, rfl⟩) (marks 20 131071) ?_
                    try simp only [Act.put, List.setIfInBounds_toArray, List.set_cons_zero, List.set_cons_succ]
                    refine wpL_q 17 undef rfl (Or.inr ⟨by rfl, rfl⟩) (marks 20 262143) ?_
                    try simp only [Act.put, List.setIfInBounds_toArray, List.set_cons_zero, List.set_cons_succ]
                  all_goals
                   refine wpL_q 18 ?_ rfl (Or.inl ⟨by rfl, fun w_ hS_ => ?_⟩) (marks 20 524287) ?_
                   rotate_left
                   next => (go_simp; try (first | rfl | exact (Bool.not_not _).symm))
                   try simp only [Act.put, List.setIfInBounds_toArray, List.set_cons_zero, List.set_cons_succ]
                all_goals
                 refine wpL_q 19 ?_ rfl (Or.inl ⟨by rfl, fun w_ hS_ => ?_⟩) (marks 20 1048575) ?_
                 rotate_left
                 next => (go_simp; try (first | rfl | exact (Bool.not_not _).symm))
                 try simp only [Act.put, List.setIfInBounds_toArray, List.set_cons_zero, List.set_cons_succ]
                 all_goals refine wpL_done (by kernel_rfl) ?_ _
                go_wp2_with fail
                refine (same_calls _ _ M.w M.w (by have := Hlm.out.2; (try simp only at this ⊢); omega) e _ _ (hw.focus2 5 3 rfl rfl (by decide))).mono ?_
                rintro en_ w_ ⟨he_, hw_⟩
                rw [decide_eq_true rfl] at he_; subst he_
                clear hw; (try clear hc0); (try clear hc1); (try clear hc2); (try clear hc3); (try clear hc4); (try clear hc5); (try clear hc6); have hw := Holds.unfocus2 5 3 (by simp) (by simp) (by decide) hw_; clear hw_
                (try simp only [List.map_cons, List.map_nil, List.getD_cons_zero, List.getD_cons_succ, List.getD_nil, List.set_cons_zero, List.set_cons_succ, List.cons_append, List.nil_append, Act.eval, Array.getD_eq_getD_getElem?, List.getElem?_toArray, List.getElem?_cons_succ, List.getElem?_cons_zero, Option.getD_some, Value.cells] at hw); (try simp (disch := first | (simp; done) | (simp; omega)) only [Sep.mid_set, Sep.mid_set2, Sep.mid_set0, Sep.mid_splice, Sep.mid_splice0, List.set_cons_zero, List.set_cons_succ] at hw); (try simp only [Sep.splice, List.take_succ_cons, List.take_zero, List.drop_succ_cons, List.drop_zero, List.length_cons, List.length_nil, Nat.reduceAdd, List.cons_append, List.nil_append] at hw)
                dsimp only
                replace hw := hw.addEmp (X := IsInts (.slice none 0 0) []) (Sl.nil _ _ _)
                (try simp only [List.map_cons, List.map_nil, List.getD_cons_zero, List.getD_cons_succ, List.getD_nil, List.set_cons_zero, List.set_cons_succ, List.cons_append, List.nil_append, Act.eval, Array.getD_eq_getD_getElem?, List.getElem?_toArray, List.getElem?_cons_succ, List.getElem?_cons_zero, Option.getD_some, Value.cells] at hw); (try simp (disch := first | (simp; done) | (simp; omega)) only [Sep.mid_set, Sep.mid_set2, Sep.mid_set0, Sep.mid_splice, Sep.mid_splice0, List.set_cons_zero, List.set_cons_succ] at hw); (try simp only [Sep.splice, List.take_succ_cons, List.take_zero, List.drop_succ_cons, List.drop_zero, List.length_cons, List.length_nil, Nat.reduceAdd, List.cons_append, List.nil_append] at hw)
                (try replace hc0 := Sep.Holds.cells hw (i := 0) rfl); (try replace hc1 := Sep.Holds.cells hw (i := 1) rfl); (try replace hc2 := Sep.Holds.cells hw (i := 2) rfl); (try replace hc3 := Sep.Holds.cells hw (i := 3) rfl); (try replace hc4 := Sep.Holds.cells hw (i := 4) rfl); (try replace hc5 := Sep.Holds.cells hw (i := 5) rfl); (try replace hc6 := Sep.Holds.cells hw (i := 6) rfl)
                go_wp2_with fail
                go_meet
                refine ⟨rfl, by rw [Hnew.out], ?_⟩
                rw [Hfi.out]
                exact hw.sel [0, 1, 2, 7] (by decide)
        · as_aux_lemma =>
            have hwr : IntKind.i64.wrap (M.act - 1) = M.act - 1 := IntWalk.i64_in _ (by have := Hab.out; (try simp only at this); omega)
            have hact : 1 < M.act := hact
            have hactq : (M.act == 0) = false := by simp; omega
            have hact2 : 0 < M.act - 1 := by omega
            rw [hcl] at hw ⊢
            clear hcl
            by_cases hf0 : M.fst = 0
            · have Hnew := Sep.hid (fin_fst M d.f2 hf0)
              have hq0 : (M.fst == 0) = true := by simpa using hf0
              by_cases hn : d.f2 = 0
              · have hfi : M.isFirst d.f2 = false := by simp [TM.isFirst, hn]
                have hq1 : (d.f2 != 0) = false := by simpa using hn
                have Hfi := Sep.hid hfi
                rw [hfi] at hw
                (try replace hc0 := Sep.Holds.cells hw (i := 0) rfl); (try replace hc1 := Sep.Holds.cells hw (i := 1) rfl); (try replace hc2 := Sep.Holds.cells hw (i := 2) rfl); (try replace hc3 := Sep.Holds.cells hw (i := 3) rfl); (try replace hc4 := Sep.Holds.cells hw (i := 4) rfl); (try replace hc5 := Sep.Holds.cells hw (i := 5) rfl); (try replace hc6 := Sep.Holds.cells hw (i := 6) rfl)
                clear hf0 hn hfi
                as_aux_lemma =>
                  go_wp2_with fail
                  refine wp_region_L [] [(1, (fun w' => w' = w_.drew)), (13, (fun w' => w' = w_.drew)), (16, (fun w' => w' = w_.drew))] (n := 20) (listed := (marks 20 0)) (by kernel_rfl) rfl (by kernel_rfl) ?conds7 ?_
                  case conds7 =>
                   intro c hc
                   simp only [List.mem_cons, List.not_mem_nil, or_false] at hc
                   rcases hc with rfl | rfl | rfl
                   · rfl
                   · rfl
                   · rfl
                  replace hw := hw.drew
                  (try replace hc0 := Sep.Holds.cells hw (i := 0) rfl); (try replace hc1 := Sep.Holds.cells hw (i := 1) rfl); (try replace hc2 := Sep.Holds.cells hw (i := 2) rfl); (try replace hc3 := Sep.Holds.cells hw (i := 3) rfl); (try replace hc4 := Sep.Holds.cells hw (i := 4) rfl); (try replace hc5 := Sep.Holds.cells hw (i := 5) rfl); (try replace hc6 := Sep.Holds.cells hw (i := 6) rfl)
                  refine wpL_q 0 ?_ rfl (Or.inl ⟨by rfl, fun w_ hS_ => ?_⟩) (marks 20 1) ?_
                  rotate_left
                  next => (go_simp; try (first | rfl | exact (Bool.not_not _).symm))
                  try simp only [Act.put, List.setIfInBounds_toArray, List.set_cons_zero, List.set_cons_succ]
                  refine wpL_m 1 ?_ rfl (.head _) (Or.inl ⟨by rfl, fun w_ hS_ => ?_⟩) (marks 20 3) ?_
                  rotate_left
                  next => (subst hS_; go_simp; try (first | rfl | exact (Bool.not_not _).symm))
                  try simp only [Act.put, List.setIfInBounds_toArray, List.set_cons_zero, List.set_cons_succ]
                  refine wpL_q 2 ?_ rfl (Or.inl ⟨by rfl, fun w_ hS_ => ?_⟩) (marks 20 7) ?_
                  rotate_left
                  next => (go_simp; try (first | rfl | exact (Bool.not_not _).symm))
                  try simp only [Act.put, List.setIfInBounds_toArray, List.set_cons_zero, List.set_cons_succ]
                  refine wpL_q 3 ?_ rfl (Or.inl ⟨by rfl, fun w_ hS_ => ?_⟩) (marks 20 15) ?_
                  rotate_left
                  next => (go_simp; try (first | rfl | exact (Bool.not_not _).symm))
                  try simp only [Act.put, List.setIfInBounds_toArray, List.set_cons_zero, List.set_cons_succ]
                  refine wpL_q 4 ?_ rfl (Or.inl ⟨by rfl, fun w_ hS_ => ?_⟩) (marks 20 31) ?_
                  rotate_left
                  next => (go_simp; try (first | rfl | exact (Bool.not_not _).symm))
                  try simp only [Act.put, List.setIfInBounds_toArray, List.set_cons_zero, List.set_cons_succ]
                  refine wpL_q 5 ?_ rfl (Or.inl ⟨by rfl, fun w_ hS_ => ?_⟩) (marks 20 63) ?_
                  rotate_left
                  next => (go_simp; try (first | rfl | exact (Bool.not_not _).symm))
                  try simp only [Act.put, List.setIfInBounds_toArray, List.set_cons_zero, List.set_cons_succ]
                  refine wpL_q 6 ?_ rfl (Or.inl ⟨by rfl, fun w_ hS_ => ?_⟩) (marks 20 127) ?_
                  rotate_left
                  next => (go_simp; try (first | rfl | exact (Bool.not_not _).symm))
                  try simp only [Act.put, List.setIfInBounds_toArray, List.set_cons_zero, List.set_cons_succ]
                  refine wpL_b 7 ?_ rfl (Or.inl ⟨by rfl, fun w_ hS_ => ?_⟩) (marks 20 255) ?_
                  rotate_left
                  next => (go_simp; try (first | rfl | exact (Bool.not_not _).symm))
                  intro bb_ hg7
                  cases bb_
                  case' true =>
                   (try simp only [decide_eq_true_eq, decide_eq_false_iff_not, beq_iff_eq, beq_eq_false_iff_ne, bne_iff_ne, bne_eq_false_iff_eq, Bool.not_eq_true', Bool.not_eq_false', Int.not_lt, Int.not_le] at hg7)
                   first | (cases hg7; done) | (exfalso; omega; done)
                  case' false =>
                   (try simp only [decide_eq_true_eq, decide_eq_false_iff_not, beq_iff_eq, beq_eq_false_iff_ne, bne_iff_ne, bne_eq_false_iff_eq, Bool.not_eq_true', Bool.not_eq_false', Int.not_lt, Int.not_le] at hg7)
                   first | (cases hg7; done) | (exfalso; omega; done) | skip
                   all_goals
                    try replace hg7 := Sep.hid hg7
                    try simp only [Act.put, List.setIfInBounds_toArray, List.set_cons_zero, List.set_cons_succ]
                    refine wpL_q 8 ?_ rfl (Or.inl ⟨by rfl, fun w_ hS_ => ?_⟩) (marks 20 511) ?_
                    rotate_left
                    next => (go_simp; try (first | rfl | exact (Bool.not_not _).symm))
                    try simp only [Act.put, List.setIfInBounds_toArray, List.set_cons_zero, List.set_cons_succ]
                    refine wpL_q 9 ?_ rfl (Or.inl ⟨by rfl, fun w_ hS_ => ?_⟩) (marks 20 1023) ?_
                    rotate_left
                    next => (go_simp; try (first | rfl | exact (Bool.not_not _).symm))
                    try simp only [Act.put, List.setIfInBounds_toArray, List.set_cons_zero, List.set_cons_succ]
                    refine wpL_q 10 ?_ rfl (Or.inl ⟨by rfl, fun w_ hS_ => ?_⟩) (marks 20 2047) ?_
                    rotate_left
                    next => (go_simp; try (first | rfl | exact (Bool.not_not _).symm))
                    try simp only [Act.put, List.setIfInBounds_toArray, List.set_cons_zero, List.set_cons_succ]
                    refine wpL_b 11 ?_ rfl (Or.inl ⟨by rfl, fun w_ hS_ => ?_⟩) (marks 20 4095) ?_
                    rotate_left
                    next => (go_simp; try (first | rfl | exact (Bool.not_not _).symm))
                    intro bb_ hg11
                    cases bb_
                    case' true =>
                     (try simp only [decide_eq_true_eq, decide_eq_false_iff_not, beq_iff_eq, beq_eq_false_iff_ne, bne_iff_ne, bne_eq_false_iff_eq, Bool.not_eq_true', Bool.not_eq_false', Int.not_lt, Int.not_le] at hg11)
                     first | (cases hg11; done) | (exfalso; omega; done)
                    case' false =>
                     (try simp only [decide_eq_true_eq, decide_eq_false_iff_not, beq_iff_eq, beq_eq_false_iff_ne, bne_iff_ne, bne_eq_false_iff_eq, Bool.not_eq_true', Bool.not_eq_false', Int.not_lt, Int.not_le] at hg11)
                     first | (cases hg11; done) | (exfalso; omega; done) | skip
                     all_goals
                      try replace hg11 := Sep.hid hg11
                      try simp only [Act.put, List.setIfInBounds_toArray, List.set_cons_zero, List.set_cons_succ]
                      refine wpL_q 12 undef rfl (Or.inr ⟨by rfl, rfl⟩) (marks 20 8191) ?_
                      try simp only [Act.put, List.setIfInBounds_toArray, List.set_cons_zero, List.set_cons_succ]
                      refine wpL_m 13 undef rfl (.tail _ (.head _)) (Or.inr ⟨by rfl, rfl⟩) (marks 20 16383) ?_
                      try simp only [Act.put, List.setIfInBounds_toArray, List.set_cons_zero, List.set_cons_succ]
                      refine wpL_q 14 undef rfl (Or.inr ⟨by rfl, rfl⟩) (marks 20 32767) ?_
                      try simp only [Act.put, List.setIfInBounds_toArray, List.set_cons_zero, List.set_cons_succ]
                      refine wpL_q 15 undef rfl (Or.inr ⟨by rfl, rfl⟩) (marks 20 65535) ?_
                      try simp only [Act.put, List.setIfInBounds_toArray, List.set_cons_zero, List.set_cons_succ]
                      refine wpL_m 16 undef rfl (.tail _ (.tail _ (.head _))) (Or.inr ⟨by rfl, rfl⟩) (marks 20 131071) ?_
                      try simp only [Act.put, List.setIfInBounds_toArray, List.set_cons_zero, List.set_cons_succ]
                      refine wpL_q 17 undef rfl (Or.inr ⟨by rfl, rfl⟩) (marks 20 262143) ?_
                      try simp only [Act.put, List.setIfInBounds_toArray, List.set_cons_zero, List.set_cons_succ]
                    all_goals
                     refine wpL_q 18 ?_ rfl (Or.inl ⟨by rfl, fun w_ hS_ => ?_⟩) (marks 20 524287) ?_
                     rotate_left
                     next => (go_simp; try (first | rfl | exact (Bool.not_not _).symm))
                     try simp only [Act.put, List.setIfInBounds_toArray, List.set_cons_zero, List.set_cons_succ]
                  all_goals
                   refine wpL_q 19 ?_ rfl (Or.inl ⟨by rfl, fun w_ hS_ => ?_⟩) (marks 20 1048575) ?_
                   rotate_left
                   next => (go_simp; try (first | rfl | exact (Bool.not_not _).symm))
                   try simp only [Act.put, List.setIfInBounds_toArray, List.set_cons_zero, List.set_cons_succ]
                   all_goals refine wpL_done (by kernel_rfl) ?_ _
                  go_wp2_with fail
                  go_meet
                  refine ⟨rfl, by rw [Hnew.out], ?_⟩
                  rw [Hfi.out]
                  exact hw.sel [0, 1, 2, 3] (by decide)
              · have hfi : M.isFirst d.f2 = true := by simp [TM.isFirst, hn, hf0]
                have hq1 : (d.f2 != 0) = true := by simpa using hn
                have Hfi := Sep.hid hfi
                rw [hfi] at hw
                (try replace hc0 := Sep.Holds.cells hw (i := 0) rfl); (try replace hc1 := Sep.Holds.cells hw (i := 1) rfl); (try replace hc2 := Sep.Holds.cells hw (i := 2) rfl); (try replace hc3 := Sep.Holds.cells hw (i := 3) rfl); (try replace hc4 := Sep.Holds.cells hw (i := 4) rfl); (try replace hc5 := Sep.Holds.cells hw (i := 5) rfl); (try replace hc6 := Sep.Holds.cells hw (i := 6) rfl)
                clear hf0 hn hfi
                as_aux_lemma =>
                  go_wp2_with fail
                  refine wp_region_L [] [(1, (fun w' => w' = w_.drew)), (13, (fun w' => w' = w_.drew)), (16, (fun w' => w' = w_.drew))] (n := 20) (listed := (marks 20 0)) (by kernel_rfl) rfl (by kernel_rfl) ?conds8 ?_
                  case conds8 =>
                   intro c hc
                   simp only [List.mem_cons, List.not_mem_nil, or_false] at hc
                   rcases hc with rfl | rfl | rfl
                   · rfl
                   · rfl
                   · rfl
                  replace hw := hw.drew
                  (try replace hc0 := Sep.Holds.cells hw (i := 0) rfl); (try replace hc1 := Sep.Holds.cells hw (i := 1) rfl); (try replace hc2 := Sep.Holds.cells hw (i := 2) rfl); (try replace hc3 := Sep.Holds.cells hw (i := 3) rfl); (try replace hc4 := Sep.Holds.cells hw (i := 4) rfl); (try replace hc5 := Sep.Holds.cells hw (i := 5) rfl); (try replace hc6 := Sep.Holds.cells hw (i := 6) rfl)
                  refine wpL_q 0 ?_ rfl (Or.inl ⟨by rfl, fun w_ hS_ => ?_⟩) (marks 20 1) ?_
                  rotate_left
                  next => (go_simp; try (first | rfl | exact (Bool.not_not _).symm))
                  try simp only [Act.put, List.setIfInBounds_toArray, List.set_cons_zero, List.set_cons_succ]
                  refine wpL_m 1 ?_ rfl (.head _) (Or.inl ⟨by rfl, fun w_ hS_ => ?_⟩) (marks 20 3) ?_
                  rotate_left
                  next => (subst hS_; go_simp; try (first | rfl | exact (Bool.not_not _).symm))
                  try simp only [Act.put, List.setIfInBounds_toArray, List.set_cons_zero, List.set_cons_succ]
                  refine wpL_q 2 ?_ rfl (Or.inl ⟨by rfl, fun w_ hS_ => ?_⟩) (marks 20 7) ?_
                  rotate_left
                  next => (go_simp; try (first | rfl | exact (Bool.not_not _).symm))
                  try simp only [Act.put, List.setIfInBounds_toArray, List.set_cons_zero, List.set_cons_succ]
                  refine wpL_q 3 ?_ rfl (Or.inl ⟨by rfl, fun w_ hS_ => ?_⟩) (marks 20 15) ?_
                  rotate_left
                  next => (go_simp; try (first | rfl | exact (Bool.not_not _).symm))
                  try simp only [Act.put, List.setIfInBounds_toArray, List.set_cons_zero, List.set_cons_succ]
                  refine wpL_q 4 ?_ rfl (Or.inl ⟨by rfl, fun w_ hS_ => ?_⟩) (marks 20 31) ?_
                  rotate_left
                  next => (go_simp; try (first | rfl | exact (Bool.not_not _).symm))
                  try simp only [Act.put, List.setIfInBounds_toArray, List.set_cons_zero, List.set_cons_succ]
                  refine wpL_q 5 ?_ rfl (Or.inl ⟨by rfl, fun w_ hS_ => ?_⟩) (marks 20 63) ?_
                  rotate_left
                  next => (go_simp; try (first | rfl | exact (Bool.not_not _).symm))
                  try simp only [Act.put, List.setIfInBounds_toArray, List.set_cons_zero, List.set_cons_succ]
                  refine wpL_q 6 ?_ rfl (Or.inl ⟨by rfl, fun w_ hS_ => ?_⟩) (marks 20 127) ?_
                  rotate_left
                  next => (go_simp; try (first | rfl | exact (Bool.not_not _).symm))
                  try simp only [Act.put, List.setIfInBounds_toArray, List.set_cons_zero, List.set_cons_succ]
                  refine wpL_b 7 ?_ rfl (Or.inl ⟨by rfl, fun w_ hS_ => ?_⟩) (marks 20 255) ?_
                  rotate_left
                  next => (go_simp; try (first | rfl | exact (Bool.not_not _).symm))
                  intro bb_ hg7
                  cases bb_
                  case' true =>
                   (try simp only [decide_eq_true_eq, decide_eq_false_iff_not, beq_iff_eq, beq_eq_false_iff_ne, bne_iff_ne, bne_eq_false_iff_eq, Bool.not_eq_true', Bool.not_eq_false', Int.not_lt, Int.not_le] at hg7)
                   first | (cases hg7; done) | (exfalso; omega; done)
                  case' false =>
                   (try simp only [decide_eq_true_eq, decide_eq_false_iff_not, beq_iff_eq, beq_eq_false_iff_ne, bne_iff_ne, bne_eq_false_iff_eq, Bool.not_eq_true', Bool.not_eq_false', Int.not_lt, Int.not_le] at hg7)
                   first | (cases hg7; done) | (exfalso; omega; done) | skip
                   all_goals
                    try replace hg7 := Sep.hid hg7
                    try simp only [Act.put, List.setIfInBounds_toArray, List.set_cons_zero, List.set_cons_succ]
                    refine wpL_q 8 ?_ rfl (Or.inl ⟨by rfl, fun w_ hS_ => ?_⟩) (marks 20 511) ?_
                    rotate_left
                    next => (go_simp; try (first | rfl | exact (Bool.not_not _).symm))
                    try simp only [Act.put, List.setIfInBounds_toArray, List.set_cons_zero, List.set_cons_succ]
                    refine wpL_q 9 ?_ rfl (Or.inl ⟨by rfl, fun w_ hS_ => ?_⟩) (marks 20 1023) ?_
                    rotate_left
                    next => (go_simp; try (first | rfl | exact (Bool.not_not _).symm))
                    try simp only [Act.put, List.setIfInBounds_toArray, List.set_cons_zero, List.set_cons_succ]
                    refine wpL_q 10 ?_ rfl (Or.inl ⟨by rfl, fun w_ hS_ => ?_⟩) (marks 20 2047) ?_
                    rotate_left
                    next => (go_simp; try (first | rfl | exact (Bool.not_not _).symm))
                    try simp only [Act.put, List.setIfInBounds_toArray, List.set_cons_zero, List.set_cons_succ]
                    refine wpL_b 11 ?_ rfl (Or.inl ⟨by rfl, fun w_ hS_ => ?_⟩) (marks 20 4095) ?_
                    rotate_left
                    next => (go_simp; try (first | rfl | exact (Bool.not_not _).symm))
                    intro bb_ hg11
                    cases bb_
                    case' true =>
                     (try simp only [decide_eq_true_eq, decide_eq_false_iff_not, beq_iff_eq, beq_eq_false_iff_ne, bne_iff_ne, bne_eq_false_iff_eq, Bool.not_eq_true', Bool.not_eq_false', Int.not_lt, Int.not_le] at hg11)
                     first | (cases hg11; done) | (exfalso; omega; done)
                    case' false =>
                     (try simp only [decide_eq_true_eq, decide_eq_false_iff_not, beq_iff_eq, beq_eq_false_iff_ne, bne_iff_ne, bne_eq_false_iff_eq, Bool.not_eq_true', Bool.not_eq_false', Int.not_lt, Int.not_le] at hg11)
                     first | (cases hg11; done) | (exfalso; omega; done) | skip
                     all_goals
                      try replace hg11 := Sep.hid hg11
                      try simp only [Act.put, List.setIfInBounds_toArray, List.set_cons_zero, List.set_cons_succ]
                      refine wpL_q 12 undef rfl (Or.inr ⟨by rfl, rfl⟩) (marks 20 8191) ?_
                      try simp only [Act.put, List.setIfInBounds_toArray, List.set_cons_zero, List.set_cons_succ]
                      refine wpL_m 13 undef rfl (.tail _ (.head _)) (Or.inr ⟨by rfl, rfl⟩) (marks 20 16383) ?_
                      try simp only [Act.put, List.setIfInBounds_toArray, List.set_cons_zero, List.set_cons_succ]
                      refine wpL_q 14 undef rfl (Or.inr ⟨by rfl, rfl⟩) (marks 20 32767) ?_
                      try simp only [Act.put, List.setIfInBounds_toArray, List.set_cons_zero, List.set_cons_succ]
                      refine wpL_q 15 undef rfl (Or.inr ⟨by rfl, rfl⟩) (marks 20 65535) ?_
                      try simp only [Act.put, List.setIfInBounds_toArray, List.set_cons_zero, List.set_cons_succ]
                      refine wpL_m 16 undef rfl (.tail _ (.tail _ (.head _))) (Or.inr ⟨by rfl, rfl⟩) (marks 20 131071) ?_
                      try simp only [Act.put, List.setIfInBounds_toArray, List.set_cons_zero, List.set_cons_succ]
                      refine wpL_q 17 undef rfl (Or.inr ⟨by rfl, rfl⟩) (marks 20 262143) ?_
                      try simp only [Act.put, List.setIfInBounds_toArray, List.set_cons_zero, List.set_cons_succ]
                    all_goals
                     refine wpL_q 18 ?_ rfl (Or.inl ⟨by rfl, fun w_ hS_ => ?_⟩) (marks 20 524287) ?_
                     rotate_left
                     next => (go_simp; try (first | rfl | exact (Bool.not_not _).symm))
                     try simp only [Act.put, List.setIfInBounds_toArray, List.set_cons_zero, List.set_cons_succ]
                  all_goals
                   refine wpL_q 19 ?_ rfl (Or.inl ⟨by rfl, fun w_ hS_ => ?_⟩) (marks 20 1048575) ?_
                   rotate_left
                   next => (go_simp; try (first | rfl | exact (Bool.not_not _).symm))
                   try simp only [Act.put, List.setIfInBounds_toArray, List.set_cons_zero, List.set_cons_succ]
                   all_goals refine wpL_done (by kernel_rfl) ?_ _
                  go_wp2_with fail
                  go_meet
                  refine ⟨rfl, by rw [Hnew.out], ?_⟩
                  rw [Hfi.out]
                  exact hw.sel [0, 1, 2, 3] (by decide)
            · have Hnew := Sep.hid (fin_fst' M d.f2 hf0)
              have hq0 : (M.fst == 0) = false := by simpa using hf0
              have hfi : M.isFirst d.f2 = false := by simp [TM.isFirst, hf0]
              have Hfi := Sep.hid hfi
              rw [hfi] at hw
              (try replace hc0 := Sep.Holds.cells hw (i := 0) rfl); (try replace hc1 := Sep.Holds.cells hw (i := 1) rfl); (try replace hc2 := Sep.Holds.cells hw (i := 2) rfl); (try replace hc3 := Sep.Holds.cells hw (i := 3) rfl); (try replace hc4 := Sep.Holds.cells hw (i := 4) rfl); (try replace hc5 := Sep.Holds.cells hw (i := 5) rfl); (try replace hc6 := Sep.Holds.cells hw (i := 6) rfl)
              clear hf0 hfi
              as_aux_lemma =>
                go_wp2_with fail
                refine wp_region_L [] [(1, (fun w' => w' = w_.drew)), (13, (fun w' => w' = w_.drew)), (16, (fun w' => w' = w_.drew))] (n := 20) (listed := (marks 20 0)) (by kernel_rfl) rfl (by kernel_rfl) ?conds9 ?_
                case conds9 =>
                 intro c hc
                 simp only [List.mem_cons, List.not_mem_nil, or_false] at hc
                 rcases hc with rfl | rfl | rfl
                 · rfl
                 · rfl
                 · rfl
                replace hw := hw.drew
                (try replace hc0 := Sep.Holds.cells hw (i := 0) rfl); (try replace hc1 := Sep.Holds.cells hw (i := 1) rfl); (try replace hc2 := Sep.Holds.cells hw (i := 2) rfl); (try replace hc3 := Sep.Holds.cells hw (i := 3) rfl); (try replace hc4 := Sep.Holds.cells hw (i := 4) rfl); (try replace hc5 := Sep.Holds.cells hw (i := 5) rfl); (try replace hc6 := Sep.Holds.cells hw (i := 6) rfl)
                refine wpL_q 0 ?_ rfl (Or.inl ⟨by rfl, fun w_ hS_ => ?_⟩) (marks 20 1) ?_
                rotate_left
                next => (go_simp; try (first | rfl | exact (Bool.not_not _).symm))
                try simp only [Act.put, List.setIfInBounds_toArray, List.set_cons_zero, List.set_cons_succ]
                refine wpL_m 1 ?_ rfl (.head _) (Or.inl ⟨by rfl, fun w_ hS_ => ?_⟩) (marks 20 3) ?_
                rotate_left
                next => (subst hS_; go_simp; try (first | rfl | exact (Bool.not_not _).symm))
                try simp only [Act.put, List.setIfInBounds_toArray, List.set_cons_zero, List.set_cons_succ]
                refine wpL_q 2 ?_ rfl (Or.inl ⟨by rfl, fun w_ hS_ => ?_⟩) (marks 20 7) ?_
                rotate_left
                next => (go_simp; try (first | rfl | exact (Bool.not_not _).symm))
                try simp only [Act.put, List.setIfInBounds_toArray, List.set_cons_zero, List.set_cons_succ]
                refine wpL_q 3 ?_ rfl (Or.inl ⟨by rfl, fun w_ hS_ => ?_⟩) (marks 20 15) ?_
                rotate_left
                next => (go_simp; try (first | rfl | exact (Bool.not_not _).symm))
                try simp only [Act.put, List.setIfInBounds_toArray, List.set_cons_zero, List.set_cons_succ]
                refine wpL_q 4 ?_ rfl (Or.inl ⟨by rfl, fun w_ hS_ => ?_⟩) (marks 20 31) ?_
                rotate_left
                next => (go_simp; try (first | rfl | exact (Bool.not_not _).symm))
                try simp only [Act.put, List.setIfInBounds_toArray, List.set_cons_zero, List.set_cons_succ]
                refine wpL_q 5 ?_ rfl (Or.inl ⟨by rfl, fun w_ hS_ => ?_⟩) (marks 20 63) ?_
                rotate_left
                next => (go_simp; try (first | rfl | exact (Bool.not_not _).symm))
                try simp only [Act.put, List.setIfInBounds_toArray, List.set_cons_zero, List.set_cons_succ]
                refine wpL_q 6 ?_ rfl (Or.inl ⟨by rfl, fun w_ hS_ => ?_⟩) (marks 20 127) ?_
                rotate_left
                next => (go_simp; try (first | rfl | exact (Bool.not_not _).symm))
                try simp only [Act.put, List.setIfInBounds_toArray, List.set_cons_zero, List.set_cons_succ]
                refine wpL_b 7 ?_ rfl (Or.inl ⟨by rfl, fun w_ hS_ => ?_⟩) (marks 20 255) ?_
                rotate_left
                next => (go_simp; try (first | rfl | exact (Bool.not_not _).symm))
                intro bb_ hg7
                cases bb_
                case' true =>
                 (try simp only [decide_eq_true_eq, decide_eq_false_iff_not, beq_iff_eq, beq_eq_false_iff_ne, bne_iff_ne, bne_eq_false_iff_eq, Bool.not_eq_true', Bool.not_eq_false', Int.not_lt, Int.not_le] at hg7)
                 first | (cases hg7; done) | (exfalso; omega; done)
                case' false =>
                 (try simp only [decide_eq_true_eq, decide_eq_false_iff_not, beq_iff_eq, beq_eq_false_iff_ne, bne_iff_ne, bne_eq_false_iff_eq, Bool.not_eq_true', Bool.not_eq_false', Int.not_lt, Int.not_le] at hg7)
                 first | (cases hg7; done) | (exfalso; omega; done) | skip
                 all_goals
                  try replace hg7 := Sep.hid hg7
                  try simp only [Act.put, List.setIfInBounds_toArray, List.set_cons_zero, List.set_cons_succ]
                  refine wpL_q 8 ?_ rfl (Or.inl ⟨by rfl, fun w_ hS_ => ?_⟩) (marks 20 511) ?_
                  rotate_left
                  next => (go_simp; try (first | rfl | exact (Bool.not_not _).symm))
                  try simp only [Act.put, List.setIfInBounds_toArray, List.set_cons_zero, List.set_cons_succ]
                  refine wpL_q 9 ?_ rfl (Or.inl ⟨by rfl, fun w_ hS_ => ?_⟩) (marks 20 1023) ?_
                  rotate_left
                  next => (go_simp; try (first | rfl | exact (Bool.not_not _).symm))
                  try simp only [Act.put, List.setIfInBounds_toArray, List.set_cons_zero, List.set_cons_succ]
                  refine wpL_q 10 ?_ rfl (Or.inl ⟨by rfl, fun w_ hS_ => ?_⟩) (marks 20 2047) ?_
                  rotate_left
                  next => (go_simp; try (first | rfl | exact (Bool.not_not _).symm))
                  try simp only [Act.put, List.setIfInBounds_toArray, List.set_cons_zero, List.set_cons_succ]
                  refine wpL_b 11 ?_ rfl (Or.inl ⟨by rfl, fun w_ hS_ => ?_⟩) (marks 20 4095) ?_
                  rotate_left
                  next => (go_simp; try (first | rfl | exact (Bool.not_not _).symm))
                  intro bb_ hg11
                  cases bb_
                  case' true =>
                   (try simp only [decide_eq_true_eq, decide_eq_false_iff_not, beq_iff_eq, beq_eq_false_iff_ne, bne_iff_ne, bne_eq_false_iff_eq, Bool.not_eq_true', Bool.not_eq_false', Int.not_lt, Int.not_le] at hg11)
                   first | (cases hg11; done) | (exfalso; omega; done)
                  case' false =>
                   (try simp only [decide_eq_true_eq, decide_eq_false_iff_not, beq_iff_eq, beq_eq_false_iff_ne, bne_iff_ne, bne_eq_false_iff_eq, Bool.not_eq_true', Bool.not_eq_false', Int.not_lt, Int.not_le] at hg11)
                   first | (cases hg11; done) | (exfalso; omega; done) | skip
                   all_goals
                    try replace hg11 := Sep.hid hg11
                    try simp only [Act.put, List.setIfInBounds_toArray, List.set_cons_zero, List.set_cons_succ]
                    refine wpL_q 12 undef rfl (Or.inr ⟨by rfl, rfl⟩) (marks 20 8191) ?_
                    try simp only [Act.put, List.setIfInBounds_toArray, List.set_cons_zero, List.set_cons_succ]
                    refine wpL_m 13 undef rfl (.tail _ (.head _)) (Or.inr ⟨by rfl, rfl⟩) (marks 20 16383) ?_
                    try simp only [Act.put, List.setIfInBounds_toArray, List.set_cons_zero, List.set_cons_succ]
                    refine wpL_q 14 undef rfl (Or.inr ⟨by rfl, rfl⟩) (marks 20 32767) ?_
                    try simp only [Act.put, List.setIfInBounds_toArray, List.set_cons_zero, List.set_cons_succ]
                    refine wpL_q 15 undef rfl (Or.inr ⟨by rfl, rfl⟩) (marks 20 65535) ?_
                    try simp only [Act.put, List.setIfInBounds_toArray, List.set_cons_zero, List.set_cons_succ]
                    refine wpL_m 16 undef rfl (.tail _ (.tail _ (.head _))) (Or.inr ⟨by rfl, rfl⟩) (marks 20 131071) ?_
                    try simp only [Act.put, List.setIfInBounds_toArray, List.set_cons_zero, List.set_cons_succ]
                    refine wpL_q 17 undef rfl (Or.inr ⟨by rfl, rfl⟩) (marks 20 262143) ?_
                    try simp only [Act.put, List.setIfInBounds_toArray, List.set_cons_zero, List.set_cons_succ]
                  all_goals
                   refine wpL_q 18 ?_ rfl (Or.inl ⟨by rfl, fun w_ hS_ => ?_⟩) (marks 20 524287) ?_
                   rotate_left
                   next => (go_simp; try (first | rfl | exact (Bool.not_not _).symm))
                   try simp only [Act.put, List.setIfInBounds_toArray, List.set_cons_zero, List.set_cons_succ]
                all_goals
                 refine wpL_q 19 ?_ rfl (Or.inl ⟨by rfl, fun w_ hS_ => ?_⟩) (marks 20 1048575) ?_
                 rotate_left
                 next => (go_simp; try (first | rfl | exact (Bool.not_not _).symm))
                 try simp only [Act.put, List.setIfInBounds_toArray, List.set_cons_zero, List.set_cons_succ]
                 all_goals refine wpL_done (by kernel_rfl) ?_ _
                go_wp2_with fail
                go_meet
                refine ⟨rfl, by rw [Hnew.out], ?_⟩
                rw [Hfi.out]
                exact hw.sel [0, 1, 2, 3] (by decide)
        · as_aux_lemma =>
            have hactq : (M.act == 0) = true := by simpa using hact
            clear hact
            go_wp2_with fail
            go_meet
            exact ⟨rfl, rfl, hw.sel [0, 1, 2, 3] (by decide)⟩
        · as_aux_lemma =>
            have hact : 0 < M.act := hact
            have hactq : (M.act == 0) = false := by simp; omega
            go_wp2_with (first | (refine wpList_on rfl (wp_bsl1 rfl rfl (by rfl) (by rfl) (by decide) hw ?_); intro b_ w_ hw_; clear hw; have hw := hw_; clear hw_; (try simp only [List.map_cons, List.map_nil, List.getD_cons_zero, List.getD_cons_succ, List.getD_nil, List.set_cons_zero, List.set_cons_succ, List.cons_append, List.nil_append, Act.eval, Array.getD_eq_getD_getElem?, List.getElem?_toArray, List.getElem?_cons_succ, List.getElem?_cons_zero, Option.getD_some, Value.cells] at hw); (try simp (disch := first | (simp; done) | (simp; omega)) only [Sep.mid_set, Sep.mid_set2, Sep.mid_set0, Sep.mid_splice, Sep.mid_splice0, List.set_cons_zero, List.set_cons_succ] at hw); (try simp only [Sep.splice, List.take_succ_cons, List.take_zero, List.drop_succ_cons, List.drop_zero, List.length_cons, List.length_nil, Nat.reduceAdd, List.cons_append, List.nil_append] at hw); (try replace hc0 := Sep.Holds.cells hw (i := 0) rfl); (try replace hc1 := Sep.Holds.cells hw (i := 1) rfl); (try replace hc2 := Sep.Holds.cells hw (i := 2) rfl); (try replace hc3 := Sep.Holds.cells hw (i := 3) rfl); (try replace hc4 := Sep.Holds.cells hw (i := 4) rfl); (try replace hc5 := Sep.Holds.cells hw (i := 5) rfl); (try replace hc6 := Sep.Holds.cells hw (i := 6) rfl)) | (at_builtin; refine wpList_on rfl (wp_appendPt (i := 3) (j := 7) rfl rfl hw rfl rfl rfl (by rfl) (by simp [Value.oneCell']) (by decide) (by rfl) (by have := Hlm.out.2; (try simp only at this); (try unfold maxLen); omega) (by have := Hlm.out.2; (try simp only at this); (try unfold maxLen); omega) ?_); intro b2_ cap2_ off2_ w_ hcap2_ hw_; clear hw; have hw := hw_; clear hw_; (try simp only [List.map_cons, List.map_nil, List.getD_cons_zero, List.getD_cons_succ, List.getD_nil, List.set_cons_zero, List.set_cons_succ, List.cons_append, List.nil_append, Act.eval, Array.getD_eq_getD_getElem?, List.getElem?_toArray, List.getElem?_cons_succ, List.getElem?_cons_zero, Option.getD_some, Value.cells] at hw); (try simp (disch := first | (simp; done) | (simp; omega)) only [Sep.mid_set, Sep.mid_set2, Sep.mid_set0, Sep.mid_splice, Sep.mid_splice0, List.set_cons_zero, List.set_cons_succ] at hw); (try simp only [Sep.splice, List.take_succ_cons, List.take_zero, List.drop_succ_cons, List.drop_zero, List.length_cons, List.length_nil, Nat.reduceAdd, List.cons_append, List.nil_append] at hw); (try replace hc0 := Sep.Holds.cells hw (i := 0) rfl); (try replace hc1 := Sep.Holds.cells hw (i := 1) rfl); (try replace hc2 := Sep.Holds.cells hw (i := 2) rfl); (try replace hc3 := Sep.Holds.cells hw (i := 3) rfl); (try replace hc4 := Sep.Holds.cells hw (i := 4) rfl); (try replace hc5 := Sep.Holds.cells hw (i := 5) rfl); (try replace hc6 := Sep.Holds.cells hw (i := 6) rfl)))
            rw [sl_snoc] at hw
            go_meet
            exact ⟨rfl, rfl, hw.sel [0, 1, 2, 3] (by decide)⟩
        · as_aux_lemma =>
            go_wp2_with fail
            refine wp_region_L [3, 7] [(2, (fun w' => w' = w_.drew)), (6, (fun w' => Holds e w' [pt bd [.int .i64 d.f0, .int .i64 d.f1, .int .i64 d.f2] 32]))] (n := 10) (listed := (marks 10 0)) (by kernel_rfl) rfl (by kernel_rfl) ?conds10 ?_
            case conds10 =>
             intro c hc
             simp only [List.mem_cons, List.not_mem_nil, or_false] at hc
             rcases hc with rfl | rfl
             · rfl
             · exact (by replace hw := hw.drew; first | exact hw.sel [4] (by decide) | (have h_ := hw.sel [4] (by decide); rw [h4] at h_; exact h_))
            replace hw := hw.drew
            (try replace hc0 := Sep.Holds.cells hw (i := 0) rfl); (try replace hc1 := Sep.Holds.cells hw (i := 1) rfl); (try replace hc2 := Sep.Holds.cells hw (i := 2) rfl); (try replace hc3 := Sep.Holds.cells hw (i := 3) rfl); (try replace hc4 := Sep.Holds.cells hw (i := 4) rfl); (try replace hc5 := Sep.Holds.cells hw (i := 5) rfl); (try replace hc6 := Sep.Holds.cells hw (i := 6) rfl)
            refine wpL_q 0 ?_ rfl (Or.inl ⟨by rfl, fun w_ hS_ => ?_⟩) (marks 10 1) ?_
            rotate_left
            next => (go_simp; try (first | rfl | exact (Bool.not_not _).symm))
            try simp only [Act.put, List.setIfInBounds_toArray, List.set_cons_zero, List.set_cons_succ]
            refine wpL_q 1 ?_ rfl (Or.inl ⟨by rfl, fun w_ hS_ => ?_⟩) (marks 10 3) ?_
            rotate_left
            next => (go_simp; try (first | rfl | exact (Bool.not_not _).symm))
            try simp only [Act.put, List.setIfInBounds_toArray, List.set_cons_zero, List.set_cons_succ]
            refine wpL_m 2 ?_ rfl (.head _) (Or.inl ⟨by rfl, fun w_ hS_ => ?_⟩) (marks 10 7) ?_
            rotate_left
            next => (subst hS_; go_simp; try (first | rfl | exact (Bool.not_not _).symm))
            try simp only [Act.put, List.setIfInBounds_toArray, List.set_cons_zero, List.set_cons_succ]
            refine wpL_q 4 ?_ rfl (Or.inl ⟨by rfl, fun w_ hS_ => ?_⟩) (marks 10 23) ?_
            rotate_left
            next => (go_simp; try (first | rfl | exact (Bool.not_not _).symm))
            try simp only [Act.put, List.setIfInBounds_toArray, List.set_cons_zero, List.set_cons_succ]
            refine wpL_q 5 ?_ rfl (Or.inl ⟨by rfl, fun w_ hS_ => ?_⟩) (marks 10 55) ?_
            rotate_left
            next => (go_simp; try (first | rfl | exact (Bool.not_not _).symm))
            try simp only [Act.put, List.setIfInBounds_toArray, List.set_cons_zero, List.set_cons_succ]
            refine wpL_m 6 ?_ rfl (.tail _ (.head _)) (Or.inl ⟨by rfl, fun w_ hS_ => ?_⟩) (marks 10 119) ?_
            rotate_left
            next => (dsimp only at hS_; (try have q0 := Sep.Holds.cells hS_ (i := 0) rfl); (try have q1 := Sep.Holds.cells hS_ (i := 1) rfl); (try have q2 := Sep.Holds.cells hS_ (i := 2) rfl); (try have q3 := Sep.Holds.cells hS_ (i := 3) rfl); (try have q4 := Sep.Holds.cells hS_ (i := 4) rfl); (try have q5 := Sep.Holds.cells hS_ (i := 5) rfl); (try have q6 := Sep.Holds.cells hS_ (i := 6) rfl); go_simp; try (first | rfl | exact (Bool.not_not _).symm))
            try simp only [Act.put, List.setIfInBounds_toArray, List.set_cons_zero, List.set_cons_succ]
            refine wpL_o 3 rfl (by rfl) (marks 10 127) ?_
            (go_simp; go_at_call 21; refine (without8_calls _ M.c d.f1 (by have := Hlm.out.1; (try simp only at this); omega) e _ _ (hw.focus1 2 rfl)).mono ?_; rintro en_ w_ ⟨x1, rfl, hw_⟩; clear hw; (try clear hc0); (try clear hc1); (try clear hc2); (try clear hc3); (try clear hc4); (try clear hc5); (try clear hc6); have hw := Holds.unfocus1 2 (by simp) hw_; clear hw_; (try simp only [List.map_cons, List.map_nil, List.getD_cons_zero, List.getD_cons_succ, List.getD_nil, List.set_cons_zero, List.set_cons_succ, List.cons_append, List.nil_append, Act.eval, Array.getD_eq_getD_getElem?, List.getElem?_toArray, List.getElem?_cons_succ, List.getElem?_cons_zero, Option.getD_some, Value.cells] at hw); (try simp (disch := first | (simp; done) | (simp; omega)) only [Sep.mid_set, Sep.mid_set2, Sep.mid_set0, Sep.mid_splice, Sep.mid_splice0, List.set_cons_zero, List.set_cons_succ] at hw); (try simp only [Sep.splice, List.take_succ_cons, List.take_zero, List.drop_succ_cons, List.drop_zero, List.length_cons, List.length_nil, Nat.reduceAdd, List.cons_append, List.nil_append] at hw); (try replace hc0 := Sep.Holds.cells hw (i := 0) rfl); (try replace hc1 := Sep.Holds.cells hw (i := 1) rfl); (try replace hc2 := Sep.Holds.cells hw (i := 2) rfl); (try replace hc3 := Sep.Holds.cells hw (i := 3) rfl); (try replace hc4 := Sep.Holds.cells hw (i := 4) rfl); (try replace hc5 := Sep.Holds.cells hw (i := 5) rfl); (try replace hc6 := Sep.Holds.cells hw (i := 6) rfl))
            refine ⟨(SL.drop 3 (by kernel_rfl) (SL.keep (by first | exact hw.sel [4] (by decide) | (have h_ := hw.sel [4] (by decide); rw [h4] at h_; exact h_)) SL.nil)), ?_⟩
            try simp only [Act.put, List.setIfInBounds_toArray, List.set_cons_zero, List.set_cons_succ]
            refine wpL_o 7 rfl (by rfl) (marks 10 255) ?_
            (go_simp; go_at_call 21; refine (without8_calls _ M.w d.f1 (by have := Hlm.out.2; (try simp only at this); omega) e _ _ (hw.focus1 3 rfl)).mono ?_; rintro en_ w_ ⟨x2, rfl, hw_⟩; clear hw; (try clear hc0); (try clear hc1); (try clear hc2); (try clear hc3); (try clear hc4); (try clear hc5); (try clear hc6); have hw := Holds.unfocus1 3 (by simp) hw_; clear hw_; (try simp only [List.map_cons, List.map_nil, List.getD_cons_zero, List.getD_cons_succ, List.getD_nil, List.set_cons_zero, List.set_cons_succ, List.cons_append, List.nil_append, Act.eval, Array.getD_eq_getD_getElem?, List.getElem?_toArray, List.getElem?_cons_succ, List.getElem?_cons_zero, Option.getD_some, Value.cells] at hw); (try simp (disch := first | (simp; done) | (simp; omega)) only [Sep.mid_set, Sep.mid_set2, Sep.mid_set0, Sep.mid_splice, Sep.mid_splice0, List.set_cons_zero, List.set_cons_succ] at hw); (try simp only [Sep.splice, List.take_succ_cons, List.take_zero, List.drop_succ_cons, List.drop_zero, List.length_cons, List.length_nil, Nat.reduceAdd, List.cons_append, List.nil_append] at hw); (try replace hc0 := Sep.Holds.cells hw (i := 0) rfl); (try replace hc1 := Sep.Holds.cells hw (i := 1) rfl); (try replace hc2 := Sep.Holds.cells hw (i := 2) rfl); (try replace hc3 := Sep.Holds.cells hw (i := 3) rfl); (try replace hc4 := Sep.Holds.cells hw (i := 4) rfl); (try replace hc5 := Sep.Holds.cells hw (i := 5) rfl); (try replace hc6 := Sep.Holds.cells hw (i := 6) rfl))
            refine ⟨(SL.drop 3 (by kernel_rfl) (SL.drop 7 (by kernel_rfl) SL.nil)), ?_⟩
            try simp only [Act.put, List.setIfInBounds_toArray, List.set_cons_zero, List.set_cons_succ]
            refine wpL_q 8 ?_ rfl (Or.inl ⟨by rfl, fun w_ hS_ => ?_⟩) (marks 10 511) ?_
            rotate_left
            next => (go_simp; try (first | rfl | exact (Bool.not_not _).symm))
            try simp only [Act.put, List.setIfInBounds_toArray, List.set_cons_zero, List.set_cons_succ]
            refine wpL_q 9 ?_ rfl (Or.inl ⟨by rfl, fun w_ hS_ => ?_⟩) (marks 10 1023) ?_
            rotate_left
            next => (go_simp; try (first | rfl | exact (Bool.not_not _).symm))
            try simp only [Act.put, List.setIfInBounds_toArray, List.set_cons_zero, List.set_cons_succ]
            all_goals refine wpL_done (by kernel_rfl) ?_ _
            go_wp2_with fail
            go_meet
            exact ⟨rfl, rfl, hw.sel [0, 1, 7, 8] (by decide)⟩
        · as_aux_lemma =>
            go_wp2_with fail
            go_meet
            exact ⟨rfl, rfl, hw.sel [0, 1, 2, 3] (by decide)⟩
        · as_aux_lemma =>
            go_wp2_with fail
            go_meet
            exact ⟨rfl, rfl, hw.sel [0, 1, 2, 3] (by decide)⟩
        · as_aux_lemma =>
            go_wp2_with fail
            go_meet
            exact ⟨rfl, rfl, hw.sel [0, 1, 2, 3] (by decide)⟩
      case rest =>
        as_aux_lemma =>
        clear hw; (try clear hc0); (try clear hc1); (try clear hc2); (try clear hc3); (try clear hc4); (try clear hc5); (try clear hc6)
        obtain ⟨rfl, rfl, hw⟩ := hcut
        have Hl2 := Sep.hid (team_len (i := 1) rfl hw)
        go_wp2_with fail
        refine (oLimit p M' e _ _ (hw.focus1 1 rfl)).mono ?_
        rintro _ w_ ⟨rfl, rfl⟩
        go_wp2_with fail
        refine (oWaiting p M' e _ _ (hw.focus1 1 rfl)).mono ?_
        rintro en_ w_ ⟨c1, w1, rfl, hw_⟩
        clear hw; have hw := Holds.unfocus1 1 (by simp) hw_; clear hw_
        (try simp only [List.map_cons, List.map_nil, List.getD_cons_zero, List.getD_cons_succ, List.getD_nil, List.set_cons_zero, List.set_cons_succ, List.cons_append, List.nil_append, Act.eval, Array.getD_eq_getD_getElem?, List.getElem?_toArray, List.getElem?_cons_succ, List.getElem?_cons_zero, Option.getD_some, Value.cells] at hw); (try simp (disch := first | (simp; done) | (simp; omega)) only [Sep.mid_set, Sep.mid_set2, Sep.mid_set0, Sep.mid_splice, Sep.mid_splice0, List.set_cons_zero, List.set_cons_succ] at hw); (try simp only [Sep.splice, List.take_succ_cons, List.take_zero, List.drop_succ_cons, List.drop_zero, List.length_cons, List.length_nil, Nat.reduceAdd, List.cons_append, List.nil_append] at hw)
        go_wp2_with fail
        refine (oActive p M' e _ _ (hw.focus1 1 rfl)).mono ?_
        rintro _ w_ ⟨rfl, rfl⟩
        rcases Hinv'.out.1 with ⟨hl, hc⟩ | ⟨hl, hc⟩
        · obtain ⟨n', lim', act', fst', c', w'⟩ := M'
          obtain rfl : lim' = -1 := hl
          obtain rfl : c' = [] := hc
          obtain ⟨c2a, c2c, rfl⟩ := Sl.value (i := 2) rfl hw
          go_wp2_with fail
          refine (oFirst p ⟨n', -1, act', fst', [], w'⟩ e _ _ (hw.focus1 1 rfl)).mono ?_
          rintro _ w_ ⟨rfl, rfl⟩
          go_wp2_with fail
          refine (same_calls _ _ (⟨n', -1, act', fst', [], w'⟩ : TM).c (⟨n', -1, act', fst', [], w'⟩ : TM).c (by have := Hl2.out.1; (try simp only at this ⊢); omega) e _ _ (hw.focus2 4 2 rfl rfl (by decide))).mono ?_
          rintro en_ w_ ⟨he_, hw_⟩
          rw [decide_eq_true rfl] at he_; subst he_
          clear hw; have hw := Holds.unfocus2 4 2 (by simp) (by simp) (by decide) hw_; clear hw_
          (try simp only [List.map_cons, List.map_nil, List.getD_cons_zero, List.getD_cons_succ, List.getD_nil, List.set_cons_zero, List.set_cons_succ, List.cons_append, List.nil_append, Act.eval, Array.getD_eq_getD_getElem?, List.getElem?_toArray, List.getElem?_cons_succ, List.getElem?_cons_zero, Option.getD_some, Value.cells] at hw); (try simp (disch := first | (simp; done) | (simp; omega)) only [Sep.mid_set, Sep.mid_set2, Sep.mid_set0, Sep.mid_splice, Sep.mid_splice0, List.set_cons_zero, List.set_cons_succ] at hw); (try simp only [Sep.splice, List.take_succ_cons, List.take_zero, List.drop_succ_cons, List.drop_zero, List.length_cons, List.length_nil, Nat.reduceAdd, List.cons_append, List.nil_append] at hw)
          go_wp2_with fail
          refine (same_calls _ _ (⟨n', -1, act', fst', [], w'⟩ : TM).w (⟨n', -1, act', fst', [], w'⟩ : TM).w (by have := Hl2.out.2; (try simp only at this ⊢); omega) e _ _ (hw.focus2 5 3 rfl rfl (by decide))).mono ?_
          rintro en_ w_ ⟨he_, hw_⟩
          rw [decide_eq_true rfl] at he_; subst he_
          clear hw; have hw := Holds.unfocus2 5 3 (by simp) (by simp) (by decide) hw_; clear hw_
          (try simp only [List.map_cons, List.map_nil, List.getD_cons_zero, List.getD_cons_succ, List.getD_nil, List.set_cons_zero, List.set_cons_succ, List.cons_append, List.nil_append, Act.eval, Array.getD_eq_getD_getElem?, List.getElem?_toArray, List.getElem?_cons_succ, List.getElem?_cons_zero, Option.getD_some, Value.cells] at hw); (try simp (disch := first | (simp; done) | (simp; omega)) only [Sep.mid_set, Sep.mid_set2, Sep.mid_set0, Sep.mid_splice, Sep.mid_splice0, List.set_cons_zero, List.set_cons_succ] at hw); (try simp only [Sep.splice, List.take_succ_cons, List.take_zero, List.drop_succ_cons, List.drop_zero, List.length_cons, List.length_nil, Nat.reduceAdd, List.cons_append, List.nil_append] at hw)
          go_wp2_with fail
          go_roundw
          case rel => exact ⟨q + 1, ⟨n', -1, act', fst', [], w'⟩, by omega, by go_num, rfl, rfl, Hinv'.out.2, Hinv'.out.1, hw.sel [0, 1, 2, 3] (by decide)⟩
          case measure => simp [intOf]; omega
        · have hc2 : ¬ M'.lim < M'.act := by omega
          have hc3 : ¬ M'.lim < 0 := by omega
          go_wp2_with fail
          refine (oFirst p M' e _ _ (hw.focus1 1 rfl)).mono ?_
          rintro _ w_ ⟨rfl, rfl⟩
          go_wp2_with fail
          refine (same_calls _ _ (M' : TM).c (M' : TM).c (by have := Hl2.out.1; (try simp only at this ⊢); omega) e _ _ (hw.focus2 4 2 rfl rfl (by decide))).mono ?_
          rintro en_ w_ ⟨he_, hw_⟩
          rw [decide_eq_true rfl] at he_; subst he_
          clear hw; have hw := Holds.unfocus2 4 2 (by simp) (by simp) (by decide) hw_; clear hw_
          (try simp only [List.map_cons, List.map_nil, List.getD_cons_zero, List.getD_cons_succ, List.getD_nil, List.set_cons_zero, List.set_cons_succ, List.cons_append, List.nil_append, Act.eval, Array.getD_eq_getD_getElem?, List.getElem?_toArray, List.getElem?_cons_succ, List.getElem?_cons_zero, Option.getD_some, Value.cells] at hw); (try simp (disch := first | (simp; done) | (simp; omega)) only [Sep.mid_set, Sep.mid_set2, Sep.mid_set0, Sep.mid_splice, Sep.mid_splice0, List.set_cons_zero, List.set_cons_succ] at hw); (try simp only [Sep.splice, List.take_succ_cons, List.take_zero, List.drop_succ_cons, List.drop_zero, List.length_cons, List.length_nil, Nat.reduceAdd, List.cons_append, List.nil_append] at hw)
          go_wp2_with fail
          refine (same_calls _ _ (M' : TM).w (M' : TM).w (by have := Hl2.out.2; (try simp only at this ⊢); omega) e _ _ (hw.focus2 5 3 rfl rfl (by decide))).mono ?_
          rintro en_ w_ ⟨he_, hw_⟩
          rw [decide_eq_true rfl] at he_; subst he_
          clear hw; have hw := Holds.unfocus2 5 3 (by simp) (by simp) (by decide) hw_; clear hw_
          (try simp only [List.map_cons, List.map_nil, List.getD_cons_zero, List.getD_cons_succ, List.getD_nil, List.set_cons_zero, List.set_cons_succ, List.cons_append, List.nil_append, Act.eval, Array.getD_eq_getD_getElem?, List.getElem?_toArray, List.getElem?_cons_succ, List.getElem?_cons_zero, Option.getD_some, Value.cells] at hw); (try simp (disch := first | (simp; done) | (simp; omega)) only [Sep.mid_set, Sep.mid_set2, Sep.mid_set0, Sep.mid_splice, Sep.mid_splice0, List.set_cons_zero, List.set_cons_succ] at hw); (try simp only [Sep.splice, List.take_succ_cons, List.take_zero, List.drop_succ_cons, List.drop_zero, List.length_cons, List.length_nil, Nat.reduceAdd, List.cons_append, List.nil_append] at hw)
          go_wp2_with fail
          go_roundw
          case rel => exact ⟨q + 1, M', by omega, by go_num, rfl, rfl, Hinv'.out.2, Hinv'.out.1, hw.sel [0, 1, 2, 3] (by decide)⟩
          case measure => simp [intOf]; omega
    · go_wp2_with fail
      exact HP.out _ _ ⟨rfl, hw.sel [0] (by decide)⟩
end Go.Proofs.Ytcchbhaiegehjaa
