/-
  RingOnce: the walk.
-/
import Derived.Test.YtmjpppemdjknoaaOnceM
import Derived.Test.YtmjpppemdjknoaaReads
import Derived.Deep.CutBlock
import Derived.Deep.DeepCutAuto
namespace Go.Proofs.Ytmjpppemdjknoaa
set_option linter.unusedSimpArgs false
set_option linter.unusedVariables false
open Go.RowKit Go.Sep Go.RingM

set_option maxRecDepth 20000 in
set_option maxHeartbeats 40000000 in
theorem ring_once_walk (e : World) (n0 : Int) (hn0 : Hid (0 ≤ n0 ∧ n0 ≤ 255)) (n1 : Int) (hn1 : Hid (0 ≤ n1 ∧ n1 ≤ 255)) (a2 : Option Addr) (cap2 : Nat) (l2 : List Deed) (hl2 : Hid (ActsAt e a2 l2)) (hlen2 : l2.length ≤ 9223372036854775807) :
    Calls Try.prog 5 #[.int .u8 n0, .int .u8 n1, .slice a2 l2.length cap2] e fun en w' => en = .returned (.bool true) ∧ Holds e w' [Old e] := by
  have hw := Holds.start e
  by_cases hz0 : n0 = 0
  · subst hz0
    refine Sep.calls_post ?_
    intro Post_ hPost_
    have HP := Sep.hid hPost_
    clear hPost_
    go_enter Try.func5, Try.ntmps5
    go_wp2_with fail
    refine (awake_calls e _ _ hw).mono ?_
    rintro en_ w_ ⟨rfl, hw_⟩
    clear hw; have hw := hw_; clear hw_
    go_wp2_with fail
    exact HP.out _ _ ⟨rfl, hw⟩
  by_cases hz1 : n1 = 0
  · subst hz1
    refine Sep.calls_post ?_
    intro Post_ hPost_
    have HP := Sep.hid hPost_
    clear hPost_
    go_enter Try.func5, Try.ntmps5
    go_wp2_with fail
    refine (awake_calls e _ _ hw).mono ?_
    rintro en_ w_ ⟨rfl, hw_⟩
    clear hw; have hw := hw_; clear hw_
    go_wp2_with fail
    exact HP.out _ _ ⟨rfl, hw⟩
  by_cases hg0 : 20 < n0
  · refine Sep.calls_post ?_
    intro Post_ hPost_
    have HP := Sep.hid hPost_
    clear hPost_
    go_enter Try.func5, Try.ntmps5
    go_wp2_with fail
    refine (awake_calls e _ _ hw).mono ?_
    rintro en_ w_ ⟨rfl, hw_⟩
    clear hw; have hw := hw_; clear hw_
    go_wp2_with fail
    exact HP.out _ _ ⟨rfl, hw⟩
  by_cases hg1 : 20 < n1
  · refine Sep.calls_post ?_
    intro Post_ hPost_
    have HP := Sep.hid hPost_
    clear hPost_
    go_enter Try.func5, Try.ntmps5
    go_wp2_with fail
    refine (awake_calls e _ _ hw).mono ?_
    rintro en_ w_ ⟨rfl, hw_⟩
    clear hw; have hw := hw_; clear hw_
    go_wp2_with fail
    exact HP.out _ _ ⟨rfl, hw⟩
  by_cases hlong : (120 : Int) < l2.length
  · refine Sep.calls_post ?_
    intro Post_ hPost_
    have HP := Sep.hid hPost_
    clear hPost_
    go_enter Try.func5, Try.ntmps5
    go_wp2_with fail
    refine (awake_calls e _ _ hw).mono ?_
    rintro en_ w_ ⟨rfl, hw_⟩
    clear hw; have hw := hw_; clear hw_
    go_wp2_with fail
    exact HP.out _ _ ⟨rfl, hw⟩
  obtain ⟨m0, rfl⟩ : ∃ m : Nat, n0 = (m : Int) := ⟨n0.toNat, by have := hn0.out; omega⟩
  obtain ⟨m1, rfl⟩ : ∃ m : Nat, n1 = (m : Int) := ⟨n1.toNat, by have := hn1.out; omega⟩
  have hb0 : 1 ≤ m0 ∧ m0 ≤ 20 := by omega
  have hb1 : 1 ≤ m1 ∧ m1 ≤ 20 := by omega
  have hq0 : ((m0 : Int) == 0) = false := by simpa using hz0
  have hq1 : ((m1 : Int) == 0) = false := by simpa using hz1
  have hwr0 : IntKind.i64.wrap (m0 : Int) = (m0 : Int) := IntWalk.i64_in _ (by omega)
  have hwr1 : IntKind.i64.wrap (m1 : Int) = (m1 : Int) := IntWalk.i64_in _ (by omega)
  have Hb0 := Sep.hid hb0; have Hb1 := Sep.hid hb1
  have hb02 := hb0.2; have hb12 := hb1.2
  clear hz0 hz1 hn0 hn1 hb0 hb1
  generalize hlen' : l2.length = len at *
  have Hlen := Sep.hid hlen'; clear hlen'
  have hlong2 : len ≤ 120 := by omega
  refine Sep.calls_post ?_
  intro Post_ hPost_
  have HP := Sep.hid hPost_
  clear hPost_
  go_enter Try.func5, Try.ntmps5
  go_wp2_with fail
  refine (awake_calls e _ _ hw).mono ?_
  rintro en_ w_ ⟨rfl, hw_⟩
  clear hw; have hw := hw_; clear hw_
  go_wp2_with fail
  refine (rNew_ok m0 m1 Hb1.out.1 (by omega) Hb0.out.1 (by omega) e _ _ hw).mono ?_
  rintro en_ w_ ⟨p, rfl, hw_⟩
  clear hw; have hw := hw_; clear hw_
  go_wp2_with fail
  have Hw0 := Sep.hid hw; clear hw
  go_loopw [50] (fun i wr => ∃ (q : Nat) (R : Ring), q ≤ len ∧ i = .int .i64 q ∧ R.n = m1 ∧ R.rows.length = m0 ∧ Holds e wr [Old e, IsRing p R]) (fun i _ => len - (intOf i).toNat)
  case atStart => exact ⟨0, newRing m1 m0, Nat.zero_le _, rfl, rfl, by simp [newRing], Hw0.out⟩
  case round =>
    clear Hw0
    obtain ⟨q, R, hq, rfl, hRn, hRr, hw⟩ := hrel
    have HR0 := Sep.hid (And.intro hRn hRr)
    clear hRn hRr
    by_cases hlt : q < len
    · obtain ⟨d, hd⟩ : ∃ d, l2[q]? = some d := ⟨_, List.getElem?_eq_getElem (by rw [Hlen.out]; exact hlt)⟩
      obtain ⟨hdok, ad, rfl, hcell⟩ := hl2.out q d hd
      have Hcell := Sep.hid hcell; clear hcell hd hdok
      obtain ⟨g, n', b, R', hb⟩ : ∃ g n' b R', ract R d = (g, n', b, R') := ⟨_, _, _, _, rfl⟩
      have HRn : Hid (R'.n = m1 ∧ R'.rows.length = m0) := Sep.hid (by have h := ract_n R d; rw [hb] at h; exact ⟨h.1.trans HR0.out.1, h.2.trans HR0.out.2⟩)
      have Hb := Sep.hid hb; clear hb
      go_wp2_with (first | ((with_reducible refine wpList_act (x := ?hx0x7) (y := ?hy0x7) (x1 := ?hx1x7) (x3 := ?hx3x7) (y3 := ?hy3x7) (cap := ?hcpx7) (vs := encA d) (q := q) (ad := ad) ti32 agg32 sl22 ?a1x7 ?a2x7 hlt hw (i := 0) ?a3x7 ?a4x7 ?a5x7 (encA_one d) Hcell.out ?b0x7 ?c0x7 ?b1x7 ?c1x7 ?d1x7 ?b2x7 ?c2x7 ?b3x7 ?c3x7 ?d3x7 ?f3x7 ?ggx7); (case b0x7 => rfl); (case b1x7 => rfl); (case b2x7 => rfl); (case b3x7 => rfl); (case a1x7 => rfl); (case a2x7 => rfl); (case a3x7 => rfl); (case a4x7 => rfl); (case a5x7 => rfl); (case c0x7 => rfl); (case c1x7 => rfl); (case d1x7 => rfl); (case c2x7 => rfl); (case c3x7 => (intro b; rfl)); (case d3x7 => (intro b; rfl)); (case f3x7 => (intro b; rfl)); intro bd w_ hw_; clear hw; have hw := hw_; clear hw_; (try simp only [List.map_cons, List.map_nil, List.getD_cons_zero, List.getD_cons_succ, List.getD_nil, List.set_cons_zero, List.set_cons_succ, List.cons_append, List.nil_append, Act.eval, Array.getD_eq_getD_getElem?, List.getElem?_toArray, List.getElem?_cons_succ, List.getElem?_cons_zero, Option.getD_some, Value.cells] at hw); (try simp (disch := first | (simp; done) | (simp; omega)) only [Sep.mid_set, Sep.mid_set2, Sep.mid_set0, Sep.mid_splice, Sep.mid_splice0, List.set_cons_zero, List.set_cons_succ] at hw); (try simp only [Sep.splice, List.take_succ_cons, List.take_zero, List.drop_succ_cons, List.drop_zero, List.length_cons, List.length_nil, Nat.reduceAdd, List.cons_append, List.nil_append] at hw); (try replace hc0 := Sep.Holds.cells hw (i := 0) rfl); (try replace hc1 := Sep.Holds.cells hw (i := 1) rfl); (try replace hc2 := Sep.Holds.cells hw (i := 2) rfl); (try replace hc3 := Sep.Holds.cells hw (i := 3) rfl); (try replace hc4 := Sep.Holds.cells hw (i := 4) rfl); (try replace hc5 := Sep.Holds.cells hw (i := 5) rfl); (try replace hc6 := Sep.Holds.cells hw (i := 6) rfl)) | (refine wpList_on rfl (wp_loadN (vs := encA d) rfl rfl hw (i := 2) rfl rfl (by intro j v hj; simpa using hj) ?_)))
      have hdo := fun w X hw => do_calls p R d e w X hw
      simp only [Hb.out] at hdo
      refine (hdo _ _ (hw.focus1 1 rfl)).mono ?_
      rintro en_ w_ ⟨rfl, hw_⟩
      clear hw; (try clear hc0); (try clear hc1); (try clear hc2); (try clear hc3); (try clear hc4); (try clear hc5); (try clear hc6); have hw := Holds.unfocus1 1 (by simp) hw_; clear hw_ hdo Hb
      have hA : encA d = [.int .i64 d.f0, .int .i64 d.f1, .int .i64 d.f2] := rfl
      rw [hA] at hw; clear hA
      (try simp only [List.map_cons, List.map_nil, List.getD_cons_zero, List.getD_cons_succ, List.getD_nil, List.set_cons_zero, List.set_cons_succ, List.cons_append, List.nil_append, Act.eval, Array.getD_eq_getD_getElem?, List.getElem?_toArray, List.getElem?_cons_succ, List.getElem?_cons_zero, Option.getD_some, Value.cells] at hw); (try simp (disch := first | (simp; done) | (simp; omega)) only [Sep.mid_set, Sep.mid_set2, Sep.mid_set0, Sep.mid_splice, Sep.mid_splice0, List.set_cons_zero, List.set_cons_succ] at hw); (try simp only [Sep.splice, List.take_succ_cons, List.take_zero, List.drop_succ_cons, List.drop_zero, List.length_cons, List.length_nil, Nat.reduceAdd, List.cons_append, List.nil_append] at hw)
      have HW := Sep.hid (ringWf (i := 1) rfl hw).1
      go_wp2_with (refine wpList_on rfl (wp_newMap rfl hw ?_); intro m w_ hw_; clear hw; have hw := hw_; clear hw_; (try simp only [List.map_cons, List.map_nil, List.getD_cons_zero, List.getD_cons_succ, List.getD_nil, List.set_cons_zero, List.set_cons_succ, List.cons_append, List.nil_append, Act.eval, Array.getD_eq_getD_getElem?, List.getElem?_toArray, List.getElem?_cons_succ, List.getElem?_cons_zero, Option.getD_some, Value.cells] at hw); (try simp (disch := first | (simp; done) | (simp; omega)) only [Sep.mid_set, Sep.mid_set2, Sep.mid_set0, Sep.mid_splice, Sep.mid_splice0, List.set_cons_zero, List.set_cons_succ] at hw); (try simp only [Sep.splice, List.take_succ_cons, List.take_zero, List.drop_succ_cons, List.drop_zero, List.length_cons, List.length_nil, Nat.reduceAdd, List.cons_append, List.nil_append] at hw); (try replace hc0 := Sep.Holds.cells hw (i := 0) rfl); (try replace hc1 := Sep.Holds.cells hw (i := 1) rfl); (try replace hc2 := Sep.Holds.cells hw (i := 2) rfl); (try replace hc3 := Sep.Holds.cells hw (i := 3) rfl); (try replace hc4 := Sep.Holds.cells hw (i := 4) rfl); (try replace hc5 := Sep.Holds.cells hw (i := 5) rfl); (try replace hc6 := Sep.Holds.cells hw (i := 6) rfl))
      have Hw1 := Sep.hid hw; clear hw; (try clear hc0); (try clear hc1); (try clear hc2); (try clear hc3); (try clear hc4); (try clear hc5); (try clear hc6)
      go_loopw [60] (fun i wr => ∃ k : Nat, k ≤ m0 ∧ i = .int .i64 k ∧ Holds e wr [Old e, IsRing p R', pt bd [.int .i64 d.f0, .int .i64 d.f1, .int .i64 d.f2] 32, IsMap m .i64 (encF (once (allTo R' k)))]) (fun i _ => m0 - (intOf i).toNat)
      case atStart => exact ⟨0, Nat.zero_le _, rfl, by rw [allTo_zero, once_nil]; exact Hw1.out⟩
      case round =>
        as_aux_lemma =>
        clear Hw1
        obtain ⟨i, hi, rfl, hw⟩ := hrel
        by_cases hil : i < m0
        · obtain ⟨l, hl⟩ : ∃ l, R'.rows[i]? = some l := ⟨_, List.getElem?_eq_getElem (by rw [HRn.out.2]; exact hil)⟩
          have Hl := Sep.hid hl
          have Hrow : Hid (R'.row (i : Int) = l) := Sep.hid (Ring.row_of hl)
          obtain ⟨nl, hnl⟩ : ∃ n, l.length = n := ⟨_, rfl⟩
          have Hnl : Hid (l.length = nl ∧ (ints l).length = nl) := Sep.hid ⟨hnl, by rw [ints_length]; exact hnl⟩
          have hnl1000 : nl ≤ 1000 := by
            have h1 := nodup_le (HW.out.one i l hl).1 (HW.out.one i l hl).2
            rw [HRn.out.1] at h1; omega
          clear hl hnl
          go_wp2_with fail
          refine (rList_calls p R' i e _ _ (hw.focus1 1 rfl)).mono ?_
          rintro en_ w_ ⟨v, rfl, hw_⟩
          clear hw; have hw := Holds.unfocus1 1 (by simp) hw_; clear hw_
          (try simp only [List.map_cons, List.map_nil, List.getD_cons_zero, List.getD_cons_succ, List.getD_nil, List.set_cons_zero, List.set_cons_succ, List.cons_append, List.nil_append, Act.eval, Array.getD_eq_getD_getElem?, List.getElem?_toArray, List.getElem?_cons_succ, List.getElem?_cons_zero, Option.getD_some, Value.cells] at hw); (try simp (disch := first | (simp; done) | (simp; omega)) only [Sep.mid_set, Sep.mid_set2, Sep.mid_set0, Sep.mid_splice, Sep.mid_splice0, List.set_cons_zero, List.set_cons_succ] at hw); (try simp only [Sep.splice, List.take_succ_cons, List.take_zero, List.drop_succ_cons, List.drop_zero, List.length_cons, List.length_nil, Nat.reduceAdd, List.cons_append, List.nil_append] at hw)
          rw [Hrow.out] at hw
          have hw : Holds e w_ [Old e, IsRing p R', pt bd [.int .i64 d.f0, .int .i64 d.f1, .int .i64 d.f2] 32, IsMap m .i64 (encF (once (allTo R' i))), Sl 3 1 v nl (encI (ints l))] := by
            rw [sl_ints (Sep.hid Hnl.out.2)]; exact hw
          obtain ⟨va, vc, rfl⟩ := Sl.value (i := 4) rfl hw
          go_wp2_with fail
          refine (rLen_calls p R' i e _ _ (hw.focus1 1 rfl)).mono ?_
          rintro _ w_ ⟨rfl, rfl⟩
          rw [Hrow.out, Hnl.out.1]
          go_wp2_with fail
          have Hw2 := Sep.hid hw; clear hw
          go_loopw [74] (fun j wr => ∃ k : Nat, k ≤ nl ∧ j = .int .i64 k ∧ Holds e wr [Old e, IsRing p R', pt bd [.int .i64 d.f0, .int .i64 d.f1, .int .i64 d.f2] 32, IsMap m .i64 (encF (once (allTo R' i ++ (ints l).take k))), Sl 3 1 (.slice va nl vc) nl (encI (ints l))]) (fun j _ => nl - (intOf j).toNat)
          case atStart => exact ⟨0, Nat.zero_le _, rfl, by rw [List.take_zero, List.append_nil]; exact Hw2.out⟩
          case round =>
            clear Hw2
            obtain ⟨k, hk, rfl, hw⟩ := hrel
            by_cases hkl : k < nl
            · obtain ⟨x, hx⟩ : ∃ x, l[k]? = some x := ⟨_, List.getElem?_eq_getElem (by rw [Hnl.out.1]; exact hkl)⟩
              have hxi : (ints l)[k]? = some (x : Int) := by unfold ints; rw [List.getElem?_map, hx]; rfl
              obtain ⟨bo, oo, rfl, go⟩ := num_at (i := 4) hw rfl hxi
              obtain ⟨hin, hxn⟩ := in_row HW.out Hl.out (List.mem_of_getElem? hx)
              rw [HRn.out.1] at hxn
              have Hin := Sep.hid hin
              have Hnew : Hid ((once (allTo R' i ++ (ints l).take k) (x : Int)).getD 0 = 0) := Sep.hid (once_new (nodup_cut (flat_nodup HW.out) (allTo_split Hl.out) hxi))
              have Hnew1 : Hid (((setI (once (allTo R' i ++ (ints l).take k)) (x : Int) (some 1)) (x : Int)).getD 0 = 1) := Sep.hid (setI_at _ _ _)
              have Htk : Hid ((allTo R' i ++ (ints l).take k) ++ [(x : Int)] = allTo R' i ++ (ints l).take (k + 1)) := Sep.hid (by rw [List.append_assoc, take_snocI hxi])
              have hx0 : (0 : Int) ≤ (x : Int) := by omega
              have hx1 : (x : Int) < (m1 : Int) := by omega
              clear hx hxi hin hxn
              go_wp2_with (first | (refine wpList_on rfl (wp_lookV (i := 3) rfl rfl rfl hw rfl Hnew.out ?_)) | (refine wpList_on rfl (wp_setI (i := 3) rfl rfl rfl rfl hw rfl ?_); intro w_ hw_; clear hw; have hw := hw_; clear hw_; (try simp only [List.map_cons, List.map_nil, List.getD_cons_zero, List.getD_cons_succ, List.getD_nil, List.set_cons_zero, List.set_cons_succ, List.cons_append, List.nil_append, Act.eval, Array.getD_eq_getD_getElem?, List.getElem?_toArray, List.getElem?_cons_succ, List.getElem?_cons_zero, Option.getD_some, Value.cells] at hw); (try simp (disch := first | (simp; done) | (simp; omega)) only [Sep.mid_set, Sep.mid_set2, Sep.mid_set0, Sep.mid_splice, Sep.mid_splice0, List.set_cons_zero, List.set_cons_succ] at hw); (try simp only [Sep.splice, List.take_succ_cons, List.take_zero, List.drop_succ_cons, List.drop_zero, List.length_cons, List.length_nil, Nat.reduceAdd, List.cons_append, List.nil_append] at hw); (try replace hc0 := Sep.Holds.cells hw (i := 0) rfl); (try replace hc1 := Sep.Holds.cells hw (i := 1) rfl); (try replace hc2 := Sep.Holds.cells hw (i := 2) rfl); (try replace hc3 := Sep.Holds.cells hw (i := 3) rfl); (try replace hc4 := Sep.Holds.cells hw (i := 4) rfl); (try replace hc5 := Sep.Holds.cells hw (i := 5) rfl); (try replace hc6 := Sep.Holds.cells hw (i := 6) rfl)) | (refine upon_lookV (i := 3) hw rfl Hnew1.out ?_))
              refine (rIn_calls p R' x e _ _ (hw.focus1 1 rfl)).mono ?_
              rintro _ w_ ⟨rfl, rfl⟩
              rw [Hin.out]
              go_wp2_with fail
              go_roundw
              case rel => exact ⟨k + 1, by omega, by go_num, by rw [← Htk.out, ← once_snoc]; exact hw⟩
              case measure => simp [intOf]; omega
            · have Htk : Hid ((ints l).take k = ints l) := Sep.hid (List.take_of_length_le (by rw [Hnl.out.2]; omega))
              rw [Htk.out] at hw
              go_wp2_with fail
              go_roundw
              case rel => exact ⟨i + 1, by omega, by go_num, by rw [allTo_succ Hl.out]; exact hw.sel [0, 1, 2, 3] (by decide)⟩
              case measure => simp [intOf]; omega
        · rw [allTo_end (R := R') (by rw [HRn.out.2]; omega)] at hw
          go_wp2_with fail
          have Hw2 := Sep.hid hw; clear hw
          go_loopw [107] (fun j wr => ∃ k : Nat, k ≤ m1 ∧ j = .int .i64 k ∧ Holds e wr [Old e, IsRing p R', pt bd [.int .i64 d.f0, .int .i64 d.f1, .int .i64 d.f2] 32, IsMap m .i64 (encF (once (ints R'.rows.flatten)))]) (fun j _ => m1 - (intOf j).toNat)
          case atStart => exact ⟨0, Nat.zero_le _, rfl, Hw2.out⟩
          case round =>
            as_aux_lemma =>
            clear Hw2
            obtain ⟨k, hk, rfl, hw⟩ := hrel
            by_cases hkl : k < m1
            · rcases in_all HW.out k with ⟨hm, j, hj⟩ | ⟨hm, hj⟩
              · have Hin := Sep.hid hj
                have Hlk := Sep.hid (once_in hm)
                have hj0 : (0 : Int) ≤ (j : Int) := by omega
                clear hm hj
                go_wp2_with fail
                refine wp_region_L [2] [(6, (fun w' => Holds e w' [IsMap m .i64 (encF (once (ints R'.rows.flatten)))]))] (n := 9) (listed := (marks 9 0)) (by kernel_rfl) rfl (by kernel_rfl) ?conds1 ?_
                case conds1 =>
                 intro c hc
                 simp only [List.mem_cons, List.not_mem_nil, or_false] at hc
                 rcases hc with rfl
                 · exact (by replace hw := hw.drew; exact hw.sel [3] (by decide))
                replace hw := hw.drew
                (try replace hc0 := Sep.Holds.cells hw (i := 0) rfl); (try replace hc1 := Sep.Holds.cells hw (i := 1) rfl); (try replace hc2 := Sep.Holds.cells hw (i := 2) rfl); (try replace hc3 := Sep.Holds.cells hw (i := 3) rfl); (try replace hc4 := Sep.Holds.cells hw (i := 4) rfl); (try replace hc5 := Sep.Holds.cells hw (i := 5) rfl); (try replace hc6 := Sep.Holds.cells hw (i := 6) rfl)
                refine wpL_q 0 ?_ rfl (Or.inl ⟨by rfl, fun w_ hS_ => ?_⟩) (marks 9 1) ?_
                rotate_left
                next => (go_simp; try (first | rfl | exact (Bool.not_not _).symm))
                try simp only [Act.put, List.setIfInBounds_toArray, List.set_cons_zero, List.set_cons_succ]
                refine wpL_q 1 ?_ rfl (Or.inl ⟨by rfl, fun w_ hS_ => ?_⟩) (marks 9 3) ?_
                rotate_left
                next => (go_simp; try (first | rfl | exact (Bool.not_not _).symm))
                try simp only [Act.put, List.setIfInBounds_toArray, List.set_cons_zero, List.set_cons_succ]
                refine wpL_q 4 ?_ rfl (Or.inl ⟨by rfl, fun w_ hS_ => ?_⟩) (marks 9 19) ?_
                rotate_left
                next => (go_simp; try (first | rfl | exact (Bool.not_not _).symm))
                try simp only [Act.put, List.setIfInBounds_toArray, List.set_cons_zero, List.set_cons_succ]
                refine wpL_q 5 ?_ rfl (Or.inl ⟨by rfl, fun w_ hS_ => ?_⟩) (marks 9 51) ?_
                rotate_left
                next => (go_simp; try (first | rfl | exact (Bool.not_not _).symm))
                try simp only [Act.put, List.setIfInBounds_toArray, List.set_cons_zero, List.set_cons_succ]
                refine wpL_m 6 ?_ rfl (.head _) (Or.inl ⟨by rfl, fun w_ hS_ => ?_⟩) (marks 9 115) ?_
                rotate_left
                next => (dsimp only at hS_; (try have q0 := Sep.Holds.cells hS_ (i := 0) rfl); (try have q1 := Sep.Holds.cells hS_ (i := 1) rfl); (try have q2 := Sep.Holds.cells hS_ (i := 2) rfl); (try have q3 := Sep.Holds.cells hS_ (i := 3) rfl); (try have q4 := Sep.Holds.cells hS_ (i := 4) rfl); (try have q5 := Sep.Holds.cells hS_ (i := 5) rfl); (try have q6 := Sep.Holds.cells hS_ (i := 6) rfl); first | (refine Eq.trans (run_lookV (i := 0) rfl rfl rfl hS_ rfl Hlk.out) ?_; rfl) | (go_simp; try (first | rfl | exact (Bool.not_not _).symm)))
                try simp only [Act.put, List.setIfInBounds_toArray, List.set_cons_zero, List.set_cons_succ]
                refine wpL_q 7 ?_ rfl (Or.inl ⟨by rfl, fun w_ hS_ => ?_⟩) (marks 9 243) ?_
                rotate_left
                next => (first | (refine Eq.trans (run_lookV (i := 0) rfl rfl rfl hS_ rfl Hlk.out) ?_; rfl) | (go_simp; try (first | rfl | exact (Bool.not_not _).symm)))
                try simp only [Act.put, List.setIfInBounds_toArray, List.set_cons_zero, List.set_cons_succ]
                refine wpL_o 2 rfl (by rfl) (marks 9 247) ?_
                (go_simp; go_at_call 17; refine (rIn_calls p R' k e _ _ (hw.focus1 1 rfl)).mono ?_; rintro _ w_ ⟨rfl, rfl⟩; rw [Hin.out])
                refine ⟨(SL.keep (by exact hw.sel [3] (by decide)) SL.nil), ?_⟩
                try simp only [Act.put, List.setIfInBounds_toArray, List.set_cons_zero, List.set_cons_succ]
                refine wpL_q 3 ?_ rfl (Or.inl ⟨by rfl, fun w_ hS_ => ?_⟩) (marks 9 255) ?_
                rotate_left
                next => (go_simp; try (first | rfl | exact (Bool.not_not _).symm))
                try simp only [Act.put, List.setIfInBounds_toArray, List.set_cons_zero, List.set_cons_succ]
                refine wpL_q 8 ?_ rfl (Or.inl ⟨by rfl, fun w_ hS_ => ?_⟩) (marks 9 511) ?_
                rotate_left
                next => (first | (refine Eq.trans (run_lookV (i := 0) rfl rfl rfl hS_ rfl Hlk.out) ?_; rfl) | (go_simp; try (first | rfl | exact (Bool.not_not _).symm)))
                try simp only [Act.put, List.setIfInBounds_toArray, List.set_cons_zero, List.set_cons_succ]
                all_goals refine wpL_done (by kernel_rfl) ?_ _
                go_wp2_with fail
                go_roundw
                case rel => exact ⟨k + 1, by omega, by go_num, hw⟩
                case measure => simp [intOf]; omega
              · have Hin := Sep.hid hj
                have Hlk := Sep.hid (once_new hm)
                clear hm hj
                go_wp2_with fail
                refine wp_region_L [2] [(6, (fun w' => Holds e w' [IsMap m .i64 (encF (once (ints R'.rows.flatten)))]))] (n := 9) (listed := (marks 9 0)) (by kernel_rfl) rfl (by kernel_rfl) ?conds2 ?_
                case conds2 =>
                 intro c hc
                 simp only [List.mem_cons, List.not_mem_nil, or_false] at hc
                 rcases hc with rfl
                 · exact (by replace hw := hw.drew; exact hw.sel [3] (by decide))
                replace hw := hw.drew
                (try replace hc0 := Sep.Holds.cells hw (i := 0) rfl); (try replace hc1 := Sep.Holds.cells hw (i := 1) rfl); (try replace hc2 := Sep.Holds.cells hw (i := 2) rfl); (try replace hc3 := Sep.Holds.cells hw (i := 3) rfl); (try replace hc4 := Sep.Holds.cells hw (i := 4) rfl); (try replace hc5 := Sep.Holds.cells hw (i := 5) rfl); (try replace hc6 := Sep.Holds.cells hw (i := 6) rfl)
                refine wpL_q 0 ?_ rfl (Or.inl ⟨by rfl, fun w_ hS_ => ?_⟩) (marks 9 1) ?_
                rotate_left
                next => (go_simp; try (first | rfl | exact (Bool.not_not _).symm))
                try simp only [Act.put, List.setIfInBounds_toArray, List.set_cons_zero, List.set_cons_succ]
                refine wpL_q 1 ?_ rfl (Or.inl ⟨by rfl, fun w_ hS_ => ?_⟩) (marks 9 3) ?_
                rotate_left
                next => (go_simp; try (first | rfl | exact (Bool.not_not _).symm))
                try simp only [Act.put, List.setIfInBounds_toArray, List.set_cons_zero, List.set_cons_succ]
                refine wpL_q 4 ?_ rfl (Or.inl ⟨by rfl, fun w_ hS_ => ?_⟩) (marks 9 19) ?_
                rotate_left
                next => (go_simp; try (first | rfl | exact (Bool.not_not _).symm))
                try simp only [Act.put, List.setIfInBounds_toArray, List.set_cons_zero, List.set_cons_succ]
                refine wpL_q 5 ?_ rfl (Or.inl ⟨by rfl, fun w_ hS_ => ?_⟩) (marks 9 51) ?_
                rotate_left
                next => (go_simp; try (first | rfl | exact (Bool.not_not _).symm))
                try simp only [Act.put, List.setIfInBounds_toArray, List.set_cons_zero, List.set_cons_succ]
                refine wpL_m 6 ?_ rfl (.head _) (Or.inl ⟨by rfl, fun w_ hS_ => ?_⟩) (marks 9 115) ?_
                rotate_left
                next => (dsimp only at hS_; (try have q0 := Sep.Holds.cells hS_ (i := 0) rfl); (try have q1 := Sep.Holds.cells hS_ (i := 1) rfl); (try have q2 := Sep.Holds.cells hS_ (i := 2) rfl); (try have q3 := Sep.Holds.cells hS_ (i := 3) rfl); (try have q4 := Sep.Holds.cells hS_ (i := 4) rfl); (try have q5 := Sep.Holds.cells hS_ (i := 5) rfl); (try have q6 := Sep.Holds.cells hS_ (i := 6) rfl); first | (refine Eq.trans (run_lookV (i := 0) rfl rfl rfl hS_ rfl Hlk.out) ?_; rfl) | (go_simp; try (first | rfl | exact (Bool.not_not _).symm)))
                try simp only [Act.put, List.setIfInBounds_toArray, List.set_cons_zero, List.set_cons_succ]
                refine wpL_q 7 ?_ rfl (Or.inl ⟨by rfl, fun w_ hS_ => ?_⟩) (marks 9 243) ?_
                rotate_left
                next => (first | (refine Eq.trans (run_lookV (i := 0) rfl rfl rfl hS_ rfl Hlk.out) ?_; rfl) | (go_simp; try (first | rfl | exact (Bool.not_not _).symm)))
                try simp only [Act.put, List.setIfInBounds_toArray, List.set_cons_zero, List.set_cons_succ]
                refine wpL_o 2 rfl (by rfl) (marks 9 247) ?_
                (go_simp; go_at_call 17; refine (rIn_calls p R' k e _ _ (hw.focus1 1 rfl)).mono ?_; rintro _ w_ ⟨rfl, rfl⟩; rw [Hin.out])
                refine ⟨(SL.keep (by exact hw.sel [3] (by decide)) SL.nil), ?_⟩
                try simp only [Act.put, List.setIfInBounds_toArray, List.set_cons_zero, List.set_cons_succ]
                refine wpL_q 3 ?_ rfl (Or.inl ⟨by rfl, fun w_ hS_ => ?_⟩) (marks 9 255) ?_
                rotate_left
                next => (go_simp; try (first | rfl | exact (Bool.not_not _).symm))
                try simp only [Act.put, List.setIfInBounds_toArray, List.set_cons_zero, List.set_cons_succ]
                refine wpL_q 8 ?_ rfl (Or.inl ⟨by rfl, fun w_ hS_ => ?_⟩) (marks 9 511) ?_
                rotate_left
                next => (first | (refine Eq.trans (run_lookV (i := 0) rfl rfl rfl hS_ rfl Hlk.out) ?_; rfl) | (go_simp; try (first | rfl | exact (Bool.not_not _).symm)))
                try simp only [Act.put, List.setIfInBounds_toArray, List.set_cons_zero, List.set_cons_succ]
                all_goals refine wpL_done (by kernel_rfl) ?_ _
                go_wp2_with fail
                go_roundw
                case rel => exact ⟨k + 1, by omega, by go_num, hw⟩
                case measure => simp [intOf]; omega
            · go_wp2_with fail
              go_roundw
              case rel => exact ⟨q + 1, R', by omega, by go_num, HRn.out.1, HRn.out.2, hw.sel [0, 1] (by decide)⟩
              case measure => simp [intOf]; omega
    · go_wp2_with fail
      exact HP.out _ _ ⟨rfl, hw.sel [0] (by decide)⟩
end Go.Proofs.Ytmjpppemdjknoaa
