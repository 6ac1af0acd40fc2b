/-
  TreePaths: the walk.
-/
import Derived.Test.YtlegkikglpogkaaTrReaches
import Derived.Test.YtlegkikglpogkaaSameRd
import Derived.Test.YtlegkikglpogkaaSepPart
namespace Go.Proofs.Ytlegkikglpogkaa
set_option linter.unusedSimpArgs false
set_option linter.unusedVariables false
open Go.RowKit Go.Sep Go.TreeM

set_option maxRecDepth 20000 in
set_option maxHeartbeats 40000000 in
theorem tree_paths_walk (e : World) (a0 : Option Addr) (cap0 : Nat) (l0 : List Deed) (hl0 : Hid (ActsAt e a0 l0)) (hlen0 : l0.length ≤ 9223372036854775807) (n1 : Int) (hn1 : Hid (0 ≤ n1 ∧ n1 ≤ 255)) :
    Calls Try.prog 5 #[.slice a0 l0.length cap0, .int .u8 n1] e fun en w' => en = .returned (.bool true) ∧ Holds e w' [Old e] := by
  have hw := Holds.start e
  by_cases hlong : (40 : Int) < l0.length
  · refine Sep.calls_post ?_
    intro Post_ hPost_
    have HP := Sep.hid hPost_
    clear hPost_
    go_enter Try.func5, Try.ntmps5
    go_wp2_with fail
    refine (awake_calls e _ _ hw.focus0).mono ?_
    rintro en_ w_ ⟨rfl, hw_⟩
    clear hw; (try clear hc0); (try clear hc1); (try clear hc2); (try clear hc3); (try clear hc4); (try clear hc5); (try clear hc6); have hw := Holds.unfocus0 hw_; clear hw_
    (try simp only [List.map_cons, List.map_nil, List.getD_cons_zero, List.getD_cons_succ, List.getD_nil, List.set_cons_zero, List.set_cons_succ, List.cons_append, List.nil_append, Act.eval, Array.getD_eq_getD_getElem?, List.getElem?_toArray, List.getElem?_cons_succ, List.getElem?_cons_zero, Option.getD_some, Value.cells] at hw); (try simp (disch := first | (simp; done) | (simp; omega)) only [Sep.mid_set, Sep.mid_set2, Sep.mid_set0, Sep.mid_splice, Sep.mid_splice0, List.set_cons_zero, List.set_cons_succ] at hw); (try simp only [Sep.splice, List.take_succ_cons, List.take_zero, List.drop_succ_cons, List.drop_zero, List.length_cons, List.length_nil, Nat.reduceAdd, List.cons_append, List.nil_append] at hw)
    go_wp2_with fail
    exact HP.out _ _ ⟨rfl, hw.sel [0] (by decide)⟩
  generalize hlen' : l0.length = len at *
  have Hlen := Sep.hid hlen'; clear hlen'
  have hlong2 : len ≤ 40 := by omega
  refine Sep.calls_post ?_
  intro Post_ hPost_
  have HP := Sep.hid hPost_
  clear hPost_
  go_enter Try.func5, Try.ntmps5
  go_wp2_with fail
  refine (awake_calls e _ _ hw.focus0).mono ?_
  rintro en_ w_ ⟨rfl, hw_⟩
  clear hw; (try clear hc0); (try clear hc1); (try clear hc2); (try clear hc3); (try clear hc4); (try clear hc5); (try clear hc6); have hw := Holds.unfocus0 hw_; clear hw_
  (try simp only [List.map_cons, List.map_nil, List.getD_cons_zero, List.getD_cons_succ, List.getD_nil, List.set_cons_zero, List.set_cons_succ, List.cons_append, List.nil_append, Act.eval, Array.getD_eq_getD_getElem?, List.getElem?_toArray, List.getElem?_cons_succ, List.getElem?_cons_zero, Option.getD_some, Value.cells] at hw); (try simp (disch := first | (simp; done) | (simp; omega)) only [Sep.mid_set, Sep.mid_set2, Sep.mid_set0, Sep.mid_splice, Sep.mid_splice0, List.set_cons_zero, List.set_cons_succ] at hw); (try simp only [Sep.splice, List.take_succ_cons, List.take_zero, List.drop_succ_cons, List.drop_zero, List.length_cons, List.length_nil, Nat.reduceAdd, List.cons_append, List.nil_append] at hw)
  go_wp2_with fail
  refine (tNew_ok 40 (by decide) (by decide) e _ _ hw.focus0).mono ?_
  rintro en_ w_ ⟨p, rfl, hw_⟩
  clear hw; have hw := Holds.unfocus0 hw_; clear hw_
  (try simp only [List.map_cons, List.map_nil, List.getD_cons_zero, List.getD_cons_succ, List.getD_nil, List.set_cons_zero, List.set_cons_succ, List.cons_append, List.nil_append, Act.eval, Array.getD_eq_getD_getElem?, List.getElem?_toArray, List.getElem?_cons_succ, List.getElem?_cons_zero, Option.getD_some, Value.cells] at hw); (try simp (disch := first | (simp; done) | (simp; omega)) only [Sep.mid_set, Sep.mid_set2, Sep.mid_set0, Sep.mid_splice, Sep.mid_splice0, List.set_cons_zero, List.set_cons_succ] at hw); (try simp only [Sep.splice, List.take_succ_cons, List.take_zero, List.drop_succ_cons, List.drop_zero, List.length_cons, List.length_nil, Nat.reduceAdd, List.cons_append, List.nil_append] at hw)
  go_wp2_with fail
  have Hw0 := Sep.hid hw; clear hw
  (try clear hc0); (try clear hc1); (try clear hc2); (try clear hc3); (try clear hc4); (try clear hc5); (try clear hc6)
  go_loopw [28] (fun i wr => ∃ (q : Nat) (T : Tree), q ≤ len ∧ i = .int .i64 q ∧ Hid T.Ok ∧ Holds e wr [Old e, IsTree p T]) (fun i _ => len - (intOf i).toNat)
  case atStart => exact ⟨0, ⟨[], 40⟩, Nat.zero_le _, rfl, Sep.hid (Tree.Ok.new (by omega)), Hw0.out⟩
  case round =>
    clear Hw0
    obtain ⟨q, T, hq, rfl, HT, hw⟩ := hrel
    by_cases hlt : q < len
    · obtain ⟨d, hd⟩ : ∃ d, l0[q]? = some d := ⟨_, List.getElem?_eq_getElem (by rw [Hlen.out]; exact hlt)⟩
      obtain ⟨hdok, ad, rfl, hcell⟩ := hl0.out q d hd
      have Hcell := Sep.hid hcell; clear hcell hd hdok
      go_wp2_with (first | ((with_reducible refine wpList_act (x := ?hx0x7) (y := ?hy0x7) (x1 := ?hx1x7) (x3 := ?hx3x7) (y3 := ?hy3x7) (cap := ?hcpx7) (vs := encA d) (q := q) (ad := ad) ti32 agg32 sl22 ?a1x7 ?a2x7 hlt hw (i := 0) ?a3x7 ?a4x7 ?a5x7 (encA_one d) Hcell.out ?b0x7 ?c0x7 ?b1x7 ?c1x7 ?d1x7 ?b2x7 ?c2x7 ?b3x7 ?c3x7 ?d3x7 ?f3x7 ?ggx7); (case b0x7 => rfl); (case b1x7 => rfl); (case b2x7 => rfl); (case b3x7 => rfl); (case a1x7 => rfl); (case a2x7 => rfl); (case a3x7 => rfl); (case a4x7 => rfl); (case a5x7 => rfl); (case c0x7 => rfl); (case c1x7 => rfl); (case d1x7 => rfl); (case c2x7 => rfl); (case c3x7 => (intro b; rfl)); (case d3x7 => (intro b; rfl)); (case f3x7 => (intro b; rfl)); intro bd w_ hw_; clear hw; have hw := hw_; clear hw_; (try simp only [List.map_cons, List.map_nil, List.getD_cons_zero, List.getD_cons_succ, List.getD_nil, List.set_cons_zero, List.set_cons_succ, List.cons_append, List.nil_append, Act.eval, Array.getD_eq_getD_getElem?, List.getElem?_toArray, List.getElem?_cons_succ, List.getElem?_cons_zero, Option.getD_some, Value.cells] at hw); (try simp (disch := first | (simp; done) | (simp; omega)) only [Sep.mid_set, Sep.mid_set2, Sep.mid_set0, Sep.mid_splice, Sep.mid_splice0, List.set_cons_zero, List.set_cons_succ] at hw); (try simp only [Sep.splice, List.take_succ_cons, List.take_zero, List.drop_succ_cons, List.drop_zero, List.length_cons, List.length_nil, Nat.reduceAdd, List.cons_append, List.nil_append] at hw); (try replace hc0 := Sep.Holds.cells hw (i := 0) rfl); (try replace hc1 := Sep.Holds.cells hw (i := 1) rfl); (try replace hc2 := Sep.Holds.cells hw (i := 2) rfl); (try replace hc3 := Sep.Holds.cells hw (i := 3) rfl); (try replace hc4 := Sep.Holds.cells hw (i := 4) rfl); (try replace hc5 := Sep.Holds.cells hw (i := 5) rfl); (try replace hc6 := Sep.Holds.cells hw (i := 6) rfl)) | (refine wpList_on rfl (wp_loadN (vs := encA d) rfl rfl hw (i := 2) rfl rfl (by intro j v hj; simpa using hj) ?_)))
      refine (do_calls p T HT.out d e _ _ (hw.focus1 1 rfl)).mono ?_
      rintro en_ w_ ⟨rfl, hw_⟩
      clear hw; (try clear hc0); (try clear hc1); (try clear hc2); (try clear hc3); (try clear hc4); (try clear hc5); (try clear hc6); have hw := Holds.unfocus1 1 (by simp) hw_; clear hw_
      (try simp only [List.map_cons, List.map_nil, List.getD_cons_zero, List.getD_cons_succ, List.getD_nil, List.set_cons_zero, List.set_cons_succ, List.cons_append, List.nil_append, Act.eval, Array.getD_eq_getD_getElem?, List.getElem?_toArray, List.getElem?_cons_succ, List.getElem?_cons_zero, Option.getD_some, Value.cells] at hw); (try simp (disch := first | (simp; done) | (simp; omega)) only [Sep.mid_set, Sep.mid_set2, Sep.mid_set0, Sep.mid_splice, Sep.mid_splice0, List.set_cons_zero, List.set_cons_succ] at hw); (try simp only [Sep.splice, List.take_succ_cons, List.take_zero, List.drop_succ_cons, List.drop_zero, List.length_cons, List.length_nil, Nat.reduceAdd, List.cons_append, List.nil_append] at hw)
      go_wp2_with fail
      go_roundw
      case rel => exact ⟨q + 1, _, by omega, by go_num, Sep.hid (actT_ok HT.out d), hw.sel [0, 1] (by decide)⟩
      case measure => simp [intOf]; omega
    · by_cases h0 : T.l.length = 0
      · have h00 : ((T.l.length : Nat) : Int) = 0 := by omega
        have H00 := Sep.hid h00
        clear h0 h00
        go_wp2_with fail
        refine (tLen' p T e _ _ (hw.focus1 1 rfl)).mono ?_
        rintro _ w_ ⟨rfl, rfl⟩
        rw [H00.out]
        go_wp2_with fail
        refine (tLen' p T e _ _ (hw.focus1 1 rfl)).mono ?_
        rintro _ w_ ⟨rfl, rfl⟩
        rw [H00.out]
        go_wp2_with fail
        exact HP.out _ _ ⟨rfl, hw.sel [0] (by decide)⟩
      · obtain ⟨m, hm⟩ : ∃ m, T.l.length = m := ⟨_, rfl⟩
        have Hm := Sep.hid hm
        have hm1 : 1 ≤ m := by omega
        have hm2 : m ≤ 200 := by have := HT.out.2; rw [hm] at this; omega
        have hm3 : ¬ m = 0 := by omega
        have hwn1 : IntKind.i64.wrap n1 = n1 := IntWalk.i64_in _ (by have := hn1.out; omega)
        have HA : Hid (there T.l (n1.tmod (m : Int)) = true) := Sep.hid (by rw [← hm]; exact mod_there hn1.out.1 (by omega))
        clear h0 hm
        go_wp2_with fail
        refine (tLen' p T e _ _ (hw.focus1 1 rfl)).mono ?_
        rintro _ w_ ⟨rfl, rfl⟩
        rw [Hm.out]
        go_wp2_with fail
        refine (tLen' p T e _ _ (hw.focus1 1 rfl)).mono ?_
        rintro _ w_ ⟨rfl, rfl⟩
        rw [Hm.out]
        go_upto_region 16 with fail
        clear hwn1 hm3
        obtain ⟨A, hA⟩ : ∃ A, n1.tmod (m : Int) = A := ⟨_, rfl⟩
        rw [hA] at HA ⊢
        clear hA
        obtain ⟨pt_, hpre, hcutP, hend⟩ := chain_prefix HT.out.1 _ A rfl
        have Hpre := Sep.hid hpre; have HcutP := Sep.hid hcutP; have Hend := Sep.hid hend
        have Hpo := Sep.hid (path_over HT.out.1 _ A rfl)
        have hch := chain_yes HT.out.1 HA.out
        obtain ⟨pn, hpn⟩ : ∃ pn, (path T.l A).length = pn := ⟨_, rfl⟩
        obtain ⟨cn, hcn⟩ : ∃ cn, (chain T.l A).length = cn := ⟨_, rfl⟩
        have Hpn := Sep.hid hpn; have Hcn := Sep.hid hcn
        have hcn1 : 1 ≤ cn := by rw [← hcn, hch]; simp
        have hcp : cn ≤ pn := by rw [← hcn, ← hpn, hpre, List.length_append]; omega
        have hpn2 : pn ≤ 1000000 := by have := path_len HT.out.1 A; rw [Hm.out] at this; omega
        clear hpre hcutP hend hch hpn hcn
        go_wp2_with fail
        refine (tPath p T HT.out A e _ _ (hw.focus1 1 rfl)).mono ?_
        rintro _ w_ ⟨v1, rfl, hw_⟩
        clear hw; (try clear hc0); (try clear hc1); (try clear hc2); (try clear hc3); (try clear hc4); (try clear hc5); (try clear hc6); have hw := Holds.unfocus1 1 (by simp) hw_; clear hw_
        (try simp only [List.map_cons, List.map_nil, List.getD_cons_zero, List.getD_cons_succ, List.getD_nil, List.set_cons_zero, List.set_cons_succ, List.cons_append, List.nil_append, Act.eval, Array.getD_eq_getD_getElem?, List.getElem?_toArray, List.getElem?_cons_succ, List.getElem?_cons_zero, Option.getD_some, Value.cells] at hw); (try simp (disch := first | (simp; done) | (simp; omega)) only [Sep.mid_set, Sep.mid_set2, Sep.mid_set0, Sep.mid_splice, Sep.mid_splice0, List.set_cons_zero, List.set_cons_succ] at hw); (try simp only [Sep.splice, List.take_succ_cons, List.take_zero, List.drop_succ_cons, List.drop_zero, List.length_cons, List.length_nil, Nat.reduceAdd, List.cons_append, List.nil_append] at hw)
        rw [isInts_at' Hpn.out] at hw
        obtain ⟨pa, pc, rfl⟩ := Sl.value (i := 2) rfl hw
        go_wp2_with fail
        refine (tChain p T HT.out A e _ _ (hw.focus1 1 rfl)).mono ?_
        rintro _ w_ ⟨v2, rfl, hw_⟩
        clear hw; (try clear hc0); (try clear hc1); (try clear hc2); (try clear hc3); (try clear hc4); (try clear hc5); (try clear hc6); have hw := Holds.unfocus1 1 (by simp) hw_; clear hw_
        (try simp only [List.map_cons, List.map_nil, List.getD_cons_zero, List.getD_cons_succ, List.getD_nil, List.set_cons_zero, List.set_cons_succ, List.cons_append, List.nil_append, Act.eval, Array.getD_eq_getD_getElem?, List.getElem?_toArray, List.getElem?_cons_succ, List.getElem?_cons_zero, Option.getD_some, Value.cells] at hw); (try simp (disch := first | (simp; done) | (simp; omega)) only [Sep.mid_set, Sep.mid_set2, Sep.mid_set0, Sep.mid_splice, Sep.mid_splice0, List.set_cons_zero, List.set_cons_succ] at hw); (try simp only [Sep.splice, List.take_succ_cons, List.take_zero, List.drop_succ_cons, List.drop_zero, List.length_cons, List.length_nil, Nat.reduceAdd, List.cons_append, List.nil_append] at hw)
        rw [isInts_at' Hcn.out] at hw
        obtain ⟨ca, cc, rfl⟩ := Sl.value (i := 3) rfl hw
        have hcap := num_cap (i := 2) hw rfl
        go_wp2_with (refine wpList_on rfl (wp_sliceTo (n := pn) (k := cn) (cap := pc) (ao := pa) rfl rfl rfl (by omega) ?_); (try simp only [Act.put, List.setIfInBounds_toArray, List.set_cons_zero, List.set_cons_succ]))
        refine (same_reads ca pa (chain T.l A) ((path T.l A).take cn) cn cn cc pc Hcn.out.symm (by rw [List.length_take, Hpn.out]; omega) (by omega) _ (reads_of (i := 3) hw rfl) ((reads_of (i := 2) hw rfl).take cn)).mono ?_
        rintro _ w_ ⟨rfl, hd_⟩
        have hsame : decide (chain T.l A = (path T.l A).take cn) = true := by
          simp only [decide_eq_true_eq]
          rw [Hpre.out, ← Hcn.out, List.take_left]
        rw [hsame]
        clear hsame
        replace hw := hw.drewTo hd_
        clear hd_ hcap
        go_wp2_with fail
        have Hq := Sep.hid (⟨hcn1, hcp, hpn2⟩ : _ ∧ _ ∧ _)
        have hd1 : decide (pn < cn) = false := decide_eq_false (by omega)
        simp only [hd1, Bool.or_false, Bool.or_self]
        clear hd1
        clear hcn1 hcp
        have Hw0 := Sep.hid hw; clear hw; (try clear hc0); (try clear hc1); (try clear hc2); (try clear hc3); (try clear hc4); (try clear hc5); (try clear hc6)
        go_loopw [74] (fun i wr => ∃ q : Nat, q ≤ pn ∧ i = .int .i64 q ∧ Holds e wr [Old e, IsTree p T, Sl 3 1 (.slice pa pn pc) pn (encI (path T.l A)), Sl 3 1 (.slice ca cn cc) cn (encI (chain T.l A))]) (fun i _ => pn - (intOf i).toNat)
        case atStart => exact ⟨0, Nat.zero_le _, rfl, Hw0.out⟩
        case round =>
          clear Hw0
          obtain ⟨q, hq, rfl, hw⟩ := hrel
          have hcw : IntKind.i64.wrap ((cn : Int) - 1) = (cn : Int) - 1 := IntWalk.i64_in _ (by have := Hq.out; omega)
          by_cases hlt : q < pn
          · obtain ⟨k, hk⟩ : ∃ k, (path T.l A)[q]? = some k := ⟨_, List.getElem?_eq_getElem (by rw [Hpn.out]; exact hlt)⟩
            obtain ⟨hkt, hko⟩ := Hpo.out q k hk
            have Hk := Sep.hid hk
            by_cases hl2 : q + 1 < pn
            · obtain ⟨k2, hk2⟩ : ∃ k, (path T.l A)[q + 1]? = some k := ⟨_, List.getElem?_eq_getElem (by rw [Hpn.out]; exact hl2)⟩
              rw [hk2] at hko
              have hk2t := (Hpo.out (q + 1) k2 hk2).1
              have hk20 : 0 ≤ k2 := (there_iff.1 hk2t).1
              have Hko : Hid (overOf T.l k = k2) := Sep.hid hko
              have Hk1 : Hid ((kids T.l k2).count k = 1) := Sep.hid (kids_once hkt hko hk2t)
              have Hkl : Hid ((kids T.l k2).length ≤ 1000000) := Sep.hid (by
                have h1 : (kids T.l k2).length ≤ T.l.length := by unfold kids; rw [if_pos hk2t]; exact kidsRow_length _ _
                rw [Hm.out] at h1; omega)
              obtain ⟨xb, xoff, rfl, g⟩ := num_at (i := 2) hw rfl hk
              obtain ⟨xb2, xoff2, hx2, g2⟩ := num_at (i := 2) hw rfl hk2
              cases hx2
              have hq1 : (q : Int) + 1 < pn := by omega
              clear hk hkt hko hk2 hk2t
              by_cases hqc : q + 1 < cn
              · have Hct : Hid (cutOf T.l k = false) := Sep.hid (by
                  cases hc : cutOf T.l k with
                  | false => rfl
                  | true =>
                    have h1 := Hk.out
                    rw [Hpre.out, List.getElem?_append_left (by rw [Hcn.out]; omega)] at h1
                    have h2 := HcutP.out q k h1 hc
                    rw [Hcn.out] at h2
                    omega)
                have hqc2 : (q : Int) < (cn : Int) - 1 := by omega
                clear hqc
                go_wp2_with fail
                refine (tOver' p T k e _ _ (hw.focus1 1 rfl)).mono ?_
                rintro _ w_ ⟨rfl, rfl⟩
                rw [Hko.out]
                go_wp2_with fail
                refine (tCut' p T k e _ _ (hw.focus1 1 rfl)).mono ?_
                rintro _ w_ ⟨rfl, rfl⟩
                rw [Hct.out]
                go_wp2_with fail
                clear g g2
                refine (tKids p T HT.out k2 e _ _ (hw.focus1 1 rfl)).mono ?_
                rintro _ w_ ⟨v4, rfl, hw_⟩
                clear hw; (try clear hc0); (try clear hc1); (try clear hc2); (try clear hc3); (try clear hc4); (try clear hc5); (try clear hc6); have hw := Holds.unfocus1 1 (by simp) hw_; clear hw_
                (try simp only [List.map_cons, List.map_nil, List.getD_cons_zero, List.getD_cons_succ, List.getD_nil, List.set_cons_zero, List.set_cons_succ, List.cons_append, List.nil_append, Act.eval, Array.getD_eq_getD_getElem?, List.getElem?_toArray, List.getElem?_cons_succ, List.getElem?_cons_zero, Option.getD_some, Value.cells] at hw); (try simp (disch := first | (simp; done) | (simp; omega)) only [Sep.mid_set, Sep.mid_set2, Sep.mid_set0, Sep.mid_splice, Sep.mid_splice0, List.set_cons_zero, List.set_cons_succ] at hw); (try simp only [Sep.splice, List.take_succ_cons, List.take_zero, List.drop_succ_cons, List.drop_zero, List.length_cons, List.length_nil, Nat.reduceAdd, List.cons_append, List.nil_append] at hw)
                go_wp2_with fail
                refine (in_calls _ (kids T.l k2) k Hkl.out e _ _ (hw.focus1 4 rfl)).mono ?_
                rintro _ w_ ⟨rfl, hw_⟩
                clear hw; (try clear hc0); (try clear hc1); (try clear hc2); (try clear hc3); (try clear hc4); (try clear hc5); (try clear hc6); have hw := Holds.unfocus1 4 (by simp) hw_; clear hw_
                (try simp only [List.map_cons, List.map_nil, List.getD_cons_zero, List.getD_cons_succ, List.getD_nil, List.set_cons_zero, List.set_cons_succ, List.cons_append, List.nil_append, Act.eval, Array.getD_eq_getD_getElem?, List.getElem?_toArray, List.getElem?_cons_succ, List.getElem?_cons_zero, Option.getD_some, Value.cells] at hw); (try simp (disch := first | (simp; done) | (simp; omega)) only [Sep.mid_set, Sep.mid_set2, Sep.mid_set0, Sep.mid_splice, Sep.mid_splice0, List.set_cons_zero, List.set_cons_succ] at hw); (try simp only [Sep.splice, List.take_succ_cons, List.take_zero, List.drop_succ_cons, List.drop_zero, List.length_cons, List.length_nil, Nat.reduceAdd, List.cons_append, List.nil_append] at hw)
                rw [Hk1.out]
                replace hw := hw.sel [0, 1, 2, 3] (by decide)
                (try simp only [List.map_cons, List.map_nil, List.getD_cons_zero, List.getD_cons_succ, List.getD_nil, List.set_cons_zero, List.set_cons_succ, List.cons_append, List.nil_append, Act.eval, Array.getD_eq_getD_getElem?, List.getElem?_toArray, List.getElem?_cons_succ, List.getElem?_cons_zero, Option.getD_some, Value.cells] at hw); (try simp (disch := first | (simp; done) | (simp; omega)) only [Sep.mid_set, Sep.mid_set2, Sep.mid_set0, Sep.mid_splice, Sep.mid_splice0, List.set_cons_zero, List.set_cons_succ] at hw); (try simp only [Sep.splice, List.take_succ_cons, List.take_zero, List.drop_succ_cons, List.drop_zero, List.length_cons, List.length_nil, Nat.reduceAdd, List.cons_append, List.nil_append] at hw)
                go_wp2_with fail
                go_roundw
                case rel => exact ⟨q + 1, by omega, by go_num, hw⟩
                case measure => simp [intOf]; omega
              · have hqc2 : ¬ (q : Int) < (cn : Int) - 1 := by omega
                clear hqc
                go_wp2_with fail
                refine (tOver' p T k e _ _ (hw.focus1 1 rfl)).mono ?_
                rintro _ w_ ⟨rfl, rfl⟩
                rw [Hko.out]
                go_wp2_with fail
                clear g g2
                refine (tKids p T HT.out k2 e _ _ (hw.focus1 1 rfl)).mono ?_
                rintro _ w_ ⟨v4, rfl, hw_⟩
                clear hw; (try clear hc0); (try clear hc1); (try clear hc2); (try clear hc3); (try clear hc4); (try clear hc5); (try clear hc6); have hw := Holds.unfocus1 1 (by simp) hw_; clear hw_
                (try simp only [List.map_cons, List.map_nil, List.getD_cons_zero, List.getD_cons_succ, List.getD_nil, List.set_cons_zero, List.set_cons_succ, List.cons_append, List.nil_append, Act.eval, Array.getD_eq_getD_getElem?, List.getElem?_toArray, List.getElem?_cons_succ, List.getElem?_cons_zero, Option.getD_some, Value.cells] at hw); (try simp (disch := first | (simp; done) | (simp; omega)) only [Sep.mid_set, Sep.mid_set2, Sep.mid_set0, Sep.mid_splice, Sep.mid_splice0, List.set_cons_zero, List.set_cons_succ] at hw); (try simp only [Sep.splice, List.take_succ_cons, List.take_zero, List.drop_succ_cons, List.drop_zero, List.length_cons, List.length_nil, Nat.reduceAdd, List.cons_append, List.nil_append] at hw)
                go_wp2_with fail
                refine (in_calls _ (kids T.l k2) k Hkl.out e _ _ (hw.focus1 4 rfl)).mono ?_
                rintro _ w_ ⟨rfl, hw_⟩
                clear hw; (try clear hc0); (try clear hc1); (try clear hc2); (try clear hc3); (try clear hc4); (try clear hc5); (try clear hc6); have hw := Holds.unfocus1 4 (by simp) hw_; clear hw_
                (try simp only [List.map_cons, List.map_nil, List.getD_cons_zero, List.getD_cons_succ, List.getD_nil, List.set_cons_zero, List.set_cons_succ, List.cons_append, List.nil_append, Act.eval, Array.getD_eq_getD_getElem?, List.getElem?_toArray, List.getElem?_cons_succ, List.getElem?_cons_zero, Option.getD_some, Value.cells] at hw); (try simp (disch := first | (simp; done) | (simp; omega)) only [Sep.mid_set, Sep.mid_set2, Sep.mid_set0, Sep.mid_splice, Sep.mid_splice0, List.set_cons_zero, List.set_cons_succ] at hw); (try simp only [Sep.splice, List.take_succ_cons, List.take_zero, List.drop_succ_cons, List.drop_zero, List.length_cons, List.length_nil, Nat.reduceAdd, List.cons_append, List.nil_append] at hw)
                rw [Hk1.out]
                replace hw := hw.sel [0, 1, 2, 3] (by decide)
                (try simp only [List.map_cons, List.map_nil, List.getD_cons_zero, List.getD_cons_succ, List.getD_nil, List.set_cons_zero, List.set_cons_succ, List.cons_append, List.nil_append, Act.eval, Array.getD_eq_getD_getElem?, List.getElem?_toArray, List.getElem?_cons_succ, List.getElem?_cons_zero, Option.getD_some, Value.cells] at hw); (try simp (disch := first | (simp; done) | (simp; omega)) only [Sep.mid_set, Sep.mid_set2, Sep.mid_set0, Sep.mid_splice, Sep.mid_splice0, List.set_cons_zero, List.set_cons_succ] at hw); (try simp only [Sep.splice, List.take_succ_cons, List.take_zero, List.drop_succ_cons, List.drop_zero, List.length_cons, List.length_nil, Nat.reduceAdd, List.cons_append, List.nil_append] at hw)
                go_wp2_with fail
                go_roundw
                case rel => exact ⟨q + 1, by omega, by go_num, hw⟩
                case measure => simp [intOf]; omega
            · have hk2 : (path T.l A)[q + 1]? = none := List.getElem?_eq_none (by rw [Hpn.out]; omega)
              rw [hk2] at hko
              have Hko : Hid (overOf T.l k = -1) := Sep.hid hko
              obtain ⟨xb, xoff, rfl, g⟩ := num_at (i := 2) hw rfl hk
              have hq1 : ¬ (q : Int) + 1 < pn := by omega
              have hqc2 : ¬ (q : Int) < (cn : Int) - 1 := by have := Hq.out; omega
              clear hk hkt hko hk2
              go_wp2_with fail
              refine (tOver' p T k e _ _ (hw.focus1 1 rfl)).mono ?_
              rintro _ w_ ⟨rfl, rfl⟩
              rw [Hko.out]
              go_wp2_with fail
              go_roundw
              case rel => exact ⟨q + 1, by omega, by go_num, hw⟩
              case measure => simp [intOf]; omega
          · by_cases hcp2 : cn = pn
            · have hcb : ((cn : Int) == (pn : Int)) = true := by simp [hcp2]
              clear hcp2
              go_wp2_with fail
              exact HP.out _ _ ⟨rfl, hw.sel [0] (by decide)⟩
            · have hcb : ((cn : Int) == (pn : Int)) = false := by simp; omega
              have hlast : ∃ kl, (chain T.l A)[cn - 1]? = some kl ∧ cutOf T.l kl = true := by
                rcases Hend.out with h | ⟨kl, h1, h2⟩
                · exfalso
                  have := congrArg List.length Hpre.out
                  rw [h, List.append_nil, Hpn.out, Hcn.out] at this
                  omega
                · rw [List.getLast?_eq_getElem?, Hcn.out] at h1
                  exact ⟨kl, h1, h2⟩
              obtain ⟨kl, hkl, hcl⟩ := hlast
              have Hcl := Sep.hid hcl
              obtain ⟨xb, xoff, rfl, g⟩ := num_at (i := 3) hw rfl hkl
              obtain ⟨c1, rfl⟩ : ∃ c1, cn = c1 + 1 := ⟨cn - 1, by have := Hq.out; omega⟩
              simp only [Nat.add_sub_cancel] at g
              have hcw2 : IntKind.i64.wrap (((c1 + 1 : Nat) : Int) - 1) = (c1 : Int) := (IntWalk.i64_in _ (by have := Hq.out; omega)).trans (by omega)
              have hcb2 : ((c1 : Int) + 1 == (pn : Int)) = false := by simp; omega
              have hcb3 : ¬ c1 + 1 = pn := hcp2
              clear hcp2 hkl hcl hcw hcb
              go_wp2_with fail
              refine (tCut' p T kl e _ _ (hw.focus1 1 rfl)).mono ?_
              rintro _ w_ ⟨rfl, rfl⟩
              rw [Hcl.out]
              go_wp2_with fail
              exact HP.out _ _ ⟨rfl, hw.sel [0] (by decide)⟩
end Go.Proofs.Ytlegkikglpogkaa
