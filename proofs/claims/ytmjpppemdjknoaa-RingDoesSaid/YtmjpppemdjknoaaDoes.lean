/-
  RingDoes: the walk.
-/
import Derived.Test.YtmjpppemdjknoaaAlike
import Derived.Deep.CutBlock
import Derived.Deep.DeepCutAuto
namespace Go.Proofs.Ytmjpppemdjknoaa
set_option linter.unusedSimpArgs false
set_option linter.unusedVariables false
open Go.RowKit Go.Sep Go.RingM

set_option maxRecDepth 20000 in
set_option maxHeartbeats 40000000 in
theorem ring_does_walk (e : World) (n0 : Int) (hn0 : Hid (-9223372036854775808 ≤ n0 ∧ n0 ≤ 9223372036854775807)) (n1 : Int) (hn1 : Hid (-9223372036854775808 ≤ n1 ∧ n1 ≤ 9223372036854775807)) (a2 : Option Addr) (cap2 : Nat) (l2 : List Deed) (hl2 : Hid (ActsAt e a2 l2)) (hlen2 : l2.length ≤ 9223372036854775807) :
    Calls Try.prog 3 #[.int .i64 n0, .int .i64 n1, .slice a2 l2.length cap2] e fun en w' => en = .returned (.bool true) ∧ Holds e w' [Old e] := by
  have hw := Holds.start e
  by_cases h1 : n0 < 1
  · have Hbad : Hid (n0 < 1 ∨ 1000 < n0 ∨ n1 < 1 ∨ 1000 < n1) := Sep.hid (by omega)
    by_cases hlong : (120 : Int) < l2.length
    · refine Sep.calls_post ?_
      intro Post_ hPost_
      have HP := Sep.hid hPost_
      clear hPost_
      go_enter Try.func3, Try.ntmps3
      go_wp2_with fail
      refine (awake_calls e _ _ hw).mono ?_
      rintro en_ w_ ⟨rfl, hw_⟩
      clear hw; have hw := hw_; clear hw_
      go_wp2_with fail
      exact HP.out _ _ ⟨rfl, hw⟩
    · refine Sep.calls_post ?_
      intro Post_ hPost_
      have HP := Sep.hid hPost_
      clear hPost_
      go_enter Try.func3, Try.ntmps3
      go_wp2_with fail
      refine (awake_calls e _ _ hw).mono ?_
      rintro en_ w_ ⟨rfl, hw_⟩
      clear hw; have hw := hw_; clear hw_
      go_wp2_with fail
      refine (rNew_no n0 n1 Hbad.out _).mono ?_
      rintro en_ w_ ⟨rfl, rfl⟩
      go_wp2_with fail
      refine (fNew_no n0 n1 Hbad.out _).mono ?_
      rintro en_ w_ ⟨rfl, rfl⟩
      go_wp2_with fail
      exact HP.out _ _ ⟨rfl, hw⟩
  by_cases h2 : 1000 < n0
  · have Hbad : Hid (n0 < 1 ∨ 1000 < n0 ∨ n1 < 1 ∨ 1000 < n1) := Sep.hid (by omega)
    by_cases hlong : (120 : Int) < l2.length
    · refine Sep.calls_post ?_
      intro Post_ hPost_
      have HP := Sep.hid hPost_
      clear hPost_
      go_enter Try.func3, Try.ntmps3
      go_wp2_with fail
      refine (awake_calls e _ _ hw).mono ?_
      rintro en_ w_ ⟨rfl, hw_⟩
      clear hw; have hw := hw_; clear hw_
      go_wp2_with fail
      exact HP.out _ _ ⟨rfl, hw⟩
    · refine Sep.calls_post ?_
      intro Post_ hPost_
      have HP := Sep.hid hPost_
      clear hPost_
      go_enter Try.func3, Try.ntmps3
      go_wp2_with fail
      refine (awake_calls e _ _ hw).mono ?_
      rintro en_ w_ ⟨rfl, hw_⟩
      clear hw; have hw := hw_; clear hw_
      go_wp2_with fail
      refine (rNew_no n0 n1 Hbad.out _).mono ?_
      rintro en_ w_ ⟨rfl, rfl⟩
      go_wp2_with fail
      refine (fNew_no n0 n1 Hbad.out _).mono ?_
      rintro en_ w_ ⟨rfl, rfl⟩
      go_wp2_with fail
      exact HP.out _ _ ⟨rfl, hw⟩
  by_cases h3 : n1 < 1
  · have Hbad : Hid (n0 < 1 ∨ 1000 < n0 ∨ n1 < 1 ∨ 1000 < n1) := Sep.hid (by omega)
    by_cases hlong : (120 : Int) < l2.length
    · refine Sep.calls_post ?_
      intro Post_ hPost_
      have HP := Sep.hid hPost_
      clear hPost_
      go_enter Try.func3, Try.ntmps3
      go_wp2_with fail
      refine (awake_calls e _ _ hw).mono ?_
      rintro en_ w_ ⟨rfl, hw_⟩
      clear hw; have hw := hw_; clear hw_
      go_wp2_with fail
      exact HP.out _ _ ⟨rfl, hw⟩
    · refine Sep.calls_post ?_
      intro Post_ hPost_
      have HP := Sep.hid hPost_
      clear hPost_
      go_enter Try.func3, Try.ntmps3
      go_wp2_with fail
      refine (awake_calls e _ _ hw).mono ?_
      rintro en_ w_ ⟨rfl, hw_⟩
      clear hw; have hw := hw_; clear hw_
      go_wp2_with fail
      refine (rNew_no n0 n1 Hbad.out _).mono ?_
      rintro en_ w_ ⟨rfl, rfl⟩
      go_wp2_with fail
      refine (fNew_no n0 n1 Hbad.out _).mono ?_
      rintro en_ w_ ⟨rfl, rfl⟩
      go_wp2_with fail
      exact HP.out _ _ ⟨rfl, hw⟩
  by_cases h4 : 1000 < n1
  · have Hbad : Hid (n0 < 1 ∨ 1000 < n0 ∨ n1 < 1 ∨ 1000 < n1) := Sep.hid (by omega)
    by_cases hlong : (120 : Int) < l2.length
    · refine Sep.calls_post ?_
      intro Post_ hPost_
      have HP := Sep.hid hPost_
      clear hPost_
      go_enter Try.func3, Try.ntmps3
      go_wp2_with fail
      refine (awake_calls e _ _ hw).mono ?_
      rintro en_ w_ ⟨rfl, hw_⟩
      clear hw; have hw := hw_; clear hw_
      go_wp2_with fail
      exact HP.out _ _ ⟨rfl, hw⟩
    · refine Sep.calls_post ?_
      intro Post_ hPost_
      have HP := Sep.hid hPost_
      clear hPost_
      go_enter Try.func3, Try.ntmps3
      go_wp2_with fail
      refine (awake_calls e _ _ hw).mono ?_
      rintro en_ w_ ⟨rfl, hw_⟩
      clear hw; have hw := hw_; clear hw_
      go_wp2_with fail
      refine (rNew_no n0 n1 Hbad.out _).mono ?_
      rintro en_ w_ ⟨rfl, rfl⟩
      go_wp2_with fail
      refine (fNew_no n0 n1 Hbad.out _).mono ?_
      rintro en_ w_ ⟨rfl, rfl⟩
      go_wp2_with fail
      exact HP.out _ _ ⟨rfl, hw⟩
  by_cases h5 : 20 < n0
  · refine Sep.calls_post ?_
    intro Post_ hPost_
    have HP := Sep.hid hPost_
    clear hPost_
    go_enter Try.func3, Try.ntmps3
    go_wp2_with fail
    refine (awake_calls e _ _ hw).mono ?_
    rintro en_ w_ ⟨rfl, hw_⟩
    clear hw; have hw := hw_; clear hw_
    go_wp2_with fail
    exact HP.out _ _ ⟨rfl, hw⟩
  by_cases h6 : 20 < n1
  · refine Sep.calls_post ?_
    intro Post_ hPost_
    have HP := Sep.hid hPost_
    clear hPost_
    go_enter Try.func3, Try.ntmps3
    go_wp2_with fail
    refine (awake_calls e _ _ hw).mono ?_
    rintro en_ w_ ⟨rfl, hw_⟩
    clear hw; have hw := hw_; clear hw_
    go_wp2_with fail
    exact HP.out _ _ ⟨rfl, hw⟩
  by_cases hlong : (120 : Int) < l2.length
  · refine Sep.calls_post ?_
    intro Post_ hPost_
    have HP := Sep.hid hPost_
    clear hPost_
    go_enter Try.func3, Try.ntmps3
    go_wp2_with fail
    refine (awake_calls e _ _ hw).mono ?_
    rintro en_ w_ ⟨rfl, hw_⟩
    clear hw; have hw := hw_; clear hw_
    go_wp2_with fail
    exact HP.out _ _ ⟨rfl, hw⟩
  obtain ⟨m0, rfl⟩ : ∃ m : Nat, n0 = (m : Int) := ⟨n0.toNat, by omega⟩
  obtain ⟨m1, rfl⟩ : ∃ m : Nat, n1 = (m : Int) := ⟨n1.toNat, by omega⟩
  have hb0 : 1 ≤ m0 ∧ m0 ≤ 20 := by omega
  have hb1 : 1 ≤ m1 ∧ m1 ≤ 20 := by omega
  have Hb0 := Sep.hid hb0; have Hb1 := Sep.hid hb1
  have hb01 := hb0.1; have hb02 := hb0.2; have hb11 := hb1.1; have hb12 := hb1.2
  clear h1 h2 h3 h4 h5 h6 hn0 hn1 hb0 hb1
  generalize hlen' : l2.length = len at *
  have Hlen := Sep.hid hlen'; clear hlen'
  have hlong2 : len ≤ 120 := by omega
  refine Sep.calls_post ?_
  intro Post_ hPost_
  have HP := Sep.hid hPost_
  clear hPost_
  go_enter Try.func3, Try.ntmps3
  go_wp2_with fail
  refine (awake_calls e _ _ hw).mono ?_
  rintro en_ w_ ⟨rfl, hw_⟩
  clear hw; have hw := hw_; clear hw_
  go_wp2_with fail
  refine (rNew_ok m0 m1 Hb1.out.1 (by omega) Hb0.out.1 (by omega) e _ _ hw).mono ?_
  rintro en_ w_ ⟨p, rfl, hw_⟩
  clear hw; have hw := hw_; clear hw_
  go_wp2_with fail
  refine (fNew_ok m0 m1 Hb1.out.1 (by omega) Hb0.out.1 (by omega) e _ _ hw.focus0).mono ?_
  rintro en_ w_ ⟨r, rfl, hw_⟩
  clear hw; have hw := Holds.unfocus0 hw_; clear hw_
  (try simp only [List.map_cons, List.map_nil, List.getD_cons_zero, List.getD_cons_succ, List.getD_nil, List.set_cons_zero, List.set_cons_succ, List.cons_append, List.nil_append, Act.eval, Array.getD_eq_getD_getElem?, List.getElem?_toArray, List.getElem?_cons_succ, List.getElem?_cons_zero, Option.getD_some, Value.cells] at hw); (try simp (disch := first | (simp; done) | (simp; omega)) only [Sep.mid_set, Sep.mid_set2, Sep.mid_set0, Sep.mid_splice, Sep.mid_splice0, List.set_cons_zero, List.set_cons_succ] at hw); (try simp only [Sep.splice, List.take_succ_cons, List.take_zero, List.drop_succ_cons, List.drop_zero, List.length_cons, List.length_nil, Nat.reduceAdd, List.cons_append, List.nil_append] at hw)
  go_wp2_with fail
  have Hw0 := Sep.hid hw; clear hw
  go_loopw [74] (fun i wr => ∃ (q : Nat) (R : Ring), q ≤ len ∧ i = .int .i64 q ∧ R.n = m1 ∧ R.rows.length = m0 ∧ Holds e wr [Old e, IsRing p R, IsRA r R]) (fun i _ => len - (intOf i).toNat)
  case atStart => exact ⟨0, newRing m1 m0, Nat.zero_le _, rfl, rfl, by simp [newRing], Hw0.out⟩
  case round =>
    clear Hw0
    obtain ⟨q, R, hq, rfl, hRn, hRr, hw⟩ := hrel
    have HR0 := Sep.hid (And.intro hRn hRr)
    clear hRn hRr
    by_cases hlt : q < len
    · obtain ⟨d, hd⟩ : ∃ d, l2[q]? = some d := ⟨_, List.getElem?_eq_getElem (by rw [Hlen.out]; exact hlt)⟩
      obtain ⟨hdok, ad, rfl, hcell⟩ := hl2.out q d hd
      have Hcell := Sep.hid hcell; clear hcell hd hdok
      have HW := Sep.hid (ringWf (i := 1) rfl hw).1
      obtain ⟨g, n', b, R', hb⟩ : ∃ g n' b R', ract R d = (g, n', b, R') := ⟨_, _, _, _, rfl⟩
      have HRn : Hid (R'.n = m1 ∧ R'.rows.length = m0) := Sep.hid (by have h := ract_n R d; rw [hb] at h; exact ⟨h.1.trans HR0.out.1, h.2.trans HR0.out.2⟩)
      have Hb := Sep.hid hb; clear hb
      go_wp2_with (first | ((with_reducible refine wpList_act (x := ?hx0x14) (y := ?hy0x14) (x1 := ?hx1x14) (x3 := ?hx3x14) (y3 := ?hy3x14) (cap := ?hcpx14) (vs := encA d) (q := q) (ad := ad) ti32 agg32 sl22 ?a1x14 ?a2x14 hlt hw (i := 0) ?a3x14 ?a4x14 ?a5x14 (encA_one d) Hcell.out ?b0x14 ?c0x14 ?b1x14 ?c1x14 ?d1x14 ?b2x14 ?c2x14 ?b3x14 ?c3x14 ?d3x14 ?f3x14 ?ggx14); (case b0x14 => rfl); (case b1x14 => rfl); (case b2x14 => rfl); (case b3x14 => rfl); (case a1x14 => rfl); (case a2x14 => rfl); (case a3x14 => rfl); (case a4x14 => rfl); (case a5x14 => rfl); (case c0x14 => rfl); (case c1x14 => rfl); (case d1x14 => rfl); (case c2x14 => rfl); (case c3x14 => (intro b; rfl)); (case d3x14 => (intro b; rfl)); (case f3x14 => (intro b; rfl)); intro bd w_ hw_; clear hw; have hw := hw_; clear hw_; (try simp only [List.map_cons, List.map_nil, List.getD_cons_zero, List.getD_cons_succ, List.getD_nil, List.set_cons_zero, List.set_cons_succ, List.cons_append, List.nil_append, Act.eval, Array.getD_eq_getD_getElem?, List.getElem?_toArray, List.getElem?_cons_succ, List.getElem?_cons_zero, Option.getD_some, Value.cells] at hw); (try simp (disch := first | (simp; done) | (simp; omega)) only [Sep.mid_set, Sep.mid_set2, Sep.mid_set0, Sep.mid_splice, Sep.mid_splice0, List.set_cons_zero, List.set_cons_succ] at hw); (try simp only [Sep.splice, List.take_succ_cons, List.take_zero, List.drop_succ_cons, List.drop_zero, List.length_cons, List.length_nil, Nat.reduceAdd, List.cons_append, List.nil_append] at hw); (try replace hc0 := Sep.Holds.cells hw (i := 0) rfl); (try replace hc1 := Sep.Holds.cells hw (i := 1) rfl); (try replace hc2 := Sep.Holds.cells hw (i := 2) rfl); (try replace hc3 := Sep.Holds.cells hw (i := 3) rfl); (try replace hc4 := Sep.Holds.cells hw (i := 4) rfl); (try replace hc5 := Sep.Holds.cells hw (i := 5) rfl); (try replace hc6 := Sep.Holds.cells hw (i := 6) rfl)) | (refine wpList_on rfl (wp_loadN (vs := encA d) rfl rfl hw (i := 3) rfl rfl (by intro j v hj; simpa using hj) ?_)))
      have hdo := fun w X hw => do_calls p R d e w X hw
      have how := fun w X hw => own_calls r R HW.out (by have := HR0.out; omega) d e w X hw
      simp only [Hb.out] at hdo how
      have Ho := Sep.hid how; clear how
      refine (hdo _ _ (hw.focus1 1 rfl)).mono ?_
      rintro en_ w_ ⟨rfl, hw_⟩
      clear hw; (try clear hc0); (try clear hc1); (try clear hc2); (try clear hc3); (try clear hc4); (try clear hc5); (try clear hc6); have hw := Holds.unfocus1 1 (by simp) hw_; clear hw_ hdo
      (try simp only [List.map_cons, List.map_nil, List.getD_cons_zero, List.getD_cons_succ, List.getD_nil, List.set_cons_zero, List.set_cons_succ, List.cons_append, List.nil_append, Act.eval, Array.getD_eq_getD_getElem?, List.getElem?_toArray, List.getElem?_cons_succ, List.getElem?_cons_zero, Option.getD_some, Value.cells] at hw); (try simp (disch := first | (simp; done) | (simp; omega)) only [Sep.mid_set, Sep.mid_set2, Sep.mid_set0, Sep.mid_splice, Sep.mid_splice0, List.set_cons_zero, List.set_cons_succ] at hw); (try simp only [Sep.splice, List.take_succ_cons, List.take_zero, List.drop_succ_cons, List.drop_zero, List.length_cons, List.length_nil, Nat.reduceAdd, List.cons_append, List.nil_append] at hw)
      go_wp2_with (refine wpList_on rfl (wp_loadN (vs := encA d) rfl rfl hw (i := 3) rfl rfl (by intro j v hj; simpa using hj) ?_))
      refine (Ho.out _ _ (hw.focus1 2 rfl)).mono ?_
      rintro en_ w_ ⟨rfl, hw_⟩
      clear hw; (try clear hc0); (try clear hc1); (try clear hc2); (try clear hc3); (try clear hc4); (try clear hc5); (try clear hc6); have hw := Holds.unfocus1 2 (by simp) hw_; clear hw_ Ho Hb
      (try simp only [List.map_cons, List.map_nil, List.getD_cons_zero, List.getD_cons_succ, List.getD_nil, List.set_cons_zero, List.set_cons_succ, List.cons_append, List.nil_append, Act.eval, Array.getD_eq_getD_getElem?, List.getElem?_toArray, List.getElem?_cons_succ, List.getElem?_cons_zero, Option.getD_some, Value.cells] at hw); (try simp (disch := first | (simp; done) | (simp; omega)) only [Sep.mid_set, Sep.mid_set2, Sep.mid_set0, Sep.mid_splice, Sep.mid_splice0, List.set_cons_zero, List.set_cons_succ] at hw); (try simp only [Sep.splice, List.take_succ_cons, List.take_zero, List.drop_succ_cons, List.drop_zero, List.length_cons, List.length_nil, Nat.reduceAdd, List.cons_append, List.nil_append] at hw)
      go_wp2_with fail
      refine (alike_calls p r R' (by have := HRn.out; omega) e _ _ (hw.sel [0, 1, 2] (by decide))).mono ?_
      rintro en_ w_ ⟨rfl, hw_⟩
      clear hw; have hw := hw_; clear hw_
      go_wp2_with fail
      go_roundw
      case rel => exact ⟨q + 1, R', by omega, by go_num, HRn.out.1, HRn.out.2, hw⟩
      case measure => simp [intOf]; omega
    · go_wp2_with fail
      refine (alike_calls p r R (by have := HR0.out; omega) e _ _ hw).mono ?_
      rintro en_ w_ ⟨rfl, hw_⟩
      clear hw; have hw := hw_; clear hw_
      go_wp2_with fail
      exact HP.out _ _ ⟨rfl, hw.sel [0] (by decide)⟩
end Go.Proofs.Ytmjpppemdjknoaa
