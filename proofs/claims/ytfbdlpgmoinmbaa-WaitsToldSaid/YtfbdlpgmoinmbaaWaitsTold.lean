/-
  WaitsTold: the walk.
-/
import Derived.Test.YtfbdlpgmoinmbaaWaitsDo
namespace Go.Proofs.Ytfbdlpgmoinmbaa
set_option linter.unusedSimpArgs false
set_option linter.unusedVariables false
open Go.RowKit Go.Sep Go.RingM

set_option maxRecDepth 20000 in
set_option maxHeartbeats 40000000 in
theorem waits_told_walk (e : World) (a0 : Option Addr) (cap0 : Nat) (l0 : List Deed) (hl0 : Hid (ActsAt e a0 l0)) (hlen0 : l0.length ≤ 9223372036854775807) :
    Calls Try.prog 4 #[.slice a0 l0.length cap0] e fun en w' => en = .returned (.bool true) ∧ Holds e w' [Old e] := by
  have hw := Holds.start e
  by_cases hlong : (100 : Int) < l0.length
  · refine Sep.calls_post ?_
    intro Post_ hPost_
    have HP := Sep.hid hPost_
    clear hPost_
    go_enter Try.func4, Try.ntmps4
    go_wp2_with fail
    refine (awake_calls e _ _ hw.focus0).mono ?_
    rintro en_ w_ ⟨rfl, hw_⟩
    clear hw; (try clear hc0); (try clear hc1); (try clear hc2); (try clear hc3); (try clear hc4); (try clear hc5); (try clear hc6); have hw := Holds.unfocus0 hw_; clear hw_
    (try simp only [List.map_cons, List.map_nil, List.getD_cons_zero, List.getD_cons_succ, List.getD_nil, List.set_cons_zero, List.set_cons_succ, List.cons_append, List.nil_append, Act.eval, Array.getD_eq_getD_getElem?, List.getElem?_toArray, List.getElem?_cons_succ, List.getElem?_cons_zero, Option.getD_some, Value.cells] at hw); (try simp (disch := first | (simp; done) | (simp; omega)) only [Sep.mid_set, Sep.mid_set2, Sep.mid_set0, Sep.mid_splice, Sep.mid_splice0, List.set_cons_zero, List.set_cons_succ] at hw); (try simp only [Sep.splice, List.take_succ_cons, List.take_zero, List.drop_succ_cons, List.drop_zero, List.length_cons, List.length_nil, Nat.reduceAdd, List.cons_append, List.nil_append] at hw)
    go_wp2_with fail
    exact HP.out _ _ ⟨rfl, hw⟩
  generalize hlen' : l0.length = len at *
  have Hlen := Sep.hid hlen'; clear hlen'
  have hlong2 : len ≤ 100 := by omega
  refine Sep.calls_post ?_
  intro Post_ hPost_
  have HP := Sep.hid hPost_
  clear hPost_
  go_enter Try.func4, Try.ntmps4
  go_wp2_with fail
  refine (awake_calls e _ _ hw.focus0).mono ?_
  rintro en_ w_ ⟨rfl, hw_⟩
  clear hw; (try clear hc0); (try clear hc1); (try clear hc2); (try clear hc3); (try clear hc4); (try clear hc5); (try clear hc6); have hw := Holds.unfocus0 hw_; clear hw_
  (try simp only [List.map_cons, List.map_nil, List.getD_cons_zero, List.getD_cons_succ, List.getD_nil, List.set_cons_zero, List.set_cons_succ, List.cons_append, List.nil_append, Act.eval, Array.getD_eq_getD_getElem?, List.getElem?_toArray, List.getElem?_cons_succ, List.getElem?_cons_zero, Option.getD_some, Value.cells] at hw); (try simp (disch := first | (simp; done) | (simp; omega)) only [Sep.mid_set, Sep.mid_set2, Sep.mid_set0, Sep.mid_splice, Sep.mid_splice0, List.set_cons_zero, List.set_cons_succ] at hw); (try simp only [Sep.splice, List.take_succ_cons, List.take_zero, List.drop_succ_cons, List.drop_zero, List.length_cons, List.length_nil, Nat.reduceAdd, List.cons_append, List.nil_append] at hw)
  go_wp2_with fail
  refine (oNew_ok 20 (by decide) (by decide) e _ _ hw.focus0).mono ?_
  rintro en_ w_ ⟨p, rfl, hw_⟩
  clear hw; have hw := Holds.unfocus0 hw_; clear hw_
  (try simp only [List.map_cons, List.map_nil, List.getD_cons_zero, List.getD_cons_succ, List.getD_nil, List.set_cons_zero, List.set_cons_succ, List.cons_append, List.nil_append, Act.eval, Array.getD_eq_getD_getElem?, List.getElem?_toArray, List.getElem?_cons_succ, List.getElem?_cons_zero, Option.getD_some, Value.cells] at hw); (try simp (disch := first | (simp; done) | (simp; omega)) only [Sep.mid_set, Sep.mid_set2, Sep.mid_set0, Sep.mid_splice, Sep.mid_splice0, List.set_cons_zero, List.set_cons_succ] at hw); (try simp only [Sep.splice, List.take_succ_cons, List.take_zero, List.drop_succ_cons, List.drop_zero, List.length_cons, List.length_nil, Nat.reduceAdd, List.cons_append, List.nil_append] at hw)
  go_wp2_with (refine wpList_on rfl (wp_bsl0 rfl hw ?_); intro b_ w_ hw_; replace hw_ := hw_.newSl (i := 2) rfl 1 0 rfl (by decide); clear hw; have hw := hw_; clear hw_; (try simp only [List.map_cons, List.map_nil, List.getD_cons_zero, List.getD_cons_succ, List.getD_nil, List.set_cons_zero, List.set_cons_succ, List.cons_append, List.nil_append, Act.eval, Array.getD_eq_getD_getElem?, List.getElem?_toArray, List.getElem?_cons_succ, List.getElem?_cons_zero, Option.getD_some, Value.cells] at hw); (try simp (disch := first | (simp; done) | (simp; omega)) only [Sep.mid_set, Sep.mid_set2, Sep.mid_set0, Sep.mid_splice, Sep.mid_splice0, List.set_cons_zero, List.set_cons_succ] at hw); (try simp only [Sep.splice, List.take_succ_cons, List.take_zero, List.drop_succ_cons, List.drop_zero, List.length_cons, List.length_nil, Nat.reduceAdd, List.cons_append, List.nil_append] at hw); (try replace hc0 := Sep.Holds.cells hw (i := 0) rfl); (try replace hc1 := Sep.Holds.cells hw (i := 1) rfl); (try replace hc2 := Sep.Holds.cells hw (i := 2) rfl); (try replace hc3 := Sep.Holds.cells hw (i := 3) rfl); (try replace hc4 := Sep.Holds.cells hw (i := 4) rfl); (try replace hc5 := Sep.Holds.cells hw (i := 5) rfl); (try replace hc6 := Sep.Holds.cells hw (i := 6) rfl))
  have Hw0 := Sep.hid hw; clear hw
  go_loopw [5, 6, 26] (fun su ro i wr => ∃ (q : Nat) (c : Int) (row : List Int), q ≤ len ∧ i = .int .i64 q ∧ su = .int .i64 c ∧ (0 ≤ c ∧ c ≤ q * 1099511627776) ∧ (c = 0 → row = []) ∧ Holds e wr [Old e, IsWaits p ⟨20, c, row⟩, IsInts ro row]) (fun _ _ i _ => len - (intOf i).toNat)
  case atStart => exact ⟨0, 0, [], Nat.zero_le _, rfl, rfl, by omega, fun _ => rfl, Hw0.out⟩
  case round =>
    clear Hw0
    obtain ⟨q, c, row, hq, rfl, rfl, hcb, hst, hw⟩ := hrel
    by_cases hlt : q < len
    · obtain ⟨d, hd⟩ : ∃ d, l0[q]? = some d := ⟨_, List.getElem?_eq_getElem (by rw [Hlen.out]; exact hlt)⟩
      obtain ⟨hdok, ad, rfl, hcell⟩ := hl0.out q d hd
      have Hcell := Sep.hid hcell; clear hcell hd
      have Hst := Sep.hid hst; clear hst
      have Hcb : Hid (0 ≤ c ∧ c ≤ q * 1099511627776 ∧ c ≤ 109951162777600) := Sep.hid (by omega)
      clear hcb
      have Hlr : Hid (row.length ≤ 1000) := Sep.hid (waits_len (i := 1) (M := ⟨20, c, row⟩) rfl hw)
      obtain ⟨f0, f1, f2⟩ := d
      by_cases hlo : f2 < -1099511627776
      · go_wp2_with ((with_reducible refine wpList_act (x := ?hx0x7) (y := ?hy0x7) (x1 := ?hx1x7) (x3 := ?hx3x7) (y3 := ?hy3x7) (cap := ?hcpx7) (vs := encA ⟨f0, f1, f2⟩) (q := q) (ad := ad) ti32 agg32 sl22 ?a1x7 ?a2x7 hlt hw (i := 0) ?a3x7 ?a4x7 ?a5x7 (encA_one ⟨f0, f1, f2⟩) Hcell.out ?b0x7 ?c0x7 ?b1x7 ?c1x7 ?d1x7 ?b2x7 ?c2x7 ?b3x7 ?c3x7 ?d3x7 ?f3x7 ?ggx7); (case b0x7 => rfl); (case b1x7 => rfl); (case b2x7 => rfl); (case b3x7 => rfl); (case a1x7 => rfl); (case a2x7 => rfl); (case a3x7 => rfl); (case a4x7 => rfl); (case a5x7 => rfl); (case c0x7 => rfl); (case c1x7 => rfl); (case d1x7 => rfl); (case c2x7 => rfl); (case c3x7 => (intro b; rfl)); (case d3x7 => (intro b; rfl)); (case f3x7 => (intro b; rfl)); intro bd w_ hw_; simp only [encA] at hw_; clear hw; have hw := hw_; clear hw_; (try simp only [List.map_cons, List.map_nil, List.getD_cons_zero, List.getD_cons_succ, List.getD_nil, List.set_cons_zero, List.set_cons_succ, List.cons_append, List.nil_append, Act.eval, Array.getD_eq_getD_getElem?, List.getElem?_toArray, List.getElem?_cons_succ, List.getElem?_cons_zero, Option.getD_some, Value.cells] at hw); (try simp (disch := first | (simp; done) | (simp; omega)) only [Sep.mid_set, Sep.mid_set2, Sep.mid_set0, Sep.mid_splice, Sep.mid_splice0, List.set_cons_zero, List.set_cons_succ] at hw); (try simp only [Sep.splice, List.take_succ_cons, List.take_zero, List.drop_succ_cons, List.drop_zero, List.length_cons, List.length_nil, Nat.reduceAdd, List.cons_append, List.nil_append] at hw); (try replace hc0 := Sep.Holds.cells hw (i := 0) rfl); (try replace hc1 := Sep.Holds.cells hw (i := 1) rfl); (try replace hc2 := Sep.Holds.cells hw (i := 2) rfl); (try replace hc3 := Sep.Holds.cells hw (i := 3) rfl); (try replace hc4 := Sep.Holds.cells hw (i := 4) rfl); (try replace hc5 := Sep.Holds.cells hw (i := 5) rfl); (try replace hc6 := Sep.Holds.cells hw (i := 6) rfl))
        exact HP.out _ _ ⟨rfl, hw.sel [0] (by decide)⟩
      by_cases hhi : 1099511627776 < f2
      · go_wp2_with ((with_reducible refine wpList_act (x := ?hx0x8) (y := ?hy0x8) (x1 := ?hx1x8) (x3 := ?hx3x8) (y3 := ?hy3x8) (cap := ?hcpx8) (vs := encA ⟨f0, f1, f2⟩) (q := q) (ad := ad) ti32 agg32 sl22 ?a1x8 ?a2x8 hlt hw (i := 0) ?a3x8 ?a4x8 ?a5x8 (encA_one ⟨f0, f1, f2⟩) Hcell.out ?b0x8 ?c0x8 ?b1x8 ?c1x8 ?d1x8 ?b2x8 ?c2x8 ?b3x8 ?c3x8 ?d3x8 ?f3x8 ?ggx8); (case b0x8 => rfl); (case b1x8 => rfl); (case b2x8 => rfl); (case b3x8 => rfl); (case a1x8 => rfl); (case a2x8 => rfl); (case a3x8 => rfl); (case a4x8 => rfl); (case a5x8 => rfl); (case c0x8 => rfl); (case c1x8 => rfl); (case d1x8 => rfl); (case c2x8 => rfl); (case c3x8 => (intro b; rfl)); (case d3x8 => (intro b; rfl)); (case f3x8 => (intro b; rfl)); intro bd w_ hw_; simp only [encA] at hw_; clear hw; have hw := hw_; clear hw_; (try simp only [List.map_cons, List.map_nil, List.getD_cons_zero, List.getD_cons_succ, List.getD_nil, List.set_cons_zero, List.set_cons_succ, List.cons_append, List.nil_append, Act.eval, Array.getD_eq_getD_getElem?, List.getElem?_toArray, List.getElem?_cons_succ, List.getElem?_cons_zero, Option.getD_some, Value.cells] at hw); (try simp (disch := first | (simp; done) | (simp; omega)) only [Sep.mid_set, Sep.mid_set2, Sep.mid_set0, Sep.mid_splice, Sep.mid_splice0, List.set_cons_zero, List.set_cons_succ] at hw); (try simp only [Sep.splice, List.take_succ_cons, List.take_zero, List.drop_succ_cons, List.drop_zero, List.length_cons, List.length_nil, Nat.reduceAdd, List.cons_append, List.nil_append] at hw); (try replace hc0 := Sep.Holds.cells hw (i := 0) rfl); (try replace hc1 := Sep.Holds.cells hw (i := 1) rfl); (try replace hc2 := Sep.Holds.cells hw (i := 2) rfl); (try replace hc3 := Sep.Holds.cells hw (i := 3) rfl); (try replace hc4 := Sep.Holds.cells hw (i := 4) rfl); (try replace hc5 := Sep.Holds.cells hw (i := 5) rfl); (try replace hc6 := Sep.Holds.cells hw (i := 6) rfl))
        exact HP.out _ _ ⟨rfl, hw.sel [0] (by decide)⟩
      by_cases h1 : f0 = 1
      · subst h1
        have Hdok : Hid (Deed.ok ⟨1, f1, -1⟩) := Sep.hid ⟨show (-9223372036854775808 : Int) ≤ 1 ∧ (1 : Int) ≤ 9223372036854775807 from by decide, hdok.2.1, show (-9223372036854775808 : Int) ≤ -1 ∧ (-1 : Int) ≤ 9223372036854775807 from by decide⟩
        have Hx : Hid (-1099511627776 ≤ (-1 : Int) ∧ (-1 : Int) ≤ 1099511627776) := Sep.hid (by omega)
        clear hdok
        go_wp2_with (first | ((with_reducible refine wpList_act (x := ?hx0x9) (y := ?hy0x9) (x1 := ?hx1x9) (x3 := ?hx3x9) (y3 := ?hy3x9) (cap := ?hcpx9) (vs := encA ⟨1, f1, f2⟩) (q := q) (ad := ad) ti32 agg32 sl22 ?a1x9 ?a2x9 hlt hw (i := 0) ?a3x9 ?a4x9 ?a5x9 (encA_one ⟨1, f1, f2⟩) Hcell.out ?b0x9 ?c0x9 ?b1x9 ?c1x9 ?d1x9 ?b2x9 ?c2x9 ?b3x9 ?c3x9 ?d3x9 ?f3x9 ?ggx9); (case b0x9 => rfl); (case b1x9 => rfl); (case b2x9 => rfl); (case b3x9 => rfl); (case a1x9 => rfl); (case a2x9 => rfl); (case a3x9 => rfl); (case a4x9 => rfl); (case a5x9 => rfl); (case c0x9 => rfl); (case c1x9 => rfl); (case d1x9 => rfl); (case c2x9 => rfl); (case c3x9 => (intro b; rfl)); (case d3x9 => (intro b; rfl)); (case f3x9 => (intro b; rfl)); intro bd w_ hw_; simp only [encA] at hw_; clear hw; have hw := hw_; clear hw_; (try simp only [List.map_cons, List.map_nil, List.getD_cons_zero, List.getD_cons_succ, List.getD_nil, List.set_cons_zero, List.set_cons_succ, List.cons_append, List.nil_append, Act.eval, Array.getD_eq_getD_getElem?, List.getElem?_toArray, List.getElem?_cons_succ, List.getElem?_cons_zero, Option.getD_some, Value.cells] at hw); (try simp (disch := first | (simp; done) | (simp; omega)) only [Sep.mid_set, Sep.mid_set2, Sep.mid_set0, Sep.mid_splice, Sep.mid_splice0, List.set_cons_zero, List.set_cons_succ] at hw); (try simp only [Sep.splice, List.take_succ_cons, List.take_zero, List.drop_succ_cons, List.drop_zero, List.length_cons, List.length_nil, Nat.reduceAdd, List.cons_append, List.nil_append] at hw); (try replace hc0 := Sep.Holds.cells hw (i := 0) rfl); (try replace hc1 := Sep.Holds.cells hw (i := 1) rfl); (try replace hc2 := Sep.Holds.cells hw (i := 2) rfl); (try replace hc3 := Sep.Holds.cells hw (i := 3) rfl); (try replace hc4 := Sep.Holds.cells hw (i := 4) rfl); (try replace hc5 := Sep.Holds.cells hw (i := 5) rfl); (try replace hc6 := Sep.Holds.cells hw (i := 6) rfl)) | ((first | refine wpList_on rfl (wp_store1 (v := _) rfl rfl rfl hw (i := 0) rfl (by simp [Sep.mid_length, Act.eval, Value.cells]; try omega) rfl ?_) | refine wpList_on rfl (wp_store1 (v := _) rfl rfl rfl hw (i := 1) rfl (by simp [Sep.mid_length, Act.eval, Value.cells]; try omega) rfl ?_) | refine wpList_on rfl (wp_store1 (v := _) rfl rfl rfl hw (i := 2) rfl (by simp [Sep.mid_length, Act.eval, Value.cells]; try omega) rfl ?_) | refine wpList_on rfl (wp_store1 (v := _) rfl rfl rfl hw (i := 3) rfl (by simp [Sep.mid_length, Act.eval, Value.cells]; try omega) rfl ?_) | refine wpList_on rfl (wp_store1 (v := _) rfl rfl rfl hw (i := 4) rfl (by simp [Sep.mid_length, Act.eval, Value.cells]; try omega) rfl ?_)); intro w_ hw_; clear hw; have hw := hw_; clear hw_; (try simp only [List.map_cons, List.map_nil, List.getD_cons_zero, List.getD_cons_succ, List.getD_nil, List.set_cons_zero, List.set_cons_succ, List.cons_append, List.nil_append, Act.eval, Array.getD_eq_getD_getElem?, List.getElem?_toArray, List.getElem?_cons_succ, List.getElem?_cons_zero, Option.getD_some, Value.cells] at hw); (try simp (disch := first | (simp; done) | (simp; omega)) only [Sep.mid_set, Sep.mid_set2, Sep.mid_set0, Sep.mid_splice, Sep.mid_splice0, List.set_cons_zero, List.set_cons_succ] at hw); (try simp only [Sep.splice, List.take_succ_cons, List.take_zero, List.drop_succ_cons, List.drop_zero, List.length_cons, List.length_nil, Nat.reduceAdd, List.cons_append, List.nil_append] at hw); (try replace hc0 := Sep.Holds.cells hw (i := 0) rfl); (try replace hc1 := Sep.Holds.cells hw (i := 1) rfl); (try replace hc2 := Sep.Holds.cells hw (i := 2) rfl); (try replace hc3 := Sep.Holds.cells hw (i := 3) rfl); (try replace hc4 := Sep.Holds.cells hw (i := 4) rfl); (try replace hc5 := Sep.Holds.cells hw (i := 5) rfl); (try replace hc6 := Sep.Holds.cells hw (i := 6) rfl)))
        have hwr : IntKind.i64.wrap (c + (-1)) = c + (-1) := IntWalk.i64_in _ (by have := Hcb.out; have := Hx.out; omega)
        by_cases hx1 : c + (-1) < 0
        · have hb : WM.act ⟨20, c, row⟩ ⟨1, f1, -1⟩ = ([], false, 1, ⟨20, c, row⟩) := by simp only [WM.act, WM.add, if_neg (show ¬ (1 : Int) = 0 by decide), if_pos]; simp [hx1]
          have hs : ¬ (0 ≤ c + (-1)) := by omega
          have hdo := fun w X hw => do_calls p ⟨20, c, row⟩ ⟨1, f1, -1⟩ (Sep.hid Hdok.out) e w X hw
          simp only [hb] at hdo
          refine (hdo _ _ (hw.focus1 1 rfl)).mono ?_
          rintro en_ w_ ⟨v, rfl, hw_⟩
          clear hw; (try clear hc0); (try clear hc1); (try clear hc2); (try clear hc3); (try clear hc4); (try clear hc5); (try clear hc6); have hw := Holds.unfocus1 1 (by simp) hw_; clear hw_ hdo hb
          (try simp only [List.map_cons, List.map_nil, List.getD_cons_zero, List.getD_cons_succ, List.getD_nil, List.set_cons_zero, List.set_cons_succ, List.cons_append, List.nil_append, Act.eval, Array.getD_eq_getD_getElem?, List.getElem?_toArray, List.getElem?_cons_succ, List.getElem?_cons_zero, Option.getD_some, Value.cells] at hw); (try simp (disch := first | (simp; done) | (simp; omega)) only [Sep.mid_set, Sep.mid_set2, Sep.mid_set0, Sep.mid_splice, Sep.mid_splice0, List.set_cons_zero, List.set_cons_succ] at hw); (try simp only [Sep.splice, List.take_succ_cons, List.take_zero, List.drop_succ_cons, List.drop_zero, List.length_cons, List.length_nil, Nat.reduceAdd, List.cons_append, List.nil_append] at hw)
          obtain ⟨ra, rc, rfl⟩ := Sl.value (i := 2) rfl hw
          obtain ⟨va, vc, rfl⟩ := Sl.value (i := 4) rfl hw
          (try replace hc0 := Sep.Holds.cells hw (i := 0) rfl); (try replace hc1 := Sep.Holds.cells hw (i := 1) rfl); (try replace hc2 := Sep.Holds.cells hw (i := 2) rfl); (try replace hc3 := Sep.Holds.cells hw (i := 3) rfl); (try replace hc4 := Sep.Holds.cells hw (i := 4) rfl); (try replace hc5 := Sep.Holds.cells hw (i := 5) rfl); (try replace hc6 := Sep.Holds.cells hw (i := 6) rfl)
          go_wp2_with fail
          by_cases hc0 : c = 0
          · obtain rfl := Hst.out hc0
            subst hc0
            replace hw := hw.sel [0, 1, 2] (by decide)
            (try simp only [List.map_cons, List.map_nil, List.getD_cons_zero, List.getD_cons_succ, List.getD_nil, List.set_cons_zero, List.set_cons_succ, List.cons_append, List.nil_append, Act.eval, Array.getD_eq_getD_getElem?, List.getElem?_toArray, List.getElem?_cons_succ, List.getElem?_cons_zero, Option.getD_some, Value.cells] at hw); (try simp (disch := first | (simp; done) | (simp; omega)) only [Sep.mid_set, Sep.mid_set2, Sep.mid_set0, Sep.mid_splice, Sep.mid_splice0, List.set_cons_zero, List.set_cons_succ] at hw); (try simp only [Sep.splice, List.take_succ_cons, List.take_zero, List.drop_succ_cons, List.drop_zero, List.length_cons, List.length_nil, Nat.reduceAdd, List.cons_append, List.nil_append] at hw)
            (try clear hc0); (try clear hc1); (try clear hc2); (try clear hc3); (try clear hc4); (try clear hc5); (try clear hc6)
            have Hl2 : Hid (([]).length ≤ 1000) := Sep.hid (waits_len (i := 1) (M := ⟨20, 0, []⟩) rfl hw)
            refine (oCount p ⟨20, 0, []⟩ e _ _ (hw.focus1 1 rfl)).mono ?_
            rintro en_ w_ ⟨rfl, rfl⟩
            go_wp2_with fail
            refine (oWaiting p ⟨20, 0, []⟩ e _ _ (hw.focus1 1 rfl)).mono ?_
            rintro en_ w_ ⟨vw, rfl, hw_⟩
            clear hw; (try clear hc0); (try clear hc1); (try clear hc2); (try clear hc3); (try clear hc4); (try clear hc5); (try clear hc6); have hw := Holds.unfocus1 1 (by simp) hw_; clear hw_
            (try simp only [List.map_cons, List.map_nil, List.getD_cons_zero, List.getD_cons_succ, List.getD_nil, List.set_cons_zero, List.set_cons_succ, List.cons_append, List.nil_append, Act.eval, Array.getD_eq_getD_getElem?, List.getElem?_toArray, List.getElem?_cons_succ, List.getElem?_cons_zero, Option.getD_some, Value.cells] at hw); (try simp (disch := first | (simp; done) | (simp; omega)) only [Sep.mid_set, Sep.mid_set2, Sep.mid_set0, Sep.mid_splice, Sep.mid_splice0, List.set_cons_zero, List.set_cons_succ] at hw); (try simp only [Sep.splice, List.take_succ_cons, List.take_zero, List.drop_succ_cons, List.drop_zero, List.length_cons, List.length_nil, Nat.reduceAdd, List.cons_append, List.nil_append] at hw)
            go_wp2_with fail
            refine (same_calls _ _ [] [] (by have := Hl2.out; omega) e _ _ (hw.focus2 3 2 rfl rfl (by decide))).mono ?_
            rintro en_ w_ ⟨he_, hw_⟩
            rw [decide_eq_true rfl] at he_; subst he_
            clear hw; have hw := Holds.unfocus2 3 2 (by simp) (by simp) (by decide) hw_; clear hw_
            (try simp only [List.map_cons, List.map_nil, List.getD_cons_zero, List.getD_cons_succ, List.getD_nil, List.set_cons_zero, List.set_cons_succ, List.cons_append, List.nil_append, Act.eval, Array.getD_eq_getD_getElem?, List.getElem?_toArray, List.getElem?_cons_succ, List.getElem?_cons_zero, Option.getD_some, Value.cells] at hw); (try simp (disch := first | (simp; done) | (simp; omega)) only [Sep.mid_set, Sep.mid_set2, Sep.mid_set0, Sep.mid_splice, Sep.mid_splice0, List.set_cons_zero, List.set_cons_succ] at hw); (try simp only [Sep.splice, List.take_succ_cons, List.take_zero, List.drop_succ_cons, List.drop_zero, List.length_cons, List.length_nil, Nat.reduceAdd, List.cons_append, List.nil_append] at hw)
            go_wp2_with fail
            go_roundw
            case rel => exact ⟨q + 1, 0, [], by omega, by go_num, rfl, by omega, fun _ => rfl, hw.sel [0, 1, 2] (by decide)⟩
            case measure => simp [intOf]; omega
          · have hcq : (c == 0) = false := by simpa using hc0
            replace hw := hw.sel [0, 1, 2] (by decide)
            (try simp only [List.map_cons, List.map_nil, List.getD_cons_zero, List.getD_cons_succ, List.getD_nil, List.set_cons_zero, List.set_cons_succ, List.cons_append, List.nil_append, Act.eval, Array.getD_eq_getD_getElem?, List.getElem?_toArray, List.getElem?_cons_succ, List.getElem?_cons_zero, Option.getD_some, Value.cells] at hw); (try simp (disch := first | (simp; done) | (simp; omega)) only [Sep.mid_set, Sep.mid_set2, Sep.mid_set0, Sep.mid_splice, Sep.mid_splice0, List.set_cons_zero, List.set_cons_succ] at hw); (try simp only [Sep.splice, List.take_succ_cons, List.take_zero, List.drop_succ_cons, List.drop_zero, List.length_cons, List.length_nil, Nat.reduceAdd, List.cons_append, List.nil_append] at hw)
            (try clear hc0); (try clear hc1); (try clear hc2); (try clear hc3); (try clear hc4); (try clear hc5); (try clear hc6)
            have Hl2 : Hid ((row).length ≤ 1000) := Sep.hid (waits_len (i := 1) (M := ⟨20, c, row⟩) rfl hw)
            refine (oCount p ⟨20, c, row⟩ e _ _ (hw.focus1 1 rfl)).mono ?_
            rintro en_ w_ ⟨rfl, rfl⟩
            go_wp2_with fail
            refine (oWaiting p ⟨20, c, row⟩ e _ _ (hw.focus1 1 rfl)).mono ?_
            rintro en_ w_ ⟨vw, rfl, hw_⟩
            clear hw; (try clear hc0); (try clear hc1); (try clear hc2); (try clear hc3); (try clear hc4); (try clear hc5); (try clear hc6); have hw := Holds.unfocus1 1 (by simp) hw_; clear hw_
            (try simp only [List.map_cons, List.map_nil, List.getD_cons_zero, List.getD_cons_succ, List.getD_nil, List.set_cons_zero, List.set_cons_succ, List.cons_append, List.nil_append, Act.eval, Array.getD_eq_getD_getElem?, List.getElem?_toArray, List.getElem?_cons_succ, List.getElem?_cons_zero, Option.getD_some, Value.cells] at hw); (try simp (disch := first | (simp; done) | (simp; omega)) only [Sep.mid_set, Sep.mid_set2, Sep.mid_set0, Sep.mid_splice, Sep.mid_splice0, List.set_cons_zero, List.set_cons_succ] at hw); (try simp only [Sep.splice, List.take_succ_cons, List.take_zero, List.drop_succ_cons, List.drop_zero, List.length_cons, List.length_nil, Nat.reduceAdd, List.cons_append, List.nil_append] at hw)
            go_wp2_with fail
            refine (same_calls _ _ row row (by have := Hl2.out; omega) e _ _ (hw.focus2 3 2 rfl rfl (by decide))).mono ?_
            rintro en_ w_ ⟨he_, hw_⟩
            rw [decide_eq_true rfl] at he_; subst he_
            clear hw; have hw := Holds.unfocus2 3 2 (by simp) (by simp) (by decide) hw_; clear hw_
            (try simp only [List.map_cons, List.map_nil, List.getD_cons_zero, List.getD_cons_succ, List.getD_nil, List.set_cons_zero, List.set_cons_succ, List.cons_append, List.nil_append, Act.eval, Array.getD_eq_getD_getElem?, List.getElem?_toArray, List.getElem?_cons_succ, List.getElem?_cons_zero, Option.getD_some, Value.cells] at hw); (try simp (disch := first | (simp; done) | (simp; omega)) only [Sep.mid_set, Sep.mid_set2, Sep.mid_set0, Sep.mid_splice, Sep.mid_splice0, List.set_cons_zero, List.set_cons_succ] at hw); (try simp only [Sep.splice, List.take_succ_cons, List.take_zero, List.drop_succ_cons, List.drop_zero, List.length_cons, List.length_nil, Nat.reduceAdd, List.cons_append, List.nil_append] at hw)
            go_wp2_with fail
            go_roundw
            case rel => exact ⟨q + 1, c, row, by omega, by go_num, rfl, by have := Hcb.out; omega, fun h => Hst.out h, hw.sel [0, 1, 2] (by decide)⟩
            case measure => simp [intOf]; omega
        by_cases hx2 : 0 < c + (-1)
        · have hb : WM.act ⟨20, c, row⟩ ⟨1, f1, -1⟩ = ([], false, 0, ⟨20, c + (-1), row⟩) := by
            have h9 : ¬ 9223372036854775807 < c + (-1) := by have := Hcb.out; omega
            simp only [WM.act, WM.add, if_neg (show ¬ (1 : Int) = 0 by decide), if_pos]; simp [hx1, h9, hx2]
          have hs : 0 ≤ c + (-1) := by omega
          have hne : ¬ c + (-1) = 0 := by omega
          have Hnew : Hid (0 ≤ c + (-1) ∧ c + (-1) ≤ (q + 1 : Nat) * 1099511627776) := Sep.hid (by have := Hcb.out; have := Hx.out; omega)
          have Hne := Sep.hid hne
          have hdo := fun w X hw => do_calls p ⟨20, c, row⟩ ⟨1, f1, -1⟩ (Sep.hid Hdok.out) e w X hw
          simp only [hb] at hdo
          refine (hdo _ _ (hw.focus1 1 rfl)).mono ?_
          rintro en_ w_ ⟨v, rfl, hw_⟩
          clear hw; (try clear hc0); (try clear hc1); (try clear hc2); (try clear hc3); (try clear hc4); (try clear hc5); (try clear hc6); have hw := Holds.unfocus1 1 (by simp) hw_; clear hw_ hdo hb
          (try simp only [List.map_cons, List.map_nil, List.getD_cons_zero, List.getD_cons_succ, List.getD_nil, List.set_cons_zero, List.set_cons_succ, List.cons_append, List.nil_append, Act.eval, Array.getD_eq_getD_getElem?, List.getElem?_toArray, List.getElem?_cons_succ, List.getElem?_cons_zero, Option.getD_some, Value.cells] at hw); (try simp (disch := first | (simp; done) | (simp; omega)) only [Sep.mid_set, Sep.mid_set2, Sep.mid_set0, Sep.mid_splice, Sep.mid_splice0, List.set_cons_zero, List.set_cons_succ] at hw); (try simp only [Sep.splice, List.take_succ_cons, List.take_zero, List.drop_succ_cons, List.drop_zero, List.length_cons, List.length_nil, Nat.reduceAdd, List.cons_append, List.nil_append] at hw)
          obtain ⟨ra, rc, rfl⟩ := Sl.value (i := 2) rfl hw
          obtain ⟨va, vc, rfl⟩ := Sl.value (i := 4) rfl hw
          (try replace hc0 := Sep.Holds.cells hw (i := 0) rfl); (try replace hc1 := Sep.Holds.cells hw (i := 1) rfl); (try replace hc2 := Sep.Holds.cells hw (i := 2) rfl); (try replace hc3 := Sep.Holds.cells hw (i := 3) rfl); (try replace hc4 := Sep.Holds.cells hw (i := 4) rfl); (try replace hc5 := Sep.Holds.cells hw (i := 5) rfl); (try replace hc6 := Sep.Holds.cells hw (i := 6) rfl)
          go_wp2_with fail
          replace hw := hw.sel [0, 1, 2] (by decide)
          (try simp only [List.map_cons, List.map_nil, List.getD_cons_zero, List.getD_cons_succ, List.getD_nil, List.set_cons_zero, List.set_cons_succ, List.cons_append, List.nil_append, Act.eval, Array.getD_eq_getD_getElem?, List.getElem?_toArray, List.getElem?_cons_succ, List.getElem?_cons_zero, Option.getD_some, Value.cells] at hw); (try simp (disch := first | (simp; done) | (simp; omega)) only [Sep.mid_set, Sep.mid_set2, Sep.mid_set0, Sep.mid_splice, Sep.mid_splice0, List.set_cons_zero, List.set_cons_succ] at hw); (try simp only [Sep.splice, List.take_succ_cons, List.take_zero, List.drop_succ_cons, List.drop_zero, List.length_cons, List.length_nil, Nat.reduceAdd, List.cons_append, List.nil_append] at hw)
          (try clear hc0); (try clear hc1); (try clear hc2); (try clear hc3); (try clear hc4); (try clear hc5); (try clear hc6)
          have Hl2 : Hid ((row).length ≤ 1000) := Sep.hid (waits_len (i := 1) (M := ⟨20, (c + (-1)), row⟩) rfl hw)
          refine (oCount p ⟨20, (c + (-1)), row⟩ e _ _ (hw.focus1 1 rfl)).mono ?_
          rintro en_ w_ ⟨rfl, rfl⟩
          go_wp2_with fail
          refine (oWaiting p ⟨20, (c + (-1)), row⟩ e _ _ (hw.focus1 1 rfl)).mono ?_
          rintro en_ w_ ⟨vw, rfl, hw_⟩
          clear hw; (try clear hc0); (try clear hc1); (try clear hc2); (try clear hc3); (try clear hc4); (try clear hc5); (try clear hc6); have hw := Holds.unfocus1 1 (by simp) hw_; clear hw_
          (try simp only [List.map_cons, List.map_nil, List.getD_cons_zero, List.getD_cons_succ, List.getD_nil, List.set_cons_zero, List.set_cons_succ, List.cons_append, List.nil_append, Act.eval, Array.getD_eq_getD_getElem?, List.getElem?_toArray, List.getElem?_cons_succ, List.getElem?_cons_zero, Option.getD_some, Value.cells] at hw); (try simp (disch := first | (simp; done) | (simp; omega)) only [Sep.mid_set, Sep.mid_set2, Sep.mid_set0, Sep.mid_splice, Sep.mid_splice0, List.set_cons_zero, List.set_cons_succ] at hw); (try simp only [Sep.splice, List.take_succ_cons, List.take_zero, List.drop_succ_cons, List.drop_zero, List.length_cons, List.length_nil, Nat.reduceAdd, List.cons_append, List.nil_append] at hw)
          go_wp2_with fail
          refine (same_calls _ _ row row (by have := Hl2.out; omega) e _ _ (hw.focus2 3 2 rfl rfl (by decide))).mono ?_
          rintro en_ w_ ⟨he_, hw_⟩
          rw [decide_eq_true rfl] at he_; subst he_
          clear hw; have hw := Holds.unfocus2 3 2 (by simp) (by simp) (by decide) hw_; clear hw_
          (try simp only [List.map_cons, List.map_nil, List.getD_cons_zero, List.getD_cons_succ, List.getD_nil, List.set_cons_zero, List.set_cons_succ, List.cons_append, List.nil_append, Act.eval, Array.getD_eq_getD_getElem?, List.getElem?_toArray, List.getElem?_cons_succ, List.getElem?_cons_zero, Option.getD_some, Value.cells] at hw); (try simp (disch := first | (simp; done) | (simp; omega)) only [Sep.mid_set, Sep.mid_set2, Sep.mid_set0, Sep.mid_splice, Sep.mid_splice0, List.set_cons_zero, List.set_cons_succ] at hw); (try simp only [Sep.splice, List.take_succ_cons, List.take_zero, List.drop_succ_cons, List.drop_zero, List.length_cons, List.length_nil, Nat.reduceAdd, List.cons_append, List.nil_append] at hw)
          go_wp2_with fail
          go_roundw
          case rel => exact ⟨q + 1, (c + (-1)), row, by omega, by go_num, rfl, Hnew.out, fun h => absurd h Hne.out, hw.sel [0, 1, 2] (by decide)⟩
          case measure => simp [intOf]; omega
        · have hb : WM.act ⟨20, c, row⟩ ⟨1, f1, -1⟩ = (row, false, 0, ⟨20, 0, []⟩) := by
            have h9 : ¬ 9223372036854775807 < c + (-1) := by omega
            simp only [WM.act, WM.add, if_neg (show ¬ (1 : Int) = 0 by decide), if_pos]; simp [hx1, h9, hx2]
          have hz : c + (-1) = 0 := by omega
          clear hx1 hx2
          have hdo := fun w X hw => do_calls p ⟨20, c, row⟩ ⟨1, f1, -1⟩ (Sep.hid Hdok.out) e w X hw
          simp only [hb] at hdo
          refine (hdo _ _ (hw.focus1 1 rfl)).mono ?_
          rintro en_ w_ ⟨v, rfl, hw_⟩
          clear hw; (try clear hc0); (try clear hc1); (try clear hc2); (try clear hc3); (try clear hc4); (try clear hc5); (try clear hc6); have hw := Holds.unfocus1 1 (by simp) hw_; clear hw_ hdo hb
          (try simp only [List.map_cons, List.map_nil, List.getD_cons_zero, List.getD_cons_succ, List.getD_nil, List.set_cons_zero, List.set_cons_succ, List.cons_append, List.nil_append, Act.eval, Array.getD_eq_getD_getElem?, List.getElem?_toArray, List.getElem?_cons_succ, List.getElem?_cons_zero, Option.getD_some, Value.cells] at hw); (try simp (disch := first | (simp; done) | (simp; omega)) only [Sep.mid_set, Sep.mid_set2, Sep.mid_set0, Sep.mid_splice, Sep.mid_splice0, List.set_cons_zero, List.set_cons_succ] at hw); (try simp only [Sep.splice, List.take_succ_cons, List.take_zero, List.drop_succ_cons, List.drop_zero, List.length_cons, List.length_nil, Nat.reduceAdd, List.cons_append, List.nil_append] at hw)
          obtain ⟨ra, rc, rfl⟩ := Sl.value (i := 2) rfl hw
          obtain ⟨va, vc, rfl⟩ := Sl.value (i := 4) rfl hw
          (try replace hc0 := Sep.Holds.cells hw (i := 0) rfl); (try replace hc1 := Sep.Holds.cells hw (i := 1) rfl); (try replace hc2 := Sep.Holds.cells hw (i := 2) rfl); (try replace hc3 := Sep.Holds.cells hw (i := 3) rfl); (try replace hc4 := Sep.Holds.cells hw (i := 4) rfl); (try replace hc5 := Sep.Holds.cells hw (i := 5) rfl); (try replace hc6 := Sep.Holds.cells hw (i := 6) rfl)
          go_wp2_with fail
          refine (same_calls _ _ row row (by have := Hlr.out; omega) e _ _ (hw.focus2 4 2 rfl rfl (by decide))).mono ?_
          rintro en_ w_ ⟨he_, hw_⟩
          rw [decide_eq_true rfl] at he_; subst he_
          clear hw; (try clear hc0); (try clear hc1); (try clear hc2); (try clear hc3); (try clear hc4); (try clear hc5); (try clear hc6); have hw := Holds.unfocus2 4 2 (by simp) (by simp) (by decide) hw_; clear hw_
          (try simp only [List.map_cons, List.map_nil, List.getD_cons_zero, List.getD_cons_succ, List.getD_nil, List.set_cons_zero, List.set_cons_succ, List.cons_append, List.nil_append, Act.eval, Array.getD_eq_getD_getElem?, List.getElem?_toArray, List.getElem?_cons_succ, List.getElem?_cons_zero, Option.getD_some, Value.cells] at hw); (try simp (disch := first | (simp; done) | (simp; omega)) only [Sep.mid_set, Sep.mid_set2, Sep.mid_set0, Sep.mid_splice, Sep.mid_splice0, List.set_cons_zero, List.set_cons_succ] at hw); (try simp only [Sep.splice, List.take_succ_cons, List.take_zero, List.drop_succ_cons, List.drop_zero, List.length_cons, List.length_nil, Nat.reduceAdd, List.cons_append, List.nil_append] at hw)
          replace hw := (hw.addEmp (X := IsInts (.slice none 0 0) []) (Sl.nil _ _ _)).sel [0, 1, 5, 3] (by decide)
          (try simp only [List.map_cons, List.map_nil, List.getD_cons_zero, List.getD_cons_succ, List.getD_nil, List.set_cons_zero, List.set_cons_succ, List.cons_append, List.nil_append, Act.eval, Array.getD_eq_getD_getElem?, List.getElem?_toArray, List.getElem?_cons_succ, List.getElem?_cons_zero, Option.getD_some, Value.cells] at hw); (try simp (disch := first | (simp; done) | (simp; omega)) only [Sep.mid_set, Sep.mid_set2, Sep.mid_set0, Sep.mid_splice, Sep.mid_splice0, List.set_cons_zero, List.set_cons_succ] at hw); (try simp only [Sep.splice, List.take_succ_cons, List.take_zero, List.drop_succ_cons, List.drop_zero, List.length_cons, List.length_nil, Nat.reduceAdd, List.cons_append, List.nil_append] at hw)
          (try replace hc0 := Sep.Holds.cells hw (i := 0) rfl); (try replace hc1 := Sep.Holds.cells hw (i := 1) rfl); (try replace hc2 := Sep.Holds.cells hw (i := 2) rfl); (try replace hc3 := Sep.Holds.cells hw (i := 3) rfl); (try replace hc4 := Sep.Holds.cells hw (i := 4) rfl); (try replace hc5 := Sep.Holds.cells hw (i := 5) rfl); (try replace hc6 := Sep.Holds.cells hw (i := 6) rfl)
          go_wp2_with fail
          replace hw := hw.sel [0, 1, 2] (by decide)
          (try simp only [List.map_cons, List.map_nil, List.getD_cons_zero, List.getD_cons_succ, List.getD_nil, List.set_cons_zero, List.set_cons_succ, List.cons_append, List.nil_append, Act.eval, Array.getD_eq_getD_getElem?, List.getElem?_toArray, List.getElem?_cons_succ, List.getElem?_cons_zero, Option.getD_some, Value.cells] at hw); (try simp (disch := first | (simp; done) | (simp; omega)) only [Sep.mid_set, Sep.mid_set2, Sep.mid_set0, Sep.mid_splice, Sep.mid_splice0, List.set_cons_zero, List.set_cons_succ] at hw); (try simp only [Sep.splice, List.take_succ_cons, List.take_zero, List.drop_succ_cons, List.drop_zero, List.length_cons, List.length_nil, Nat.reduceAdd, List.cons_append, List.nil_append] at hw)
          (try clear hc0); (try clear hc1); (try clear hc2); (try clear hc3); (try clear hc4); (try clear hc5); (try clear hc6)
          have Hl2 : Hid (([]).length ≤ 1000) := Sep.hid (waits_len (i := 1) (M := ⟨20, 0, []⟩) rfl hw)
          refine (oCount p ⟨20, 0, []⟩ e _ _ (hw.focus1 1 rfl)).mono ?_
          rintro en_ w_ ⟨rfl, rfl⟩
          go_wp2_with fail
          refine (oWaiting p ⟨20, 0, []⟩ e _ _ (hw.focus1 1 rfl)).mono ?_
          rintro en_ w_ ⟨vw, rfl, hw_⟩
          clear hw; (try clear hc0); (try clear hc1); (try clear hc2); (try clear hc3); (try clear hc4); (try clear hc5); (try clear hc6); have hw := Holds.unfocus1 1 (by simp) hw_; clear hw_
          (try simp only [List.map_cons, List.map_nil, List.getD_cons_zero, List.getD_cons_succ, List.getD_nil, List.set_cons_zero, List.set_cons_succ, List.cons_append, List.nil_append, Act.eval, Array.getD_eq_getD_getElem?, List.getElem?_toArray, List.getElem?_cons_succ, List.getElem?_cons_zero, Option.getD_some, Value.cells] at hw); (try simp (disch := first | (simp; done) | (simp; omega)) only [Sep.mid_set, Sep.mid_set2, Sep.mid_set0, Sep.mid_splice, Sep.mid_splice0, List.set_cons_zero, List.set_cons_succ] at hw); (try simp only [Sep.splice, List.take_succ_cons, List.take_zero, List.drop_succ_cons, List.drop_zero, List.length_cons, List.length_nil, Nat.reduceAdd, List.cons_append, List.nil_append] at hw)
          go_wp2_with fail
          refine (same_calls _ _ [] [] (by have := Hl2.out; omega) e _ _ (hw.focus2 3 2 rfl rfl (by decide))).mono ?_
          rintro en_ w_ ⟨he_, hw_⟩
          rw [decide_eq_true rfl] at he_; subst he_
          clear hw; have hw := Holds.unfocus2 3 2 (by simp) (by simp) (by decide) hw_; clear hw_
          (try simp only [List.map_cons, List.map_nil, List.getD_cons_zero, List.getD_cons_succ, List.getD_nil, List.set_cons_zero, List.set_cons_succ, List.cons_append, List.nil_append, Act.eval, Array.getD_eq_getD_getElem?, List.getElem?_toArray, List.getElem?_cons_succ, List.getElem?_cons_zero, Option.getD_some, Value.cells] at hw); (try simp (disch := first | (simp; done) | (simp; omega)) only [Sep.mid_set, Sep.mid_set2, Sep.mid_set0, Sep.mid_splice, Sep.mid_splice0, List.set_cons_zero, List.set_cons_succ] at hw); (try simp only [Sep.splice, List.take_succ_cons, List.take_zero, List.drop_succ_cons, List.drop_zero, List.length_cons, List.length_nil, Nat.reduceAdd, List.cons_append, List.nil_append] at hw)
          go_wp2_with fail
          go_roundw
          case rel => exact ⟨q + 1, 0, [], by omega, by go_num, rfl, by omega, fun _ => rfl, hw.sel [0, 1, 2] (by decide)⟩
          case measure => simp [intOf]; omega
      have Hdok : Hid (Deed.ok ⟨f0, f1, f2⟩) := Sep.hid hdok
      clear hdok
      have Hx : Hid (-1099511627776 ≤ f2 ∧ f2 ≤ 1099511627776) := Sep.hid (by omega)
      by_cases h0 : f0 = 0
      · subst h0
        clear h1
        go_wp2_with ((with_reducible refine wpList_act (x := ?hx0x40) (y := ?hy0x40) (x1 := ?hx1x40) (x3 := ?hx3x40) (y3 := ?hy3x40) (cap := ?hcpx40) (vs := encA ⟨0, f1, f2⟩) (q := q) (ad := ad) ti32 agg32 sl22 ?a1x40 ?a2x40 hlt hw (i := 0) ?a3x40 ?a4x40 ?a5x40 (encA_one ⟨0, f1, f2⟩) Hcell.out ?b0x40 ?c0x40 ?b1x40 ?c1x40 ?d1x40 ?b2x40 ?c2x40 ?b3x40 ?c3x40 ?d3x40 ?f3x40 ?ggx40); (case b0x40 => rfl); (case b1x40 => rfl); (case b2x40 => rfl); (case b3x40 => rfl); (case a1x40 => rfl); (case a2x40 => rfl); (case a3x40 => rfl); (case a4x40 => rfl); (case a5x40 => rfl); (case c0x40 => rfl); (case c1x40 => rfl); (case d1x40 => rfl); (case c2x40 => rfl); (case c3x40 => (intro b; rfl)); (case d3x40 => (intro b; rfl)); (case f3x40 => (intro b; rfl)); intro bd w_ hw_; simp only [encA] at hw_; clear hw; have hw := hw_; clear hw_; (try simp only [List.map_cons, List.map_nil, List.getD_cons_zero, List.getD_cons_succ, List.getD_nil, List.set_cons_zero, List.set_cons_succ, List.cons_append, List.nil_append, Act.eval, Array.getD_eq_getD_getElem?, List.getElem?_toArray, List.getElem?_cons_succ, List.getElem?_cons_zero, Option.getD_some, Value.cells] at hw); (try simp (disch := first | (simp; done) | (simp; omega)) only [Sep.mid_set, Sep.mid_set2, Sep.mid_set0, Sep.mid_splice, Sep.mid_splice0, List.set_cons_zero, List.set_cons_succ] at hw); (try simp only [Sep.splice, List.take_succ_cons, List.take_zero, List.drop_succ_cons, List.drop_zero, List.length_cons, List.length_nil, Nat.reduceAdd, List.cons_append, List.nil_append] at hw); (try replace hc0 := Sep.Holds.cells hw (i := 0) rfl); (try replace hc1 := Sep.Holds.cells hw (i := 1) rfl); (try replace hc2 := Sep.Holds.cells hw (i := 2) rfl); (try replace hc3 := Sep.Holds.cells hw (i := 3) rfl); (try replace hc4 := Sep.Holds.cells hw (i := 4) rfl); (try replace hc5 := Sep.Holds.cells hw (i := 5) rfl); (try replace hc6 := Sep.Holds.cells hw (i := 6) rfl))
        have hwr : IntKind.i64.wrap (c + f2) = c + f2 := IntWalk.i64_in _ (by have := Hcb.out; have := Hx.out; omega)
        by_cases hx1 : c + f2 < 0
        · have hb : WM.act ⟨20, c, row⟩ ⟨0, f1, f2⟩ = ([], false, 1, ⟨20, c, row⟩) := by simp only [WM.act, WM.add, if_pos]; simp [hx1]
          have hs : ¬ (0 ≤ c + f2) := by omega
          have hdo := fun w X hw => do_calls p ⟨20, c, row⟩ ⟨0, f1, f2⟩ (Sep.hid Hdok.out) e w X hw
          simp only [hb] at hdo
          refine (hdo _ _ (hw.focus1 1 rfl)).mono ?_
          rintro en_ w_ ⟨v, rfl, hw_⟩
          clear hw; (try clear hc0); (try clear hc1); (try clear hc2); (try clear hc3); (try clear hc4); (try clear hc5); (try clear hc6); have hw := Holds.unfocus1 1 (by simp) hw_; clear hw_ hdo hb
          (try simp only [List.map_cons, List.map_nil, List.getD_cons_zero, List.getD_cons_succ, List.getD_nil, List.set_cons_zero, List.set_cons_succ, List.cons_append, List.nil_append, Act.eval, Array.getD_eq_getD_getElem?, List.getElem?_toArray, List.getElem?_cons_succ, List.getElem?_cons_zero, Option.getD_some, Value.cells] at hw); (try simp (disch := first | (simp; done) | (simp; omega)) only [Sep.mid_set, Sep.mid_set2, Sep.mid_set0, Sep.mid_splice, Sep.mid_splice0, List.set_cons_zero, List.set_cons_succ] at hw); (try simp only [Sep.splice, List.take_succ_cons, List.take_zero, List.drop_succ_cons, List.drop_zero, List.length_cons, List.length_nil, Nat.reduceAdd, List.cons_append, List.nil_append] at hw)
          obtain ⟨ra, rc, rfl⟩ := Sl.value (i := 2) rfl hw
          obtain ⟨va, vc, rfl⟩ := Sl.value (i := 4) rfl hw
          (try replace hc0 := Sep.Holds.cells hw (i := 0) rfl); (try replace hc1 := Sep.Holds.cells hw (i := 1) rfl); (try replace hc2 := Sep.Holds.cells hw (i := 2) rfl); (try replace hc3 := Sep.Holds.cells hw (i := 3) rfl); (try replace hc4 := Sep.Holds.cells hw (i := 4) rfl); (try replace hc5 := Sep.Holds.cells hw (i := 5) rfl); (try replace hc6 := Sep.Holds.cells hw (i := 6) rfl)
          go_wp2_with fail
          by_cases hc0 : c = 0
          · obtain rfl := Hst.out hc0
            subst hc0
            replace hw := hw.sel [0, 1, 2] (by decide)
            (try simp only [List.map_cons, List.map_nil, List.getD_cons_zero, List.getD_cons_succ, List.getD_nil, List.set_cons_zero, List.set_cons_succ, List.cons_append, List.nil_append, Act.eval, Array.getD_eq_getD_getElem?, List.getElem?_toArray, List.getElem?_cons_succ, List.getElem?_cons_zero, Option.getD_some, Value.cells] at hw); (try simp (disch := first | (simp; done) | (simp; omega)) only [Sep.mid_set, Sep.mid_set2, Sep.mid_set0, Sep.mid_splice, Sep.mid_splice0, List.set_cons_zero, List.set_cons_succ] at hw); (try simp only [Sep.splice, List.take_succ_cons, List.take_zero, List.drop_succ_cons, List.drop_zero, List.length_cons, List.length_nil, Nat.reduceAdd, List.cons_append, List.nil_append] at hw)
            (try clear hc0); (try clear hc1); (try clear hc2); (try clear hc3); (try clear hc4); (try clear hc5); (try clear hc6)
            have Hl2 : Hid (([]).length ≤ 1000) := Sep.hid (waits_len (i := 1) (M := ⟨20, 0, []⟩) rfl hw)
            refine (oCount p ⟨20, 0, []⟩ e _ _ (hw.focus1 1 rfl)).mono ?_
            rintro en_ w_ ⟨rfl, rfl⟩
            go_wp2_with fail
            refine (oWaiting p ⟨20, 0, []⟩ e _ _ (hw.focus1 1 rfl)).mono ?_
            rintro en_ w_ ⟨vw, rfl, hw_⟩
            clear hw; (try clear hc0); (try clear hc1); (try clear hc2); (try clear hc3); (try clear hc4); (try clear hc5); (try clear hc6); have hw := Holds.unfocus1 1 (by simp) hw_; clear hw_
            (try simp only [List.map_cons, List.map_nil, List.getD_cons_zero, List.getD_cons_succ, List.getD_nil, List.set_cons_zero, List.set_cons_succ, List.cons_append, List.nil_append, Act.eval, Array.getD_eq_getD_getElem?, List.getElem?_toArray, List.getElem?_cons_succ, List.getElem?_cons_zero, Option.getD_some, Value.cells] at hw); (try simp (disch := first | (simp; done) | (simp; omega)) only [Sep.mid_set, Sep.mid_set2, Sep.mid_set0, Sep.mid_splice, Sep.mid_splice0, List.set_cons_zero, List.set_cons_succ] at hw); (try simp only [Sep.splice, List.take_succ_cons, List.take_zero, List.drop_succ_cons, List.drop_zero, List.length_cons, List.length_nil, Nat.reduceAdd, List.cons_append, List.nil_append] at hw)
            go_wp2_with fail
            refine (same_calls _ _ [] [] (by have := Hl2.out; omega) e _ _ (hw.focus2 3 2 rfl rfl (by decide))).mono ?_
            rintro en_ w_ ⟨he_, hw_⟩
            rw [decide_eq_true rfl] at he_; subst he_
            clear hw; have hw := Holds.unfocus2 3 2 (by simp) (by simp) (by decide) hw_; clear hw_
            (try simp only [List.map_cons, List.map_nil, List.getD_cons_zero, List.getD_cons_succ, List.getD_nil, List.set_cons_zero, List.set_cons_succ, List.cons_append, List.nil_append, Act.eval, Array.getD_eq_getD_getElem?, List.getElem?_toArray, List.getElem?_cons_succ, List.getElem?_cons_zero, Option.getD_some, Value.cells] at hw); (try simp (disch := first | (simp; done) | (simp; omega)) only [Sep.mid_set, Sep.mid_set2, Sep.mid_set0, Sep.mid_splice, Sep.mid_splice0, List.set_cons_zero, List.set_cons_succ] at hw); (try simp only [Sep.splice, List.take_succ_cons, List.take_zero, List.drop_succ_cons, List.drop_zero, List.length_cons, List.length_nil, Nat.reduceAdd, List.cons_append, List.nil_append] at hw)
            go_wp2_with fail
            go_roundw
            case rel => exact ⟨q + 1, 0, [], by omega, by go_num, rfl, by omega, fun _ => rfl, hw.sel [0, 1, 2] (by decide)⟩
            case measure => simp [intOf]; omega
          · have hcq : (c == 0) = false := by simpa using hc0
            replace hw := hw.sel [0, 1, 2] (by decide)
            (try simp only [List.map_cons, List.map_nil, List.getD_cons_zero, List.getD_cons_succ, List.getD_nil, List.set_cons_zero, List.set_cons_succ, List.cons_append, List.nil_append, Act.eval, Array.getD_eq_getD_getElem?, List.getElem?_toArray, List.getElem?_cons_succ, List.getElem?_cons_zero, Option.getD_some, Value.cells] at hw); (try simp (disch := first | (simp; done) | (simp; omega)) only [Sep.mid_set, Sep.mid_set2, Sep.mid_set0, Sep.mid_splice, Sep.mid_splice0, List.set_cons_zero, List.set_cons_succ] at hw); (try simp only [Sep.splice, List.take_succ_cons, List.take_zero, List.drop_succ_cons, List.drop_zero, List.length_cons, List.length_nil, Nat.reduceAdd, List.cons_append, List.nil_append] at hw)
            (try clear hc0); (try clear hc1); (try clear hc2); (try clear hc3); (try clear hc4); (try clear hc5); (try clear hc6)
            have Hl2 : Hid ((row).length ≤ 1000) := Sep.hid (waits_len (i := 1) (M := ⟨20, c, row⟩) rfl hw)
            refine (oCount p ⟨20, c, row⟩ e _ _ (hw.focus1 1 rfl)).mono ?_
            rintro en_ w_ ⟨rfl, rfl⟩
            go_wp2_with fail
            refine (oWaiting p ⟨20, c, row⟩ e _ _ (hw.focus1 1 rfl)).mono ?_
            rintro en_ w_ ⟨vw, rfl, hw_⟩
            clear hw; (try clear hc0); (try clear hc1); (try clear hc2); (try clear hc3); (try clear hc4); (try clear hc5); (try clear hc6); have hw := Holds.unfocus1 1 (by simp) hw_; clear hw_
            (try simp only [List.map_cons, List.map_nil, List.getD_cons_zero, List.getD_cons_succ, List.getD_nil, List.set_cons_zero, List.set_cons_succ, List.cons_append, List.nil_append, Act.eval, Array.getD_eq_getD_getElem?, List.getElem?_toArray, List.getElem?_cons_succ, List.getElem?_cons_zero, Option.getD_some, Value.cells] at hw); (try simp (disch := first | (simp; done) | (simp; omega)) only [Sep.mid_set, Sep.mid_set2, Sep.mid_set0, Sep.mid_splice, Sep.mid_splice0, List.set_cons_zero, List.set_cons_succ] at hw); (try simp only [Sep.splice, List.take_succ_cons, List.take_zero, List.drop_succ_cons, List.drop_zero, List.length_cons, List.length_nil, Nat.reduceAdd, List.cons_append, List.nil_append] at hw)
            go_wp2_with fail
            refine (same_calls _ _ row row (by have := Hl2.out; omega) e _ _ (hw.focus2 3 2 rfl rfl (by decide))).mono ?_
            rintro en_ w_ ⟨he_, hw_⟩
            rw [decide_eq_true rfl] at he_; subst he_
            clear hw; have hw := Holds.unfocus2 3 2 (by simp) (by simp) (by decide) hw_; clear hw_
            (try simp only [List.map_cons, List.map_nil, List.getD_cons_zero, List.getD_cons_succ, List.getD_nil, List.set_cons_zero, List.set_cons_succ, List.cons_append, List.nil_append, Act.eval, Array.getD_eq_getD_getElem?, List.getElem?_toArray, List.getElem?_cons_succ, List.getElem?_cons_zero, Option.getD_some, Value.cells] at hw); (try simp (disch := first | (simp; done) | (simp; omega)) only [Sep.mid_set, Sep.mid_set2, Sep.mid_set0, Sep.mid_splice, Sep.mid_splice0, List.set_cons_zero, List.set_cons_succ] at hw); (try simp only [Sep.splice, List.take_succ_cons, List.take_zero, List.drop_succ_cons, List.drop_zero, List.length_cons, List.length_nil, Nat.reduceAdd, List.cons_append, List.nil_append] at hw)
            go_wp2_with fail
            go_roundw
            case rel => exact ⟨q + 1, c, row, by omega, by go_num, rfl, by have := Hcb.out; omega, fun h => Hst.out h, hw.sel [0, 1, 2] (by decide)⟩
            case measure => simp [intOf]; omega
        by_cases hx2 : 0 < c + f2
        · have hb : WM.act ⟨20, c, row⟩ ⟨0, f1, f2⟩ = ([], false, 0, ⟨20, c + f2, row⟩) := by
            have h9 : ¬ 9223372036854775807 < c + f2 := by have := Hcb.out; omega
            simp only [WM.act, WM.add, if_pos]; simp [hx1, h9, hx2]
          have hs : 0 ≤ c + f2 := by omega
          have hne : ¬ c + f2 = 0 := by omega
          have Hnew : Hid (0 ≤ c + f2 ∧ c + f2 ≤ (q + 1 : Nat) * 1099511627776) := Sep.hid (by have := Hcb.out; have := Hx.out; omega)
          have Hne := Sep.hid hne
          have hdo := fun w X hw => do_calls p ⟨20, c, row⟩ ⟨0, f1, f2⟩ (Sep.hid Hdok.out) e w X hw
          simp only [hb] at hdo
          refine (hdo _ _ (hw.focus1 1 rfl)).mono ?_
          rintro en_ w_ ⟨v, rfl, hw_⟩
          clear hw; (try clear hc0); (try clear hc1); (try clear hc2); (try clear hc3); (try clear hc4); (try clear hc5); (try clear hc6); have hw := Holds.unfocus1 1 (by simp) hw_; clear hw_ hdo hb
          (try simp only [List.map_cons, List.map_nil, List.getD_cons_zero, List.getD_cons_succ, List.getD_nil, List.set_cons_zero, List.set_cons_succ, List.cons_append, List.nil_append, Act.eval, Array.getD_eq_getD_getElem?, List.getElem?_toArray, List.getElem?_cons_succ, List.getElem?_cons_zero, Option.getD_some, Value.cells] at hw); (try simp (disch := first | (simp; done) | (simp; omega)) only [Sep.mid_set, Sep.mid_set2, Sep.mid_set0, Sep.mid_splice, Sep.mid_splice0, List.set_cons_zero, List.set_cons_succ] at hw); (try simp only [Sep.splice, List.take_succ_cons, List.take_zero, List.drop_succ_cons, List.drop_zero, List.length_cons, List.length_nil, Nat.reduceAdd, List.cons_append, List.nil_append] at hw)
          obtain ⟨ra, rc, rfl⟩ := Sl.value (i := 2) rfl hw
          obtain ⟨va, vc, rfl⟩ := Sl.value (i := 4) rfl hw
          (try replace hc0 := Sep.Holds.cells hw (i := 0) rfl); (try replace hc1 := Sep.Holds.cells hw (i := 1) rfl); (try replace hc2 := Sep.Holds.cells hw (i := 2) rfl); (try replace hc3 := Sep.Holds.cells hw (i := 3) rfl); (try replace hc4 := Sep.Holds.cells hw (i := 4) rfl); (try replace hc5 := Sep.Holds.cells hw (i := 5) rfl); (try replace hc6 := Sep.Holds.cells hw (i := 6) rfl)
          go_wp2_with fail
          replace hw := hw.sel [0, 1, 2] (by decide)
          (try simp only [List.map_cons, List.map_nil, List.getD_cons_zero, List.getD_cons_succ, List.getD_nil, List.set_cons_zero, List.set_cons_succ, List.cons_append, List.nil_append, Act.eval, Array.getD_eq_getD_getElem?, List.getElem?_toArray, List.getElem?_cons_succ, List.getElem?_cons_zero, Option.getD_some, Value.cells] at hw); (try simp (disch := first | (simp; done) | (simp; omega)) only [Sep.mid_set, Sep.mid_set2, Sep.mid_set0, Sep.mid_splice, Sep.mid_splice0, List.set_cons_zero, List.set_cons_succ] at hw); (try simp only [Sep.splice, List.take_succ_cons, List.take_zero, List.drop_succ_cons, List.drop_zero, List.length_cons, List.length_nil, Nat.reduceAdd, List.cons_append, List.nil_append] at hw)
          (try clear hc0); (try clear hc1); (try clear hc2); (try clear hc3); (try clear hc4); (try clear hc5); (try clear hc6)
          have Hl2 : Hid ((row).length ≤ 1000) := Sep.hid (waits_len (i := 1) (M := ⟨20, (c + f2), row⟩) rfl hw)
          refine (oCount p ⟨20, (c + f2), row⟩ e _ _ (hw.focus1 1 rfl)).mono ?_
          rintro en_ w_ ⟨rfl, rfl⟩
          go_wp2_with fail
          refine (oWaiting p ⟨20, (c + f2), row⟩ e _ _ (hw.focus1 1 rfl)).mono ?_
          rintro en_ w_ ⟨vw, rfl, hw_⟩
          clear hw; (try clear hc0); (try clear hc1); (try clear hc2); (try clear hc3); (try clear hc4); (try clear hc5); (try clear hc6); have hw := Holds.unfocus1 1 (by simp) hw_; clear hw_
          (try simp only [List.map_cons, List.map_nil, List.getD_cons_zero, List.getD_cons_succ, List.getD_nil, List.set_cons_zero, List.set_cons_succ, List.cons_append, List.nil_append, Act.eval, Array.getD_eq_getD_getElem?, List.getElem?_toArray, List.getElem?_cons_succ, List.getElem?_cons_zero, Option.getD_some, Value.cells] at hw); (try simp (disch := first | (simp; done) | (simp; omega)) only [Sep.mid_set, Sep.mid_set2, Sep.mid_set0, Sep.mid_splice, Sep.mid_splice0, List.set_cons_zero, List.set_cons_succ] at hw); (try simp only [Sep.splice, List.take_succ_cons, List.take_zero, List.drop_succ_cons, List.drop_zero, List.length_cons, List.length_nil, Nat.reduceAdd, List.cons_append, List.nil_append] at hw)
          go_wp2_with fail
          refine (same_calls _ _ row row (by have := Hl2.out; omega) e _ _ (hw.focus2 3 2 rfl rfl (by decide))).mono ?_
          rintro en_ w_ ⟨he_, hw_⟩
          rw [decide_eq_true rfl] at he_; subst he_
          clear hw; have hw := Holds.unfocus2 3 2 (by simp) (by simp) (by decide) hw_; clear hw_
          (try simp only [List.map_cons, List.map_nil, List.getD_cons_zero, List.getD_cons_succ, List.getD_nil, List.set_cons_zero, List.set_cons_succ, List.cons_append, List.nil_append, Act.eval, Array.getD_eq_getD_getElem?, List.getElem?_toArray, List.getElem?_cons_succ, List.getElem?_cons_zero, Option.getD_some, Value.cells] at hw); (try simp (disch := first | (simp; done) | (simp; omega)) only [Sep.mid_set, Sep.mid_set2, Sep.mid_set0, Sep.mid_splice, Sep.mid_splice0, List.set_cons_zero, List.set_cons_succ] at hw); (try simp only [Sep.splice, List.take_succ_cons, List.take_zero, List.drop_succ_cons, List.drop_zero, List.length_cons, List.length_nil, Nat.reduceAdd, List.cons_append, List.nil_append] at hw)
          go_wp2_with fail
          go_roundw
          case rel => exact ⟨q + 1, (c + f2), row, by omega, by go_num, rfl, Hnew.out, fun h => absurd h Hne.out, hw.sel [0, 1, 2] (by decide)⟩
          case measure => simp [intOf]; omega
        · have hb : WM.act ⟨20, c, row⟩ ⟨0, f1, f2⟩ = (row, false, 0, ⟨20, 0, []⟩) := by
            have h9 : ¬ 9223372036854775807 < c + f2 := by omega
            simp only [WM.act, WM.add, if_pos]; simp [hx1, h9, hx2]
          have hz : c + f2 = 0 := by omega
          clear hx1 hx2
          have hdo := fun w X hw => do_calls p ⟨20, c, row⟩ ⟨0, f1, f2⟩ (Sep.hid Hdok.out) e w X hw
          simp only [hb] at hdo
          refine (hdo _ _ (hw.focus1 1 rfl)).mono ?_
          rintro en_ w_ ⟨v, rfl, hw_⟩
          clear hw; (try clear hc0); (try clear hc1); (try clear hc2); (try clear hc3); (try clear hc4); (try clear hc5); (try clear hc6); have hw := Holds.unfocus1 1 (by simp) hw_; clear hw_ hdo hb
          (try simp only [List.map_cons, List.map_nil, List.getD_cons_zero, List.getD_cons_succ, List.getD_nil, List.set_cons_zero, List.set_cons_succ, List.cons_append, List.nil_append, Act.eval, Array.getD_eq_getD_getElem?, List.getElem?_toArray, List.getElem?_cons_succ, List.getElem?_cons_zero, Option.getD_some, Value.cells] at hw); (try simp (disch := first | (simp; done) | (simp; omega)) only [Sep.mid_set, Sep.mid_set2, Sep.mid_set0, Sep.mid_splice, Sep.mid_splice0, List.set_cons_zero, List.set_cons_succ] at hw); (try simp only [Sep.splice, List.take_succ_cons, List.take_zero, List.drop_succ_cons, List.drop_zero, List.length_cons, List.length_nil, Nat.reduceAdd, List.cons_append, List.nil_append] at hw)
          obtain ⟨ra, rc, rfl⟩ := Sl.value (i := 2) rfl hw
          obtain ⟨va, vc, rfl⟩ := Sl.value (i := 4) rfl hw
          (try replace hc0 := Sep.Holds.cells hw (i := 0) rfl); (try replace hc1 := Sep.Holds.cells hw (i := 1) rfl); (try replace hc2 := Sep.Holds.cells hw (i := 2) rfl); (try replace hc3 := Sep.Holds.cells hw (i := 3) rfl); (try replace hc4 := Sep.Holds.cells hw (i := 4) rfl); (try replace hc5 := Sep.Holds.cells hw (i := 5) rfl); (try replace hc6 := Sep.Holds.cells hw (i := 6) rfl)
          go_wp2_with fail
          refine (same_calls _ _ row row (by have := Hlr.out; omega) e _ _ (hw.focus2 4 2 rfl rfl (by decide))).mono ?_
          rintro en_ w_ ⟨he_, hw_⟩
          rw [decide_eq_true rfl] at he_; subst he_
          clear hw; (try clear hc0); (try clear hc1); (try clear hc2); (try clear hc3); (try clear hc4); (try clear hc5); (try clear hc6); have hw := Holds.unfocus2 4 2 (by simp) (by simp) (by decide) hw_; clear hw_
          (try simp only [List.map_cons, List.map_nil, List.getD_cons_zero, List.getD_cons_succ, List.getD_nil, List.set_cons_zero, List.set_cons_succ, List.cons_append, List.nil_append, Act.eval, Array.getD_eq_getD_getElem?, List.getElem?_toArray, List.getElem?_cons_succ, List.getElem?_cons_zero, Option.getD_some, Value.cells] at hw); (try simp (disch := first | (simp; done) | (simp; omega)) only [Sep.mid_set, Sep.mid_set2, Sep.mid_set0, Sep.mid_splice, Sep.mid_splice0, List.set_cons_zero, List.set_cons_succ] at hw); (try simp only [Sep.splice, List.take_succ_cons, List.take_zero, List.drop_succ_cons, List.drop_zero, List.length_cons, List.length_nil, Nat.reduceAdd, List.cons_append, List.nil_append] at hw)
          replace hw := (hw.addEmp (X := IsInts (.slice none 0 0) []) (Sl.nil _ _ _)).sel [0, 1, 5, 3] (by decide)
          (try simp only [List.map_cons, List.map_nil, List.getD_cons_zero, List.getD_cons_succ, List.getD_nil, List.set_cons_zero, List.set_cons_succ, List.cons_append, List.nil_append, Act.eval, Array.getD_eq_getD_getElem?, List.getElem?_toArray, List.getElem?_cons_succ, List.getElem?_cons_zero, Option.getD_some, Value.cells] at hw); (try simp (disch := first | (simp; done) | (simp; omega)) only [Sep.mid_set, Sep.mid_set2, Sep.mid_set0, Sep.mid_splice, Sep.mid_splice0, List.set_cons_zero, List.set_cons_succ] at hw); (try simp only [Sep.splice, List.take_succ_cons, List.take_zero, List.drop_succ_cons, List.drop_zero, List.length_cons, List.length_nil, Nat.reduceAdd, List.cons_append, List.nil_append] at hw)
          (try replace hc0 := Sep.Holds.cells hw (i := 0) rfl); (try replace hc1 := Sep.Holds.cells hw (i := 1) rfl); (try replace hc2 := Sep.Holds.cells hw (i := 2) rfl); (try replace hc3 := Sep.Holds.cells hw (i := 3) rfl); (try replace hc4 := Sep.Holds.cells hw (i := 4) rfl); (try replace hc5 := Sep.Holds.cells hw (i := 5) rfl); (try replace hc6 := Sep.Holds.cells hw (i := 6) rfl)
          go_wp2_with fail
          replace hw := hw.sel [0, 1, 2] (by decide)
          (try simp only [List.map_cons, List.map_nil, List.getD_cons_zero, List.getD_cons_succ, List.getD_nil, List.set_cons_zero, List.set_cons_succ, List.cons_append, List.nil_append, Act.eval, Array.getD_eq_getD_getElem?, List.getElem?_toArray, List.getElem?_cons_succ, List.getElem?_cons_zero, Option.getD_some, Value.cells] at hw); (try simp (disch := first | (simp; done) | (simp; omega)) only [Sep.mid_set, Sep.mid_set2, Sep.mid_set0, Sep.mid_splice, Sep.mid_splice0, List.set_cons_zero, List.set_cons_succ] at hw); (try simp only [Sep.splice, List.take_succ_cons, List.take_zero, List.drop_succ_cons, List.drop_zero, List.length_cons, List.length_nil, Nat.reduceAdd, List.cons_append, List.nil_append] at hw)
          (try clear hc0); (try clear hc1); (try clear hc2); (try clear hc3); (try clear hc4); (try clear hc5); (try clear hc6)
          have Hl2 : Hid (([]).length ≤ 1000) := Sep.hid (waits_len (i := 1) (M := ⟨20, 0, []⟩) rfl hw)
          refine (oCount p ⟨20, 0, []⟩ e _ _ (hw.focus1 1 rfl)).mono ?_
          rintro en_ w_ ⟨rfl, rfl⟩
          go_wp2_with fail
          refine (oWaiting p ⟨20, 0, []⟩ e _ _ (hw.focus1 1 rfl)).mono ?_
          rintro en_ w_ ⟨vw, rfl, hw_⟩
          clear hw; (try clear hc0); (try clear hc1); (try clear hc2); (try clear hc3); (try clear hc4); (try clear hc5); (try clear hc6); have hw := Holds.unfocus1 1 (by simp) hw_; clear hw_
          (try simp only [List.map_cons, List.map_nil, List.getD_cons_zero, List.getD_cons_succ, List.getD_nil, List.set_cons_zero, List.set_cons_succ, List.cons_append, List.nil_append, Act.eval, Array.getD_eq_getD_getElem?, List.getElem?_toArray, List.getElem?_cons_succ, List.getElem?_cons_zero, Option.getD_some, Value.cells] at hw); (try simp (disch := first | (simp; done) | (simp; omega)) only [Sep.mid_set, Sep.mid_set2, Sep.mid_set0, Sep.mid_splice, Sep.mid_splice0, List.set_cons_zero, List.set_cons_succ] at hw); (try simp only [Sep.splice, List.take_succ_cons, List.take_zero, List.drop_succ_cons, List.drop_zero, List.length_cons, List.length_nil, Nat.reduceAdd, List.cons_append, List.nil_append] at hw)
          go_wp2_with fail
          refine (same_calls _ _ [] [] (by have := Hl2.out; omega) e _ _ (hw.focus2 3 2 rfl rfl (by decide))).mono ?_
          rintro en_ w_ ⟨he_, hw_⟩
          rw [decide_eq_true rfl] at he_; subst he_
          clear hw; have hw := Holds.unfocus2 3 2 (by simp) (by simp) (by decide) hw_; clear hw_
          (try simp only [List.map_cons, List.map_nil, List.getD_cons_zero, List.getD_cons_succ, List.getD_nil, List.set_cons_zero, List.set_cons_succ, List.cons_append, List.nil_append, Act.eval, Array.getD_eq_getD_getElem?, List.getElem?_toArray, List.getElem?_cons_succ, List.getElem?_cons_zero, Option.getD_some, Value.cells] at hw); (try simp (disch := first | (simp; done) | (simp; omega)) only [Sep.mid_set, Sep.mid_set2, Sep.mid_set0, Sep.mid_splice, Sep.mid_splice0, List.set_cons_zero, List.set_cons_succ] at hw); (try simp only [Sep.splice, List.take_succ_cons, List.take_zero, List.drop_succ_cons, List.drop_zero, List.length_cons, List.length_nil, Nat.reduceAdd, List.cons_append, List.nil_append] at hw)
          go_wp2_with fail
          go_roundw
          case rel => exact ⟨q + 1, 0, [], by omega, by go_num, rfl, by omega, fun _ => rfl, hw.sel [0, 1, 2] (by decide)⟩
          case measure => simp [intOf]; omega
      by_cases h2 : f0 = 2
      · obtain rfl := h2
        clear h0 h1
        by_cases ht : 0 ≤ f1 ∧ f1 < 20
        · by_cases hr : f1 ∈ row
          · have hb : WM.act ⟨20, c, row⟩ ⟨2, f1, f2⟩ = ([], false, 6, ⟨20, c, row⟩) := by simp [WM.act, WM.wait, ht, hr]
            clear ht hr
            go_wp2_with ((with_reducible refine wpList_act (x := ?hx0x70) (y := ?hy0x70) (x1 := ?hx1x70) (x3 := ?hx3x70) (y3 := ?hy3x70) (cap := ?hcpx70) (vs := encA ⟨2, f1, f2⟩) (q := q) (ad := ad) ti32 agg32 sl22 ?a1x70 ?a2x70 hlt hw (i := 0) ?a3x70 ?a4x70 ?a5x70 (encA_one ⟨2, f1, f2⟩) Hcell.out ?b0x70 ?c0x70 ?b1x70 ?c1x70 ?d1x70 ?b2x70 ?c2x70 ?b3x70 ?c3x70 ?d3x70 ?f3x70 ?ggx70); (case b0x70 => rfl); (case b1x70 => rfl); (case b2x70 => rfl); (case b3x70 => rfl); (case a1x70 => rfl); (case a2x70 => rfl); (case a3x70 => rfl); (case a4x70 => rfl); (case a5x70 => rfl); (case c0x70 => rfl); (case c1x70 => rfl); (case d1x70 => rfl); (case c2x70 => rfl); (case c3x70 => (intro b; rfl)); (case d3x70 => (intro b; rfl)); (case f3x70 => (intro b; rfl)); intro bd w_ hw_; simp only [encA] at hw_; clear hw; have hw := hw_; clear hw_; (try simp only [List.map_cons, List.map_nil, List.getD_cons_zero, List.getD_cons_succ, List.getD_nil, List.set_cons_zero, List.set_cons_succ, List.cons_append, List.nil_append, Act.eval, Array.getD_eq_getD_getElem?, List.getElem?_toArray, List.getElem?_cons_succ, List.getElem?_cons_zero, Option.getD_some, Value.cells] at hw); (try simp (disch := first | (simp; done) | (simp; omega)) only [Sep.mid_set, Sep.mid_set2, Sep.mid_set0, Sep.mid_splice, Sep.mid_splice0, List.set_cons_zero, List.set_cons_succ] at hw); (try simp only [Sep.splice, List.take_succ_cons, List.take_zero, List.drop_succ_cons, List.drop_zero, List.length_cons, List.length_nil, Nat.reduceAdd, List.cons_append, List.nil_append] at hw); (try replace hc0 := Sep.Holds.cells hw (i := 0) rfl); (try replace hc1 := Sep.Holds.cells hw (i := 1) rfl); (try replace hc2 := Sep.Holds.cells hw (i := 2) rfl); (try replace hc3 := Sep.Holds.cells hw (i := 3) rfl); (try replace hc4 := Sep.Holds.cells hw (i := 4) rfl); (try replace hc5 := Sep.Holds.cells hw (i := 5) rfl); (try replace hc6 := Sep.Holds.cells hw (i := 6) rfl))
            have hdo := fun w X hw => do_calls p ⟨20, c, row⟩ ⟨2, f1, f2⟩ (Sep.hid Hdok.out) e w X hw
            simp only [hb] at hdo
            refine (hdo _ _ (hw.focus1 1 rfl)).mono ?_
            rintro en_ w_ ⟨v, rfl, hw_⟩
            clear hw; (try clear hc0); (try clear hc1); (try clear hc2); (try clear hc3); (try clear hc4); (try clear hc5); (try clear hc6); have hw := Holds.unfocus1 1 (by simp) hw_; clear hw_ hdo hb
            (try simp only [List.map_cons, List.map_nil, List.getD_cons_zero, List.getD_cons_succ, List.getD_nil, List.set_cons_zero, List.set_cons_succ, List.cons_append, List.nil_append, Act.eval, Array.getD_eq_getD_getElem?, List.getElem?_toArray, List.getElem?_cons_succ, List.getElem?_cons_zero, Option.getD_some, Value.cells] at hw); (try simp (disch := first | (simp; done) | (simp; omega)) only [Sep.mid_set, Sep.mid_set2, Sep.mid_set0, Sep.mid_splice, Sep.mid_splice0, List.set_cons_zero, List.set_cons_succ] at hw); (try simp only [Sep.splice, List.take_succ_cons, List.take_zero, List.drop_succ_cons, List.drop_zero, List.length_cons, List.length_nil, Nat.reduceAdd, List.cons_append, List.nil_append] at hw)
            obtain ⟨ra, rc, rfl⟩ := Sl.value (i := 2) rfl hw
            obtain ⟨va, vc, rfl⟩ := Sl.value (i := 4) rfl hw
            (try replace hc0 := Sep.Holds.cells hw (i := 0) rfl); (try replace hc1 := Sep.Holds.cells hw (i := 1) rfl); (try replace hc2 := Sep.Holds.cells hw (i := 2) rfl); (try replace hc3 := Sep.Holds.cells hw (i := 3) rfl); (try replace hc4 := Sep.Holds.cells hw (i := 4) rfl); (try replace hc5 := Sep.Holds.cells hw (i := 5) rfl); (try replace hc6 := Sep.Holds.cells hw (i := 6) rfl)
            go_wp2_with fail
            by_cases hc0 : c = 0
            · obtain rfl := Hst.out hc0
              subst hc0
              replace hw := hw.sel [0, 1, 2] (by decide)
              (try simp only [List.map_cons, List.map_nil, List.getD_cons_zero, List.getD_cons_succ, List.getD_nil, List.set_cons_zero, List.set_cons_succ, List.cons_append, List.nil_append, Act.eval, Array.getD_eq_getD_getElem?, List.getElem?_toArray, List.getElem?_cons_succ, List.getElem?_cons_zero, Option.getD_some, Value.cells] at hw); (try simp (disch := first | (simp; done) | (simp; omega)) only [Sep.mid_set, Sep.mid_set2, Sep.mid_set0, Sep.mid_splice, Sep.mid_splice0, List.set_cons_zero, List.set_cons_succ] at hw); (try simp only [Sep.splice, List.take_succ_cons, List.take_zero, List.drop_succ_cons, List.drop_zero, List.length_cons, List.length_nil, Nat.reduceAdd, List.cons_append, List.nil_append] at hw)
              (try clear hc0); (try clear hc1); (try clear hc2); (try clear hc3); (try clear hc4); (try clear hc5); (try clear hc6)
              have Hl2 : Hid (([]).length ≤ 1000) := Sep.hid (waits_len (i := 1) (M := ⟨20, 0, []⟩) rfl hw)
              refine (oCount p ⟨20, 0, []⟩ e _ _ (hw.focus1 1 rfl)).mono ?_
              rintro en_ w_ ⟨rfl, rfl⟩
              go_wp2_with fail
              refine (oWaiting p ⟨20, 0, []⟩ e _ _ (hw.focus1 1 rfl)).mono ?_
              rintro en_ w_ ⟨vw, rfl, hw_⟩
              clear hw; (try clear hc0); (try clear hc1); (try clear hc2); (try clear hc3); (try clear hc4); (try clear hc5); (try clear hc6); have hw := Holds.unfocus1 1 (by simp) hw_; clear hw_
              (try simp only [List.map_cons, List.map_nil, List.getD_cons_zero, List.getD_cons_succ, List.getD_nil, List.set_cons_zero, List.set_cons_succ, List.cons_append, List.nil_append, Act.eval, Array.getD_eq_getD_getElem?, List.getElem?_toArray, List.getElem?_cons_succ, List.getElem?_cons_zero, Option.getD_some, Value.cells] at hw); (try simp (disch := first | (simp; done) | (simp; omega)) only [Sep.mid_set, Sep.mid_set2, Sep.mid_set0, Sep.mid_splice, Sep.mid_splice0, List.set_cons_zero, List.set_cons_succ] at hw); (try simp only [Sep.splice, List.take_succ_cons, List.take_zero, List.drop_succ_cons, List.drop_zero, List.length_cons, List.length_nil, Nat.reduceAdd, List.cons_append, List.nil_append] at hw)
              go_wp2_with fail
              refine (same_calls _ _ [] [] (by have := Hl2.out; omega) e _ _ (hw.focus2 3 2 rfl rfl (by decide))).mono ?_
              rintro en_ w_ ⟨he_, hw_⟩
              rw [decide_eq_true rfl] at he_; subst he_
              clear hw; have hw := Holds.unfocus2 3 2 (by simp) (by simp) (by decide) hw_; clear hw_
              (try simp only [List.map_cons, List.map_nil, List.getD_cons_zero, List.getD_cons_succ, List.getD_nil, List.set_cons_zero, List.set_cons_succ, List.cons_append, List.nil_append, Act.eval, Array.getD_eq_getD_getElem?, List.getElem?_toArray, List.getElem?_cons_succ, List.getElem?_cons_zero, Option.getD_some, Value.cells] at hw); (try simp (disch := first | (simp; done) | (simp; omega)) only [Sep.mid_set, Sep.mid_set2, Sep.mid_set0, Sep.mid_splice, Sep.mid_splice0, List.set_cons_zero, List.set_cons_succ] at hw); (try simp only [Sep.splice, List.take_succ_cons, List.take_zero, List.drop_succ_cons, List.drop_zero, List.length_cons, List.length_nil, Nat.reduceAdd, List.cons_append, List.nil_append] at hw)
              go_wp2_with fail
              go_roundw
              case rel => exact ⟨q + 1, 0, [], by omega, by go_num, rfl, by omega, fun _ => rfl, hw.sel [0, 1, 2] (by decide)⟩
              case measure => simp [intOf]; omega
            · have hcq : (c == 0) = false := by simpa using hc0
              replace hw := hw.sel [0, 1, 2] (by decide)
              (try simp only [List.map_cons, List.map_nil, List.getD_cons_zero, List.getD_cons_succ, List.getD_nil, List.set_cons_zero, List.set_cons_succ, List.cons_append, List.nil_append, Act.eval, Array.getD_eq_getD_getElem?, List.getElem?_toArray, List.getElem?_cons_succ, List.getElem?_cons_zero, Option.getD_some, Value.cells] at hw); (try simp (disch := first | (simp; done) | (simp; omega)) only [Sep.mid_set, Sep.mid_set2, Sep.mid_set0, Sep.mid_splice, Sep.mid_splice0, List.set_cons_zero, List.set_cons_succ] at hw); (try simp only [Sep.splice, List.take_succ_cons, List.take_zero, List.drop_succ_cons, List.drop_zero, List.length_cons, List.length_nil, Nat.reduceAdd, List.cons_append, List.nil_append] at hw)
              (try clear hc0); (try clear hc1); (try clear hc2); (try clear hc3); (try clear hc4); (try clear hc5); (try clear hc6)
              have Hl2 : Hid ((row).length ≤ 1000) := Sep.hid (waits_len (i := 1) (M := ⟨20, c, row⟩) rfl hw)
              refine (oCount p ⟨20, c, row⟩ e _ _ (hw.focus1 1 rfl)).mono ?_
              rintro en_ w_ ⟨rfl, rfl⟩
              go_wp2_with fail
              refine (oWaiting p ⟨20, c, row⟩ e _ _ (hw.focus1 1 rfl)).mono ?_
              rintro en_ w_ ⟨vw, rfl, hw_⟩
              clear hw; (try clear hc0); (try clear hc1); (try clear hc2); (try clear hc3); (try clear hc4); (try clear hc5); (try clear hc6); have hw := Holds.unfocus1 1 (by simp) hw_; clear hw_
              (try simp only [List.map_cons, List.map_nil, List.getD_cons_zero, List.getD_cons_succ, List.getD_nil, List.set_cons_zero, List.set_cons_succ, List.cons_append, List.nil_append, Act.eval, Array.getD_eq_getD_getElem?, List.getElem?_toArray, List.getElem?_cons_succ, List.getElem?_cons_zero, Option.getD_some, Value.cells] at hw); (try simp (disch := first | (simp; done) | (simp; omega)) only [Sep.mid_set, Sep.mid_set2, Sep.mid_set0, Sep.mid_splice, Sep.mid_splice0, List.set_cons_zero, List.set_cons_succ] at hw); (try simp only [Sep.splice, List.take_succ_cons, List.take_zero, List.drop_succ_cons, List.drop_zero, List.length_cons, List.length_nil, Nat.reduceAdd, List.cons_append, List.nil_append] at hw)
              go_wp2_with fail
              refine (same_calls _ _ row row (by have := Hl2.out; omega) e _ _ (hw.focus2 3 2 rfl rfl (by decide))).mono ?_
              rintro en_ w_ ⟨he_, hw_⟩
              rw [decide_eq_true rfl] at he_; subst he_
              clear hw; have hw := Holds.unfocus2 3 2 (by simp) (by simp) (by decide) hw_; clear hw_
              (try simp only [List.map_cons, List.map_nil, List.getD_cons_zero, List.getD_cons_succ, List.getD_nil, List.set_cons_zero, List.set_cons_succ, List.cons_append, List.nil_append, Act.eval, Array.getD_eq_getD_getElem?, List.getElem?_toArray, List.getElem?_cons_succ, List.getElem?_cons_zero, Option.getD_some, Value.cells] at hw); (try simp (disch := first | (simp; done) | (simp; omega)) only [Sep.mid_set, Sep.mid_set2, Sep.mid_set0, Sep.mid_splice, Sep.mid_splice0, List.set_cons_zero, List.set_cons_succ] at hw); (try simp only [Sep.splice, List.take_succ_cons, List.take_zero, List.drop_succ_cons, List.drop_zero, List.length_cons, List.length_nil, Nat.reduceAdd, List.cons_append, List.nil_append] at hw)
              go_wp2_with fail
              go_roundw
              case rel => exact ⟨q + 1, c, row, by omega, by go_num, rfl, by have := Hcb.out; omega, fun h => Hst.out h, hw.sel [0, 1, 2] (by decide)⟩
              case measure => simp [intOf]; omega
          · by_cases hc0 : c = 0
            · obtain rfl := Hst.out hc0
              subst hc0
              have hb : WM.act ⟨20, 0, []⟩ ⟨2, f1, f2⟩ = ([], true, 0, ⟨20, 0, []⟩) := by simp [WM.act, WM.wait, ht]
              clear ht hr
              go_wp2_with ((with_reducible refine wpList_act (x := ?hx0x82) (y := ?hy0x82) (x1 := ?hx1x82) (x3 := ?hx3x82) (y3 := ?hy3x82) (cap := ?hcpx82) (vs := encA ⟨2, f1, f2⟩) (q := q) (ad := ad) ti32 agg32 sl22 ?a1x82 ?a2x82 hlt hw (i := 0) ?a3x82 ?a4x82 ?a5x82 (encA_one ⟨2, f1, f2⟩) Hcell.out ?b0x82 ?c0x82 ?b1x82 ?c1x82 ?d1x82 ?b2x82 ?c2x82 ?b3x82 ?c3x82 ?d3x82 ?f3x82 ?ggx82); (case b0x82 => rfl); (case b1x82 => rfl); (case b2x82 => rfl); (case b3x82 => rfl); (case a1x82 => rfl); (case a2x82 => rfl); (case a3x82 => rfl); (case a4x82 => rfl); (case a5x82 => rfl); (case c0x82 => rfl); (case c1x82 => rfl); (case d1x82 => rfl); (case c2x82 => rfl); (case c3x82 => (intro b; rfl)); (case d3x82 => (intro b; rfl)); (case f3x82 => (intro b; rfl)); intro bd w_ hw_; simp only [encA] at hw_; clear hw; have hw := hw_; clear hw_; (try simp only [List.map_cons, List.map_nil, List.getD_cons_zero, List.getD_cons_succ, List.getD_nil, List.set_cons_zero, List.set_cons_succ, List.cons_append, List.nil_append, Act.eval, Array.getD_eq_getD_getElem?, List.getElem?_toArray, List.getElem?_cons_succ, List.getElem?_cons_zero, Option.getD_some, Value.cells] at hw); (try simp (disch := first | (simp; done) | (simp; omega)) only [Sep.mid_set, Sep.mid_set2, Sep.mid_set0, Sep.mid_splice, Sep.mid_splice0, List.set_cons_zero, List.set_cons_succ] at hw); (try simp only [Sep.splice, List.take_succ_cons, List.take_zero, List.drop_succ_cons, List.drop_zero, List.length_cons, List.length_nil, Nat.reduceAdd, List.cons_append, List.nil_append] at hw); (try replace hc0 := Sep.Holds.cells hw (i := 0) rfl); (try replace hc1 := Sep.Holds.cells hw (i := 1) rfl); (try replace hc2 := Sep.Holds.cells hw (i := 2) rfl); (try replace hc3 := Sep.Holds.cells hw (i := 3) rfl); (try replace hc4 := Sep.Holds.cells hw (i := 4) rfl); (try replace hc5 := Sep.Holds.cells hw (i := 5) rfl); (try replace hc6 := Sep.Holds.cells hw (i := 6) rfl))
              have hdo := fun w X hw => do_calls p ⟨20, 0, []⟩ ⟨2, f1, f2⟩ (Sep.hid Hdok.out) e w X hw
              simp only [hb] at hdo
              refine (hdo _ _ (hw.focus1 1 rfl)).mono ?_
              rintro en_ w_ ⟨v, rfl, hw_⟩
              clear hw; (try clear hc0); (try clear hc1); (try clear hc2); (try clear hc3); (try clear hc4); (try clear hc5); (try clear hc6); have hw := Holds.unfocus1 1 (by simp) hw_; clear hw_ hdo hb
              (try simp only [List.map_cons, List.map_nil, List.getD_cons_zero, List.getD_cons_succ, List.getD_nil, List.set_cons_zero, List.set_cons_succ, List.cons_append, List.nil_append, Act.eval, Array.getD_eq_getD_getElem?, List.getElem?_toArray, List.getElem?_cons_succ, List.getElem?_cons_zero, Option.getD_some, Value.cells] at hw); (try simp (disch := first | (simp; done) | (simp; omega)) only [Sep.mid_set, Sep.mid_set2, Sep.mid_set0, Sep.mid_splice, Sep.mid_splice0, List.set_cons_zero, List.set_cons_succ] at hw); (try simp only [Sep.splice, List.take_succ_cons, List.take_zero, List.drop_succ_cons, List.drop_zero, List.length_cons, List.length_nil, Nat.reduceAdd, List.cons_append, List.nil_append] at hw)
              obtain ⟨ra, rc, rfl⟩ := Sl.value (i := 2) rfl hw
              obtain ⟨va, vc, rfl⟩ := Sl.value (i := 4) rfl hw
              (try replace hc0 := Sep.Holds.cells hw (i := 0) rfl); (try replace hc1 := Sep.Holds.cells hw (i := 1) rfl); (try replace hc2 := Sep.Holds.cells hw (i := 2) rfl); (try replace hc3 := Sep.Holds.cells hw (i := 3) rfl); (try replace hc4 := Sep.Holds.cells hw (i := 4) rfl); (try replace hc5 := Sep.Holds.cells hw (i := 5) rfl); (try replace hc6 := Sep.Holds.cells hw (i := 6) rfl)
              go_wp2_with fail
              replace hw := hw.sel [0, 1, 2] (by decide)
              (try simp only [List.map_cons, List.map_nil, List.getD_cons_zero, List.getD_cons_succ, List.getD_nil, List.set_cons_zero, List.set_cons_succ, List.cons_append, List.nil_append, Act.eval, Array.getD_eq_getD_getElem?, List.getElem?_toArray, List.getElem?_cons_succ, List.getElem?_cons_zero, Option.getD_some, Value.cells] at hw); (try simp (disch := first | (simp; done) | (simp; omega)) only [Sep.mid_set, Sep.mid_set2, Sep.mid_set0, Sep.mid_splice, Sep.mid_splice0, List.set_cons_zero, List.set_cons_succ] at hw); (try simp only [Sep.splice, List.take_succ_cons, List.take_zero, List.drop_succ_cons, List.drop_zero, List.length_cons, List.length_nil, Nat.reduceAdd, List.cons_append, List.nil_append] at hw)
              (try clear hc0); (try clear hc1); (try clear hc2); (try clear hc3); (try clear hc4); (try clear hc5); (try clear hc6)
              have Hl2 : Hid (([]).length ≤ 1000) := Sep.hid (waits_len (i := 1) (M := ⟨20, 0, []⟩) rfl hw)
              refine (oCount p ⟨20, 0, []⟩ e _ _ (hw.focus1 1 rfl)).mono ?_
              rintro en_ w_ ⟨rfl, rfl⟩
              go_wp2_with fail
              refine (oWaiting p ⟨20, 0, []⟩ e _ _ (hw.focus1 1 rfl)).mono ?_
              rintro en_ w_ ⟨vw, rfl, hw_⟩
              clear hw; (try clear hc0); (try clear hc1); (try clear hc2); (try clear hc3); (try clear hc4); (try clear hc5); (try clear hc6); have hw := Holds.unfocus1 1 (by simp) hw_; clear hw_
              (try simp only [List.map_cons, List.map_nil, List.getD_cons_zero, List.getD_cons_succ, List.getD_nil, List.set_cons_zero, List.set_cons_succ, List.cons_append, List.nil_append, Act.eval, Array.getD_eq_getD_getElem?, List.getElem?_toArray, List.getElem?_cons_succ, List.getElem?_cons_zero, Option.getD_some, Value.cells] at hw); (try simp (disch := first | (simp; done) | (simp; omega)) only [Sep.mid_set, Sep.mid_set2, Sep.mid_set0, Sep.mid_splice, Sep.mid_splice0, List.set_cons_zero, List.set_cons_succ] at hw); (try simp only [Sep.splice, List.take_succ_cons, List.take_zero, List.drop_succ_cons, List.drop_zero, List.length_cons, List.length_nil, Nat.reduceAdd, List.cons_append, List.nil_append] at hw)
              go_wp2_with fail
              refine (same_calls _ _ [] [] (by have := Hl2.out; omega) e _ _ (hw.focus2 3 2 rfl rfl (by decide))).mono ?_
              rintro en_ w_ ⟨he_, hw_⟩
              rw [decide_eq_true rfl] at he_; subst he_
              clear hw; have hw := Holds.unfocus2 3 2 (by simp) (by simp) (by decide) hw_; clear hw_
              (try simp only [List.map_cons, List.map_nil, List.getD_cons_zero, List.getD_cons_succ, List.getD_nil, List.set_cons_zero, List.set_cons_succ, List.cons_append, List.nil_append, Act.eval, Array.getD_eq_getD_getElem?, List.getElem?_toArray, List.getElem?_cons_succ, List.getElem?_cons_zero, Option.getD_some, Value.cells] at hw); (try simp (disch := first | (simp; done) | (simp; omega)) only [Sep.mid_set, Sep.mid_set2, Sep.mid_set0, Sep.mid_splice, Sep.mid_splice0, List.set_cons_zero, List.set_cons_succ] at hw); (try simp only [Sep.splice, List.take_succ_cons, List.take_zero, List.drop_succ_cons, List.drop_zero, List.length_cons, List.length_nil, Nat.reduceAdd, List.cons_append, List.nil_append] at hw)
              go_wp2_with fail
              go_roundw
              case rel => exact ⟨q + 1, 0, [], by omega, by go_num, rfl, by omega, fun _ => rfl, hw.sel [0, 1, 2] (by decide)⟩
              case measure => simp [intOf]; omega
            · have hb : WM.act ⟨20, c, row⟩ ⟨2, f1, f2⟩ = ([], false, 0, ⟨20, c, row ++ [f1]⟩) := by simp [WM.act, WM.wait, ht, hr, hc0]
              have hcq : (c == 0) = false := by simpa using hc0
              have Hcq := Sep.hid hc0
              clear ht hr hc0
              go_wp2_with ((with_reducible refine wpList_act (x := ?hx0x90) (y := ?hy0x90) (x1 := ?hx1x90) (x3 := ?hx3x90) (y3 := ?hy3x90) (cap := ?hcpx90) (vs := encA ⟨2, f1, f2⟩) (q := q) (ad := ad) ti32 agg32 sl22 ?a1x90 ?a2x90 hlt hw (i := 0) ?a3x90 ?a4x90 ?a5x90 (encA_one ⟨2, f1, f2⟩) Hcell.out ?b0x90 ?c0x90 ?b1x90 ?c1x90 ?d1x90 ?b2x90 ?c2x90 ?b3x90 ?c3x90 ?d3x90 ?f3x90 ?ggx90); (case b0x90 => rfl); (case b1x90 => rfl); (case b2x90 => rfl); (case b3x90 => rfl); (case a1x90 => rfl); (case a2x90 => rfl); (case a3x90 => rfl); (case a4x90 => rfl); (case a5x90 => rfl); (case c0x90 => rfl); (case c1x90 => rfl); (case d1x90 => rfl); (case c2x90 => rfl); (case c3x90 => (intro b; rfl)); (case d3x90 => (intro b; rfl)); (case f3x90 => (intro b; rfl)); intro bd w_ hw_; simp only [encA] at hw_; clear hw; have hw := hw_; clear hw_; (try simp only [List.map_cons, List.map_nil, List.getD_cons_zero, List.getD_cons_succ, List.getD_nil, List.set_cons_zero, List.set_cons_succ, List.cons_append, List.nil_append, Act.eval, Array.getD_eq_getD_getElem?, List.getElem?_toArray, List.getElem?_cons_succ, List.getElem?_cons_zero, Option.getD_some, Value.cells] at hw); (try simp (disch := first | (simp; done) | (simp; omega)) only [Sep.mid_set, Sep.mid_set2, Sep.mid_set0, Sep.mid_splice, Sep.mid_splice0, List.set_cons_zero, List.set_cons_succ] at hw); (try simp only [Sep.splice, List.take_succ_cons, List.take_zero, List.drop_succ_cons, List.drop_zero, List.length_cons, List.length_nil, Nat.reduceAdd, List.cons_append, List.nil_append] at hw); (try replace hc0 := Sep.Holds.cells hw (i := 0) rfl); (try replace hc1 := Sep.Holds.cells hw (i := 1) rfl); (try replace hc2 := Sep.Holds.cells hw (i := 2) rfl); (try replace hc3 := Sep.Holds.cells hw (i := 3) rfl); (try replace hc4 := Sep.Holds.cells hw (i := 4) rfl); (try replace hc5 := Sep.Holds.cells hw (i := 5) rfl); (try replace hc6 := Sep.Holds.cells hw (i := 6) rfl))
              have hdo := fun w X hw => do_calls p ⟨20, c, row⟩ ⟨2, f1, f2⟩ (Sep.hid Hdok.out) e w X hw
              simp only [hb] at hdo
              refine (hdo _ _ (hw.focus1 1 rfl)).mono ?_
              rintro en_ w_ ⟨v, rfl, hw_⟩
              clear hw; (try clear hc0); (try clear hc1); (try clear hc2); (try clear hc3); (try clear hc4); (try clear hc5); (try clear hc6); have hw := Holds.unfocus1 1 (by simp) hw_; clear hw_ hdo hb
              (try simp only [List.map_cons, List.map_nil, List.getD_cons_zero, List.getD_cons_succ, List.getD_nil, List.set_cons_zero, List.set_cons_succ, List.cons_append, List.nil_append, Act.eval, Array.getD_eq_getD_getElem?, List.getElem?_toArray, List.getElem?_cons_succ, List.getElem?_cons_zero, Option.getD_some, Value.cells] at hw); (try simp (disch := first | (simp; done) | (simp; omega)) only [Sep.mid_set, Sep.mid_set2, Sep.mid_set0, Sep.mid_splice, Sep.mid_splice0, List.set_cons_zero, List.set_cons_succ] at hw); (try simp only [Sep.splice, List.take_succ_cons, List.take_zero, List.drop_succ_cons, List.drop_zero, List.length_cons, List.length_nil, Nat.reduceAdd, List.cons_append, List.nil_append] at hw)
              obtain ⟨ra, rc, rfl⟩ := Sl.value (i := 2) rfl hw
              obtain ⟨va, vc, rfl⟩ := Sl.value (i := 4) rfl hw
              (try replace hc0 := Sep.Holds.cells hw (i := 0) rfl); (try replace hc1 := Sep.Holds.cells hw (i := 1) rfl); (try replace hc2 := Sep.Holds.cells hw (i := 2) rfl); (try replace hc3 := Sep.Holds.cells hw (i := 3) rfl); (try replace hc4 := Sep.Holds.cells hw (i := 4) rfl); (try replace hc5 := Sep.Holds.cells hw (i := 5) rfl); (try replace hc6 := Sep.Holds.cells hw (i := 6) rfl)
              go_wp2_with (first | (refine wpList_on rfl (wp_bsl1 rfl rfl (by rfl) (by rfl) (by decide) hw ?_); intro b_ w_ hw_; clear hw; have hw := hw_; clear hw_; (try simp only [List.map_cons, List.map_nil, List.getD_cons_zero, List.getD_cons_succ, List.getD_nil, List.set_cons_zero, List.set_cons_succ, List.cons_append, List.nil_append, Act.eval, Array.getD_eq_getD_getElem?, List.getElem?_toArray, List.getElem?_cons_succ, List.getElem?_cons_zero, Option.getD_some, Value.cells] at hw); (try simp (disch := first | (simp; done) | (simp; omega)) only [Sep.mid_set, Sep.mid_set2, Sep.mid_set0, Sep.mid_splice, Sep.mid_splice0, List.set_cons_zero, List.set_cons_succ] at hw); (try simp only [Sep.splice, List.take_succ_cons, List.take_zero, List.drop_succ_cons, List.drop_zero, List.length_cons, List.length_nil, Nat.reduceAdd, List.cons_append, List.nil_append] at hw); (try replace hc0 := Sep.Holds.cells hw (i := 0) rfl); (try replace hc1 := Sep.Holds.cells hw (i := 1) rfl); (try replace hc2 := Sep.Holds.cells hw (i := 2) rfl); (try replace hc3 := Sep.Holds.cells hw (i := 3) rfl); (try replace hc4 := Sep.Holds.cells hw (i := 4) rfl); (try replace hc5 := Sep.Holds.cells hw (i := 5) rfl); (try replace hc6 := Sep.Holds.cells hw (i := 6) rfl)) | (at_builtin; refine wpList_on rfl (wp_appendPt (i := 2) (j := 5) rfl rfl hw rfl rfl rfl (by rfl) (by simp [Value.oneCell']) (by decide) (by rfl) (by have := Hlr.out; (try unfold maxLen); omega) (by have := Hlr.out; (try unfold maxLen); omega) ?_); intro b2_ cap2_ off2_ w_ hcap2_ hw_; clear hw; have hw := hw_; clear hw_; (try simp only [List.map_cons, List.map_nil, List.getD_cons_zero, List.getD_cons_succ, List.getD_nil, List.set_cons_zero, List.set_cons_succ, List.cons_append, List.nil_append, Act.eval, Array.getD_eq_getD_getElem?, List.getElem?_toArray, List.getElem?_cons_succ, List.getElem?_cons_zero, Option.getD_some, Value.cells] at hw); (try simp (disch := first | (simp; done) | (simp; omega)) only [Sep.mid_set, Sep.mid_set2, Sep.mid_set0, Sep.mid_splice, Sep.mid_splice0, List.set_cons_zero, List.set_cons_succ] at hw); (try simp only [Sep.splice, List.take_succ_cons, List.take_zero, List.drop_succ_cons, List.drop_zero, List.length_cons, List.length_nil, Nat.reduceAdd, List.cons_append, List.nil_append] at hw); (try replace hc0 := Sep.Holds.cells hw (i := 0) rfl); (try replace hc1 := Sep.Holds.cells hw (i := 1) rfl); (try replace hc2 := Sep.Holds.cells hw (i := 2) rfl); (try replace hc3 := Sep.Holds.cells hw (i := 3) rfl); (try replace hc4 := Sep.Holds.cells hw (i := 4) rfl); (try replace hc5 := Sep.Holds.cells hw (i := 5) rfl); (try replace hc6 := Sep.Holds.cells hw (i := 6) rfl)))
              rw [sl_snoc] at hw
              replace hw := hw.sel [0, 1, 2] (by decide)
              (try simp only [List.map_cons, List.map_nil, List.getD_cons_zero, List.getD_cons_succ, List.getD_nil, List.set_cons_zero, List.set_cons_succ, List.cons_append, List.nil_append, Act.eval, Array.getD_eq_getD_getElem?, List.getElem?_toArray, List.getElem?_cons_succ, List.getElem?_cons_zero, Option.getD_some, Value.cells] at hw); (try simp (disch := first | (simp; done) | (simp; omega)) only [Sep.mid_set, Sep.mid_set2, Sep.mid_set0, Sep.mid_splice, Sep.mid_splice0, List.set_cons_zero, List.set_cons_succ] at hw); (try simp only [Sep.splice, List.take_succ_cons, List.take_zero, List.drop_succ_cons, List.drop_zero, List.length_cons, List.length_nil, Nat.reduceAdd, List.cons_append, List.nil_append] at hw)
              (try clear hc0); (try clear hc1); (try clear hc2); (try clear hc3); (try clear hc4); (try clear hc5); (try clear hc6)
              have Hl2 : Hid (((row ++ [f1])).length ≤ 1000) := Sep.hid (waits_len (i := 1) (M := ⟨20, c, (row ++ [f1])⟩) rfl hw)
              refine (oCount p ⟨20, c, (row ++ [f1])⟩ e _ _ (hw.focus1 1 rfl)).mono ?_
              rintro en_ w_ ⟨rfl, rfl⟩
              go_wp2_with fail
              refine (oWaiting p ⟨20, c, (row ++ [f1])⟩ e _ _ (hw.focus1 1 rfl)).mono ?_
              rintro en_ w_ ⟨vw, rfl, hw_⟩
              clear hw; (try clear hc0); (try clear hc1); (try clear hc2); (try clear hc3); (try clear hc4); (try clear hc5); (try clear hc6); have hw := Holds.unfocus1 1 (by simp) hw_; clear hw_
              (try simp only [List.map_cons, List.map_nil, List.getD_cons_zero, List.getD_cons_succ, List.getD_nil, List.set_cons_zero, List.set_cons_succ, List.cons_append, List.nil_append, Act.eval, Array.getD_eq_getD_getElem?, List.getElem?_toArray, List.getElem?_cons_succ, List.getElem?_cons_zero, Option.getD_some, Value.cells] at hw); (try simp (disch := first | (simp; done) | (simp; omega)) only [Sep.mid_set, Sep.mid_set2, Sep.mid_set0, Sep.mid_splice, Sep.mid_splice0, List.set_cons_zero, List.set_cons_succ] at hw); (try simp only [Sep.splice, List.take_succ_cons, List.take_zero, List.drop_succ_cons, List.drop_zero, List.length_cons, List.length_nil, Nat.reduceAdd, List.cons_append, List.nil_append] at hw)
              go_wp2_with fail
              refine (same_calls _ _ (row ++ [f1]) (row ++ [f1]) (by have := Hl2.out; omega) e _ _ (hw.focus2 3 2 rfl rfl (by decide))).mono ?_
              rintro en_ w_ ⟨he_, hw_⟩
              rw [decide_eq_true rfl] at he_; subst he_
              clear hw; have hw := Holds.unfocus2 3 2 (by simp) (by simp) (by decide) hw_; clear hw_
              (try simp only [List.map_cons, List.map_nil, List.getD_cons_zero, List.getD_cons_succ, List.getD_nil, List.set_cons_zero, List.set_cons_succ, List.cons_append, List.nil_append, Act.eval, Array.getD_eq_getD_getElem?, List.getElem?_toArray, List.getElem?_cons_succ, List.getElem?_cons_zero, Option.getD_some, Value.cells] at hw); (try simp (disch := first | (simp; done) | (simp; omega)) only [Sep.mid_set, Sep.mid_set2, Sep.mid_set0, Sep.mid_splice, Sep.mid_splice0, List.set_cons_zero, List.set_cons_succ] at hw); (try simp only [Sep.splice, List.take_succ_cons, List.take_zero, List.drop_succ_cons, List.drop_zero, List.length_cons, List.length_nil, Nat.reduceAdd, List.cons_append, List.nil_append] at hw)
              go_wp2_with fail
              go_roundw
              case rel => exact ⟨q + 1, c, (row ++ [f1]), by omega, by go_num, rfl, by have := Hcb.out; omega, fun h => absurd h Hcq.out, hw.sel [0, 1, 2] (by decide)⟩
              case measure => simp [intOf]; omega
        · have hb : WM.act ⟨20, c, row⟩ ⟨2, f1, f2⟩ = ([], false, 3, ⟨20, c, row⟩) := by
            have hww : WM.wait ⟨20, c, row⟩ f1 = (false, 3, ⟨20, c, row⟩) := by unfold WM.wait; exact if_pos ht
            simp [WM.act, hww]
          clear ht
          go_wp2_with ((with_reducible refine wpList_act (x := ?hx0x100) (y := ?hy0x100) (x1 := ?hx1x100) (x3 := ?hx3x100) (y3 := ?hy3x100) (cap := ?hcpx100) (vs := encA ⟨2, f1, f2⟩) (q := q) (ad := ad) ti32 agg32 sl22 ?a1x100 ?a2x100 hlt hw (i := 0) ?a3x100 ?a4x100 ?a5x100 (encA_one ⟨2, f1, f2⟩) Hcell.out ?b0x100 ?c0x100 ?b1x100 ?c1x100 ?d1x100 ?b2x100 ?c2x100 ?b3x100 ?c3x100 ?d3x100 ?f3x100 ?ggx100); (case b0x100 => rfl); (case b1x100 => rfl); (case b2x100 => rfl); (case b3x100 => rfl); (case a1x100 => rfl); (case a2x100 => rfl); (case a3x100 => rfl); (case a4x100 => rfl); (case a5x100 => rfl); (case c0x100 => rfl); (case c1x100 => rfl); (case d1x100 => rfl); (case c2x100 => rfl); (case c3x100 => (intro b; rfl)); (case d3x100 => (intro b; rfl)); (case f3x100 => (intro b; rfl)); intro bd w_ hw_; simp only [encA] at hw_; clear hw; have hw := hw_; clear hw_; (try simp only [List.map_cons, List.map_nil, List.getD_cons_zero, List.getD_cons_succ, List.getD_nil, List.set_cons_zero, List.set_cons_succ, List.cons_append, List.nil_append, Act.eval, Array.getD_eq_getD_getElem?, List.getElem?_toArray, List.getElem?_cons_succ, List.getElem?_cons_zero, Option.getD_some, Value.cells] at hw); (try simp (disch := first | (simp; done) | (simp; omega)) only [Sep.mid_set, Sep.mid_set2, Sep.mid_set0, Sep.mid_splice, Sep.mid_splice0, List.set_cons_zero, List.set_cons_succ] at hw); (try simp only [Sep.splice, List.take_succ_cons, List.take_zero, List.drop_succ_cons, List.drop_zero, List.length_cons, List.length_nil, Nat.reduceAdd, List.cons_append, List.nil_append] at hw); (try replace hc0 := Sep.Holds.cells hw (i := 0) rfl); (try replace hc1 := Sep.Holds.cells hw (i := 1) rfl); (try replace hc2 := Sep.Holds.cells hw (i := 2) rfl); (try replace hc3 := Sep.Holds.cells hw (i := 3) rfl); (try replace hc4 := Sep.Holds.cells hw (i := 4) rfl); (try replace hc5 := Sep.Holds.cells hw (i := 5) rfl); (try replace hc6 := Sep.Holds.cells hw (i := 6) rfl))
          have hdo := fun w X hw => do_calls p ⟨20, c, row⟩ ⟨2, f1, f2⟩ (Sep.hid Hdok.out) e w X hw
          simp only [hb] at hdo
          refine (hdo _ _ (hw.focus1 1 rfl)).mono ?_
          rintro en_ w_ ⟨v, rfl, hw_⟩
          clear hw; (try clear hc0); (try clear hc1); (try clear hc2); (try clear hc3); (try clear hc4); (try clear hc5); (try clear hc6); have hw := Holds.unfocus1 1 (by simp) hw_; clear hw_ hdo hb
          (try simp only [List.map_cons, List.map_nil, List.getD_cons_zero, List.getD_cons_succ, List.getD_nil, List.set_cons_zero, List.set_cons_succ, List.cons_append, List.nil_append, Act.eval, Array.getD_eq_getD_getElem?, List.getElem?_toArray, List.getElem?_cons_succ, List.getElem?_cons_zero, Option.getD_some, Value.cells] at hw); (try simp (disch := first | (simp; done) | (simp; omega)) only [Sep.mid_set, Sep.mid_set2, Sep.mid_set0, Sep.mid_splice, Sep.mid_splice0, List.set_cons_zero, List.set_cons_succ] at hw); (try simp only [Sep.splice, List.take_succ_cons, List.take_zero, List.drop_succ_cons, List.drop_zero, List.length_cons, List.length_nil, Nat.reduceAdd, List.cons_append, List.nil_append] at hw)
          obtain ⟨ra, rc, rfl⟩ := Sl.value (i := 2) rfl hw
          obtain ⟨va, vc, rfl⟩ := Sl.value (i := 4) rfl hw
          (try replace hc0 := Sep.Holds.cells hw (i := 0) rfl); (try replace hc1 := Sep.Holds.cells hw (i := 1) rfl); (try replace hc2 := Sep.Holds.cells hw (i := 2) rfl); (try replace hc3 := Sep.Holds.cells hw (i := 3) rfl); (try replace hc4 := Sep.Holds.cells hw (i := 4) rfl); (try replace hc5 := Sep.Holds.cells hw (i := 5) rfl); (try replace hc6 := Sep.Holds.cells hw (i := 6) rfl)
          go_wp2_with fail
          by_cases hc0 : c = 0
          · obtain rfl := Hst.out hc0
            subst hc0
            replace hw := hw.sel [0, 1, 2] (by decide)
            (try simp only [List.map_cons, List.map_nil, List.getD_cons_zero, List.getD_cons_succ, List.getD_nil, List.set_cons_zero, List.set_cons_succ, List.cons_append, List.nil_append, Act.eval, Array.getD_eq_getD_getElem?, List.getElem?_toArray, List.getElem?_cons_succ, List.getElem?_cons_zero, Option.getD_some, Value.cells] at hw); (try simp (disch := first | (simp; done) | (simp; omega)) only [Sep.mid_set, Sep.mid_set2, Sep.mid_set0, Sep.mid_splice, Sep.mid_splice0, List.set_cons_zero, List.set_cons_succ] at hw); (try simp only [Sep.splice, List.take_succ_cons, List.take_zero, List.drop_succ_cons, List.drop_zero, List.length_cons, List.length_nil, Nat.reduceAdd, List.cons_append, List.nil_append] at hw)
            (try clear hc0); (try clear hc1); (try clear hc2); (try clear hc3); (try clear hc4); (try clear hc5); (try clear hc6)
            have Hl2 : Hid (([]).length ≤ 1000) := Sep.hid (waits_len (i := 1) (M := ⟨20, 0, []⟩) rfl hw)
            refine (oCount p ⟨20, 0, []⟩ e _ _ (hw.focus1 1 rfl)).mono ?_
            rintro en_ w_ ⟨rfl, rfl⟩
            go_wp2_with fail
            refine (oWaiting p ⟨20, 0, []⟩ e _ _ (hw.focus1 1 rfl)).mono ?_
            rintro en_ w_ ⟨vw, rfl, hw_⟩
            clear hw; (try clear hc0); (try clear hc1); (try clear hc2); (try clear hc3); (try clear hc4); (try clear hc5); (try clear hc6); have hw := Holds.unfocus1 1 (by simp) hw_; clear hw_
            (try simp only [List.map_cons, List.map_nil, List.getD_cons_zero, List.getD_cons_succ, List.getD_nil, List.set_cons_zero, List.set_cons_succ, List.cons_append, List.nil_append, Act.eval, Array.getD_eq_getD_getElem?, List.getElem?_toArray, List.getElem?_cons_succ, List.getElem?_cons_zero, Option.getD_some, Value.cells] at hw); (try simp (disch := first | (simp; done) | (simp; omega)) only [Sep.mid_set, Sep.mid_set2, Sep.mid_set0, Sep.mid_splice, Sep.mid_splice0, List.set_cons_zero, List.set_cons_succ] at hw); (try simp only [Sep.splice, List.take_succ_cons, List.take_zero, List.drop_succ_cons, List.drop_zero, List.length_cons, List.length_nil, Nat.reduceAdd, List.cons_append, List.nil_append] at hw)
            go_wp2_with fail
            refine (same_calls _ _ [] [] (by have := Hl2.out; omega) e _ _ (hw.focus2 3 2 rfl rfl (by decide))).mono ?_
            rintro en_ w_ ⟨he_, hw_⟩
            rw [decide_eq_true rfl] at he_; subst he_
            clear hw; have hw := Holds.unfocus2 3 2 (by simp) (by simp) (by decide) hw_; clear hw_
            (try simp only [List.map_cons, List.map_nil, List.getD_cons_zero, List.getD_cons_succ, List.getD_nil, List.set_cons_zero, List.set_cons_succ, List.cons_append, List.nil_append, Act.eval, Array.getD_eq_getD_getElem?, List.getElem?_toArray, List.getElem?_cons_succ, List.getElem?_cons_zero, Option.getD_some, Value.cells] at hw); (try simp (disch := first | (simp; done) | (simp; omega)) only [Sep.mid_set, Sep.mid_set2, Sep.mid_set0, Sep.mid_splice, Sep.mid_splice0, List.set_cons_zero, List.set_cons_succ] at hw); (try simp only [Sep.splice, List.take_succ_cons, List.take_zero, List.drop_succ_cons, List.drop_zero, List.length_cons, List.length_nil, Nat.reduceAdd, List.cons_append, List.nil_append] at hw)
            go_wp2_with fail
            go_roundw
            case rel => exact ⟨q + 1, 0, [], by omega, by go_num, rfl, by omega, fun _ => rfl, hw.sel [0, 1, 2] (by decide)⟩
            case measure => simp [intOf]; omega
          · have hcq : (c == 0) = false := by simpa using hc0
            replace hw := hw.sel [0, 1, 2] (by decide)
            (try simp only [List.map_cons, List.map_nil, List.getD_cons_zero, List.getD_cons_succ, List.getD_nil, List.set_cons_zero, List.set_cons_succ, List.cons_append, List.nil_append, Act.eval, Array.getD_eq_getD_getElem?, List.getElem?_toArray, List.getElem?_cons_succ, List.getElem?_cons_zero, Option.getD_some, Value.cells] at hw); (try simp (disch := first | (simp; done) | (simp; omega)) only [Sep.mid_set, Sep.mid_set2, Sep.mid_set0, Sep.mid_splice, Sep.mid_splice0, List.set_cons_zero, List.set_cons_succ] at hw); (try simp only [Sep.splice, List.take_succ_cons, List.take_zero, List.drop_succ_cons, List.drop_zero, List.length_cons, List.length_nil, Nat.reduceAdd, List.cons_append, List.nil_append] at hw)
            (try clear hc0); (try clear hc1); (try clear hc2); (try clear hc3); (try clear hc4); (try clear hc5); (try clear hc6)
            have Hl2 : Hid ((row).length ≤ 1000) := Sep.hid (waits_len (i := 1) (M := ⟨20, c, row⟩) rfl hw)
            refine (oCount p ⟨20, c, row⟩ e _ _ (hw.focus1 1 rfl)).mono ?_
            rintro en_ w_ ⟨rfl, rfl⟩
            go_wp2_with fail
            refine (oWaiting p ⟨20, c, row⟩ e _ _ (hw.focus1 1 rfl)).mono ?_
            rintro en_ w_ ⟨vw, rfl, hw_⟩
            clear hw; (try clear hc0); (try clear hc1); (try clear hc2); (try clear hc3); (try clear hc4); (try clear hc5); (try clear hc6); have hw := Holds.unfocus1 1 (by simp) hw_; clear hw_
            (try simp only [List.map_cons, List.map_nil, List.getD_cons_zero, List.getD_cons_succ, List.getD_nil, List.set_cons_zero, List.set_cons_succ, List.cons_append, List.nil_append, Act.eval, Array.getD_eq_getD_getElem?, List.getElem?_toArray, List.getElem?_cons_succ, List.getElem?_cons_zero, Option.getD_some, Value.cells] at hw); (try simp (disch := first | (simp; done) | (simp; omega)) only [Sep.mid_set, Sep.mid_set2, Sep.mid_set0, Sep.mid_splice, Sep.mid_splice0, List.set_cons_zero, List.set_cons_succ] at hw); (try simp only [Sep.splice, List.take_succ_cons, List.take_zero, List.drop_succ_cons, List.drop_zero, List.length_cons, List.length_nil, Nat.reduceAdd, List.cons_append, List.nil_append] at hw)
            go_wp2_with fail
            refine (same_calls _ _ row row (by have := Hl2.out; omega) e _ _ (hw.focus2 3 2 rfl rfl (by decide))).mono ?_
            rintro en_ w_ ⟨he_, hw_⟩
            rw [decide_eq_true rfl] at he_; subst he_
            clear hw; have hw := Holds.unfocus2 3 2 (by simp) (by simp) (by decide) hw_; clear hw_
            (try simp only [List.map_cons, List.map_nil, List.getD_cons_zero, List.getD_cons_succ, List.getD_nil, List.set_cons_zero, List.set_cons_succ, List.cons_append, List.nil_append, Act.eval, Array.getD_eq_getD_getElem?, List.getElem?_toArray, List.getElem?_cons_succ, List.getElem?_cons_zero, Option.getD_some, Value.cells] at hw); (try simp (disch := first | (simp; done) | (simp; omega)) only [Sep.mid_set, Sep.mid_set2, Sep.mid_set0, Sep.mid_splice, Sep.mid_splice0, List.set_cons_zero, List.set_cons_succ] at hw); (try simp only [Sep.splice, List.take_succ_cons, List.take_zero, List.drop_succ_cons, List.drop_zero, List.length_cons, List.length_nil, Nat.reduceAdd, List.cons_append, List.nil_append] at hw)
            go_wp2_with fail
            go_roundw
            case rel => exact ⟨q + 1, c, row, by omega, by go_num, rfl, by have := Hcb.out; omega, fun h => Hst.out h, hw.sel [0, 1, 2] (by decide)⟩
            case measure => simp [intOf]; omega
      by_cases h3 : f0 = 3
      · obtain rfl := h3
        clear h0 h1 h2
        by_cases hr : f1 ∈ row
        · have hb : WM.act ⟨20, c, row⟩ ⟨3, f1, f2⟩ = ([], true, 0, ⟨20, c, without row f1⟩) := by simp [WM.act, WM.leave, hr]
          have hc0 : ¬ c = 0 := fun h => by rw [Hst.out h] at hr; exact absurd hr (by simp)
          have Hc0 := Sep.hid hc0
          have hcq : (c == 0) = false := by simpa using hc0
          clear hr hc0
          go_wp2_with ((with_reducible refine wpList_act (x := ?hx0x112) (y := ?hy0x112) (x1 := ?hx1x112) (x3 := ?hx3x112) (y3 := ?hy3x112) (cap := ?hcpx112) (vs := encA ⟨3, f1, f2⟩) (q := q) (ad := ad) ti32 agg32 sl22 ?a1x112 ?a2x112 hlt hw (i := 0) ?a3x112 ?a4x112 ?a5x112 (encA_one ⟨3, f1, f2⟩) Hcell.out ?b0x112 ?c0x112 ?b1x112 ?c1x112 ?d1x112 ?b2x112 ?c2x112 ?b3x112 ?c3x112 ?d3x112 ?f3x112 ?ggx112); (case b0x112 => rfl); (case b1x112 => rfl); (case b2x112 => rfl); (case b3x112 => rfl); (case a1x112 => rfl); (case a2x112 => rfl); (case a3x112 => rfl); (case a4x112 => rfl); (case a5x112 => rfl); (case c0x112 => rfl); (case c1x112 => rfl); (case d1x112 => rfl); (case c2x112 => rfl); (case c3x112 => (intro b; rfl)); (case d3x112 => (intro b; rfl)); (case f3x112 => (intro b; rfl)); intro bd w_ hw_; simp only [encA] at hw_; clear hw; have hw := hw_; clear hw_; (try simp only [List.map_cons, List.map_nil, List.getD_cons_zero, List.getD_cons_succ, List.getD_nil, List.set_cons_zero, List.set_cons_succ, List.cons_append, List.nil_append, Act.eval, Array.getD_eq_getD_getElem?, List.getElem?_toArray, List.getElem?_cons_succ, List.getElem?_cons_zero, Option.getD_some, Value.cells] at hw); (try simp (disch := first | (simp; done) | (simp; omega)) only [Sep.mid_set, Sep.mid_set2, Sep.mid_set0, Sep.mid_splice, Sep.mid_splice0, List.set_cons_zero, List.set_cons_succ] at hw); (try simp only [Sep.splice, List.take_succ_cons, List.take_zero, List.drop_succ_cons, List.drop_zero, List.length_cons, List.length_nil, Nat.reduceAdd, List.cons_append, List.nil_append] at hw); (try replace hc0 := Sep.Holds.cells hw (i := 0) rfl); (try replace hc1 := Sep.Holds.cells hw (i := 1) rfl); (try replace hc2 := Sep.Holds.cells hw (i := 2) rfl); (try replace hc3 := Sep.Holds.cells hw (i := 3) rfl); (try replace hc4 := Sep.Holds.cells hw (i := 4) rfl); (try replace hc5 := Sep.Holds.cells hw (i := 5) rfl); (try replace hc6 := Sep.Holds.cells hw (i := 6) rfl))
          have hdo := fun w X hw => do_calls p ⟨20, c, row⟩ ⟨3, f1, f2⟩ (Sep.hid Hdok.out) e w X hw
          simp only [hb] at hdo
          refine (hdo _ _ (hw.focus1 1 rfl)).mono ?_
          rintro en_ w_ ⟨v, rfl, hw_⟩
          clear hw; (try clear hc0); (try clear hc1); (try clear hc2); (try clear hc3); (try clear hc4); (try clear hc5); (try clear hc6); have hw := Holds.unfocus1 1 (by simp) hw_; clear hw_ hdo hb
          (try simp only [List.map_cons, List.map_nil, List.getD_cons_zero, List.getD_cons_succ, List.getD_nil, List.set_cons_zero, List.set_cons_succ, List.cons_append, List.nil_append, Act.eval, Array.getD_eq_getD_getElem?, List.getElem?_toArray, List.getElem?_cons_succ, List.getElem?_cons_zero, Option.getD_some, Value.cells] at hw); (try simp (disch := first | (simp; done) | (simp; omega)) only [Sep.mid_set, Sep.mid_set2, Sep.mid_set0, Sep.mid_splice, Sep.mid_splice0, List.set_cons_zero, List.set_cons_succ] at hw); (try simp only [Sep.splice, List.take_succ_cons, List.take_zero, List.drop_succ_cons, List.drop_zero, List.length_cons, List.length_nil, Nat.reduceAdd, List.cons_append, List.nil_append] at hw)
          obtain ⟨ra, rc, rfl⟩ := Sl.value (i := 2) rfl hw
          obtain ⟨va, vc, rfl⟩ := Sl.value (i := 4) rfl hw
          (try replace hc0 := Sep.Holds.cells hw (i := 0) rfl); (try replace hc1 := Sep.Holds.cells hw (i := 1) rfl); (try replace hc2 := Sep.Holds.cells hw (i := 2) rfl); (try replace hc3 := Sep.Holds.cells hw (i := 3) rfl); (try replace hc4 := Sep.Holds.cells hw (i := 4) rfl); (try replace hc5 := Sep.Holds.cells hw (i := 5) rfl); (try replace hc6 := Sep.Holds.cells hw (i := 6) rfl)
          go_wp2_with fail
          refine (without8_calls _ row f1 (by have := Hlr.out; omega) e _ _ (hw.focus1 2 rfl)).mono ?_
          rintro en_ w_ ⟨u, rfl, hw_⟩
          clear hw; (try clear hc0); (try clear hc1); (try clear hc2); (try clear hc3); (try clear hc4); (try clear hc5); (try clear hc6); have hw := Holds.unfocus1 2 (by simp) hw_; clear hw_
          (try simp only [List.map_cons, List.map_nil, List.getD_cons_zero, List.getD_cons_succ, List.getD_nil, List.set_cons_zero, List.set_cons_succ, List.cons_append, List.nil_append, Act.eval, Array.getD_eq_getD_getElem?, List.getElem?_toArray, List.getElem?_cons_succ, List.getElem?_cons_zero, Option.getD_some, Value.cells] at hw); (try simp (disch := first | (simp; done) | (simp; omega)) only [Sep.mid_set, Sep.mid_set2, Sep.mid_set0, Sep.mid_splice, Sep.mid_splice0, List.set_cons_zero, List.set_cons_succ] at hw); (try simp only [Sep.splice, List.take_succ_cons, List.take_zero, List.drop_succ_cons, List.drop_zero, List.length_cons, List.length_nil, Nat.reduceAdd, List.cons_append, List.nil_append] at hw)
          replace hw := hw.sel [0, 1, 5] (by decide)
          (try simp only [List.map_cons, List.map_nil, List.getD_cons_zero, List.getD_cons_succ, List.getD_nil, List.set_cons_zero, List.set_cons_succ, List.cons_append, List.nil_append, Act.eval, Array.getD_eq_getD_getElem?, List.getElem?_toArray, List.getElem?_cons_succ, List.getElem?_cons_zero, Option.getD_some, Value.cells] at hw); (try simp (disch := first | (simp; done) | (simp; omega)) only [Sep.mid_set, Sep.mid_set2, Sep.mid_set0, Sep.mid_splice, Sep.mid_splice0, List.set_cons_zero, List.set_cons_succ] at hw); (try simp only [Sep.splice, List.take_succ_cons, List.take_zero, List.drop_succ_cons, List.drop_zero, List.length_cons, List.length_nil, Nat.reduceAdd, List.cons_append, List.nil_append] at hw)
          clear Hlr
          generalize hro : without row f1 = ro at *
          clear hro
          obtain ⟨ua, uc, rfl⟩ := Sl.value (i := 2) rfl hw
          go_wp2_with fail
          replace hw := hw.sel [0, 1, 2] (by decide)
          (try simp only [List.map_cons, List.map_nil, List.getD_cons_zero, List.getD_cons_succ, List.getD_nil, List.set_cons_zero, List.set_cons_succ, List.cons_append, List.nil_append, Act.eval, Array.getD_eq_getD_getElem?, List.getElem?_toArray, List.getElem?_cons_succ, List.getElem?_cons_zero, Option.getD_some, Value.cells] at hw); (try simp (disch := first | (simp; done) | (simp; omega)) only [Sep.mid_set, Sep.mid_set2, Sep.mid_set0, Sep.mid_splice, Sep.mid_splice0, List.set_cons_zero, List.set_cons_succ] at hw); (try simp only [Sep.splice, List.take_succ_cons, List.take_zero, List.drop_succ_cons, List.drop_zero, List.length_cons, List.length_nil, Nat.reduceAdd, List.cons_append, List.nil_append] at hw)
          (try clear hc0); (try clear hc1); (try clear hc2); (try clear hc3); (try clear hc4); (try clear hc5); (try clear hc6)
          have Hl2 : Hid ((ro).length ≤ 1000) := Sep.hid (waits_len (i := 1) (M := ⟨20, c, ro⟩) rfl hw)
          refine (oCount p ⟨20, c, ro⟩ e _ _ (hw.focus1 1 rfl)).mono ?_
          rintro en_ w_ ⟨rfl, rfl⟩
          go_wp2_with fail
          refine (oWaiting p ⟨20, c, ro⟩ e _ _ (hw.focus1 1 rfl)).mono ?_
          rintro en_ w_ ⟨vw, rfl, hw_⟩
          clear hw; (try clear hc0); (try clear hc1); (try clear hc2); (try clear hc3); (try clear hc4); (try clear hc5); (try clear hc6); have hw := Holds.unfocus1 1 (by simp) hw_; clear hw_
          (try simp only [List.map_cons, List.map_nil, List.getD_cons_zero, List.getD_cons_succ, List.getD_nil, List.set_cons_zero, List.set_cons_succ, List.cons_append, List.nil_append, Act.eval, Array.getD_eq_getD_getElem?, List.getElem?_toArray, List.getElem?_cons_succ, List.getElem?_cons_zero, Option.getD_some, Value.cells] at hw); (try simp (disch := first | (simp; done) | (simp; omega)) only [Sep.mid_set, Sep.mid_set2, Sep.mid_set0, Sep.mid_splice, Sep.mid_splice0, List.set_cons_zero, List.set_cons_succ] at hw); (try simp only [Sep.splice, List.take_succ_cons, List.take_zero, List.drop_succ_cons, List.drop_zero, List.length_cons, List.length_nil, Nat.reduceAdd, List.cons_append, List.nil_append] at hw)
          go_wp2_with fail
          refine (same_calls _ _ ro ro (by have := Hl2.out; omega) e _ _ (hw.focus2 3 2 rfl rfl (by decide))).mono ?_
          rintro en_ w_ ⟨he_, hw_⟩
          rw [decide_eq_true rfl] at he_; subst he_
          clear hw; have hw := Holds.unfocus2 3 2 (by simp) (by simp) (by decide) hw_; clear hw_
          (try simp only [List.map_cons, List.map_nil, List.getD_cons_zero, List.getD_cons_succ, List.getD_nil, List.set_cons_zero, List.set_cons_succ, List.cons_append, List.nil_append, Act.eval, Array.getD_eq_getD_getElem?, List.getElem?_toArray, List.getElem?_cons_succ, List.getElem?_cons_zero, Option.getD_some, Value.cells] at hw); (try simp (disch := first | (simp; done) | (simp; omega)) only [Sep.mid_set, Sep.mid_set2, Sep.mid_set0, Sep.mid_splice, Sep.mid_splice0, List.set_cons_zero, List.set_cons_succ] at hw); (try simp only [Sep.splice, List.take_succ_cons, List.take_zero, List.drop_succ_cons, List.drop_zero, List.length_cons, List.length_nil, Nat.reduceAdd, List.cons_append, List.nil_append] at hw)
          go_wp2_with fail
          go_roundw
          case rel => exact ⟨q + 1, c, ro, by omega, by go_num, rfl, by have := Hcb.out; omega, fun h => absurd h Hc0.out, hw.sel [0, 1, 2] (by decide)⟩
          case measure => simp [intOf]; omega
        · have hb : WM.act ⟨20, c, row⟩ ⟨3, f1, f2⟩ = ([], false, 0, ⟨20, c, row⟩) := by simp [WM.act, WM.leave, hr, without_none hr]
          clear hr
          go_wp2_with ((with_reducible refine wpList_act (x := ?hx0x123) (y := ?hy0x123) (x1 := ?hx1x123) (x3 := ?hx3x123) (y3 := ?hy3x123) (cap := ?hcpx123) (vs := encA ⟨3, f1, f2⟩) (q := q) (ad := ad) ti32 agg32 sl22 ?a1x123 ?a2x123 hlt hw (i := 0) ?a3x123 ?a4x123 ?a5x123 (encA_one ⟨3, f1, f2⟩) Hcell.out ?b0x123 ?c0x123 ?b1x123 ?c1x123 ?d1x123 ?b2x123 ?c2x123 ?b3x123 ?c3x123 ?d3x123 ?f3x123 ?ggx123); (case b0x123 => rfl); (case b1x123 => rfl); (case b2x123 => rfl); (case b3x123 => rfl); (case a1x123 => rfl); (case a2x123 => rfl); (case a3x123 => rfl); (case a4x123 => rfl); (case a5x123 => rfl); (case c0x123 => rfl); (case c1x123 => rfl); (case d1x123 => rfl); (case c2x123 => rfl); (case c3x123 => (intro b; rfl)); (case d3x123 => (intro b; rfl)); (case f3x123 => (intro b; rfl)); intro bd w_ hw_; simp only [encA] at hw_; clear hw; have hw := hw_; clear hw_; (try simp only [List.map_cons, List.map_nil, List.getD_cons_zero, List.getD_cons_succ, List.getD_nil, List.set_cons_zero, List.set_cons_succ, List.cons_append, List.nil_append, Act.eval, Array.getD_eq_getD_getElem?, List.getElem?_toArray, List.getElem?_cons_succ, List.getElem?_cons_zero, Option.getD_some, Value.cells] at hw); (try simp (disch := first | (simp; done) | (simp; omega)) only [Sep.mid_set, Sep.mid_set2, Sep.mid_set0, Sep.mid_splice, Sep.mid_splice0, List.set_cons_zero, List.set_cons_succ] at hw); (try simp only [Sep.splice, List.take_succ_cons, List.take_zero, List.drop_succ_cons, List.drop_zero, List.length_cons, List.length_nil, Nat.reduceAdd, List.cons_append, List.nil_append] at hw); (try replace hc0 := Sep.Holds.cells hw (i := 0) rfl); (try replace hc1 := Sep.Holds.cells hw (i := 1) rfl); (try replace hc2 := Sep.Holds.cells hw (i := 2) rfl); (try replace hc3 := Sep.Holds.cells hw (i := 3) rfl); (try replace hc4 := Sep.Holds.cells hw (i := 4) rfl); (try replace hc5 := Sep.Holds.cells hw (i := 5) rfl); (try replace hc6 := Sep.Holds.cells hw (i := 6) rfl))
          have hdo := fun w X hw => do_calls p ⟨20, c, row⟩ ⟨3, f1, f2⟩ (Sep.hid Hdok.out) e w X hw
          simp only [hb] at hdo
          refine (hdo _ _ (hw.focus1 1 rfl)).mono ?_
          rintro en_ w_ ⟨v, rfl, hw_⟩
          clear hw; (try clear hc0); (try clear hc1); (try clear hc2); (try clear hc3); (try clear hc4); (try clear hc5); (try clear hc6); have hw := Holds.unfocus1 1 (by simp) hw_; clear hw_ hdo hb
          (try simp only [List.map_cons, List.map_nil, List.getD_cons_zero, List.getD_cons_succ, List.getD_nil, List.set_cons_zero, List.set_cons_succ, List.cons_append, List.nil_append, Act.eval, Array.getD_eq_getD_getElem?, List.getElem?_toArray, List.getElem?_cons_succ, List.getElem?_cons_zero, Option.getD_some, Value.cells] at hw); (try simp (disch := first | (simp; done) | (simp; omega)) only [Sep.mid_set, Sep.mid_set2, Sep.mid_set0, Sep.mid_splice, Sep.mid_splice0, List.set_cons_zero, List.set_cons_succ] at hw); (try simp only [Sep.splice, List.take_succ_cons, List.take_zero, List.drop_succ_cons, List.drop_zero, List.length_cons, List.length_nil, Nat.reduceAdd, List.cons_append, List.nil_append] at hw)
          obtain ⟨ra, rc, rfl⟩ := Sl.value (i := 2) rfl hw
          obtain ⟨va, vc, rfl⟩ := Sl.value (i := 4) rfl hw
          (try replace hc0 := Sep.Holds.cells hw (i := 0) rfl); (try replace hc1 := Sep.Holds.cells hw (i := 1) rfl); (try replace hc2 := Sep.Holds.cells hw (i := 2) rfl); (try replace hc3 := Sep.Holds.cells hw (i := 3) rfl); (try replace hc4 := Sep.Holds.cells hw (i := 4) rfl); (try replace hc5 := Sep.Holds.cells hw (i := 5) rfl); (try replace hc6 := Sep.Holds.cells hw (i := 6) rfl)
          go_wp2_with fail
          by_cases hc0 : c = 0
          · obtain rfl := Hst.out hc0
            subst hc0
            replace hw := hw.sel [0, 1, 2] (by decide)
            (try simp only [List.map_cons, List.map_nil, List.getD_cons_zero, List.getD_cons_succ, List.getD_nil, List.set_cons_zero, List.set_cons_succ, List.cons_append, List.nil_append, Act.eval, Array.getD_eq_getD_getElem?, List.getElem?_toArray, List.getElem?_cons_succ, List.getElem?_cons_zero, Option.getD_some, Value.cells] at hw); (try simp (disch := first | (simp; done) | (simp; omega)) only [Sep.mid_set, Sep.mid_set2, Sep.mid_set0, Sep.mid_splice, Sep.mid_splice0, List.set_cons_zero, List.set_cons_succ] at hw); (try simp only [Sep.splice, List.take_succ_cons, List.take_zero, List.drop_succ_cons, List.drop_zero, List.length_cons, List.length_nil, Nat.reduceAdd, List.cons_append, List.nil_append] at hw)
            (try clear hc0); (try clear hc1); (try clear hc2); (try clear hc3); (try clear hc4); (try clear hc5); (try clear hc6)
            have Hl2 : Hid (([]).length ≤ 1000) := Sep.hid (waits_len (i := 1) (M := ⟨20, 0, []⟩) rfl hw)
            refine (oCount p ⟨20, 0, []⟩ e _ _ (hw.focus1 1 rfl)).mono ?_
            rintro en_ w_ ⟨rfl, rfl⟩
            go_wp2_with fail
            refine (oWaiting p ⟨20, 0, []⟩ e _ _ (hw.focus1 1 rfl)).mono ?_
            rintro en_ w_ ⟨vw, rfl, hw_⟩
            clear hw; (try clear hc0); (try clear hc1); (try clear hc2); (try clear hc3); (try clear hc4); (try clear hc5); (try clear hc6); have hw := Holds.unfocus1 1 (by simp) hw_; clear hw_
            (try simp only [List.map_cons, List.map_nil, List.getD_cons_zero, List.getD_cons_succ, List.getD_nil, List.set_cons_zero, List.set_cons_succ, List.cons_append, List.nil_append, Act.eval, Array.getD_eq_getD_getElem?, List.getElem?_toArray, List.getElem?_cons_succ, List.getElem?_cons_zero, Option.getD_some, Value.cells] at hw); (try simp (disch := first | (simp; done) | (simp; omega)) only [Sep.mid_set, Sep.mid_set2, Sep.mid_set0, Sep.mid_splice, Sep.mid_splice0, List.set_cons_zero, List.set_cons_succ] at hw); (try simp only [Sep.splice, List.take_succ_cons, List.take_zero, List.drop_succ_cons, List.drop_zero, List.length_cons, List.length_nil, Nat.reduceAdd, List.cons_append, List.nil_append] at hw)
            go_wp2_with fail
            refine (same_calls _ _ [] [] (by have := Hl2.out; omega) e _ _ (hw.focus2 3 2 rfl rfl (by decide))).mono ?_
            rintro en_ w_ ⟨he_, hw_⟩
            rw [decide_eq_true rfl] at he_; subst he_
            clear hw; have hw := Holds.unfocus2 3 2 (by simp) (by simp) (by decide) hw_; clear hw_
            (try simp only [List.map_cons, List.map_nil, List.getD_cons_zero, List.getD_cons_succ, List.getD_nil, List.set_cons_zero, List.set_cons_succ, List.cons_append, List.nil_append, Act.eval, Array.getD_eq_getD_getElem?, List.getElem?_toArray, List.getElem?_cons_succ, List.getElem?_cons_zero, Option.getD_some, Value.cells] at hw); (try simp (disch := first | (simp; done) | (simp; omega)) only [Sep.mid_set, Sep.mid_set2, Sep.mid_set0, Sep.mid_splice, Sep.mid_splice0, List.set_cons_zero, List.set_cons_succ] at hw); (try simp only [Sep.splice, List.take_succ_cons, List.take_zero, List.drop_succ_cons, List.drop_zero, List.length_cons, List.length_nil, Nat.reduceAdd, List.cons_append, List.nil_append] at hw)
            go_wp2_with fail
            go_roundw
            case rel => exact ⟨q + 1, 0, [], by omega, by go_num, rfl, by omega, fun _ => rfl, hw.sel [0, 1, 2] (by decide)⟩
            case measure => simp [intOf]; omega
          · have hcq : (c == 0) = false := by simpa using hc0
            replace hw := hw.sel [0, 1, 2] (by decide)
            (try simp only [List.map_cons, List.map_nil, List.getD_cons_zero, List.getD_cons_succ, List.getD_nil, List.set_cons_zero, List.set_cons_succ, List.cons_append, List.nil_append, Act.eval, Array.getD_eq_getD_getElem?, List.getElem?_toArray, List.getElem?_cons_succ, List.getElem?_cons_zero, Option.getD_some, Value.cells] at hw); (try simp (disch := first | (simp; done) | (simp; omega)) only [Sep.mid_set, Sep.mid_set2, Sep.mid_set0, Sep.mid_splice, Sep.mid_splice0, List.set_cons_zero, List.set_cons_succ] at hw); (try simp only [Sep.splice, List.take_succ_cons, List.take_zero, List.drop_succ_cons, List.drop_zero, List.length_cons, List.length_nil, Nat.reduceAdd, List.cons_append, List.nil_append] at hw)
            (try clear hc0); (try clear hc1); (try clear hc2); (try clear hc3); (try clear hc4); (try clear hc5); (try clear hc6)
            have Hl2 : Hid ((row).length ≤ 1000) := Sep.hid (waits_len (i := 1) (M := ⟨20, c, row⟩) rfl hw)
            refine (oCount p ⟨20, c, row⟩ e _ _ (hw.focus1 1 rfl)).mono ?_
            rintro en_ w_ ⟨rfl, rfl⟩
            go_wp2_with fail
            refine (oWaiting p ⟨20, c, row⟩ e _ _ (hw.focus1 1 rfl)).mono ?_
            rintro en_ w_ ⟨vw, rfl, hw_⟩
            clear hw; (try clear hc0); (try clear hc1); (try clear hc2); (try clear hc3); (try clear hc4); (try clear hc5); (try clear hc6); have hw := Holds.unfocus1 1 (by simp) hw_; clear hw_
            (try simp only [List.map_cons, List.map_nil, List.getD_cons_zero, List.getD_cons_succ, List.getD_nil, List.set_cons_zero, List.set_cons_succ, List.cons_append, List.nil_append, Act.eval, Array.getD_eq_getD_getElem?, List.getElem?_toArray, List.getElem?_cons_succ, List.getElem?_cons_zero, Option.getD_some, Value.cells] at hw); (try simp (disch := first | (simp; done) | (simp; omega)) only [Sep.mid_set, Sep.mid_set2, Sep.mid_set0, Sep.mid_splice, Sep.mid_splice0, List.set_cons_zero, List.set_cons_succ] at hw); (try simp only [Sep.splice, List.take_succ_cons, List.take_zero, List.drop_succ_cons, List.drop_zero, List.length_cons, List.length_nil, Nat.reduceAdd, List.cons_append, List.nil_append] at hw)
            go_wp2_with fail
            refine (same_calls _ _ row row (by have := Hl2.out; omega) e _ _ (hw.focus2 3 2 rfl rfl (by decide))).mono ?_
            rintro en_ w_ ⟨he_, hw_⟩
            rw [decide_eq_true rfl] at he_; subst he_
            clear hw; have hw := Holds.unfocus2 3 2 (by simp) (by simp) (by decide) hw_; clear hw_
            (try simp only [List.map_cons, List.map_nil, List.getD_cons_zero, List.getD_cons_succ, List.getD_nil, List.set_cons_zero, List.set_cons_succ, List.cons_append, List.nil_append, Act.eval, Array.getD_eq_getD_getElem?, List.getElem?_toArray, List.getElem?_cons_succ, List.getElem?_cons_zero, Option.getD_some, Value.cells] at hw); (try simp (disch := first | (simp; done) | (simp; omega)) only [Sep.mid_set, Sep.mid_set2, Sep.mid_set0, Sep.mid_splice, Sep.mid_splice0, List.set_cons_zero, List.set_cons_succ] at hw); (try simp only [Sep.splice, List.take_succ_cons, List.take_zero, List.drop_succ_cons, List.drop_zero, List.length_cons, List.length_nil, Nat.reduceAdd, List.cons_append, List.nil_append] at hw)
            go_wp2_with fail
            go_roundw
            case rel => exact ⟨q + 1, c, row, by omega, by go_num, rfl, by have := Hcb.out; omega, fun h => Hst.out h, hw.sel [0, 1, 2] (by decide)⟩
            case measure => simp [intOf]; omega
      · have hb : WM.act ⟨20, c, row⟩ ⟨f0, f1, f2⟩ = ([], false, 0, ⟨20, c, row⟩) := by simp [WM.act, h0, h1, h2, h3]
        go_wp2_with ((with_reducible refine wpList_act (x := ?hx0x135) (y := ?hy0x135) (x1 := ?hx1x135) (x3 := ?hx3x135) (y3 := ?hy3x135) (cap := ?hcpx135) (vs := encA ⟨f0, f1, f2⟩) (q := q) (ad := ad) ti32 agg32 sl22 ?a1x135 ?a2x135 hlt hw (i := 0) ?a3x135 ?a4x135 ?a5x135 (encA_one ⟨f0, f1, f2⟩) Hcell.out ?b0x135 ?c0x135 ?b1x135 ?c1x135 ?d1x135 ?b2x135 ?c2x135 ?b3x135 ?c3x135 ?d3x135 ?f3x135 ?ggx135); (case b0x135 => rfl); (case b1x135 => rfl); (case b2x135 => rfl); (case b3x135 => rfl); (case a1x135 => rfl); (case a2x135 => rfl); (case a3x135 => rfl); (case a4x135 => rfl); (case a5x135 => rfl); (case c0x135 => rfl); (case c1x135 => rfl); (case d1x135 => rfl); (case c2x135 => rfl); (case c3x135 => (intro b; rfl)); (case d3x135 => (intro b; rfl)); (case f3x135 => (intro b; rfl)); intro bd w_ hw_; simp only [encA] at hw_; clear hw; have hw := hw_; clear hw_; (try simp only [List.map_cons, List.map_nil, List.getD_cons_zero, List.getD_cons_succ, List.getD_nil, List.set_cons_zero, List.set_cons_succ, List.cons_append, List.nil_append, Act.eval, Array.getD_eq_getD_getElem?, List.getElem?_toArray, List.getElem?_cons_succ, List.getElem?_cons_zero, Option.getD_some, Value.cells] at hw); (try simp (disch := first | (simp; done) | (simp; omega)) only [Sep.mid_set, Sep.mid_set2, Sep.mid_set0, Sep.mid_splice, Sep.mid_splice0, List.set_cons_zero, List.set_cons_succ] at hw); (try simp only [Sep.splice, List.take_succ_cons, List.take_zero, List.drop_succ_cons, List.drop_zero, List.length_cons, List.length_nil, Nat.reduceAdd, List.cons_append, List.nil_append] at hw); (try replace hc0 := Sep.Holds.cells hw (i := 0) rfl); (try replace hc1 := Sep.Holds.cells hw (i := 1) rfl); (try replace hc2 := Sep.Holds.cells hw (i := 2) rfl); (try replace hc3 := Sep.Holds.cells hw (i := 3) rfl); (try replace hc4 := Sep.Holds.cells hw (i := 4) rfl); (try replace hc5 := Sep.Holds.cells hw (i := 5) rfl); (try replace hc6 := Sep.Holds.cells hw (i := 6) rfl))
        have hdo := fun w X hw => do_calls p ⟨20, c, row⟩ ⟨f0, f1, f2⟩ (Sep.hid Hdok.out) e w X hw
        simp only [hb] at hdo
        refine (hdo _ _ (hw.focus1 1 rfl)).mono ?_
        rintro en_ w_ ⟨v, rfl, hw_⟩
        clear hw; (try clear hc0); (try clear hc1); (try clear hc2); (try clear hc3); (try clear hc4); (try clear hc5); (try clear hc6); have hw := Holds.unfocus1 1 (by simp) hw_; clear hw_ hdo hb
        (try simp only [List.map_cons, List.map_nil, List.getD_cons_zero, List.getD_cons_succ, List.getD_nil, List.set_cons_zero, List.set_cons_succ, List.cons_append, List.nil_append, Act.eval, Array.getD_eq_getD_getElem?, List.getElem?_toArray, List.getElem?_cons_succ, List.getElem?_cons_zero, Option.getD_some, Value.cells] at hw); (try simp (disch := first | (simp; done) | (simp; omega)) only [Sep.mid_set, Sep.mid_set2, Sep.mid_set0, Sep.mid_splice, Sep.mid_splice0, List.set_cons_zero, List.set_cons_succ] at hw); (try simp only [Sep.splice, List.take_succ_cons, List.take_zero, List.drop_succ_cons, List.drop_zero, List.length_cons, List.length_nil, Nat.reduceAdd, List.cons_append, List.nil_append] at hw)
        obtain ⟨ra, rc, rfl⟩ := Sl.value (i := 2) rfl hw
        obtain ⟨va, vc, rfl⟩ := Sl.value (i := 4) rfl hw
        (try replace hc0 := Sep.Holds.cells hw (i := 0) rfl); (try replace hc1 := Sep.Holds.cells hw (i := 1) rfl); (try replace hc2 := Sep.Holds.cells hw (i := 2) rfl); (try replace hc3 := Sep.Holds.cells hw (i := 3) rfl); (try replace hc4 := Sep.Holds.cells hw (i := 4) rfl); (try replace hc5 := Sep.Holds.cells hw (i := 5) rfl); (try replace hc6 := Sep.Holds.cells hw (i := 6) rfl)
        go_wp2_with fail
        by_cases hc0 : c = 0
        · obtain rfl := Hst.out hc0
          subst hc0
          replace hw := hw.sel [0, 1, 2] (by decide)
          (try simp only [List.map_cons, List.map_nil, List.getD_cons_zero, List.getD_cons_succ, List.getD_nil, List.set_cons_zero, List.set_cons_succ, List.cons_append, List.nil_append, Act.eval, Array.getD_eq_getD_getElem?, List.getElem?_toArray, List.getElem?_cons_succ, List.getElem?_cons_zero, Option.getD_some, Value.cells] at hw); (try simp (disch := first | (simp; done) | (simp; omega)) only [Sep.mid_set, Sep.mid_set2, Sep.mid_set0, Sep.mid_splice, Sep.mid_splice0, List.set_cons_zero, List.set_cons_succ] at hw); (try simp only [Sep.splice, List.take_succ_cons, List.take_zero, List.drop_succ_cons, List.drop_zero, List.length_cons, List.length_nil, Nat.reduceAdd, List.cons_append, List.nil_append] at hw)
          (try clear hc0); (try clear hc1); (try clear hc2); (try clear hc3); (try clear hc4); (try clear hc5); (try clear hc6)
          have Hl2 : Hid (([]).length ≤ 1000) := Sep.hid (waits_len (i := 1) (M := ⟨20, 0, []⟩) rfl hw)
          refine (oCount p ⟨20, 0, []⟩ e _ _ (hw.focus1 1 rfl)).mono ?_
          rintro en_ w_ ⟨rfl, rfl⟩
          go_wp2_with fail
          refine (oWaiting p ⟨20, 0, []⟩ e _ _ (hw.focus1 1 rfl)).mono ?_
          rintro en_ w_ ⟨vw, rfl, hw_⟩
          clear hw; (try clear hc0); (try clear hc1); (try clear hc2); (try clear hc3); (try clear hc4); (try clear hc5); (try clear hc6); have hw := Holds.unfocus1 1 (by simp) hw_; clear hw_
          (try simp only [List.map_cons, List.map_nil, List.getD_cons_zero, List.getD_cons_succ, List.getD_nil, List.set_cons_zero, List.set_cons_succ, List.cons_append, List.nil_append, Act.eval, Array.getD_eq_getD_getElem?, List.getElem?_toArray, List.getElem?_cons_succ, List.getElem?_cons_zero, Option.getD_some, Value.cells] at hw); (try simp (disch := first | (simp; done) | (simp; omega)) only [Sep.mid_set, Sep.mid_set2, Sep.mid_set0, Sep.mid_splice, Sep.mid_splice0, List.set_cons_zero, List.set_cons_succ] at hw); (try simp only [Sep.splice, List.take_succ_cons, List.take_zero, List.drop_succ_cons, List.drop_zero, List.length_cons, List.length_nil, Nat.reduceAdd, List.cons_append, List.nil_append] at hw)
          go_wp2_with fail
          refine (same_calls _ _ [] [] (by have := Hl2.out; omega) e _ _ (hw.focus2 3 2 rfl rfl (by decide))).mono ?_
          rintro en_ w_ ⟨he_, hw_⟩
          rw [decide_eq_true rfl] at he_; subst he_
          clear hw; have hw := Holds.unfocus2 3 2 (by simp) (by simp) (by decide) hw_; clear hw_
          (try simp only [List.map_cons, List.map_nil, List.getD_cons_zero, List.getD_cons_succ, List.getD_nil, List.set_cons_zero, List.set_cons_succ, List.cons_append, List.nil_append, Act.eval, Array.getD_eq_getD_getElem?, List.getElem?_toArray, List.getElem?_cons_succ, List.getElem?_cons_zero, Option.getD_some, Value.cells] at hw); (try simp (disch := first | (simp; done) | (simp; omega)) only [Sep.mid_set, Sep.mid_set2, Sep.mid_set0, Sep.mid_splice, Sep.mid_splice0, List.set_cons_zero, List.set_cons_succ] at hw); (try simp only [Sep.splice, List.take_succ_cons, List.take_zero, List.drop_succ_cons, List.drop_zero, List.length_cons, List.length_nil, Nat.reduceAdd, List.cons_append, List.nil_append] at hw)
          go_wp2_with fail
          go_roundw
          case rel => exact ⟨q + 1, 0, [], by omega, by go_num, rfl, by omega, fun _ => rfl, hw.sel [0, 1, 2] (by decide)⟩
          case measure => simp [intOf]; omega
        · have hcq : (c == 0) = false := by simpa using hc0
          replace hw := hw.sel [0, 1, 2] (by decide)
          (try simp only [List.map_cons, List.map_nil, List.getD_cons_zero, List.getD_cons_succ, List.getD_nil, List.set_cons_zero, List.set_cons_succ, List.cons_append, List.nil_append, Act.eval, Array.getD_eq_getD_getElem?, List.getElem?_toArray, List.getElem?_cons_succ, List.getElem?_cons_zero, Option.getD_some, Value.cells] at hw); (try simp (disch := first | (simp; done) | (simp; omega)) only [Sep.mid_set, Sep.mid_set2, Sep.mid_set0, Sep.mid_splice, Sep.mid_splice0, List.set_cons_zero, List.set_cons_succ] at hw); (try simp only [Sep.splice, List.take_succ_cons, List.take_zero, List.drop_succ_cons, List.drop_zero, List.length_cons, List.length_nil, Nat.reduceAdd, List.cons_append, List.nil_append] at hw)
          (try clear hc0); (try clear hc1); (try clear hc2); (try clear hc3); (try clear hc4); (try clear hc5); (try clear hc6)
          have Hl2 : Hid ((row).length ≤ 1000) := Sep.hid (waits_len (i := 1) (M := ⟨20, c, row⟩) rfl hw)
          refine (oCount p ⟨20, c, row⟩ e _ _ (hw.focus1 1 rfl)).mono ?_
          rintro en_ w_ ⟨rfl, rfl⟩
          go_wp2_with fail
          refine (oWaiting p ⟨20, c, row⟩ e _ _ (hw.focus1 1 rfl)).mono ?_
          rintro en_ w_ ⟨vw, rfl, hw_⟩
          clear hw; (try clear hc0); (try clear hc1); (try clear hc2); (try clear hc3); (try clear hc4); (try clear hc5); (try clear hc6); have hw := Holds.unfocus1 1 (by simp) hw_; clear hw_
          (try simp only [List.map_cons, List.map_nil, List.getD_cons_zero, List.getD_cons_succ, List.getD_nil, List.set_cons_zero, List.set_cons_succ, List.cons_append, List.nil_append, Act.eval, Array.getD_eq_getD_getElem?, List.getElem?_toArray, List.getElem?_cons_succ, List.getElem?_cons_zero, Option.getD_some, Value.cells] at hw); (try simp (disch := first | (simp; done) | (simp; omega)) only [Sep.mid_set, Sep.mid_set2, Sep.mid_set0, Sep.mid_splice, Sep.mid_splice0, List.set_cons_zero, List.set_cons_succ] at hw); (try simp only [Sep.splice, List.take_succ_cons, List.take_zero, List.drop_succ_cons, List.drop_zero, List.length_cons, List.length_nil, Nat.reduceAdd, List.cons_append, List.nil_append] at hw)
          go_wp2_with fail
          refine (same_calls _ _ row row (by have := Hl2.out; omega) e _ _ (hw.focus2 3 2 rfl rfl (by decide))).mono ?_
          rintro en_ w_ ⟨he_, hw_⟩
          rw [decide_eq_true rfl] at he_; subst he_
          clear hw; have hw := Holds.unfocus2 3 2 (by simp) (by simp) (by decide) hw_; clear hw_
          (try simp only [List.map_cons, List.map_nil, List.getD_cons_zero, List.getD_cons_succ, List.getD_nil, List.set_cons_zero, List.set_cons_succ, List.cons_append, List.nil_append, Act.eval, Array.getD_eq_getD_getElem?, List.getElem?_toArray, List.getElem?_cons_succ, List.getElem?_cons_zero, Option.getD_some, Value.cells] at hw); (try simp (disch := first | (simp; done) | (simp; omega)) only [Sep.mid_set, Sep.mid_set2, Sep.mid_set0, Sep.mid_splice, Sep.mid_splice0, List.set_cons_zero, List.set_cons_succ] at hw); (try simp only [Sep.splice, List.take_succ_cons, List.take_zero, List.drop_succ_cons, List.drop_zero, List.length_cons, List.length_nil, Nat.reduceAdd, List.cons_append, List.nil_append] at hw)
          go_wp2_with fail
          go_roundw
          case rel => exact ⟨q + 1, c, row, by omega, by go_num, rfl, by have := Hcb.out; omega, fun h => Hst.out h, hw.sel [0, 1, 2] (by decide)⟩
          case measure => simp [intOf]; omega
    · go_wp2_with fail
      exact HP.out _ _ ⟨rfl, hw.sel [0] (by decide)⟩
end Go.Proofs.Ytfbdlpgmoinmbaa
