/-
  FlightDoes: the walk.
-/
import Derived.Test.YtecdkajhcglpdaaFlRJ
import Derived.Deep.CutBlock
import Derived.Deep.DeepCutAuto
namespace Go.Proofs.Ytecdkajhcglpdaa
set_option linter.unusedSimpArgs false
set_option linter.unusedVariables false
open Go.RowKit Go.Sep Go.RingM

theorem act_short (M : FM) (h : M.Ok) (hro : RowsOk M.n M.rows) (d : Deed) : (M.act d).2.2.1.length ≤ 1000000 := by
  have hr : ∀ (u : Nat) (l : List Int), M.rows[u]? = some l → l.length ≤ 1000000 := fun u l hl => by
    have := rowsLen hro (List.mem_of_getElem? hl)
    have := hro.n2
    omega
  rcases act_cases M h d with ⟨y, x, hx, hc⟩ | ⟨u, l, h0, hc1, hc2, hc3, hc⟩ | ⟨h0, hc1, hc⟩ | ⟨key, u, l, h0, hd1, hk, hl, hc⟩ | ⟨h0, hc⟩ | ⟨h0, hc⟩ | ⟨h0, hc⟩ | ⟨h0, h1, h2, h3, hc⟩
  all_goals rw [hc]
  all_goals first | exact hr _ _ hl | exact Nat.zero_le _
theorem fl_close {e w : World} {A B : HProp} {s n rl rcap : Nat} {ra : Option Addr} {cs : List CallV} {vs : List Value} (hrl : cs.length = rl) (hvl : vs.length = cs.length)
    (hw : Holds e w [A, B, pt s [.slice ra rl rcap, .int .i64 (n : Int)] 47, Sl 44 4 (.slice ra rl rcap) rl (encCs cs vs), sepL (joinedOf vs cs)]) : Holds e w [A, B, IsRF s n cs] := by
  subst hrl
  have h2 : Holds e w [sepL [A, B], pt s [.slice ra cs.length rcap, .int .i64 (n : Int)] 47, Sl 44 4 (.slice ra cs.length rcap) cs.length (encCs cs vs), sepL (joinedOf vs cs)] := Holds.group [A, B] _ hw
  have h3 : Holds e w [sepL [A, B], IsRF s n cs] := exL.mk (f := rfParts s n cs) ⟨ra, rcap, vs⟩ (h2.addFct hvl)
  exact Holds.ungroup [A, B] _ h3
set_option maxRecDepth 20000 in
set_option maxHeartbeats 40000000 in
theorem flight_does_walk (e : World) (n0 : Int) (hn0 : Hid (-9223372036854775808 ≤ n0 ∧ n0 ≤ 9223372036854775807)) (a1 : Option Addr) (cap1 : Nat) (l1 : List Deed) (hl1 : Hid (ActsAt e a1 l1)) (hlen1 : l1.length ≤ 9223372036854775807) :
    Calls Try.prog 3 #[.int .i64 n0, .slice a1 l1.length cap1] e fun en w' => en = .returned (.bool true) ∧ Holds e w' [Old e] := by
  have hw := Holds.start e
  by_cases hwide : 12 < n0 ∧ n0 ≤ 1000
  · obtain ⟨hw1, hw2⟩ := hwide
    refine Sep.calls_post ?_
    intro Post_ hPost_
    have HP := Sep.hid hPost_
    clear hPost_
    go_enter Try.func3, Try.ntmps3
    go_wp2_with fail
    refine (awake_calls e _ _ hw.focus0).mono ?_
    rintro en_ w_ ⟨rfl, hw_⟩
    clear hw; (try clear hc0); (try clear hc1); (try clear hc2); (try clear hc3); (try clear hc4); (try clear hc5); (try clear hc6); have hw := Holds.unfocus0 hw_; clear hw_
    (try simp only [List.map_cons, List.map_nil, List.getD_cons_zero, List.getD_cons_succ, List.getD_nil, List.set_cons_zero, List.set_cons_succ, List.cons_append, List.nil_append, Act.eval, Array.getD_eq_getD_getElem?, List.getElem?_toArray, List.getElem?_cons_succ, List.getElem?_cons_zero, Option.getD_some, Value.cells] at hw); (try simp (disch := first | (simp; done) | (simp; omega)) only [Sep.mid_set, Sep.mid_set2, Sep.mid_set0, Sep.mid_splice, Sep.mid_splice0, List.set_cons_zero, List.set_cons_succ] at hw); (try simp only [Sep.splice, List.take_succ_cons, List.take_zero, List.drop_succ_cons, List.drop_zero, List.length_cons, List.length_nil, Nat.reduceAdd, List.cons_append, List.nil_append] at hw)
    go_wp2_with fail
    exact HP.out _ _ ⟨rfl, hw.sel [0] (by decide)⟩
  by_cases hlong : (100 : Int) < l1.length
  · by_cases h12 : n0 ≤ 12
    · clear hwide
      refine Sep.calls_post ?_
      intro Post_ hPost_
      have HP := Sep.hid hPost_
      clear hPost_
      go_enter Try.func3, Try.ntmps3
      go_wp2_with fail
      refine (awake_calls e _ _ hw.focus0).mono ?_
      rintro en_ w_ ⟨rfl, hw_⟩
      clear hw; (try clear hc0); (try clear hc1); (try clear hc2); (try clear hc3); (try clear hc4); (try clear hc5); (try clear hc6); have hw := Holds.unfocus0 hw_; clear hw_
      (try simp only [List.map_cons, List.map_nil, List.getD_cons_zero, List.getD_cons_succ, List.getD_nil, List.set_cons_zero, List.set_cons_succ, List.cons_append, List.nil_append, Act.eval, Array.getD_eq_getD_getElem?, List.getElem?_toArray, List.getElem?_cons_succ, List.getElem?_cons_zero, Option.getD_some, Value.cells] at hw); (try simp (disch := first | (simp; done) | (simp; omega)) only [Sep.mid_set, Sep.mid_set2, Sep.mid_set0, Sep.mid_splice, Sep.mid_splice0, List.set_cons_zero, List.set_cons_succ] at hw); (try simp only [Sep.splice, List.take_succ_cons, List.take_zero, List.drop_succ_cons, List.drop_zero, List.length_cons, List.length_nil, Nat.reduceAdd, List.cons_append, List.nil_append] at hw)
      go_wp2_with fail
      exact HP.out _ _ ⟨rfl, hw.sel [0] (by decide)⟩
    · have h13 : (12 : Int) < n0 := by omega
      have h14 : ¬ n0 ≤ 1000 := fun h => hwide ⟨h13, h⟩
      clear hwide h12
      refine Sep.calls_post ?_
      intro Post_ hPost_
      have HP := Sep.hid hPost_
      clear hPost_
      go_enter Try.func3, Try.ntmps3
      go_wp2_with fail
      refine (awake_calls e _ _ hw.focus0).mono ?_
      rintro en_ w_ ⟨rfl, hw_⟩
      clear hw; (try clear hc0); (try clear hc1); (try clear hc2); (try clear hc3); (try clear hc4); (try clear hc5); (try clear hc6); have hw := Holds.unfocus0 hw_; clear hw_
      (try simp only [List.map_cons, List.map_nil, List.getD_cons_zero, List.getD_cons_succ, List.getD_nil, List.set_cons_zero, List.set_cons_succ, List.cons_append, List.nil_append, Act.eval, Array.getD_eq_getD_getElem?, List.getElem?_toArray, List.getElem?_cons_succ, List.getElem?_cons_zero, Option.getD_some, Value.cells] at hw); (try simp (disch := first | (simp; done) | (simp; omega)) only [Sep.mid_set, Sep.mid_set2, Sep.mid_set0, Sep.mid_splice, Sep.mid_splice0, List.set_cons_zero, List.set_cons_succ] at hw); (try simp only [Sep.splice, List.take_succ_cons, List.take_zero, List.drop_succ_cons, List.drop_zero, List.length_cons, List.length_nil, Nat.reduceAdd, List.cons_append, List.nil_append] at hw)
      go_wp2_with fail
      exact HP.out _ _ ⟨rfl, hw.sel [0] (by decide)⟩
  by_cases hbad : n0 < 1 ∨ 1000 < n0
  · have Hbad := Sep.hid hbad
    have h12 : n0 ≤ 12 ∨ ((12 : Int) < n0 ∧ ¬ n0 ≤ 1000) := by omega
    clear hbad hwide
    rcases h12 with h12 | ⟨h12, h13⟩
    · refine Sep.calls_post ?_
      intro Post_ hPost_
      have HP := Sep.hid hPost_
      clear hPost_
      go_enter Try.func3, Try.ntmps3
      go_wp2_with fail
      refine (awake_calls e _ _ hw.focus0).mono ?_
      rintro en_ w_ ⟨rfl, hw_⟩
      clear hw; (try clear hc0); (try clear hc1); (try clear hc2); (try clear hc3); (try clear hc4); (try clear hc5); (try clear hc6); have hw := Holds.unfocus0 hw_; clear hw_
      (try simp only [List.map_cons, List.map_nil, List.getD_cons_zero, List.getD_cons_succ, List.getD_nil, List.set_cons_zero, List.set_cons_succ, List.cons_append, List.nil_append, Act.eval, Array.getD_eq_getD_getElem?, List.getElem?_toArray, List.getElem?_cons_succ, List.getElem?_cons_zero, Option.getD_some, Value.cells] at hw); (try simp (disch := first | (simp; done) | (simp; omega)) only [Sep.mid_set, Sep.mid_set2, Sep.mid_set0, Sep.mid_splice, Sep.mid_splice0, List.set_cons_zero, List.set_cons_succ] at hw); (try simp only [Sep.splice, List.take_succ_cons, List.take_zero, List.drop_succ_cons, List.drop_zero, List.length_cons, List.length_nil, Nat.reduceAdd, List.cons_append, List.nil_append] at hw)
      go_wp2_with fail
      refine (oNew_no n0 Hbad.out _).mono ?_
      rintro _ w_ ⟨rfl, rfl⟩
      go_wp2_with fail
      refine (rfNew_no n0 Hbad.out _).mono ?_
      rintro _ w_ ⟨rfl, rfl⟩
      go_wp2_with fail
      exact HP.out _ _ ⟨rfl, hw.sel [0] (by decide)⟩
    · refine Sep.calls_post ?_
      intro Post_ hPost_
      have HP := Sep.hid hPost_
      clear hPost_
      go_enter Try.func3, Try.ntmps3
      go_wp2_with fail
      refine (awake_calls e _ _ hw.focus0).mono ?_
      rintro en_ w_ ⟨rfl, hw_⟩
      clear hw; (try clear hc0); (try clear hc1); (try clear hc2); (try clear hc3); (try clear hc4); (try clear hc5); (try clear hc6); have hw := Holds.unfocus0 hw_; clear hw_
      (try simp only [List.map_cons, List.map_nil, List.getD_cons_zero, List.getD_cons_succ, List.getD_nil, List.set_cons_zero, List.set_cons_succ, List.cons_append, List.nil_append, Act.eval, Array.getD_eq_getD_getElem?, List.getElem?_toArray, List.getElem?_cons_succ, List.getElem?_cons_zero, Option.getD_some, Value.cells] at hw); (try simp (disch := first | (simp; done) | (simp; omega)) only [Sep.mid_set, Sep.mid_set2, Sep.mid_set0, Sep.mid_splice, Sep.mid_splice0, List.set_cons_zero, List.set_cons_succ] at hw); (try simp only [Sep.splice, List.take_succ_cons, List.take_zero, List.drop_succ_cons, List.drop_zero, List.length_cons, List.length_nil, Nat.reduceAdd, List.cons_append, List.nil_append] at hw)
      go_wp2_with fail
      refine (oNew_no n0 Hbad.out _).mono ?_
      rintro _ w_ ⟨rfl, rfl⟩
      go_wp2_with fail
      refine (rfNew_no n0 Hbad.out _).mono ?_
      rintro _ w_ ⟨rfl, rfl⟩
      go_wp2_with fail
      exact HP.out _ _ ⟨rfl, hw.sel [0] (by decide)⟩
  obtain ⟨n, rfl⟩ : ∃ n : Nat, n0 = (n : Int) := ⟨n0.toNat, by omega⟩
  have n1 : 1 ≤ n := by omega
  have n12 : n ≤ 12 := by omega
  clear hbad hwide hn0
  generalize hlen' : l1.length = len at *
  have Hlen := Sep.hid hlen'; clear hlen'
  have hlong2 : len ≤ 100 := by omega
  refine Sep.calls_post ?_
  intro Post_ hPost_
  have HP := Sep.hid hPost_
  clear hPost_
  go_enter Try.func3, Try.ntmps3
  go_wp2_with fail
  refine (awake_calls e _ _ hw.focus0).mono ?_
  rintro en_ w_ ⟨rfl, hw_⟩
  clear hw; (try clear hc0); (try clear hc1); (try clear hc2); (try clear hc3); (try clear hc4); (try clear hc5); (try clear hc6); have hw := Holds.unfocus0 hw_; clear hw_
  (try simp only [List.map_cons, List.map_nil, List.getD_cons_zero, List.getD_cons_succ, List.getD_nil, List.set_cons_zero, List.set_cons_succ, List.cons_append, List.nil_append, Act.eval, Array.getD_eq_getD_getElem?, List.getElem?_toArray, List.getElem?_cons_succ, List.getElem?_cons_zero, Option.getD_some, Value.cells] at hw); (try simp (disch := first | (simp; done) | (simp; omega)) only [Sep.mid_set, Sep.mid_set2, Sep.mid_set0, Sep.mid_splice, Sep.mid_splice0, List.set_cons_zero, List.set_cons_succ] at hw); (try simp only [Sep.splice, List.take_succ_cons, List.take_zero, List.drop_succ_cons, List.drop_zero, List.length_cons, List.length_nil, Nat.reduceAdd, List.cons_append, List.nil_append] at hw)
  go_wp2_with fail
  refine (oNew_ok n n1 (by omega) e _ _ hw.focus0).mono ?_
  rintro en_ w_ ⟨p, rfl, hw_⟩
  clear hw; have hw := Holds.unfocus0 hw_; clear hw_
  (try simp only [List.map_cons, List.map_nil, List.getD_cons_zero, List.getD_cons_succ, List.getD_nil, List.set_cons_zero, List.set_cons_succ, List.cons_append, List.nil_append, Act.eval, Array.getD_eq_getD_getElem?, List.getElem?_toArray, List.getElem?_cons_succ, List.getElem?_cons_zero, Option.getD_some, Value.cells] at hw); (try simp (disch := first | (simp; done) | (simp; omega)) only [Sep.mid_set, Sep.mid_set2, Sep.mid_set0, Sep.mid_splice, Sep.mid_splice0, List.set_cons_zero, List.set_cons_succ] at hw); (try simp only [Sep.splice, List.take_succ_cons, List.take_zero, List.drop_succ_cons, List.drop_zero, List.length_cons, List.length_nil, Nat.reduceAdd, List.cons_append, List.nil_append] at hw)
  go_wp2_with fail
  refine (rfNew_ok n n1 (by omega) e _ _ hw.focus0).mono ?_
  rintro en_ w_ ⟨s, rfl, hw_⟩
  clear hw; have hw := Holds.unfocus0 hw_; clear hw_
  (try simp only [List.map_cons, List.map_nil, List.getD_cons_zero, List.getD_cons_succ, List.getD_nil, List.set_cons_zero, List.set_cons_succ, List.cons_append, List.nil_append, Act.eval, Array.getD_eq_getD_getElem?, List.getElem?_toArray, List.getElem?_cons_succ, List.getElem?_cons_zero, Option.getD_some, Value.cells] at hw); (try simp (disch := first | (simp; done) | (simp; omega)) only [Sep.mid_set, Sep.mid_set2, Sep.mid_set0, Sep.mid_splice, Sep.mid_splice0, List.set_cons_zero, List.set_cons_succ] at hw); (try simp only [Sep.splice, List.take_succ_cons, List.take_zero, List.drop_succ_cons, List.drop_zero, List.length_cons, List.length_nil, Nat.reduceAdd, List.cons_append, List.nil_append] at hw)
  go_wp2_with fail
  have Hw0 := Sep.hid hw; clear hw
  (try clear hc0); (try clear hc1); (try clear hc2); (try clear hc3); (try clear hc4); (try clear hc5); (try clear hc6)
  go_loopw [65] (fun i wr => ∃ (q : Nat) (M : FM) (cs : List CallV), q ≤ len ∧ i = .int .i64 q ∧ Hid (M.n = n ∧ Rel M cs ∧ cs.length ≤ q) ∧ Holds e wr [Old e, IsFlight p M, IsRF s n cs]) (fun i _ => len - (intOf i).toNat)
  case atStart => exact ⟨0, ⟨n, List.replicate n [], fun _ => none, fun _ => none⟩, [], Nat.zero_le _, rfl, Sep.hid ⟨rfl, Rel.new n, Nat.le_refl _⟩, Hw0.out⟩
  case round =>
    clear Hw0
    obtain ⟨q, M, cs, hq, rfl, Hrel, hw⟩ := hrel
    by_cases hlt : q < len
    · obtain ⟨d, hd⟩ : ∃ d, l1[q]? = some d := ⟨_, List.getElem?_eq_getElem (by rw [Hlen.out]; exact hlt)⟩
      obtain ⟨hdok, ad, rfl, hcell⟩ := hl1.out q d hd
      have Hcell := Sep.hid hcell; clear hcell hd hdok
      have Hok := Sep.hid (fl_ok (i := 1) rfl hw)
      have Hcl : Hid (cs.length ≤ 100000) := Sep.hid (by have := Hrel.out.2.2; omega)
      obtain ⟨x1, x2, lv, x4, M', hb⟩ : ∃ x1 x2 lv x4 M', M.act d = (x1, x2, lv, x4, M') := ⟨_, _, _, _, _, rfl⟩
      have Hb := Sep.hid hb; clear hb
      have Hn' : Hid (M'.n = n) := Sep.hid (by have h := act_n M d; rw [Hb.out] at h; exact h.trans Hrel.out.1)
      go_wp2_with (first | ((with_reducible refine wpList_act (x := ?hx0x16) (y := ?hy0x16) (x1 := ?hx1x16) (x3 := ?hx3x16) (y3 := ?hy3x16) (cap := ?hcpx16) (vs := encA d) (q := q) (ad := ad) ti32 agg32 sl22 ?a1x16 ?a2x16 hlt hw (i := 0) ?a3x16 ?a4x16 ?a5x16 (encA_one d) Hcell.out ?b0x16 ?c0x16 ?b1x16 ?c1x16 ?d1x16 ?b2x16 ?c2x16 ?b3x16 ?c3x16 ?d3x16 ?f3x16 ?ggx16); (case b0x16 => rfl); (case b1x16 => rfl); (case b2x16 => rfl); (case b3x16 => rfl); (case a1x16 => rfl); (case a2x16 => rfl); (case a3x16 => rfl); (case a4x16 => rfl); (case a5x16 => rfl); (case c0x16 => rfl); (case c1x16 => rfl); (case d1x16 => rfl); (case c2x16 => rfl); (case c3x16 => (intro b; rfl)); (case d3x16 => (intro b; rfl)); (case f3x16 => (intro b; rfl)); intro bd w_ hw_; clear hw; have hw := hw_; clear hw_; (try simp only [List.map_cons, List.map_nil, List.getD_cons_zero, List.getD_cons_succ, List.getD_nil, List.set_cons_zero, List.set_cons_succ, List.cons_append, List.nil_append, Act.eval, Array.getD_eq_getD_getElem?, List.getElem?_toArray, List.getElem?_cons_succ, List.getElem?_cons_zero, Option.getD_some, Value.cells] at hw); (try simp (disch := first | (simp; done) | (simp; omega)) only [Sep.mid_set, Sep.mid_set2, Sep.mid_set0, Sep.mid_splice, Sep.mid_splice0, List.set_cons_zero, List.set_cons_succ] at hw); (try simp only [Sep.splice, List.take_succ_cons, List.take_zero, List.drop_succ_cons, List.drop_zero, List.length_cons, List.length_nil, Nat.reduceAdd, List.cons_append, List.nil_append] at hw); (try replace hc0 := Sep.Holds.cells hw (i := 0) rfl); (try replace hc1 := Sep.Holds.cells hw (i := 1) rfl); (try replace hc2 := Sep.Holds.cells hw (i := 2) rfl); (try replace hc3 := Sep.Holds.cells hw (i := 3) rfl); (try replace hc4 := Sep.Holds.cells hw (i := 4) rfl); (try replace hc5 := Sep.Holds.cells hw (i := 5) rfl); (try replace hc6 := Sep.Holds.cells hw (i := 6) rfl)) | (refine wpList_on rfl (wp_loadN (vs := encA d) rfl rfl hw (i := 3) rfl rfl (by intro j v hj; simpa using hj) ?_)))
      have hdo := fun w X hw => do_calls p M d e w X hw
      simp only [Hb.out] at hdo
      refine (hdo _ _ (hw.focus1 1 rfl)).mono ?_
      rintro en_ w_ ⟨v, rfl, hw_⟩
      clear hw; (try clear hc0); (try clear hc1); (try clear hc2); (try clear hc3); (try clear hc4); (try clear hc5); (try clear hc6); have hw := Holds.unfocus1 1 (by simp) hw_; clear hw_ hdo
      have hA : encA d = [.int .i64 d.f0, .int .i64 d.f1, .int .i64 d.f2] := rfl
      rw [hA] at hw; clear hA
      (try simp only [List.map_cons, List.map_nil, List.getD_cons_zero, List.getD_cons_succ, List.getD_nil, List.set_cons_zero, List.set_cons_succ, List.cons_append, List.nil_append, Act.eval, Array.getD_eq_getD_getElem?, List.getElem?_toArray, List.getElem?_cons_succ, List.getElem?_cons_zero, Option.getD_some, Value.cells] at hw); (try simp (disch := first | (simp; done) | (simp; omega)) only [Sep.mid_set, Sep.mid_set2, Sep.mid_set0, Sep.mid_splice, Sep.mid_splice0, List.set_cons_zero, List.set_cons_succ] at hw); (try simp only [Sep.splice, List.take_succ_cons, List.take_zero, List.drop_succ_cons, List.drop_zero, List.length_cons, List.length_nil, Nat.reduceAdd, List.cons_append, List.nil_append] at hw)
      (try replace hc0 := Sep.Holds.cells hw (i := 0) rfl); (try replace hc1 := Sep.Holds.cells hw (i := 1) rfl); (try replace hc2 := Sep.Holds.cells hw (i := 2) rfl); (try replace hc3 := Sep.Holds.cells hw (i := 3) rfl); (try replace hc4 := Sep.Holds.cells hw (i := 4) rfl); (try replace hc5 := Sep.Holds.cells hw (i := 5) rfl); (try replace hc6 := Sep.Holds.cells hw (i := 6) rfl)
      go_upto_block 2 with (refine wpList_on rfl (wp_bsl0 rfl hw ?_); intro b_ w_ hw_; replace hw_ := hw_.newSl (i := 5) rfl 1 0 rfl (by decide); clear hw; have hw := hw_; clear hw_; (try simp only [List.map_cons, List.map_nil, List.getD_cons_zero, List.getD_cons_succ, List.getD_nil, List.set_cons_zero, List.set_cons_succ, List.cons_append, List.nil_append, Act.eval, Array.getD_eq_getD_getElem?, List.getElem?_toArray, List.getElem?_cons_succ, List.getElem?_cons_zero, Option.getD_some, Value.cells] at hw); (try simp (disch := first | (simp; done) | (simp; omega)) only [Sep.mid_set, Sep.mid_set2, Sep.mid_set0, Sep.mid_splice, Sep.mid_splice0, List.set_cons_zero, List.set_cons_succ] at hw); (try simp only [Sep.splice, List.take_succ_cons, List.take_zero, List.drop_succ_cons, List.drop_zero, List.length_cons, List.length_nil, Nat.reduceAdd, List.cons_append, List.nil_append] at hw); (try replace hc0 := Sep.Holds.cells hw (i := 0) rfl); (try replace hc1 := Sep.Holds.cells hw (i := 1) rfl); (try replace hc2 := Sep.Holds.cells hw (i := 2) rfl); (try replace hc3 := Sep.Holds.cells hw (i := 3) rfl); (try replace hc4 := Sep.Holds.cells hw (i := 4) rfl); (try replace hc5 := Sep.Holds.cells hw (i := 5) rfl); (try replace hc6 := Sep.Holds.cells hw (i := 6) rfl))
      go_cut [15, 16, 17, 18] from 66 to 211 (fun m was want i wx => ∃ cs' : List CallV, (m = .int .i64 x1 ∧ was = .bool x2 ∧ i = .int .i64 x4) ∧ Hid (Rel M' cs' ∧ cs'.length ≤ q + 1) ∧ Holds e wx [Old e, IsFlight p M', IsRF s n cs', pt bd [.int .i64 d.f0, .int .i64 d.f1, .int .i64 d.f2] 32, IsInts v lv, IsInts want lv])
      case first =>
        as_aux_lemma =>
        by_cases h0 : d.f0 = 0
        · have hb : M.act d = ((M.ask d.f1 d.f2).1, false, [], (M.ask d.f1 d.f2).2.1, (M.ask d.f1 d.f2).2.2) := by unfold FM.act; rw [if_pos h0]
          rw [Hb.out] at hb
          injection hb with c1 hb
          injection hb with c2 hb
          injection hb with c3 hb
          injection hb with c4 c5
          subst c1 c2 c3 c4 c5
          clear Hb
          have hcall := fun w X hw => rDo s M cs d.f1 d.f2 Hrel.out.2.1 Hok.out.2 Hok.out.1 Hcl.out e w X hw
          unfold Good at hcall
          simp only [Hrel.out.1, Hn'.out] at hcall
          go_wp2_with fail
          refine (hcall _ _ (hw.focus1 2 rfl)).mono ?_
          rintro _ w_ ⟨rfl, cs', g1, g2, hw_⟩
          have G := Sep.hid (⟨g1, g2⟩ : _ ∧ _)
          clear g1 g2
          clear hw; (try clear hc0); (try clear hc1); (try clear hc2); (try clear hc3); (try clear hc4); (try clear hc5); (try clear hc6); have hw := Holds.unfocus1 2 (by simp) hw_; clear hw_ hcall
          (try simp only [List.map_cons, List.map_nil, List.getD_cons_zero, List.getD_cons_succ, List.getD_nil, List.set_cons_zero, List.set_cons_succ, List.cons_append, List.nil_append, Act.eval, Array.getD_eq_getD_getElem?, List.getElem?_toArray, List.getElem?_cons_succ, List.getElem?_cons_zero, Option.getD_some, Value.cells] at hw); (try simp (disch := first | (simp; done) | (simp; omega)) only [Sep.mid_set, Sep.mid_set2, Sep.mid_set0, Sep.mid_splice, Sep.mid_splice0, List.set_cons_zero, List.set_cons_succ] at hw); (try simp only [Sep.splice, List.take_succ_cons, List.take_zero, List.drop_succ_cons, List.drop_zero, List.length_cons, List.length_nil, Nat.reduceAdd, List.cons_append, List.nil_append] at hw)
          (try replace hc0 := Sep.Holds.cells hw (i := 0) rfl); (try replace hc1 := Sep.Holds.cells hw (i := 1) rfl); (try replace hc2 := Sep.Holds.cells hw (i := 2) rfl); (try replace hc3 := Sep.Holds.cells hw (i := 3) rfl); (try replace hc4 := Sep.Holds.cells hw (i := 4) rfl); (try replace hc5 := Sep.Holds.cells hw (i := 5) rfl); (try replace hc6 := Sep.Holds.cells hw (i := 6) rfl)
          go_wp2_with fail
          go_meet
          exact ⟨cs', ⟨rfl, rfl, rfl⟩, Sep.hid ⟨G.out.1, by have := G.out.2; have := Hrel.out.2.2; omega⟩, hw⟩
        by_cases h1 : d.f0 = 1
        · have hb : M.act d = (0, false, (M.fin d.f1).1, (M.fin d.f1).2.1, (M.fin d.f1).2.2) := by unfold FM.act; rw [if_neg h0, if_pos h1]
          clear h0
          rw [Hb.out] at hb
          injection hb with c1 hb
          injection hb with c2 hb
          injection hb with c3 hb
          injection hb with c4 c5
          subst c1 c2 c3 c4 c5
          clear Hb
          have hcall := fun w X hw => rFin s M cs d.f1 Hrel.out.2.1 Hok.out.2 Hcl.out e w X hw
          simp only [Hrel.out.1, Hn'.out] at hcall
          go_wp2_with fail
          refine (hcall _ _ (hw.focus1 2 rfl)).mono ?_
          rintro _ w_ ⟨v2, rfl, cs', g1, g2, hw_⟩
          have G := Sep.hid (⟨g1, g2⟩ : _ ∧ _)
          clear g1 g2
          clear hw; (try clear hc0); (try clear hc1); (try clear hc2); (try clear hc3); (try clear hc4); (try clear hc5); (try clear hc6); have hw := Holds.unfocus1 2 (by simp) hw_; clear hw_ hcall
          (try simp only [List.map_cons, List.map_nil, List.getD_cons_zero, List.getD_cons_succ, List.getD_nil, List.set_cons_zero, List.set_cons_succ, List.cons_append, List.nil_append, Act.eval, Array.getD_eq_getD_getElem?, List.getElem?_toArray, List.getElem?_cons_succ, List.getElem?_cons_zero, Option.getD_some, Value.cells] at hw); (try simp (disch := first | (simp; done) | (simp; omega)) only [Sep.mid_set, Sep.mid_set2, Sep.mid_set0, Sep.mid_splice, Sep.mid_splice0, List.set_cons_zero, List.set_cons_succ] at hw); (try simp only [Sep.splice, List.take_succ_cons, List.take_zero, List.drop_succ_cons, List.drop_zero, List.length_cons, List.length_nil, Nat.reduceAdd, List.cons_append, List.nil_append] at hw)
          (try replace hc0 := Sep.Holds.cells hw (i := 0) rfl); (try replace hc1 := Sep.Holds.cells hw (i := 1) rfl); (try replace hc2 := Sep.Holds.cells hw (i := 2) rfl); (try replace hc3 := Sep.Holds.cells hw (i := 3) rfl); (try replace hc4 := Sep.Holds.cells hw (i := 4) rfl); (try replace hc5 := Sep.Holds.cells hw (i := 5) rfl); (try replace hc6 := Sep.Holds.cells hw (i := 6) rfl)
          go_wp2_with fail
          go_meet
          exact ⟨cs', ⟨rfl, rfl, rfl⟩, Sep.hid ⟨G.out.1, by have := G.out.2; have := Hrel.out.2.2; omega⟩, hw.sel [0, 1, 2, 3, 4, 6] (by decide)⟩
        by_cases h2 : d.f0 = 2
        · have hb : M.act d = (0, (M.forget d.f2).1, [], 0, (M.forget d.f2).2) := by unfold FM.act; rw [if_neg h0, if_neg h1, if_pos h2]
          clear h0 h1
          rw [Hb.out] at hb
          injection hb with c1 hb
          injection hb with c2 hb
          injection hb with c3 hb
          injection hb with c4 c5
          subst c1 c2 c3 c4 c5
          clear Hb
          have hcall := fun w X hw => rForget s M cs d.f2 Hrel.out.2.1 Hcl.out e w X hw
          unfold Good at hcall
          simp only [Hrel.out.1, Hn'.out] at hcall
          go_wp2_with fail
          refine (hcall _ _ (hw.focus1 2 rfl)).mono ?_
          rintro _ w_ ⟨rfl, cs', g1, g2, hw_⟩
          have G := Sep.hid (⟨g1, g2⟩ : _ ∧ _)
          clear g1 g2
          clear hw; (try clear hc0); (try clear hc1); (try clear hc2); (try clear hc3); (try clear hc4); (try clear hc5); (try clear hc6); have hw := Holds.unfocus1 2 (by simp) hw_; clear hw_ hcall
          (try simp only [List.map_cons, List.map_nil, List.getD_cons_zero, List.getD_cons_succ, List.getD_nil, List.set_cons_zero, List.set_cons_succ, List.cons_append, List.nil_append, Act.eval, Array.getD_eq_getD_getElem?, List.getElem?_toArray, List.getElem?_cons_succ, List.getElem?_cons_zero, Option.getD_some, Value.cells] at hw); (try simp (disch := first | (simp; done) | (simp; omega)) only [Sep.mid_set, Sep.mid_set2, Sep.mid_set0, Sep.mid_splice, Sep.mid_splice0, List.set_cons_zero, List.set_cons_succ] at hw); (try simp only [Sep.splice, List.take_succ_cons, List.take_zero, List.drop_succ_cons, List.drop_zero, List.length_cons, List.length_nil, Nat.reduceAdd, List.cons_append, List.nil_append] at hw)
          (try replace hc0 := Sep.Holds.cells hw (i := 0) rfl); (try replace hc1 := Sep.Holds.cells hw (i := 1) rfl); (try replace hc2 := Sep.Holds.cells hw (i := 2) rfl); (try replace hc3 := Sep.Holds.cells hw (i := 3) rfl); (try replace hc4 := Sep.Holds.cells hw (i := 4) rfl); (try replace hc5 := Sep.Holds.cells hw (i := 5) rfl); (try replace hc6 := Sep.Holds.cells hw (i := 6) rfl)
          go_wp2_with fail
          go_meet
          exact ⟨cs', ⟨rfl, rfl, rfl⟩, Sep.hid ⟨G.out.1, by have := G.out.2; have := Hrel.out.2.2; omega⟩, hw⟩
        by_cases h3 : d.f0 = 3
        · have hb : M.act d = (0, (M.leave d.f1).1, [], 0, (M.leave d.f1).2) := by unfold FM.act; rw [if_neg h0, if_neg h1, if_neg h2, if_pos h3]
          clear h0 h1 h2
          rw [Hb.out] at hb
          injection hb with c1 hb
          injection hb with c2 hb
          injection hb with c3 hb
          injection hb with c4 c5
          subst c1 c2 c3 c4 c5
          clear Hb
          have hcall := fun w X hw => rLeave s M cs d.f1 Hrel.out.2.1 Hok.out.2 Hok.out.1 Hcl.out e w X hw
          unfold Good at hcall
          simp only [Hrel.out.1, Hn'.out] at hcall
          go_wp2_with fail
          refine (hcall _ _ (hw.focus1 2 rfl)).mono ?_
          rintro _ w_ ⟨rfl, cs', g1, g2, hw_⟩
          have G := Sep.hid (⟨g1, g2⟩ : _ ∧ _)
          clear g1 g2
          clear hw; (try clear hc0); (try clear hc1); (try clear hc2); (try clear hc3); (try clear hc4); (try clear hc5); (try clear hc6); have hw := Holds.unfocus1 2 (by simp) hw_; clear hw_ hcall
          (try simp only [List.map_cons, List.map_nil, List.getD_cons_zero, List.getD_cons_succ, List.getD_nil, List.set_cons_zero, List.set_cons_succ, List.cons_append, List.nil_append, Act.eval, Array.getD_eq_getD_getElem?, List.getElem?_toArray, List.getElem?_cons_succ, List.getElem?_cons_zero, Option.getD_some, Value.cells] at hw); (try simp (disch := first | (simp; done) | (simp; omega)) only [Sep.mid_set, Sep.mid_set2, Sep.mid_set0, Sep.mid_splice, Sep.mid_splice0, List.set_cons_zero, List.set_cons_succ] at hw); (try simp only [Sep.splice, List.take_succ_cons, List.take_zero, List.drop_succ_cons, List.drop_zero, List.length_cons, List.length_nil, Nat.reduceAdd, List.cons_append, List.nil_append] at hw)
          (try replace hc0 := Sep.Holds.cells hw (i := 0) rfl); (try replace hc1 := Sep.Holds.cells hw (i := 1) rfl); (try replace hc2 := Sep.Holds.cells hw (i := 2) rfl); (try replace hc3 := Sep.Holds.cells hw (i := 3) rfl); (try replace hc4 := Sep.Holds.cells hw (i := 4) rfl); (try replace hc5 := Sep.Holds.cells hw (i := 5) rfl); (try replace hc6 := Sep.Holds.cells hw (i := 6) rfl)
          go_wp2_with fail
          go_meet
          exact ⟨cs', ⟨rfl, rfl, rfl⟩, Sep.hid ⟨G.out.1, by have := G.out.2; have := Hrel.out.2.2; omega⟩, hw⟩
        · have hb : M.act d = (0, false, [], 0, M) := by unfold FM.act; rw [if_neg h0, if_neg h1, if_neg h2, if_neg h3]
          rw [Hb.out] at hb
          injection hb with c1 hb
          injection hb with c2 hb
          injection hb with c3 hb
          injection hb with c4 c5
          subst c1 c2 c3 c4 c5
          clear Hb
          go_wp2_with fail
          go_meet
          exact ⟨cs, ⟨rfl, rfl, rfl⟩, Sep.hid ⟨Hrel.out.2.1, by have := Hrel.out.2.2; omega⟩, hw⟩
      case rest =>
        clear hw; (try clear hc0); (try clear hc1); (try clear hc2); (try clear hc3); (try clear hc4); (try clear hc5); (try clear hc6)
        obtain ⟨cs', ⟨rfl, rfl, rfl⟩, Hr', hw⟩ := hcut
        have Hlv : Hid (lv.length ≤ 1000000) := Sep.hid (by have := act_short M Hok.out.2 Hok.out.1 d; rw [Hb.out] at this; exact this)
        clear Hb Hok Hcell
        have Hok' := Sep.hid (fl_ok (i := 1) rfl hw)
        obtain ⟨⟨ra, rcap, vs⟩, hw⟩ := hw.open' (i := 2) rfl
        have hw := hw.open_ 2 rfl
        (try simp only [List.map_cons, List.map_nil, List.getD_cons_zero, List.getD_cons_succ, List.getD_nil, List.set_cons_zero, List.set_cons_succ, List.cons_append, List.nil_append, Act.eval, Array.getD_eq_getD_getElem?, List.getElem?_toArray, List.getElem?_cons_succ, List.getElem?_cons_zero, Option.getD_some, Value.cells] at hw); (try simp (disch := first | (simp; done) | (simp; omega)) only [Sep.mid_set, Sep.mid_set2, Sep.mid_set0, Sep.mid_splice, Sep.mid_splice0, List.set_cons_zero, List.set_cons_succ] at hw); (try simp only [Sep.splice, List.take_succ_cons, List.take_zero, List.drop_succ_cons, List.drop_zero, List.length_cons, List.length_nil, Nat.reduceAdd, List.cons_append, List.nil_append] at hw)
        obtain ⟨rl, hrl⟩ : ∃ rl, cs'.length = rl := ⟨_, rfl⟩
        have Hrl := Sep.hid hrl
        have Hvl := Sep.hid (Holds.fct (i := 8) rfl hw)
        have hrl5 : rl ≤ 100000 := by have := Hr'.out.2; omega
        rw [hrl] at hw
        clear hrl
        replace hw := hw.sel [0, 1, 2, 6, 7, 3, 4, 5] (by decide)
        (try simp only [List.map_cons, List.map_nil, List.getD_cons_zero, List.getD_cons_succ, List.getD_nil, List.set_cons_zero, List.set_cons_succ, List.cons_append, List.nil_append, Act.eval, Array.getD_eq_getD_getElem?, List.getElem?_toArray, List.getElem?_cons_succ, List.getElem?_cons_zero, Option.getD_some, Value.cells] at hw); (try simp (disch := first | (simp; done) | (simp; omega)) only [Sep.mid_set, Sep.mid_set2, Sep.mid_set0, Sep.mid_splice, Sep.mid_splice0, List.set_cons_zero, List.set_cons_succ] at hw); (try simp only [Sep.splice, List.take_succ_cons, List.take_zero, List.drop_succ_cons, List.drop_zero, List.length_cons, List.length_nil, Nat.reduceAdd, List.cons_append, List.nil_append] at hw)
        (try replace hc0 := Sep.Holds.cells hw (i := 0) rfl); (try replace hc1 := Sep.Holds.cells hw (i := 1) rfl); (try replace hc2 := Sep.Holds.cells hw (i := 2) rfl); (try replace hc3 := Sep.Holds.cells hw (i := 3) rfl); (try replace hc4 := Sep.Holds.cells hw (i := 4) rfl); (try replace hc5 := Sep.Holds.cells hw (i := 5) rfl); (try replace hc6 := Sep.Holds.cells hw (i := 6) rfl)
        have Hjl : Hid (∀ c ∈ cs', c.joined.length ≤ 1000000) := Sep.hid (Hr'.out.1.short Hok'.out.1)
        go_wp2_with fail
        refine (rOf s n rl rcap ra cs' d.f2 Hrl hrl5 _ (hc2 0) (Sep.hid (calls_at (i := 3) hw rfl Hvl.out))).mono ?_
        rintro _ w_ ⟨rfl, rfl⟩
        go_upto_if 117 with fail
        go_cut [19, 20] from 66 to 211 (fun ld _ wx => ld = .int .i64 (M'.leader d.f2) ∧ Holds e wx [Old e, IsFlight p M', pt s [.slice ra rl rcap, .int .i64 (n : Int)] 47, Sl 44 4 (.slice ra rl rcap) rl (encCs cs' vs), sepL (joinedOf vs cs'), pt bd [.int .i64 d.f0, .int .i64 d.f1, .int .i64 d.f2] 32, IsInts v lv, IsInts u17 lv])
        case first =>
          as_aux_lemma =>
          rcases Hr'.out.1.of_cases d.f2 with ⟨h1, h2⟩ | ⟨i, c, h1, h2, h3, h4, h5⟩
          · have hl : M'.leader d.f2 = -1 := by unfold FM.leader; rw [h2]; rfl
            rw [h1]
            have Hl := Sep.hid hl
            clear h1 h2 hl
            go_wp2_with fail
            go_meet
            exact ⟨by rw [Hl.out], hw⟩
          · have hl : M'.leader d.f2 = c.of := by unfold FM.leader; rw [h5]; rfl
            obtain ⟨v', hv, _⟩ := joinedOf_get Hvl.out h2
            obtain ⟨b, off, rfl, g0, _, _, _⟩ := call_at (i := 3) hw rfl Hvl.out h2 hv
            rw [h1]
            have Hl := Sep.hid hl
            have hil : i < rl := by have := (List.getElem?_eq_some_iff.1 h2).1; rw [Hrl.out] at this; exact this
            clear h1 h2 h3 h4 h5 hl hv
            go_wp2_with fail
            go_meet
            exact ⟨by rw [Hl.out], hw⟩
        case rest =>
          clear hw; (try clear hc0); (try clear hc1); (try clear hc2); (try clear hc3); (try clear hc4); (try clear hc5); (try clear hc6)
          obtain ⟨rfl, hw⟩ := hcut
          (try replace hc0 := Sep.Holds.cells hw (i := 0) rfl); (try replace hc1 := Sep.Holds.cells hw (i := 1) rfl); (try replace hc2 := Sep.Holds.cells hw (i := 2) rfl); (try replace hc3 := Sep.Holds.cells hw (i := 3) rfl); (try replace hc4 := Sep.Holds.cells hw (i := 4) rfl); (try replace hc5 := Sep.Holds.cells hw (i := 5) rfl); (try replace hc6 := Sep.Holds.cells hw (i := 6) rfl)
          go_wp2_with fail
          refine (same_calls _ _ lv lv Hlv.out e _ _ (hw.focus2 6 7 rfl rfl (by decide))).mono ?_
          rintro en_ w_ ⟨he_, hw_⟩
          rw [decide_eq_true rfl] at he_; subst he_
          clear hw; (try clear hc0); (try clear hc1); (try clear hc2); (try clear hc3); (try clear hc4); (try clear hc5); (try clear hc6); have hw := Holds.unfocus2 6 7 (by simp) (by simp) (by decide) hw_; clear hw_
          (try simp only [List.map_cons, List.map_nil, List.getD_cons_zero, List.getD_cons_succ, List.getD_nil, List.set_cons_zero, List.set_cons_succ, List.cons_append, List.nil_append, Act.eval, Array.getD_eq_getD_getElem?, List.getElem?_toArray, List.getElem?_cons_succ, List.getElem?_cons_zero, Option.getD_some, Value.cells] at hw); (try simp (disch := first | (simp; done) | (simp; omega)) only [Sep.mid_set, Sep.mid_set2, Sep.mid_set0, Sep.mid_splice, Sep.mid_splice0, List.set_cons_zero, List.set_cons_succ] at hw); (try simp only [Sep.splice, List.take_succ_cons, List.take_zero, List.drop_succ_cons, List.drop_zero, List.length_cons, List.length_nil, Nat.reduceAdd, List.cons_append, List.nil_append] at hw)
          (try replace hc0 := Sep.Holds.cells hw (i := 0) rfl); (try replace hc1 := Sep.Holds.cells hw (i := 1) rfl); (try replace hc2 := Sep.Holds.cells hw (i := 2) rfl); (try replace hc3 := Sep.Holds.cells hw (i := 3) rfl); (try replace hc4 := Sep.Holds.cells hw (i := 4) rfl); (try replace hc5 := Sep.Holds.cells hw (i := 5) rfl); (try replace hc6 := Sep.Holds.cells hw (i := 6) rfl)
          go_wp2_with fail
          refine (oLeader p M' d.f2 e _ _ (hw.focus1 1 rfl)).mono ?_
          rintro _ w_ ⟨rfl, rfl⟩
          go_wp2_with fail
          have Hw1 := Sep.hid (hw.sel [0, 1, 2, 3, 4] (by decide)); clear hw; (try clear hc0); (try clear hc1); (try clear hc2); (try clear hc3); (try clear hc4); (try clear hc5); (try clear hc6)
          go_loopw [21] (fun i wx => ∃ k : Nat, k ≤ n + 2 ∧ i = .int .i64 ((k : Int) - 1) ∧ Holds e wx [Old e, IsFlight p M', pt s [.slice ra rl rcap, .int .i64 (n : Int)] 47, Sl 44 4 (.slice ra rl rcap) rl (encCs cs' vs), sepL (joinedOf vs cs')]) (fun i _ => n + 2 - (intOf i + 1).toNat)
          case atStart => exact ⟨0, by omega, rfl, Hw1.out⟩
          case round =>
            clear Hw1
            obtain ⟨k, hk, rfl, hw⟩ := hrel
            (try replace hc0 := Sep.Holds.cells hw (i := 0) rfl); (try replace hc1 := Sep.Holds.cells hw (i := 1) rfl); (try replace hc2 := Sep.Holds.cells hw (i := 2) rfl); (try replace hc3 := Sep.Holds.cells hw (i := 3) rfl); (try replace hc4 := Sep.Holds.cells hw (i := 4) rfl); (try replace hc5 := Sep.Holds.cells hw (i := 5) rfl); (try replace hc6 := Sep.Holds.cells hw (i := 6) rfl)
            have Hnx : Hid (wrap64 (((k : Int) - 1) + 1) = ((k + 1 : Nat) : Int) - 1) := Sep.hid ((IntWalk.wrap64_in _ (by omega)).trans (by omega))
            by_cases hkn : k ≤ n + 1
            · have hkn2 : (k : Int) - 1 ≤ n := by omega
              obtain ⟨t, ht⟩ : ∃ t : Int, (k : Int) - 1 = t := ⟨_, rfl⟩
              have Ht := Sep.hid ht
              rw [ht] at hkn2
              have Hj : Hid (joinsC cs' t = rowOf M'.rows t) := Sep.hid (Hr'.out.1.joins Hok'.out.2 Hok'.out.1 t)
              rw [ht]
              clear ht
              have hL := fun w X hw => oLeads p M' t e w X hw
              rcases Hr'.out.1.led_cases t with ⟨h1, h2⟩ | ⟨i, c, h1, h2, h3, h4⟩
              · simp only [h2, Option.getD_none, Option.isSome_none] at hL
                have Hrow : Hid (M'.row t = []) := Sep.hid (row_nil Hok'.out.2 h2)
                have H1 := Sep.hid h1
                clear h1 h2
                go_wp2_with fail
                refine (hL _ _ (hw.focus1 1 rfl)).mono ?_
                clear hL
                rintro _ w_ ⟨rfl, rfl⟩
                go_wp2_with (refine wpList_on rfl (wp_bsl0 rfl hw ?_); intro b_ w_ hw_; replace hw_ := hw_.newSl (i := 5) rfl 1 0 rfl (by decide); clear hw; have hw := hw_; clear hw_; (try simp only [List.map_cons, List.map_nil, List.getD_cons_zero, List.getD_cons_succ, List.getD_nil, List.set_cons_zero, List.set_cons_succ, List.cons_append, List.nil_append, Act.eval, Array.getD_eq_getD_getElem?, List.getElem?_toArray, List.getElem?_cons_succ, List.getElem?_cons_zero, Option.getD_some, Value.cells] at hw); (try simp (disch := first | (simp; done) | (simp; omega)) only [Sep.mid_set, Sep.mid_set2, Sep.mid_set0, Sep.mid_splice, Sep.mid_splice0, List.set_cons_zero, List.set_cons_succ] at hw); (try simp only [Sep.splice, List.take_succ_cons, List.take_zero, List.drop_succ_cons, List.drop_zero, List.length_cons, List.length_nil, Nat.reduceAdd, List.cons_append, List.nil_append] at hw); (try replace hc0 := Sep.Holds.cells hw (i := 0) rfl); (try replace hc1 := Sep.Holds.cells hw (i := 1) rfl); (try replace hc2 := Sep.Holds.cells hw (i := 2) rfl); (try replace hc3 := Sep.Holds.cells hw (i := 3) rfl); (try replace hc4 := Sep.Holds.cells hw (i := 4) rfl); (try replace hc5 := Sep.Holds.cells hw (i := 5) rfl); (try replace hc6 := Sep.Holds.cells hw (i := 6) rfl))
                refine (rLed s n rl rcap ra cs' t Hrl hrl5 _ (hc2 0) (Sep.hid (calls_at (i := 3) hw rfl Hvl.out))).mono ?_
                rintro _ w_ ⟨rfl, rfl⟩
                rw [H1.out]
                go_wp2_with fail
                refine (oJoins p M' t e _ _ (hw.focus1 1 rfl)).mono ?_
                rintro _ w_ ⟨rfl, rfl⟩
                go_wp2_with fail
                refine (rJoinsAt s n rl rcap ra vs cs' t Hrl Hvl hrl5 Hjl e _ _ (Holds.group [Old e, IsFlight p M', _] _ (hw.sel [0, 1, 5, 2, 3, 4] (by decide)))).mono ?_
                rintro _ w_ ⟨rfl, hw_⟩
                clear hw; (try clear hc0); (try clear hc1); (try clear hc2); (try clear hc3); (try clear hc4); (try clear hc5); (try clear hc6)
                have hw := (Holds.ungroup _ _ hw_).sel [0, 1, 3, 4, 5, 2] (by decide)
                clear hw_
                (try simp only [List.map_cons, List.map_nil, List.getD_cons_zero, List.getD_cons_succ, List.getD_nil, List.set_cons_zero, List.set_cons_succ, List.cons_append, List.nil_append, Act.eval, Array.getD_eq_getD_getElem?, List.getElem?_toArray, List.getElem?_cons_succ, List.getElem?_cons_zero, Option.getD_some, Value.cells] at hw); (try simp (disch := first | (simp; done) | (simp; omega)) only [Sep.mid_set, Sep.mid_set2, Sep.mid_set0, Sep.mid_splice, Sep.mid_splice0, List.set_cons_zero, List.set_cons_succ] at hw); (try simp only [Sep.splice, List.take_succ_cons, List.take_zero, List.drop_succ_cons, List.drop_zero, List.length_cons, List.length_nil, Nat.reduceAdd, List.cons_append, List.nil_append] at hw)
                (try replace hc0 := Sep.Holds.cells hw (i := 0) rfl); (try replace hc1 := Sep.Holds.cells hw (i := 1) rfl); (try replace hc2 := Sep.Holds.cells hw (i := 2) rfl); (try replace hc3 := Sep.Holds.cells hw (i := 3) rfl); (try replace hc4 := Sep.Holds.cells hw (i := 4) rfl); (try replace hc5 := Sep.Holds.cells hw (i := 5) rfl); (try replace hc6 := Sep.Holds.cells hw (i := 6) rfl)
                rw [Hj.out]
                go_wp2_with fail
                refine (oJoined p M' t e _ _ (hw.focus1 1 rfl)).mono ?_
                rintro _ w_ ⟨v2, rfl, hw_⟩
                clear hw; (try clear hc0); (try clear hc1); (try clear hc2); (try clear hc3); (try clear hc4); (try clear hc5); (try clear hc6); have hw := Holds.unfocus1 1 (by simp) hw_; clear hw_
                (try simp only [List.map_cons, List.map_nil, List.getD_cons_zero, List.getD_cons_succ, List.getD_nil, List.set_cons_zero, List.set_cons_succ, List.cons_append, List.nil_append, Act.eval, Array.getD_eq_getD_getElem?, List.getElem?_toArray, List.getElem?_cons_succ, List.getElem?_cons_zero, Option.getD_some, Value.cells] at hw); (try simp (disch := first | (simp; done) | (simp; omega)) only [Sep.mid_set, Sep.mid_set2, Sep.mid_set0, Sep.mid_splice, Sep.mid_splice0, List.set_cons_zero, List.set_cons_succ] at hw); (try simp only [Sep.splice, List.take_succ_cons, List.take_zero, List.drop_succ_cons, List.drop_zero, List.length_cons, List.length_nil, Nat.reduceAdd, List.cons_append, List.nil_append] at hw)
                rw [Hrow.out] at hw
                (try replace hc0 := Sep.Holds.cells hw (i := 0) rfl); (try replace hc1 := Sep.Holds.cells hw (i := 1) rfl); (try replace hc2 := Sep.Holds.cells hw (i := 2) rfl); (try replace hc3 := Sep.Holds.cells hw (i := 3) rfl); (try replace hc4 := Sep.Holds.cells hw (i := 4) rfl); (try replace hc5 := Sep.Holds.cells hw (i := 5) rfl); (try replace hc6 := Sep.Holds.cells hw (i := 6) rfl)
                go_wp2_with fail
                refine (same_calls _ _ [] [] (by decide) e _ _ (hw.focus2 6 5 rfl rfl (by decide))).mono ?_
                rintro en_ w_ ⟨he_, hw_⟩
                rw [decide_eq_true rfl] at he_; subst he_
                clear hw; (try clear hc0); (try clear hc1); (try clear hc2); (try clear hc3); (try clear hc4); (try clear hc5); (try clear hc6); have hw := Holds.unfocus2 6 5 (by simp) (by simp) (by decide) hw_; clear hw_
                (try simp only [List.map_cons, List.map_nil, List.getD_cons_zero, List.getD_cons_succ, List.getD_nil, List.set_cons_zero, List.set_cons_succ, List.cons_append, List.nil_append, Act.eval, Array.getD_eq_getD_getElem?, List.getElem?_toArray, List.getElem?_cons_succ, List.getElem?_cons_zero, Option.getD_some, Value.cells] at hw); (try simp (disch := first | (simp; done) | (simp; omega)) only [Sep.mid_set, Sep.mid_set2, Sep.mid_set0, Sep.mid_splice, Sep.mid_splice0, List.set_cons_zero, List.set_cons_succ] at hw); (try simp only [Sep.splice, List.take_succ_cons, List.take_zero, List.drop_succ_cons, List.drop_zero, List.length_cons, List.length_nil, Nat.reduceAdd, List.cons_append, List.nil_append] at hw)
                go_wp2_with fail
                go_roundw
                case rel => exact ⟨k + 1, by omega, by rw [← Ht.out]; exact congrArg (Value.int .i64) Hnx.out, hw.sel [0, 1, 2, 3, 4] (by decide)⟩
                case measure =>
                  show n + 2 - (wrap64 (t + 1) + 1).toNat < n + 2 - (t + 1).toNat
                  have h1 := Hnx.out
                  have h2 := Ht.out
                  rw [h2] at h1
                  rw [h1]; omega
              · simp only [h4, Option.getD_some, Option.isSome_some] at hL
                have Hrow : Hid (M'.row t = c.joined) := Sep.hid (by rw [← h3]; exact Hr'.out.1.rows c (List.mem_of_getElem? h2))
                have Hcj : Hid (c.joined.length ≤ 1000000) := Sep.hid (Hjl.out c (List.mem_of_getElem? h2))
                have H1 := Sep.hid h1
                have Hc := Sep.hid h2
                have hil : i < rl := by have := (List.getElem?_eq_some_iff.1 h2).1; rw [Hrl.out] at this; exact this
                clear h1 h2 h3 h4
                obtain ⟨v', hv, hr⟩ := joinedOf_get Hvl.out Hc.out
                have Hv := Sep.hid hv; have Hr := Sep.hid hr
                clear hv hr
                go_wp2_with fail
                refine (hL _ _ (hw.focus1 1 rfl)).mono ?_
                clear hL
                rintro _ w_ ⟨rfl, rfl⟩
                go_wp2_with (refine wpList_on rfl (wp_bsl0 rfl hw ?_); intro b_ w_ hw_; replace hw_ := hw_.newSl (i := 5) rfl 1 0 rfl (by decide); clear hw; have hw := hw_; clear hw_; (try simp only [List.map_cons, List.map_nil, List.getD_cons_zero, List.getD_cons_succ, List.getD_nil, List.set_cons_zero, List.set_cons_succ, List.cons_append, List.nil_append, Act.eval, Array.getD_eq_getD_getElem?, List.getElem?_toArray, List.getElem?_cons_succ, List.getElem?_cons_zero, Option.getD_some, Value.cells] at hw); (try simp (disch := first | (simp; done) | (simp; omega)) only [Sep.mid_set, Sep.mid_set2, Sep.mid_set0, Sep.mid_splice, Sep.mid_splice0, List.set_cons_zero, List.set_cons_succ] at hw); (try simp only [Sep.splice, List.take_succ_cons, List.take_zero, List.drop_succ_cons, List.drop_zero, List.length_cons, List.length_nil, Nat.reduceAdd, List.cons_append, List.nil_append] at hw); (try replace hc0 := Sep.Holds.cells hw (i := 0) rfl); (try replace hc1 := Sep.Holds.cells hw (i := 1) rfl); (try replace hc2 := Sep.Holds.cells hw (i := 2) rfl); (try replace hc3 := Sep.Holds.cells hw (i := 3) rfl); (try replace hc4 := Sep.Holds.cells hw (i := 4) rfl); (try replace hc5 := Sep.Holds.cells hw (i := 5) rfl); (try replace hc6 := Sep.Holds.cells hw (i := 6) rfl))
                refine (rLed s n rl rcap ra cs' t Hrl hrl5 _ (hc2 0) (Sep.hid (calls_at (i := 3) hw rfl Hvl.out))).mono ?_
                rintro _ w_ ⟨rfl, rfl⟩
                rw [H1.out]
                obtain ⟨b, off, rfl, g0, g1, g2, g3⟩ := call_at (i := 3) hw rfl Hvl.out Hc.out Hv.out
                go_wp2_with fail
                clear g0 g1 g2 g3
                refine wp_region_L [] [(3, (fun w' => w' = w_.drew)), (7, (fun w' => w' = w_.drew)), (11, (fun w' => w' = w_.drew)), (15, (fun w' => w' = w_.drew))] (n := 19) (listed := (marks 19 0)) (by kernel_rfl) rfl (by kernel_rfl) ?conds1 ?_
                case conds1 =>
                 intro c hc
                 simp only [List.mem_cons, List.not_mem_nil, or_false] at hc
                 rcases hc with rfl | rfl | rfl | rfl
                 · rfl
                 · rfl
                 · rfl
                 · rfl
                replace hw := hw.drew
                (obtain ⟨b2, off2, hb2, g0, g1, g2, g3⟩ := call_at (i := 3) hw rfl Hvl.out Hc.out Hv.out; cases hb2; (try replace hc0 := Sep.Holds.cells hw (i := 0) rfl); (try replace hc1 := Sep.Holds.cells hw (i := 1) rfl); (try replace hc2 := Sep.Holds.cells hw (i := 2) rfl); (try replace hc3 := Sep.Holds.cells hw (i := 3) rfl); (try replace hc4 := Sep.Holds.cells hw (i := 4) rfl); (try replace hc5 := Sep.Holds.cells hw (i := 5) rfl); (try replace hc6 := Sep.Holds.cells hw (i := 6) rfl))
                refine wpL_q 0 ?_ rfl (Or.inl ⟨by rfl, fun w_ hS_ => ?_⟩) (marks 19 1) ?_
                rotate_left
                next => (go_simp; try (first | rfl | exact (Bool.not_not _).symm))
                try simp only [Act.put, List.setIfInBounds_toArray, List.set_cons_zero, List.set_cons_succ]
                refine wpL_q 1 ?_ rfl (Or.inl ⟨by rfl, fun w_ hS_ => ?_⟩) (marks 19 3) ?_
                rotate_left
                next => (go_simp; try (first | rfl | exact (Bool.not_not _).symm))
                try simp only [Act.put, List.setIfInBounds_toArray, List.set_cons_zero, List.set_cons_succ]
                refine wpL_q 2 ?_ rfl (Or.inl ⟨by rfl, fun w_ hS_ => ?_⟩) (marks 19 7) ?_
                rotate_left
                next => (go_simp; try (first | rfl | exact (Bool.not_not _).symm))
                try simp only [Act.put, List.setIfInBounds_toArray, List.set_cons_zero, List.set_cons_succ]
                refine wpL_m 3 ?_ rfl (.head _) (Or.inl ⟨by rfl, fun w_ hS_ => ?_⟩) (marks 19 15) ?_
                rotate_left
                next => (subst hS_; go_simp; try (first | rfl | exact (Bool.not_not _).symm))
                try simp only [Act.put, List.setIfInBounds_toArray, List.set_cons_zero, List.set_cons_succ]
                refine wpL_q 4 ?_ rfl (Or.inl ⟨by rfl, fun w_ hS_ => ?_⟩) (marks 19 31) ?_
                rotate_left
                next => (go_simp; try (first | rfl | exact (Bool.not_not _).symm))
                try simp only [Act.put, List.setIfInBounds_toArray, List.set_cons_zero, List.set_cons_succ]
                refine wpL_q 5 ?_ rfl (Or.inl ⟨by rfl, fun w_ hS_ => ?_⟩) (marks 19 63) ?_
                rotate_left
                next => (go_simp; try (first | rfl | exact (Bool.not_not _).symm))
                try simp only [Act.put, List.setIfInBounds_toArray, List.set_cons_zero, List.set_cons_succ]
                refine wpL_q 6 ?_ rfl (Or.inl ⟨by rfl, fun w_ hS_ => ?_⟩) (marks 19 127) ?_
                rotate_left
                next => (go_simp; try (first | rfl | exact (Bool.not_not _).symm))
                try simp only [Act.put, List.setIfInBounds_toArray, List.set_cons_zero, List.set_cons_succ]
                refine wpL_m 7 ?_ rfl (.tail _ (.head _)) (Or.inl ⟨by rfl, fun w_ hS_ => ?_⟩) (marks 19 255) ?_
                rotate_left
                next => (subst hS_; go_simp; try (first | rfl | exact (Bool.not_not _).symm))
                try simp only [Act.put, List.setIfInBounds_toArray, List.set_cons_zero, List.set_cons_succ]
                refine wpL_q 8 ?_ rfl (Or.inl ⟨by rfl, fun w_ hS_ => ?_⟩) (marks 19 511) ?_
                rotate_left
                next => (go_simp; try (first | rfl | exact (Bool.not_not _).symm))
                try simp only [Act.put, List.setIfInBounds_toArray, List.set_cons_zero, List.set_cons_succ]
                refine wpL_q 9 ?_ rfl (Or.inl ⟨by rfl, fun w_ hS_ => ?_⟩) (marks 19 1023) ?_
                rotate_left
                next => (go_simp; try (first | rfl | exact (Bool.not_not _).symm))
                try simp only [Act.put, List.setIfInBounds_toArray, List.set_cons_zero, List.set_cons_succ]
                refine wpL_q 10 ?_ rfl (Or.inl ⟨by rfl, fun w_ hS_ => ?_⟩) (marks 19 2047) ?_
                rotate_left
                next => (go_simp; try (first | rfl | exact (Bool.not_not _).symm))
                try simp only [Act.put, List.setIfInBounds_toArray, List.set_cons_zero, List.set_cons_succ]
                refine wpL_m 11 ?_ rfl (.tail _ (.tail _ (.head _))) (Or.inl ⟨by rfl, fun w_ hS_ => ?_⟩) (marks 19 4095) ?_
                rotate_left
                next => (subst hS_; go_simp; try (first | rfl | exact (Bool.not_not _).symm))
                try simp only [Act.put, List.setIfInBounds_toArray, List.set_cons_zero, List.set_cons_succ]
                refine wpL_q 12 ?_ rfl (Or.inl ⟨by rfl, fun w_ hS_ => ?_⟩) (marks 19 8191) ?_
                rotate_left
                next => (go_simp; try (first | rfl | exact (Bool.not_not _).symm))
                try simp only [Act.put, List.setIfInBounds_toArray, List.set_cons_zero, List.set_cons_succ]
                refine wpL_q 13 ?_ rfl (Or.inl ⟨by rfl, fun w_ hS_ => ?_⟩) (marks 19 16383) ?_
                rotate_left
                next => (go_simp; try (first | rfl | exact (Bool.not_not _).symm))
                try simp only [Act.put, List.setIfInBounds_toArray, List.set_cons_zero, List.set_cons_succ]
                refine wpL_q 14 ?_ rfl (Or.inl ⟨by rfl, fun w_ hS_ => ?_⟩) (marks 19 32767) ?_
                rotate_left
                next => (go_simp; try (first | rfl | exact (Bool.not_not _).symm))
                try simp only [Act.put, List.setIfInBounds_toArray, List.set_cons_zero, List.set_cons_succ]
                refine wpL_m 15 ?_ rfl (.tail _ (.tail _ (.tail _ (.head _)))) (Or.inl ⟨by rfl, fun w_ hS_ => ?_⟩) (marks 19 65535) ?_
                rotate_left
                next => (subst hS_; go_simp; try (first | rfl | exact (Bool.not_not _).symm))
                try simp only [Act.put, List.setIfInBounds_toArray, List.set_cons_zero, List.set_cons_succ]
                refine wpL_q 16 ?_ rfl (Or.inl ⟨by rfl, fun w_ hS_ => ?_⟩) (marks 19 131071) ?_
                rotate_left
                next => (go_simp; try (first | rfl | exact (Bool.not_not _).symm))
                try simp only [Act.put, List.setIfInBounds_toArray, List.set_cons_zero, List.set_cons_succ]
                refine wpL_q 17 ?_ rfl (Or.inl ⟨by rfl, fun w_ hS_ => ?_⟩) (marks 19 262143) ?_
                rotate_left
                next => (go_simp; try (first | rfl | exact (Bool.not_not _).symm))
                try simp only [Act.put, List.setIfInBounds_toArray, List.set_cons_zero, List.set_cons_succ]
                refine wpL_q 18 ?_ rfl (Or.inl ⟨by rfl, fun w_ hS_ => ?_⟩) (marks 19 524287) ?_
                rotate_left
                next => (go_simp; try (first | rfl | exact (Bool.not_not _).symm))
                try simp only [Act.put, List.setIfInBounds_toArray, List.set_cons_zero, List.set_cons_succ]
                all_goals refine wpL_done (by kernel_rfl) ?_ _
                clear g0 g1 g2 g3
                go_wp2_with fail
                refine (oJoins p M' t e _ _ (hw.focus1 1 rfl)).mono ?_
                rintro _ w_ ⟨rfl, rfl⟩
                go_wp2_with fail
                refine (rJoinsAt s n rl rcap (some ⟨b, off, none⟩) vs cs' t Hrl Hvl hrl5 Hjl e _ _ (Holds.group [Old e, IsFlight p M', _] _ (hw.sel [0, 1, 5, 2, 3, 4] (by decide)))).mono ?_
                rintro _ w_ ⟨rfl, hw_⟩
                clear hw; (try clear hc0); (try clear hc1); (try clear hc2); (try clear hc3); (try clear hc4); (try clear hc5); (try clear hc6)
                have hw := (Holds.ungroup _ _ hw_).sel [0, 1, 3, 4, 5, 2] (by decide)
                clear hw_
                (try simp only [List.map_cons, List.map_nil, List.getD_cons_zero, List.getD_cons_succ, List.getD_nil, List.set_cons_zero, List.set_cons_succ, List.cons_append, List.nil_append, Act.eval, Array.getD_eq_getD_getElem?, List.getElem?_toArray, List.getElem?_cons_succ, List.getElem?_cons_zero, Option.getD_some, Value.cells] at hw); (try simp (disch := first | (simp; done) | (simp; omega)) only [Sep.mid_set, Sep.mid_set2, Sep.mid_set0, Sep.mid_splice, Sep.mid_splice0, List.set_cons_zero, List.set_cons_succ] at hw); (try simp only [Sep.splice, List.take_succ_cons, List.take_zero, List.drop_succ_cons, List.drop_zero, List.length_cons, List.length_nil, Nat.reduceAdd, List.cons_append, List.nil_append] at hw)
                (try replace hc0 := Sep.Holds.cells hw (i := 0) rfl); (try replace hc1 := Sep.Holds.cells hw (i := 1) rfl); (try replace hc2 := Sep.Holds.cells hw (i := 2) rfl); (try replace hc3 := Sep.Holds.cells hw (i := 3) rfl); (try replace hc4 := Sep.Holds.cells hw (i := 4) rfl); (try replace hc5 := Sep.Holds.cells hw (i := 5) rfl); (try replace hc6 := Sep.Holds.cells hw (i := 6) rfl)
                rw [Hj.out]
                go_wp2_with fail
                refine (oJoined p M' t e _ _ (hw.focus1 1 rfl)).mono ?_
                rintro _ w_ ⟨v2, rfl, hw_⟩
                clear hw; (try clear hc0); (try clear hc1); (try clear hc2); (try clear hc3); (try clear hc4); (try clear hc5); (try clear hc6); have hw := Holds.unfocus1 1 (by simp) hw_; clear hw_
                (try simp only [List.map_cons, List.map_nil, List.getD_cons_zero, List.getD_cons_succ, List.getD_nil, List.set_cons_zero, List.set_cons_succ, List.cons_append, List.nil_append, Act.eval, Array.getD_eq_getD_getElem?, List.getElem?_toArray, List.getElem?_cons_succ, List.getElem?_cons_zero, Option.getD_some, Value.cells] at hw); (try simp (disch := first | (simp; done) | (simp; omega)) only [Sep.mid_set, Sep.mid_set2, Sep.mid_set0, Sep.mid_splice, Sep.mid_splice0, List.set_cons_zero, List.set_cons_succ] at hw); (try simp only [Sep.splice, List.take_succ_cons, List.take_zero, List.drop_succ_cons, List.drop_zero, List.length_cons, List.length_nil, Nat.reduceAdd, List.cons_append, List.nil_append] at hw)
                rw [Hrow.out] at hw
                have hw := hw.pick 4 i rfl Hr.out
                (try simp only [List.map_cons, List.map_nil, List.getD_cons_zero, List.getD_cons_succ, List.getD_nil, List.set_cons_zero, List.set_cons_succ, List.cons_append, List.nil_append, Act.eval, Array.getD_eq_getD_getElem?, List.getElem?_toArray, List.getElem?_cons_succ, List.getElem?_cons_zero, Option.getD_some, Value.cells] at hw); (try simp (disch := first | (simp; done) | (simp; omega)) only [Sep.mid_set, Sep.mid_set2, Sep.mid_set0, Sep.mid_splice, Sep.mid_splice0, List.set_cons_zero, List.set_cons_succ] at hw); (try simp only [Sep.splice, List.take_succ_cons, List.take_zero, List.drop_succ_cons, List.drop_zero, List.length_cons, List.length_nil, Nat.reduceAdd, List.cons_append, List.nil_append] at hw)
                (try replace hc0 := Sep.Holds.cells hw (i := 0) rfl); (try replace hc1 := Sep.Holds.cells hw (i := 1) rfl); (try replace hc2 := Sep.Holds.cells hw (i := 2) rfl); (try replace hc3 := Sep.Holds.cells hw (i := 3) rfl); (try replace hc4 := Sep.Holds.cells hw (i := 4) rfl); (try replace hc5 := Sep.Holds.cells hw (i := 5) rfl); (try replace hc6 := Sep.Holds.cells hw (i := 6) rfl)
                go_wp2_with fail
                refine (same_calls _ _ c.joined c.joined Hcj.out e _ _ (hw.focus2 6 7 rfl rfl (by decide))).mono ?_
                rintro en_ w_ ⟨he_, hw_⟩
                rw [decide_eq_true rfl] at he_; subst he_
                clear hw; (try clear hc0); (try clear hc1); (try clear hc2); (try clear hc3); (try clear hc4); (try clear hc5); (try clear hc6); have hw := Holds.unfocus2 6 7 (by simp) (by simp) (by decide) hw_; clear hw_
                (try simp only [List.map_cons, List.map_nil, List.getD_cons_zero, List.getD_cons_succ, List.getD_nil, List.set_cons_zero, List.set_cons_succ, List.cons_append, List.nil_append, Act.eval, Array.getD_eq_getD_getElem?, List.getElem?_toArray, List.getElem?_cons_succ, List.getElem?_cons_zero, Option.getD_some, Value.cells] at hw); (try simp (disch := first | (simp; done) | (simp; omega)) only [Sep.mid_set, Sep.mid_set2, Sep.mid_set0, Sep.mid_splice, Sep.mid_splice0, List.set_cons_zero, List.set_cons_succ] at hw); (try simp only [Sep.splice, List.take_succ_cons, List.take_zero, List.drop_succ_cons, List.drop_zero, List.length_cons, List.length_nil, Nat.reduceAdd, List.cons_append, List.nil_append] at hw)
                have hw := Holds.unpick (L := [Old e, IsFlight p M', pt s [.slice (some ⟨b, off, none⟩) rl rcap, .int .i64 (n : Int)] 47, Sl 44 4 (.slice (some ⟨b, off, none⟩) rl rcap) rl (encCs cs' vs), sepL ((joinedOf vs cs').set i emp)]) (R := joinedOf vs cs') (B := IsInts v' c.joined) 4 i rfl (by rw [joinedOf_length Hvl.out, Hrl.out]; exact hil) (hw.sel [0, 1, 2, 3, 4, 7] (by decide))
                (try simp only [List.map_cons, List.map_nil, List.getD_cons_zero, List.getD_cons_succ, List.getD_nil, List.set_cons_zero, List.set_cons_succ, List.cons_append, List.nil_append, Act.eval, Array.getD_eq_getD_getElem?, List.getElem?_toArray, List.getElem?_cons_succ, List.getElem?_cons_zero, Option.getD_some, Value.cells] at hw); (try simp (disch := first | (simp; done) | (simp; omega)) only [Sep.mid_set, Sep.mid_set2, Sep.mid_set0, Sep.mid_splice, Sep.mid_splice0, List.set_cons_zero, List.set_cons_succ] at hw); (try simp only [Sep.splice, List.take_succ_cons, List.take_zero, List.drop_succ_cons, List.drop_zero, List.length_cons, List.length_nil, Nat.reduceAdd, List.cons_append, List.nil_append] at hw)
                rw [joinedOf_same Hc.out Hv.out] at hw
                go_wp2_with fail
                go_roundw
                case rel => exact ⟨k + 1, by omega, by rw [← Ht.out]; exact congrArg (Value.int .i64) Hnx.out, hw⟩
                case measure =>
                  show n + 2 - (wrap64 (t + 1) + 1).toNat < n + 2 - (t + 1).toNat
                  have h1 := Hnx.out
                  have h2 := Ht.out
                  rw [h2] at h1
                  rw [h1]; omega
            · have hkn3 : (n : Int) < (k : Int) - 1 := by omega
              go_wp2_with fail
              go_roundw
              case rel => exact ⟨q + 1, M', cs', by omega, by go_num, Sep.hid ⟨Hn'.out, Hr'.out.1, Hr'.out.2⟩, fl_close Hrl.out Hvl.out hw⟩
              case measure => simp [intOf]; omega
    · go_wp2_with fail
      exact HP.out _ _ ⟨rfl, hw.sel [0] (by decide)⟩
end Go.Proofs.Ytecdkajhcglpdaa
