/-
  The walks of what is asked of the lock.
-/
import Derived.Test.YtlngkjgoacelfaaRwG
namespace Go.Proofs.Ytlngkjgoacelfaa
set_option linter.unusedSimpArgs false
set_option linter.unusedVariables false
open Go.RowKit Go.Sep Go.RingM

theorem rowOf_give (M : LM) (t : Int) (h : M.Ok) : rowOf [M.wr, M.ww, M.rd, M.wt] t = -1 ∨ rowOf [M.wr, M.ww, M.rd, M.wt] t = 0 ∨ rowOf [M.wr, M.ww, M.rd, M.wt] t = 1 ∨ rowOf [M.wr, M.ww, M.rd, M.wt] t = 2 ∨ rowOf [M.wr, M.ww, M.rd, M.wt] t = 3 := by
  rw [rowOf4]
  repeat' split
  all_goals simp
theorem rowOf_ge (M : LM) (t : Int) (h : M.Ok) : decide (2 ≤ rowOf [M.wr, M.ww, M.rd, M.wt] t) = decide (t ∈ M.rd ∨ t ∈ M.wt) := by
  obtain ⟨n1, n2, n3, n4, n5, n6, n7⟩ := nodup4.1 h.nd
  rw [rowOf4]
  by_cases h1 : t ∈ M.wr
  · have := n5 t h1
    simp [h1, this.2.1, this.2.2]
  by_cases h2 : t ∈ M.ww
  · have := n6 t h2
    simp [h1, h2, this.1, this.2]
  by_cases h3 : t ∈ M.rd
  · simp [h1, h2, h3]
  by_cases h4 : t ∈ M.wt
  · simp [h1, h2, h3, h4]
  · simp [h1, h2, h3, h4]
set_option maxHeartbeats 4000000 in
theorem oAsk (p : Nat) (M : LM) (t : Int) (k : Bool) (rn : Int) (hk : (k = false ∧ rn = 0) ∨ (k = true ∧ rn = 1)) (e w : World) (X : HProp) (hw : Holds e w [X, IsRW p M]) :
    Calls Try.prog 28 #[.pointer (some ⟨p, 0, none⟩), .int .i64 t, .int .i64 rn] w fun en w' => en = .returned (.tuple #[.bool (M.ask t k).1, .int .i64 (M.ask t k).2.1]) ∧ Holds e w' [X, IsRW p (M.ask t k).2.2] := by
  have Hw0 := Sep.hid hw
  have Hok := Sep.hid (rw_ok (i := 1) rfl hw).2
  rcases ask_cases M t k with ⟨er, _, hb, ⟨rfl, h1⟩ | ⟨rfl, h1, h2⟩ | ⟨rfl, h1, h2, h3, h4⟩⟩ | ⟨h1, h2, h3, h4, h5, hb⟩
  · rw [hb]; clear hb hk
    by_cases h0 : t < 0
    · clear h1
      have Hro : Hid (rowOf [M.wr, M.ww, M.rd, M.wt] t = rowOf [M.wr, M.ww, M.rd, M.wt] t) := Sep.hid rfl
      obtain ⟨r, hw⟩ := exL.open_ hw
      have hw := hw.open_ 1 rfl
      (try simp only [List.map_cons, List.map_nil, List.getD_cons_zero, List.getD_cons_succ, List.getD_nil, List.set_cons_zero, List.set_cons_succ, List.cons_append, List.nil_append, Act.eval, Array.getD_eq_getD_getElem?, List.getElem?_toArray, List.getElem?_cons_succ, List.getElem?_cons_zero, Option.getD_some, Value.cells] at hw); (try simp (disch := first | (simp; done) | (simp; omega)) only [Sep.mid_set, Sep.mid_set2, Sep.mid_set0, Sep.mid_splice, Sep.mid_splice0, List.set_cons_zero, List.set_cons_succ] at hw); (try simp only [Sep.splice, List.take_succ_cons, List.take_zero, List.drop_succ_cons, List.drop_zero, List.length_cons, List.length_nil, Nat.reduceAdd, List.cons_append, List.nil_append] at hw)
      (try replace hc0 := Sep.Holds.cells hw (i := 0) rfl); (try replace hc1 := Sep.Holds.cells hw (i := 1) rfl); (try replace hc2 := Sep.Holds.cells hw (i := 2) rfl); (try replace hc3 := Sep.Holds.cells hw (i := 3) rfl); (try replace hc4 := Sep.Holds.cells hw (i := 4) rfl); (try replace hc5 := Sep.Holds.cells hw (i := 5) rfl); (try replace hc6 := Sep.Holds.cells hw (i := 6) rfl)
      refine Sep.calls_post ?_
      intro Post_ hPost_
      have HP := Sep.hid hPost_
      clear hPost_
      go_enter Try.func28, Try.ntmps28
      go_wp2_with (first
        | (go_at_call 29; refine (wNodes r M.n [M.wr, M.ww, M.rd, M.wt] e _ _ (hw.focus1 2 rfl)).mono ?_; rintro _ w_ ⟨rfl, rfl⟩)
        | (go_at_call 30; refine (wIn r M.n [M.wr, M.ww, M.rd, M.wt] t e _ _ (hw.focus1 2 rfl)).mono ?_; rintro _ w_ ⟨rfl, rfl⟩; rw [Hro.out]))
      exact HP.out _ _ ⟨rfl, Hw0.out⟩
    · have h2 : (M.n : Int) ≤ t := by omega
      clear h1
      have Hro : Hid (rowOf [M.wr, M.ww, M.rd, M.wt] t = rowOf [M.wr, M.ww, M.rd, M.wt] t) := Sep.hid rfl
      obtain ⟨r, hw⟩ := exL.open_ hw
      have hw := hw.open_ 1 rfl
      (try simp only [List.map_cons, List.map_nil, List.getD_cons_zero, List.getD_cons_succ, List.getD_nil, List.set_cons_zero, List.set_cons_succ, List.cons_append, List.nil_append, Act.eval, Array.getD_eq_getD_getElem?, List.getElem?_toArray, List.getElem?_cons_succ, List.getElem?_cons_zero, Option.getD_some, Value.cells] at hw); (try simp (disch := first | (simp; done) | (simp; omega)) only [Sep.mid_set, Sep.mid_set2, Sep.mid_set0, Sep.mid_splice, Sep.mid_splice0, List.set_cons_zero, List.set_cons_succ] at hw); (try simp only [Sep.splice, List.take_succ_cons, List.take_zero, List.drop_succ_cons, List.drop_zero, List.length_cons, List.length_nil, Nat.reduceAdd, List.cons_append, List.nil_append] at hw)
      (try replace hc0 := Sep.Holds.cells hw (i := 0) rfl); (try replace hc1 := Sep.Holds.cells hw (i := 1) rfl); (try replace hc2 := Sep.Holds.cells hw (i := 2) rfl); (try replace hc3 := Sep.Holds.cells hw (i := 3) rfl); (try replace hc4 := Sep.Holds.cells hw (i := 4) rfl); (try replace hc5 := Sep.Holds.cells hw (i := 5) rfl); (try replace hc6 := Sep.Holds.cells hw (i := 6) rfl)
      refine Sep.calls_post ?_
      intro Post_ hPost_
      have HP := Sep.hid hPost_
      clear hPost_
      go_enter Try.func28, Try.ntmps28
      go_wp2_with (first
        | (go_at_call 29; refine (wNodes r M.n [M.wr, M.ww, M.rd, M.wt] e _ _ (hw.focus1 2 rfl)).mono ?_; rintro _ w_ ⟨rfl, rfl⟩)
        | (go_at_call 30; refine (wIn r M.n [M.wr, M.ww, M.rd, M.wt] t e _ _ (hw.focus1 2 rfl)).mono ?_; rintro _ w_ ⟨rfl, rfl⟩; rw [Hro.out]))
      exact HP.out _ _ ⟨rfl, Hw0.out⟩
  · rw [hb]; clear hb hk
    by_cases h3 : t ∈ M.wr
    · have Hro : Hid (rowOf [M.wr, M.ww, M.rd, M.wt] t = 0) := Sep.hid (by rw [rowOf4, if_pos h3])
      clear h2 h3
      obtain ⟨r, hw⟩ := exL.open_ hw
      have hw := hw.open_ 1 rfl
      (try simp only [List.map_cons, List.map_nil, List.getD_cons_zero, List.getD_cons_succ, List.getD_nil, List.set_cons_zero, List.set_cons_succ, List.cons_append, List.nil_append, Act.eval, Array.getD_eq_getD_getElem?, List.getElem?_toArray, List.getElem?_cons_succ, List.getElem?_cons_zero, Option.getD_some, Value.cells] at hw); (try simp (disch := first | (simp; done) | (simp; omega)) only [Sep.mid_set, Sep.mid_set2, Sep.mid_set0, Sep.mid_splice, Sep.mid_splice0, List.set_cons_zero, List.set_cons_succ] at hw); (try simp only [Sep.splice, List.take_succ_cons, List.take_zero, List.drop_succ_cons, List.drop_zero, List.length_cons, List.length_nil, Nat.reduceAdd, List.cons_append, List.nil_append] at hw)
      (try replace hc0 := Sep.Holds.cells hw (i := 0) rfl); (try replace hc1 := Sep.Holds.cells hw (i := 1) rfl); (try replace hc2 := Sep.Holds.cells hw (i := 2) rfl); (try replace hc3 := Sep.Holds.cells hw (i := 3) rfl); (try replace hc4 := Sep.Holds.cells hw (i := 4) rfl); (try replace hc5 := Sep.Holds.cells hw (i := 5) rfl); (try replace hc6 := Sep.Holds.cells hw (i := 6) rfl)
      refine Sep.calls_post ?_
      intro Post_ hPost_
      have HP := Sep.hid hPost_
      clear hPost_
      go_enter Try.func28, Try.ntmps28
      go_wp2_with (first
        | (go_at_call 29; refine (wNodes r M.n [M.wr, M.ww, M.rd, M.wt] e _ _ (hw.focus1 2 rfl)).mono ?_; rintro _ w_ ⟨rfl, rfl⟩)
        | (go_at_call 30; refine (wIn r M.n [M.wr, M.ww, M.rd, M.wt] t e _ _ (hw.focus1 2 rfl)).mono ?_; rintro _ w_ ⟨rfl, rfl⟩; rw [Hro.out]))
      exact HP.out _ _ ⟨rfl, Hw0.out⟩
    · have Hro : Hid (rowOf [M.wr, M.ww, M.rd, M.wt] t = 1) := Sep.hid (by rw [rowOf4, if_neg h3, if_pos (h2.resolve_left h3)])
      clear h2 h3
      obtain ⟨r, hw⟩ := exL.open_ hw
      have hw := hw.open_ 1 rfl
      (try simp only [List.map_cons, List.map_nil, List.getD_cons_zero, List.getD_cons_succ, List.getD_nil, List.set_cons_zero, List.set_cons_succ, List.cons_append, List.nil_append, Act.eval, Array.getD_eq_getD_getElem?, List.getElem?_toArray, List.getElem?_cons_succ, List.getElem?_cons_zero, Option.getD_some, Value.cells] at hw); (try simp (disch := first | (simp; done) | (simp; omega)) only [Sep.mid_set, Sep.mid_set2, Sep.mid_set0, Sep.mid_splice, Sep.mid_splice0, List.set_cons_zero, List.set_cons_succ] at hw); (try simp only [Sep.splice, List.take_succ_cons, List.take_zero, List.drop_succ_cons, List.drop_zero, List.length_cons, List.length_nil, Nat.reduceAdd, List.cons_append, List.nil_append] at hw)
      (try replace hc0 := Sep.Holds.cells hw (i := 0) rfl); (try replace hc1 := Sep.Holds.cells hw (i := 1) rfl); (try replace hc2 := Sep.Holds.cells hw (i := 2) rfl); (try replace hc3 := Sep.Holds.cells hw (i := 3) rfl); (try replace hc4 := Sep.Holds.cells hw (i := 4) rfl); (try replace hc5 := Sep.Holds.cells hw (i := 5) rfl); (try replace hc6 := Sep.Holds.cells hw (i := 6) rfl)
      refine Sep.calls_post ?_
      intro Post_ hPost_
      have HP := Sep.hid hPost_
      clear hPost_
      go_enter Try.func28, Try.ntmps28
      go_wp2_with (first
        | (go_at_call 29; refine (wNodes r M.n [M.wr, M.ww, M.rd, M.wt] e _ _ (hw.focus1 2 rfl)).mono ?_; rintro _ w_ ⟨rfl, rfl⟩)
        | (go_at_call 30; refine (wIn r M.n [M.wr, M.ww, M.rd, M.wt] t e _ _ (hw.focus1 2 rfl)).mono ?_; rintro _ w_ ⟨rfl, rfl⟩; rw [Hro.out]))
      exact HP.out _ _ ⟨rfl, Hw0.out⟩
  · rw [hb]; clear hb hk
    by_cases h5 : t ∈ M.rd
    · have Hro : Hid (rowOf [M.wr, M.ww, M.rd, M.wt] t = 2) := Sep.hid (by rw [rowOf4, if_neg h2, if_neg h3, if_pos h5])
      clear h2 h3 h4 h5
      obtain ⟨r, hw⟩ := exL.open_ hw
      have hw := hw.open_ 1 rfl
      (try simp only [List.map_cons, List.map_nil, List.getD_cons_zero, List.getD_cons_succ, List.getD_nil, List.set_cons_zero, List.set_cons_succ, List.cons_append, List.nil_append, Act.eval, Array.getD_eq_getD_getElem?, List.getElem?_toArray, List.getElem?_cons_succ, List.getElem?_cons_zero, Option.getD_some, Value.cells] at hw); (try simp (disch := first | (simp; done) | (simp; omega)) only [Sep.mid_set, Sep.mid_set2, Sep.mid_set0, Sep.mid_splice, Sep.mid_splice0, List.set_cons_zero, List.set_cons_succ] at hw); (try simp only [Sep.splice, List.take_succ_cons, List.take_zero, List.drop_succ_cons, List.drop_zero, List.length_cons, List.length_nil, Nat.reduceAdd, List.cons_append, List.nil_append] at hw)
      (try replace hc0 := Sep.Holds.cells hw (i := 0) rfl); (try replace hc1 := Sep.Holds.cells hw (i := 1) rfl); (try replace hc2 := Sep.Holds.cells hw (i := 2) rfl); (try replace hc3 := Sep.Holds.cells hw (i := 3) rfl); (try replace hc4 := Sep.Holds.cells hw (i := 4) rfl); (try replace hc5 := Sep.Holds.cells hw (i := 5) rfl); (try replace hc6 := Sep.Holds.cells hw (i := 6) rfl)
      refine Sep.calls_post ?_
      intro Post_ hPost_
      have HP := Sep.hid hPost_
      clear hPost_
      go_enter Try.func28, Try.ntmps28
      go_wp2_with (first
        | (go_at_call 29; refine (wNodes r M.n [M.wr, M.ww, M.rd, M.wt] e _ _ (hw.focus1 2 rfl)).mono ?_; rintro _ w_ ⟨rfl, rfl⟩)
        | (go_at_call 30; refine (wIn r M.n [M.wr, M.ww, M.rd, M.wt] t e _ _ (hw.focus1 2 rfl)).mono ?_; rintro _ w_ ⟨rfl, rfl⟩; rw [Hro.out]))
      exact HP.out _ _ ⟨rfl, Hw0.out⟩
    · have Hro : Hid (rowOf [M.wr, M.ww, M.rd, M.wt] t = 3) := Sep.hid (by rw [rowOf4, if_neg h2, if_neg h3, if_neg h5, if_pos (h4.resolve_left h5)])
      clear h2 h3 h4 h5
      obtain ⟨r, hw⟩ := exL.open_ hw
      have hw := hw.open_ 1 rfl
      (try simp only [List.map_cons, List.map_nil, List.getD_cons_zero, List.getD_cons_succ, List.getD_nil, List.set_cons_zero, List.set_cons_succ, List.cons_append, List.nil_append, Act.eval, Array.getD_eq_getD_getElem?, List.getElem?_toArray, List.getElem?_cons_succ, List.getElem?_cons_zero, Option.getD_some, Value.cells] at hw); (try simp (disch := first | (simp; done) | (simp; omega)) only [Sep.mid_set, Sep.mid_set2, Sep.mid_set0, Sep.mid_splice, Sep.mid_splice0, List.set_cons_zero, List.set_cons_succ] at hw); (try simp only [Sep.splice, List.take_succ_cons, List.take_zero, List.drop_succ_cons, List.drop_zero, List.length_cons, List.length_nil, Nat.reduceAdd, List.cons_append, List.nil_append] at hw)
      (try replace hc0 := Sep.Holds.cells hw (i := 0) rfl); (try replace hc1 := Sep.Holds.cells hw (i := 1) rfl); (try replace hc2 := Sep.Holds.cells hw (i := 2) rfl); (try replace hc3 := Sep.Holds.cells hw (i := 3) rfl); (try replace hc4 := Sep.Holds.cells hw (i := 4) rfl); (try replace hc5 := Sep.Holds.cells hw (i := 5) rfl); (try replace hc6 := Sep.Holds.cells hw (i := 6) rfl)
      refine Sep.calls_post ?_
      intro Post_ hPost_
      have HP := Sep.hid hPost_
      clear hPost_
      go_enter Try.func28, Try.ntmps28
      go_wp2_with (first
        | (go_at_call 29; refine (wNodes r M.n [M.wr, M.ww, M.rd, M.wt] e _ _ (hw.focus1 2 rfl)).mono ?_; rintro _ w_ ⟨rfl, rfl⟩)
        | (go_at_call 30; refine (wIn r M.n [M.wr, M.ww, M.rd, M.wt] t e _ _ (hw.focus1 2 rfl)).mono ?_; rintro _ w_ ⟨rfl, rfl⟩; rw [Hro.out]))
      exact HP.out _ _ ⟨rfl, Hw0.out⟩
  · rw [hb]; clear hb
    have Hok1 := Sep.hid (Hok.out.put k h1 h2 h3 h4 h5)
    have Hok2 := Sep.hid Hok1.out.give
    have Hro : Hid (rowOf [M.wr, M.ww, M.rd, M.wt] t = -1) := Sep.hid (by rw [rowOf4, if_neg h2, if_neg h3, if_neg h4, if_neg h5])
    have Hpe : Hid (putE M.n [M.wr, M.ww, M.rd, M.wt] t = 0) := Sep.hid (putE4 _ _ _ _ _ _ h1 h2 h3 h4 h5)
    have Hge := Sep.hid (rowOf_ge (M.put t k).give.2 t Hok2.out)
    have Hn : Hid ((M.put t k).n = M.n) := Sep.hid (put_n M t k)
    have h1a := h1.1
    have h1b := h1.2
    clear h1 h2 h3 h4 h5 Hw0
    obtain ⟨r, hw⟩ := exL.open_ hw
    have hw := hw.open_ 1 rfl
    (try simp only [List.map_cons, List.map_nil, List.getD_cons_zero, List.getD_cons_succ, List.getD_nil, List.set_cons_zero, List.set_cons_succ, List.cons_append, List.nil_append, Act.eval, Array.getD_eq_getD_getElem?, List.getElem?_toArray, List.getElem?_cons_succ, List.getElem?_cons_zero, Option.getD_some, Value.cells] at hw); (try simp (disch := first | (simp; done) | (simp; omega)) only [Sep.mid_set, Sep.mid_set2, Sep.mid_set0, Sep.mid_splice, Sep.mid_splice0, List.set_cons_zero, List.set_cons_succ] at hw); (try simp only [Sep.splice, List.take_succ_cons, List.take_zero, List.drop_succ_cons, List.drop_zero, List.length_cons, List.length_nil, Nat.reduceAdd, List.cons_append, List.nil_append] at hw)
    (try replace hc0 := Sep.Holds.cells hw (i := 0) rfl); (try replace hc1 := Sep.Holds.cells hw (i := 1) rfl); (try replace hc2 := Sep.Holds.cells hw (i := 2) rfl); (try replace hc3 := Sep.Holds.cells hw (i := 3) rfl); (try replace hc4 := Sep.Holds.cells hw (i := 4) rfl); (try replace hc5 := Sep.Holds.cells hw (i := 5) rfl); (try replace hc6 := Sep.Holds.cells hw (i := 6) rfl)
    rcases hk with ⟨rfl, rfl⟩ | ⟨rfl, rfl⟩
    · refine Sep.calls_post ?_
      intro Post_ hPost_
      have HP := Sep.hid hPost_
      clear hPost_
      go_enter Try.func28, Try.ntmps28
      go_wp2_with (first
        | (go_at_call 29; refine (wNodes r M.n [M.wr, M.ww, M.rd, M.wt] e _ _ (hw.focus1 2 rfl)).mono ?_; rintro _ w_ ⟨rfl, rfl⟩)
        | (go_at_call 30; refine (wIn r M.n [M.wr, M.ww, M.rd, M.wt] t e _ _ (hw.focus1 2 rfl)).mono ?_; rintro _ w_ ⟨rfl, rfl⟩; rw [Hro.out]))
      refine (wPut r M.n [M.wr, M.ww, M.rd, M.wt] 0 (by simp) t e _ _ (hw.focus1 2 rfl)).mono ?_
      rintro en_ w_ ⟨rfl, hw_⟩
      clear hw; (try clear hc0); (try clear hc1); (try clear hc2); (try clear hc3); (try clear hc4); (try clear hc5); (try clear hc6); have hw := Holds.unfocus1 2 (by simp) hw_; clear hw_
      (try simp only [List.map_cons, List.map_nil, List.getD_cons_zero, List.getD_cons_succ, List.getD_nil, List.set_cons_zero, List.set_cons_succ, List.cons_append, List.nil_append, Act.eval, Array.getD_eq_getD_getElem?, List.getElem?_toArray, List.getElem?_cons_succ, List.getElem?_cons_zero, Option.getD_some, Value.cells] at hw); (try simp (disch := first | (simp; done) | (simp; omega)) only [Sep.mid_set, Sep.mid_set2, Sep.mid_set0, Sep.mid_splice, Sep.mid_splice0, List.set_cons_zero, List.set_cons_succ] at hw); (try simp only [Sep.splice, List.take_succ_cons, List.take_zero, List.drop_succ_cons, List.drop_zero, List.length_cons, List.length_nil, Nat.reduceAdd, List.cons_append, List.nil_append] at hw)
      rw [show putR M.n [M.wr, M.ww, M.rd, M.wt] 0 t = [(M.put t false).wr, (M.put t false).ww, (M.put t false).rd, (M.put t false).wt] by unfold putR; rw [if_pos Hpe.out]; rfl] at hw
      have hw : Holds e w_ [X, IsRW p (M.put t false)] := exL.mk (f := rwParts p (M.put t false)) r ((hw.sel [0, 1, 2] (by decide)).addFct Hok1.out)
      go_wp2_with fail
      refine (oGive p (M.put t false) e _ _ hw).mono ?_
      rintro en_ w_ ⟨v, rfl, hw_⟩
      clear hw; have hw := hw_; clear hw_
      have Hw1 := Sep.hid (hw.sel [0, 1] (by decide))
      obtain ⟨r2, hw⟩ := hw.open' (i := 1) rfl
      (try simp only [List.map_cons, List.map_nil, List.getD_cons_zero, List.getD_cons_succ, List.getD_nil, List.set_cons_zero, List.set_cons_succ, List.cons_append, List.nil_append, Act.eval, Array.getD_eq_getD_getElem?, List.getElem?_toArray, List.getElem?_cons_succ, List.getElem?_cons_zero, Option.getD_some, Value.cells] at hw); (try simp (disch := first | (simp; done) | (simp; omega)) only [Sep.mid_set, Sep.mid_set2, Sep.mid_set0, Sep.mid_splice, Sep.mid_splice0, List.set_cons_zero, List.set_cons_succ] at hw); (try simp only [Sep.splice, List.take_succ_cons, List.take_zero, List.drop_succ_cons, List.drop_zero, List.length_cons, List.length_nil, Nat.reduceAdd, List.cons_append, List.nil_append] at hw)
      have hw := hw.open_ 1 rfl
      (try simp only [List.map_cons, List.map_nil, List.getD_cons_zero, List.getD_cons_succ, List.getD_nil, List.set_cons_zero, List.set_cons_succ, List.cons_append, List.nil_append, Act.eval, Array.getD_eq_getD_getElem?, List.getElem?_toArray, List.getElem?_cons_succ, List.getElem?_cons_zero, Option.getD_some, Value.cells] at hw); (try simp (disch := first | (simp; done) | (simp; omega)) only [Sep.mid_set, Sep.mid_set2, Sep.mid_set0, Sep.mid_splice, Sep.mid_splice0, List.set_cons_zero, List.set_cons_succ] at hw); (try simp only [Sep.splice, List.take_succ_cons, List.take_zero, List.drop_succ_cons, List.drop_zero, List.length_cons, List.length_nil, Nat.reduceAdd, List.cons_append, List.nil_append] at hw)
      (try replace hc0 := Sep.Holds.cells hw (i := 0) rfl); (try replace hc1 := Sep.Holds.cells hw (i := 1) rfl); (try replace hc2 := Sep.Holds.cells hw (i := 2) rfl); (try replace hc3 := Sep.Holds.cells hw (i := 3) rfl); (try replace hc4 := Sep.Holds.cells hw (i := 4) rfl); (try replace hc5 := Sep.Holds.cells hw (i := 5) rfl); (try replace hc6 := Sep.Holds.cells hw (i := 6) rfl)
      go_wp2_with fail
      refine (wIn r2 (M.put t false).give.2.n [(M.put t false).give.2.wr, (M.put t false).give.2.ww, (M.put t false).give.2.rd, (M.put t false).give.2.wt] t e _ _ (hw.focus1 3 rfl)).mono ?_
      rintro _ w_ ⟨rfl, rfl⟩
      go_wp2_with fail
      rw [← Hge.out] at HP
      exact HP.out _ _ ⟨rfl, Hw1.out⟩
    · refine Sep.calls_post ?_
      intro Post_ hPost_
      have HP := Sep.hid hPost_
      clear hPost_
      go_enter Try.func28, Try.ntmps28
      go_wp2_with (first
        | (go_at_call 29; refine (wNodes r M.n [M.wr, M.ww, M.rd, M.wt] e _ _ (hw.focus1 2 rfl)).mono ?_; rintro _ w_ ⟨rfl, rfl⟩)
        | (go_at_call 30; refine (wIn r M.n [M.wr, M.ww, M.rd, M.wt] t e _ _ (hw.focus1 2 rfl)).mono ?_; rintro _ w_ ⟨rfl, rfl⟩; rw [Hro.out]))
      refine (wPut r M.n [M.wr, M.ww, M.rd, M.wt] 1 (by simp) t e _ _ (hw.focus1 2 rfl)).mono ?_
      rintro en_ w_ ⟨rfl, hw_⟩
      clear hw; (try clear hc0); (try clear hc1); (try clear hc2); (try clear hc3); (try clear hc4); (try clear hc5); (try clear hc6); have hw := Holds.unfocus1 2 (by simp) hw_; clear hw_
      (try simp only [List.map_cons, List.map_nil, List.getD_cons_zero, List.getD_cons_succ, List.getD_nil, List.set_cons_zero, List.set_cons_succ, List.cons_append, List.nil_append, Act.eval, Array.getD_eq_getD_getElem?, List.getElem?_toArray, List.getElem?_cons_succ, List.getElem?_cons_zero, Option.getD_some, Value.cells] at hw); (try simp (disch := first | (simp; done) | (simp; omega)) only [Sep.mid_set, Sep.mid_set2, Sep.mid_set0, Sep.mid_splice, Sep.mid_splice0, List.set_cons_zero, List.set_cons_succ] at hw); (try simp only [Sep.splice, List.take_succ_cons, List.take_zero, List.drop_succ_cons, List.drop_zero, List.length_cons, List.length_nil, Nat.reduceAdd, List.cons_append, List.nil_append] at hw)
      rw [show putR M.n [M.wr, M.ww, M.rd, M.wt] 1 t = [(M.put t true).wr, (M.put t true).ww, (M.put t true).rd, (M.put t true).wt] by unfold putR; rw [if_pos Hpe.out]; rfl] at hw
      have hw : Holds e w_ [X, IsRW p (M.put t true)] := exL.mk (f := rwParts p (M.put t true)) r ((hw.sel [0, 1, 2] (by decide)).addFct Hok1.out)
      go_wp2_with fail
      refine (oGive p (M.put t true) e _ _ hw).mono ?_
      rintro en_ w_ ⟨v, rfl, hw_⟩
      clear hw; have hw := hw_; clear hw_
      have Hw1 := Sep.hid (hw.sel [0, 1] (by decide))
      obtain ⟨r2, hw⟩ := hw.open' (i := 1) rfl
      (try simp only [List.map_cons, List.map_nil, List.getD_cons_zero, List.getD_cons_succ, List.getD_nil, List.set_cons_zero, List.set_cons_succ, List.cons_append, List.nil_append, Act.eval, Array.getD_eq_getD_getElem?, List.getElem?_toArray, List.getElem?_cons_succ, List.getElem?_cons_zero, Option.getD_some, Value.cells] at hw); (try simp (disch := first | (simp; done) | (simp; omega)) only [Sep.mid_set, Sep.mid_set2, Sep.mid_set0, Sep.mid_splice, Sep.mid_splice0, List.set_cons_zero, List.set_cons_succ] at hw); (try simp only [Sep.splice, List.take_succ_cons, List.take_zero, List.drop_succ_cons, List.drop_zero, List.length_cons, List.length_nil, Nat.reduceAdd, List.cons_append, List.nil_append] at hw)
      have hw := hw.open_ 1 rfl
      (try simp only [List.map_cons, List.map_nil, List.getD_cons_zero, List.getD_cons_succ, List.getD_nil, List.set_cons_zero, List.set_cons_succ, List.cons_append, List.nil_append, Act.eval, Array.getD_eq_getD_getElem?, List.getElem?_toArray, List.getElem?_cons_succ, List.getElem?_cons_zero, Option.getD_some, Value.cells] at hw); (try simp (disch := first | (simp; done) | (simp; omega)) only [Sep.mid_set, Sep.mid_set2, Sep.mid_set0, Sep.mid_splice, Sep.mid_splice0, List.set_cons_zero, List.set_cons_succ] at hw); (try simp only [Sep.splice, List.take_succ_cons, List.take_zero, List.drop_succ_cons, List.drop_zero, List.length_cons, List.length_nil, Nat.reduceAdd, List.cons_append, List.nil_append] at hw)
      (try replace hc0 := Sep.Holds.cells hw (i := 0) rfl); (try replace hc1 := Sep.Holds.cells hw (i := 1) rfl); (try replace hc2 := Sep.Holds.cells hw (i := 2) rfl); (try replace hc3 := Sep.Holds.cells hw (i := 3) rfl); (try replace hc4 := Sep.Holds.cells hw (i := 4) rfl); (try replace hc5 := Sep.Holds.cells hw (i := 5) rfl); (try replace hc6 := Sep.Holds.cells hw (i := 6) rfl)
      go_wp2_with fail
      refine (wIn r2 (M.put t true).give.2.n [(M.put t true).give.2.wr, (M.put t true).give.2.ww, (M.put t true).give.2.rd, (M.put t true).give.2.wt] t e _ _ (hw.focus1 3 rfl)).mono ?_
      rintro _ w_ ⟨rfl, rfl⟩
      go_wp2_with fail
      rw [← Hge.out] at HP
      exact HP.out _ _ ⟨rfl, Hw1.out⟩
set_option maxHeartbeats 400000 in
theorem oRLock (p : Nat) (M : LM) (t : Int) (e w : World) (X : HProp) (hw : Holds e w [X, IsRW p M]) :
    Calls Try.prog 20 #[.pointer (some ⟨p, 0, none⟩), .int .i64 t] w fun en w' => en = .returned (.tuple #[.bool (M.ask t false).1, .int .i64 (M.ask t false).2.1]) ∧ Holds e w' [X, IsRW p (M.ask t false).2.2] := by
  refine Sep.calls_post ?_
  intro Post_ hPost_
  have HP := Sep.hid hPost_
  clear hPost_
  go_enter Try.func20, Try.ntmps20
  go_wp2_with fail
  refine (oAsk p M t false 0 (.inl ⟨rfl, rfl⟩) e _ _ hw).mono ?_
  rintro en_ w_ ⟨rfl, hw_⟩
  clear hw
  go_wp2_with fail
  exact HP.out _ _ ⟨rfl, hw_⟩
set_option maxHeartbeats 400000 in
theorem oLock (p : Nat) (M : LM) (t : Int) (e w : World) (X : HProp) (hw : Holds e w [X, IsRW p M]) :
    Calls Try.prog 21 #[.pointer (some ⟨p, 0, none⟩), .int .i64 t] w fun en w' => en = .returned (.tuple #[.bool (M.ask t true).1, .int .i64 (M.ask t true).2.1]) ∧ Holds e w' [X, IsRW p (M.ask t true).2.2] := by
  refine Sep.calls_post ?_
  intro Post_ hPost_
  have HP := Sep.hid hPost_
  clear hPost_
  go_enter Try.func21, Try.ntmps21
  go_wp2_with fail
  refine (oAsk p M t true 1 (.inr ⟨rfl, rfl⟩) e _ _ hw).mono ?_
  rintro en_ w_ ⟨rfl, hw_⟩
  clear hw
  go_wp2_with fail
  exact HP.out _ _ ⟨rfl, hw_⟩
set_option maxHeartbeats 1600000 in
theorem oUnlock (p : Nat) (M : LM) (t : Int) (e w : World) (X : HProp) (hw : Holds e w [X, IsRW p M]) :
    Calls Try.prog 22 #[.pointer (some ⟨p, 0, none⟩), .int .i64 t] w fun en w' => ∃ v, en = .returned (.tuple #[v, .int .i64 (M.unlock t).2.1]) ∧ Holds e w' [X, IsRW p (M.unlock t).2.2, IsInts v (M.unlock t).1] := by
  have Hw0 := Sep.hid hw
  have Hok := Sep.hid (rw_ok (i := 1) rfl hw).2
  have Hge := Sep.hid (rowOf_ge M t Hok.out)
  have Hok1 := Sep.hid (Hok.out.drop t)
  obtain ⟨r, hw⟩ := exL.open_ hw
  have hw := hw.open_ 1 rfl
  (try simp only [List.map_cons, List.map_nil, List.getD_cons_zero, List.getD_cons_succ, List.getD_nil, List.set_cons_zero, List.set_cons_succ, List.cons_append, List.nil_append, Act.eval, Array.getD_eq_getD_getElem?, List.getElem?_toArray, List.getElem?_cons_succ, List.getElem?_cons_zero, Option.getD_some, Value.cells] at hw); (try simp (disch := first | (simp; done) | (simp; omega)) only [Sep.mid_set, Sep.mid_set2, Sep.mid_set0, Sep.mid_splice, Sep.mid_splice0, List.set_cons_zero, List.set_cons_succ] at hw); (try simp only [Sep.splice, List.take_succ_cons, List.take_zero, List.drop_succ_cons, List.drop_zero, List.length_cons, List.length_nil, Nat.reduceAdd, List.cons_append, List.nil_append] at hw)
  obtain ⟨rx, hrx⟩ : ∃ x, rowOf [M.wr, M.ww, M.rd, M.wt] t = x := ⟨_, rfl⟩
  have Hrx := Sep.hid hrx; clear hrx
  (try replace hc0 := Sep.Holds.cells hw (i := 0) rfl); (try replace hc1 := Sep.Holds.cells hw (i := 1) rfl); (try replace hc2 := Sep.Holds.cells hw (i := 2) rfl); (try replace hc3 := Sep.Holds.cells hw (i := 3) rfl); (try replace hc4 := Sep.Holds.cells hw (i := 4) rfl); (try replace hc5 := Sep.Holds.cells hw (i := 5) rfl); (try replace hc6 := Sep.Holds.cells hw (i := 6) rfl)
  by_cases h0 : t < 0
  · have hb : M.unlock t = ([], 3, M) := by unfold LM.unlock; rw [if_pos (by omega)]
    rw [hb]; clear hb
    refine Sep.calls_post ?_
    intro Post_ hPost_
    have HP := Sep.hid hPost_
    clear hPost_
    go_enter Try.func22, Try.ntmps22
    go_wp2_with (first
      | (go_at_call 29; refine (wNodes r M.n [M.wr, M.ww, M.rd, M.wt] e _ _ (hw.focus1 2 rfl)).mono ?_; rintro _ w_ ⟨rfl, rfl⟩)
      | (go_at_call 30; refine (wIn r M.n [M.wr, M.ww, M.rd, M.wt] t e _ _ (hw.focus1 2 rfl)).mono ?_; rintro _ w_ ⟨rfl, rfl⟩; rw [Hrx.out]))
    exact HP.out _ _ ⟨_, rfl, Hw0.out.addEmp (Sl.nil _ _ _)⟩
  by_cases hn : (M.n : Int) ≤ t
  · have hb : M.unlock t = ([], 3, M) := by unfold LM.unlock; rw [if_pos (by omega)]
    rw [hb]; clear hb
    refine Sep.calls_post ?_
    intro Post_ hPost_
    have HP := Sep.hid hPost_
    clear hPost_
    go_enter Try.func22, Try.ntmps22
    go_wp2_with (first
      | (go_at_call 29; refine (wNodes r M.n [M.wr, M.ww, M.rd, M.wt] e _ _ (hw.focus1 2 rfl)).mono ?_; rintro _ w_ ⟨rfl, rfl⟩)
      | (go_at_call 30; refine (wIn r M.n [M.wr, M.ww, M.rd, M.wt] t e _ _ (hw.focus1 2 rfl)).mono ?_; rintro _ w_ ⟨rfl, rfl⟩; rw [Hrx.out]))
    exact HP.out _ _ ⟨_, rfl, Hw0.out.addEmp (Sl.nil _ _ _)⟩
  by_cases h : t ∈ M.rd ∨ t ∈ M.wt
  · have hb : M.unlock t = ((M.drop t).give.1, 0, (M.drop t).give.2) := by unfold LM.unlock; rw [if_neg (by omega), if_neg (fun hh => hh h)]
    have h2 : ¬ rx < 2 := by
      have := Hge.out; rw [Hrx.out, decide_eq_true h] at this; simp at this; omega
    rw [hb]; clear hb h
    refine Sep.calls_post ?_
    intro Post_ hPost_
    have HP := Sep.hid hPost_
    clear hPost_
    go_enter Try.func22, Try.ntmps22
    go_wp2_with (first
      | (go_at_call 29; refine (wNodes r M.n [M.wr, M.ww, M.rd, M.wt] e _ _ (hw.focus1 2 rfl)).mono ?_; rintro _ w_ ⟨rfl, rfl⟩)
      | (go_at_call 30; refine (wIn r M.n [M.wr, M.ww, M.rd, M.wt] t e _ _ (hw.focus1 2 rfl)).mono ?_; rintro _ w_ ⟨rfl, rfl⟩; rw [Hrx.out]))
    refine (wDrop r M.n [M.wr, M.ww, M.rd, M.wt] t e _ _ (hw.focus1 2 rfl)).mono ?_
    rintro en_ w_ ⟨rfl, hw_⟩
    clear hw; (try clear hc0); (try clear hc1); (try clear hc2); (try clear hc3); (try clear hc4); (try clear hc5); (try clear hc6); have hw := Holds.unfocus1 2 (by simp) hw_; clear hw_
    (try simp only [List.map_cons, List.map_nil, List.getD_cons_zero, List.getD_cons_succ, List.getD_nil, List.set_cons_zero, List.set_cons_succ, List.cons_append, List.nil_append, Act.eval, Array.getD_eq_getD_getElem?, List.getElem?_toArray, List.getElem?_cons_succ, List.getElem?_cons_zero, Option.getD_some, Value.cells] at hw); (try simp (disch := first | (simp; done) | (simp; omega)) only [Sep.mid_set, Sep.mid_set2, Sep.mid_set0, Sep.mid_splice, Sep.mid_splice0, List.set_cons_zero, List.set_cons_succ] at hw); (try simp only [Sep.splice, List.take_succ_cons, List.take_zero, List.drop_succ_cons, List.drop_zero, List.length_cons, List.length_nil, Nat.reduceAdd, List.cons_append, List.nil_append] at hw)
    have hw : Holds e w_ [X, IsRW p (M.drop t)] := exL.mk (f := rwParts p (M.drop t)) r ((hw.sel [0, 1, 2] (by decide)).addFct Hok1.out)
    go_wp2_with fail
    refine (oGive p (M.drop t) e _ _ hw).mono ?_
    rintro en_ w_ ⟨v, rfl, hw_⟩
    clear hw
    go_wp2_with fail
    exact HP.out _ _ ⟨v, rfl, hw_⟩
  · have hb : M.unlock t = ([], 4, M) := by unfold LM.unlock; rw [if_neg (by omega), if_pos h]
    have h2 : rx < 2 := by
      have := Hge.out; rw [Hrx.out, decide_eq_false h] at this; simp at this; omega
    rw [hb]; clear hb h
    refine Sep.calls_post ?_
    intro Post_ hPost_
    have HP := Sep.hid hPost_
    clear hPost_
    go_enter Try.func22, Try.ntmps22
    go_wp2_with (first
      | (go_at_call 29; refine (wNodes r M.n [M.wr, M.ww, M.rd, M.wt] e _ _ (hw.focus1 2 rfl)).mono ?_; rintro _ w_ ⟨rfl, rfl⟩)
      | (go_at_call 30; refine (wIn r M.n [M.wr, M.ww, M.rd, M.wt] t e _ _ (hw.focus1 2 rfl)).mono ?_; rintro _ w_ ⟨rfl, rfl⟩; rw [Hrx.out]))
    exact HP.out _ _ ⟨_, rfl, Hw0.out.addEmp (Sl.nil _ _ _)⟩
set_option maxHeartbeats 1600000 in
theorem oLeave (p : Nat) (M : LM) (t : Int) (e w : World) (X : HProp) (hw : Holds e w [X, IsRW p M]) :
    Calls Try.prog 23 #[.pointer (some ⟨p, 0, none⟩), .int .i64 t] w fun en w' => ∃ v, en = .returned (.tuple #[v, .bool (M.leave t).2.1]) ∧ Holds e w' [X, IsRW p (M.leave t).2.2, IsInts v (M.leave t).1] := by
  have Hw0 := Sep.hid hw
  have Hok := Sep.hid (rw_ok (i := 1) rfl hw).2
  have Hok1 := Sep.hid (Hok.out.drop t)
  obtain ⟨r, hw⟩ := exL.open_ hw
  have hw := hw.open_ 1 rfl
  (try simp only [List.map_cons, List.map_nil, List.getD_cons_zero, List.getD_cons_succ, List.getD_nil, List.set_cons_zero, List.set_cons_succ, List.cons_append, List.nil_append, Act.eval, Array.getD_eq_getD_getElem?, List.getElem?_toArray, List.getElem?_cons_succ, List.getElem?_cons_zero, Option.getD_some, Value.cells] at hw); (try simp (disch := first | (simp; done) | (simp; omega)) only [Sep.mid_set, Sep.mid_set2, Sep.mid_set0, Sep.mid_splice, Sep.mid_splice0, List.set_cons_zero, List.set_cons_succ] at hw); (try simp only [Sep.splice, List.take_succ_cons, List.take_zero, List.drop_succ_cons, List.drop_zero, List.length_cons, List.length_nil, Nat.reduceAdd, List.cons_append, List.nil_append] at hw)
  (try replace hc0 := Sep.Holds.cells hw (i := 0) rfl); (try replace hc1 := Sep.Holds.cells hw (i := 1) rfl); (try replace hc2 := Sep.Holds.cells hw (i := 2) rfl); (try replace hc3 := Sep.Holds.cells hw (i := 3) rfl); (try replace hc4 := Sep.Holds.cells hw (i := 4) rfl); (try replace hc5 := Sep.Holds.cells hw (i := 5) rfl); (try replace hc6 := Sep.Holds.cells hw (i := 6) rfl)
  by_cases h1 : t ∈ M.wr
  · have hb : M.leave t = ((M.drop t).give.1, true, (M.drop t).give.2) := by unfold LM.leave; rw [if_pos (.inl h1)]
    have Hrx : Hid (rowOf [M.wr, M.ww, M.rd, M.wt] t = 0) := Sep.hid (by rw [rowOf4, if_pos h1])
    rw [hb]; clear hb h1
    refine Sep.calls_post ?_
    intro Post_ hPost_
    have HP := Sep.hid hPost_
    clear hPost_
    go_enter Try.func23, Try.ntmps23
    go_wp2_with (first
      | (go_at_call 29; refine (wNodes r M.n [M.wr, M.ww, M.rd, M.wt] e _ _ (hw.focus1 2 rfl)).mono ?_; rintro _ w_ ⟨rfl, rfl⟩)
      | (go_at_call 30; refine (wIn r M.n [M.wr, M.ww, M.rd, M.wt] t e _ _ (hw.focus1 2 rfl)).mono ?_; rintro _ w_ ⟨rfl, rfl⟩; rw [Hrx.out]))
    refine (wDrop r M.n [M.wr, M.ww, M.rd, M.wt] t e _ _ (hw.focus1 2 rfl)).mono ?_
    rintro en_ w_ ⟨rfl, hw_⟩
    clear hw; (try clear hc0); (try clear hc1); (try clear hc2); (try clear hc3); (try clear hc4); (try clear hc5); (try clear hc6); have hw := Holds.unfocus1 2 (by simp) hw_; clear hw_
    (try simp only [List.map_cons, List.map_nil, List.getD_cons_zero, List.getD_cons_succ, List.getD_nil, List.set_cons_zero, List.set_cons_succ, List.cons_append, List.nil_append, Act.eval, Array.getD_eq_getD_getElem?, List.getElem?_toArray, List.getElem?_cons_succ, List.getElem?_cons_zero, Option.getD_some, Value.cells] at hw); (try simp (disch := first | (simp; done) | (simp; omega)) only [Sep.mid_set, Sep.mid_set2, Sep.mid_set0, Sep.mid_splice, Sep.mid_splice0, List.set_cons_zero, List.set_cons_succ] at hw); (try simp only [Sep.splice, List.take_succ_cons, List.take_zero, List.drop_succ_cons, List.drop_zero, List.length_cons, List.length_nil, Nat.reduceAdd, List.cons_append, List.nil_append] at hw)
    have hw : Holds e w_ [X, IsRW p (M.drop t)] := exL.mk (f := rwParts p (M.drop t)) r ((hw.sel [0, 1, 2] (by decide)).addFct Hok1.out)
    go_wp2_with fail
    refine (oGive p (M.drop t) e _ _ hw).mono ?_
    rintro en_ w_ ⟨v, rfl, hw_⟩
    clear hw
    go_wp2_with fail
    exact HP.out _ _ ⟨v, rfl, hw_⟩
  by_cases h2 : t ∈ M.ww
  · have hb : M.leave t = ((M.drop t).give.1, true, (M.drop t).give.2) := by unfold LM.leave; rw [if_pos (.inr h2)]
    have Hrx : Hid (rowOf [M.wr, M.ww, M.rd, M.wt] t = 1) := Sep.hid (by rw [rowOf4, if_neg h1, if_pos h2])
    rw [hb]; clear hb h1 h2
    refine Sep.calls_post ?_
    intro Post_ hPost_
    have HP := Sep.hid hPost_
    clear hPost_
    go_enter Try.func23, Try.ntmps23
    go_wp2_with (first
      | (go_at_call 29; refine (wNodes r M.n [M.wr, M.ww, M.rd, M.wt] e _ _ (hw.focus1 2 rfl)).mono ?_; rintro _ w_ ⟨rfl, rfl⟩)
      | (go_at_call 30; refine (wIn r M.n [M.wr, M.ww, M.rd, M.wt] t e _ _ (hw.focus1 2 rfl)).mono ?_; rintro _ w_ ⟨rfl, rfl⟩; rw [Hrx.out]))
    refine (wDrop r M.n [M.wr, M.ww, M.rd, M.wt] t e _ _ (hw.focus1 2 rfl)).mono ?_
    rintro en_ w_ ⟨rfl, hw_⟩
    clear hw; (try clear hc0); (try clear hc1); (try clear hc2); (try clear hc3); (try clear hc4); (try clear hc5); (try clear hc6); have hw := Holds.unfocus1 2 (by simp) hw_; clear hw_
    (try simp only [List.map_cons, List.map_nil, List.getD_cons_zero, List.getD_cons_succ, List.getD_nil, List.set_cons_zero, List.set_cons_succ, List.cons_append, List.nil_append, Act.eval, Array.getD_eq_getD_getElem?, List.getElem?_toArray, List.getElem?_cons_succ, List.getElem?_cons_zero, Option.getD_some, Value.cells] at hw); (try simp (disch := first | (simp; done) | (simp; omega)) only [Sep.mid_set, Sep.mid_set2, Sep.mid_set0, Sep.mid_splice, Sep.mid_splice0, List.set_cons_zero, List.set_cons_succ] at hw); (try simp only [Sep.splice, List.take_succ_cons, List.take_zero, List.drop_succ_cons, List.drop_zero, List.length_cons, List.length_nil, Nat.reduceAdd, List.cons_append, List.nil_append] at hw)
    have hw : Holds e w_ [X, IsRW p (M.drop t)] := exL.mk (f := rwParts p (M.drop t)) r ((hw.sel [0, 1, 2] (by decide)).addFct Hok1.out)
    go_wp2_with fail
    refine (oGive p (M.drop t) e _ _ hw).mono ?_
    rintro en_ w_ ⟨v, rfl, hw_⟩
    clear hw
    go_wp2_with fail
    exact HP.out _ _ ⟨v, rfl, hw_⟩
  · have hb : M.leave t = ([], false, M) := by unfold LM.leave; rw [if_neg (fun h => h.elim h1 h2)]
    obtain ⟨rx, hrx, h01⟩ : ∃ x, rowOf [M.wr, M.ww, M.rd, M.wt] t = x ∧ (¬ x = 0 ∧ ¬ x = 1) := ⟨_, rfl, by
      rw [rowOf4, if_neg h1, if_neg h2]
      repeat' split
      all_goals decide⟩
    have Hrx := Sep.hid hrx; clear hrx
    have h0 : (rx != 0) = true := by simp [h01.1]
    have h1' : (rx != 1) = true := by simp [h01.2]
    rw [hb]; clear hb h1 h2 h01
    refine Sep.calls_post ?_
    intro Post_ hPost_
    have HP := Sep.hid hPost_
    clear hPost_
    go_enter Try.func23, Try.ntmps23
    go_wp2_with (first
      | (go_at_call 29; refine (wNodes r M.n [M.wr, M.ww, M.rd, M.wt] e _ _ (hw.focus1 2 rfl)).mono ?_; rintro _ w_ ⟨rfl, rfl⟩)
      | (go_at_call 30; refine (wIn r M.n [M.wr, M.ww, M.rd, M.wt] t e _ _ (hw.focus1 2 rfl)).mono ?_; rintro _ w_ ⟨rfl, rfl⟩; rw [Hrx.out]))
    exact HP.out _ _ ⟨_, rfl, Hw0.out.addEmp (Sl.nil _ _ _)⟩
set_option maxHeartbeats 400000 in
theorem oWriter (p : Nat) (M : LM) (e w : World) (X : HProp) (hw : Holds e w [X, IsRW p M]) :
    Calls Try.prog 16 #[.pointer (some ⟨p, 0, none⟩)] w fun en w' => en = .returned (.int .i64 M.writer) ∧ Holds e w' [X, IsRW p M] := by
  obtain ⟨r, hw⟩ := exL.open_ hw
  have hw := hw.open_ 1 rfl
  (try simp only [List.map_cons, List.map_nil, List.getD_cons_zero, List.getD_cons_succ, List.getD_nil, List.set_cons_zero, List.set_cons_succ, List.cons_append, List.nil_append, Act.eval, Array.getD_eq_getD_getElem?, List.getElem?_toArray, List.getElem?_cons_succ, List.getElem?_cons_zero, Option.getD_some, Value.cells] at hw); (try simp (disch := first | (simp; done) | (simp; omega)) only [Sep.mid_set, Sep.mid_set2, Sep.mid_set0, Sep.mid_splice, Sep.mid_splice0, List.set_cons_zero, List.set_cons_succ] at hw); (try simp only [Sep.splice, List.take_succ_cons, List.take_zero, List.drop_succ_cons, List.drop_zero, List.length_cons, List.length_nil, Nat.reduceAdd, List.cons_append, List.nil_append] at hw)
  (try replace hc0 := Sep.Holds.cells hw (i := 0) rfl); (try replace hc1 := Sep.Holds.cells hw (i := 1) rfl); (try replace hc2 := Sep.Holds.cells hw (i := 2) rfl); (try replace hc3 := Sep.Holds.cells hw (i := 3) rfl); (try replace hc4 := Sep.Holds.cells hw (i := 4) rfl); (try replace hc5 := Sep.Holds.cells hw (i := 5) rfl); (try replace hc6 := Sep.Holds.cells hw (i := 6) rfl)
  refine Sep.calls_post ?_
  intro Post_ hPost_
  have HP := Sep.hid hPost_
  clear hPost_
  go_enter Try.func16, Try.ntmps16
  go_wp2_with fail
  refine (wFirst r M.n [M.wr, M.ww, M.rd, M.wt] 3 (by simp) e _ _ (hw.focus1 2 rfl)).mono ?_
  rintro en_ w_ ⟨rfl, hw_⟩
  clear hw; (try clear hc0); (try clear hc1); (try clear hc2); (try clear hc3); (try clear hc4); (try clear hc5); (try clear hc6); have hw := Holds.unfocus1 2 (by simp) hw_; clear hw_
  (try simp only [List.map_cons, List.map_nil, List.getD_cons_zero, List.getD_cons_succ, List.getD_nil, List.set_cons_zero, List.set_cons_succ, List.cons_append, List.nil_append, Act.eval, Array.getD_eq_getD_getElem?, List.getElem?_toArray, List.getElem?_cons_succ, List.getElem?_cons_zero, Option.getD_some, Value.cells] at hw); (try simp (disch := first | (simp; done) | (simp; omega)) only [Sep.mid_set, Sep.mid_set2, Sep.mid_set0, Sep.mid_splice, Sep.mid_splice0, List.set_cons_zero, List.set_cons_succ] at hw); (try simp only [Sep.splice, List.take_succ_cons, List.take_zero, List.drop_succ_cons, List.drop_zero, List.length_cons, List.length_nil, Nat.reduceAdd, List.cons_append, List.nil_append] at hw)
  rw [show (([M.wr, M.ww, M.rd, M.wt].getD 3 []).headD (-1)) = M.writer from rfl]
  generalize M.writer = wx at *
  go_wp2_with fail
  exact HP.out _ _ ⟨rfl, exL.mk (f := rwParts p M) r hw⟩
set_option maxHeartbeats 400000 in
theorem oReaders (p : Nat) (M : LM) (e w : World) (X : HProp) (hw : Holds e w [X, IsRW p M]) :
    Calls Try.prog 17 #[.pointer (some ⟨p, 0, none⟩)] w fun en w' => ∃ v, en = .returned v ∧ Holds e w' [X, IsRW p M, IsInts v M.rd] := by
  obtain ⟨r, hw⟩ := exL.open_ hw
  have hw := hw.open_ 1 rfl
  (try simp only [List.map_cons, List.map_nil, List.getD_cons_zero, List.getD_cons_succ, List.getD_nil, List.set_cons_zero, List.set_cons_succ, List.cons_append, List.nil_append, Act.eval, Array.getD_eq_getD_getElem?, List.getElem?_toArray, List.getElem?_cons_succ, List.getElem?_cons_zero, Option.getD_some, Value.cells] at hw); (try simp (disch := first | (simp; done) | (simp; omega)) only [Sep.mid_set, Sep.mid_set2, Sep.mid_set0, Sep.mid_splice, Sep.mid_splice0, List.set_cons_zero, List.set_cons_succ] at hw); (try simp only [Sep.splice, List.take_succ_cons, List.take_zero, List.drop_succ_cons, List.drop_zero, List.length_cons, List.length_nil, Nat.reduceAdd, List.cons_append, List.nil_append] at hw)
  (try replace hc0 := Sep.Holds.cells hw (i := 0) rfl); (try replace hc1 := Sep.Holds.cells hw (i := 1) rfl); (try replace hc2 := Sep.Holds.cells hw (i := 2) rfl); (try replace hc3 := Sep.Holds.cells hw (i := 3) rfl); (try replace hc4 := Sep.Holds.cells hw (i := 4) rfl); (try replace hc5 := Sep.Holds.cells hw (i := 5) rfl); (try replace hc6 := Sep.Holds.cells hw (i := 6) rfl)
  refine Sep.calls_post ?_
  intro Post_ hPost_
  have HP := Sep.hid hPost_
  clear hPost_
  go_enter Try.func17, Try.ntmps17
  go_wp2_with fail
  refine (wList r M.n [M.wr, M.ww, M.rd, M.wt] 2 e _ _ (hw.focus1 2 rfl)).mono ?_
  rintro en_ w_ ⟨v, rfl, hw_⟩
  clear hw; (try clear hc0); (try clear hc1); (try clear hc2); (try clear hc3); (try clear hc4); (try clear hc5); (try clear hc6); have hw := Holds.unfocus1 2 (by simp) hw_; clear hw_
  (try simp only [List.map_cons, List.map_nil, List.getD_cons_zero, List.getD_cons_succ, List.getD_nil, List.set_cons_zero, List.set_cons_succ, List.cons_append, List.nil_append, Act.eval, Array.getD_eq_getD_getElem?, List.getElem?_toArray, List.getElem?_cons_succ, List.getElem?_cons_zero, Option.getD_some, Value.cells] at hw); (try simp (disch := first | (simp; done) | (simp; omega)) only [Sep.mid_set, Sep.mid_set2, Sep.mid_set0, Sep.mid_splice, Sep.mid_splice0, List.set_cons_zero, List.set_cons_succ] at hw); (try simp only [Sep.splice, List.take_succ_cons, List.take_zero, List.drop_succ_cons, List.drop_zero, List.length_cons, List.length_nil, Nat.reduceAdd, List.cons_append, List.nil_append] at hw)
  go_wp2_with fail
  refine HP.out _ _ ⟨v, rfl, ?_⟩
  have h := Holds.group [X, IsInts v M.rd] _ (hw.sel [0, 4, 1, 2, 3] (by decide))
  have h2 := exL.mk (f := rwParts p M) r h
  exact (Holds.ungroup [X, IsInts v M.rd] [_] h2).sel [0, 2, 1] (by decide)
set_option maxHeartbeats 800000 in
theorem oWaiting (p : Nat) (M : LM) (e w : World) (X : HProp) (hw : Holds e w [X, IsRW p M]) :
    Calls Try.prog 14 #[.pointer (some ⟨p, 0, none⟩)] w fun en w' => ∃ u v, en = .returned (.tuple #[u, v]) ∧ Holds e w' [X, IsRW p M, IsInts u M.wr, IsInts v M.ww] := by
  obtain ⟨r, hw⟩ := exL.open_ hw
  have hw := hw.open_ 1 rfl
  (try simp only [List.map_cons, List.map_nil, List.getD_cons_zero, List.getD_cons_succ, List.getD_nil, List.set_cons_zero, List.set_cons_succ, List.cons_append, List.nil_append, Act.eval, Array.getD_eq_getD_getElem?, List.getElem?_toArray, List.getElem?_cons_succ, List.getElem?_cons_zero, Option.getD_some, Value.cells] at hw); (try simp (disch := first | (simp; done) | (simp; omega)) only [Sep.mid_set, Sep.mid_set2, Sep.mid_set0, Sep.mid_splice, Sep.mid_splice0, List.set_cons_zero, List.set_cons_succ] at hw); (try simp only [Sep.splice, List.take_succ_cons, List.take_zero, List.drop_succ_cons, List.drop_zero, List.length_cons, List.length_nil, Nat.reduceAdd, List.cons_append, List.nil_append] at hw)
  (try replace hc0 := Sep.Holds.cells hw (i := 0) rfl); (try replace hc1 := Sep.Holds.cells hw (i := 1) rfl); (try replace hc2 := Sep.Holds.cells hw (i := 2) rfl); (try replace hc3 := Sep.Holds.cells hw (i := 3) rfl); (try replace hc4 := Sep.Holds.cells hw (i := 4) rfl); (try replace hc5 := Sep.Holds.cells hw (i := 5) rfl); (try replace hc6 := Sep.Holds.cells hw (i := 6) rfl)
  refine Sep.calls_post ?_
  intro Post_ hPost_
  have HP := Sep.hid hPost_
  clear hPost_
  go_enter Try.func14, Try.ntmps14
  go_wp2_with fail
  refine wp_region_L [4, 9] [(3, (fun w' => w' = w.drew)), (8, (fun w' => Holds e w' [pt p [.pointer (some ⟨r, 0, none⟩)] 61]))] (n := 12) (listed := (marks 12 0)) (by kernel_rfl) rfl (by kernel_rfl) ?conds1 ?_
  case conds1 =>
   intro c hc
   simp only [List.mem_cons, List.not_mem_nil, or_false] at hc
   rcases hc with rfl | rfl
   · rfl
   · exact (by replace hw := hw.drew; exact hw.sel [1] (by decide))
  replace hw := hw.drew
  (try replace hc0 := Sep.Holds.cells hw (i := 0) rfl); (try replace hc1 := Sep.Holds.cells hw (i := 1) rfl); (try replace hc2 := Sep.Holds.cells hw (i := 2) rfl); (try replace hc3 := Sep.Holds.cells hw (i := 3) rfl); (try replace hc4 := Sep.Holds.cells hw (i := 4) rfl); (try replace hc5 := Sep.Holds.cells hw (i := 5) rfl); (try replace hc6 := Sep.Holds.cells hw (i := 6) rfl)
  refine wpL_q 0 ?_ rfl (Or.inl ⟨by rfl, fun w_ hS_ => ?_⟩) (marks 12 1) ?_
  rotate_left
  next => (go_simp; try (first | rfl | exact (Bool.not_not _).symm))
  try simp only [Act.put, List.setIfInBounds_toArray, List.set_cons_zero, List.set_cons_succ]
  refine wpL_q 1 ?_ rfl (Or.inl ⟨by rfl, fun w_ hS_ => ?_⟩) (marks 12 3) ?_
  rotate_left
  next => (go_simp; try (first | rfl | exact (Bool.not_not _).symm))
  try simp only [Act.put, List.setIfInBounds_toArray, List.set_cons_zero, List.set_cons_succ]
  refine wpL_q 2 ?_ rfl (Or.inl ⟨by rfl, fun w_ hS_ => ?_⟩) (marks 12 7) ?_
  rotate_left
  next => (go_simp; try (first | rfl | exact (Bool.not_not _).symm))
  try simp only [Act.put, List.setIfInBounds_toArray, List.set_cons_zero, List.set_cons_succ]
  refine wpL_m 3 ?_ rfl (.head _) (Or.inl ⟨by rfl, fun w_ hS_ => ?_⟩) (marks 12 15) ?_
  rotate_left
  next => (subst hS_; go_simp; try (first | rfl | exact (Bool.not_not _).symm))
  try simp only [Act.put, List.setIfInBounds_toArray, List.set_cons_zero, List.set_cons_succ]
  refine wpL_q 5 ?_ rfl (Or.inl ⟨by rfl, fun w_ hS_ => ?_⟩) (marks 12 47) ?_
  rotate_left
  next => (go_simp; try (first | rfl | exact (Bool.not_not _).symm))
  try simp only [Act.put, List.setIfInBounds_toArray, List.set_cons_zero, List.set_cons_succ]
  refine wpL_q 6 ?_ rfl (Or.inl ⟨by rfl, fun w_ hS_ => ?_⟩) (marks 12 111) ?_
  rotate_left
  next => (go_simp; try (first | rfl | exact (Bool.not_not _).symm))
  try simp only [Act.put, List.setIfInBounds_toArray, List.set_cons_zero, List.set_cons_succ]
  refine wpL_q 7 ?_ rfl (Or.inl ⟨by rfl, fun w_ hS_ => ?_⟩) (marks 12 239) ?_
  rotate_left
  next => (go_simp; try (first | rfl | exact (Bool.not_not _).symm))
  try simp only [Act.put, List.setIfInBounds_toArray, List.set_cons_zero, List.set_cons_succ]
  refine wpL_m 8 ?_ rfl (.tail _ (.head _)) (Or.inl ⟨by rfl, fun w_ hS_ => ?_⟩) (marks 12 495) ?_
  rotate_left
  next => (dsimp only at hS_; (try have q0 := Sep.Holds.cells hS_ (i := 0) rfl); (try have q1 := Sep.Holds.cells hS_ (i := 1) rfl); (try have q2 := Sep.Holds.cells hS_ (i := 2) rfl); (try have q3 := Sep.Holds.cells hS_ (i := 3) rfl); (try have q4 := Sep.Holds.cells hS_ (i := 4) rfl); (try have q5 := Sep.Holds.cells hS_ (i := 5) rfl); (try have q6 := Sep.Holds.cells hS_ (i := 6) rfl); go_simp; try (first | rfl | exact (Bool.not_not _).symm))
  try simp only [Act.put, List.setIfInBounds_toArray, List.set_cons_zero, List.set_cons_succ]
  refine wpL_o 4 rfl (by rfl) (marks 12 511) ?_
  (go_simp; go_at_call 26; refine (wList r M.n [M.wr, M.ww, M.rd, M.wt] 0 e _ _ (hw.focus1 2 rfl)).mono ?_; rintro _ w_ ⟨u, rfl, hw_⟩; clear hw; (try clear hc0); (try clear hc1); (try clear hc2); (try clear hc3); (try clear hc4); (try clear hc5); (try clear hc6); have hw := Holds.unfocus1 2 (by simp) hw_; clear hw_; (try simp only [List.map_cons, List.map_nil, List.getD_cons_zero, List.getD_cons_succ, List.getD_nil, List.set_cons_zero, List.set_cons_succ, List.cons_append, List.nil_append, Act.eval, Array.getD_eq_getD_getElem?, List.getElem?_toArray, List.getElem?_cons_succ, List.getElem?_cons_zero, Option.getD_some, Value.cells] at hw); (try simp (disch := first | (simp; done) | (simp; omega)) only [Sep.mid_set, Sep.mid_set2, Sep.mid_set0, Sep.mid_splice, Sep.mid_splice0, List.set_cons_zero, List.set_cons_succ] at hw); (try simp only [Sep.splice, List.take_succ_cons, List.take_zero, List.drop_succ_cons, List.drop_zero, List.length_cons, List.length_nil, Nat.reduceAdd, List.cons_append, List.nil_append] at hw); (try replace hc0 := Sep.Holds.cells hw (i := 0) rfl); (try replace hc1 := Sep.Holds.cells hw (i := 1) rfl); (try replace hc2 := Sep.Holds.cells hw (i := 2) rfl); (try replace hc3 := Sep.Holds.cells hw (i := 3) rfl); (try replace hc4 := Sep.Holds.cells hw (i := 4) rfl); (try replace hc5 := Sep.Holds.cells hw (i := 5) rfl); (try replace hc6 := Sep.Holds.cells hw (i := 6) rfl))
  refine ⟨(SL.drop 4 (by kernel_rfl) (SL.keep (by exact hw.sel [1] (by decide)) SL.nil)), ?_⟩
  try simp only [Act.put, List.setIfInBounds_toArray, List.set_cons_zero, List.set_cons_succ]
  refine wpL_o 9 rfl (by rfl) (marks 12 1023) ?_
  (go_simp; go_at_call 26; refine (wList r M.n [M.wr, M.ww, M.rd, M.wt] 1 e _ _ (hw.focus1 2 rfl)).mono ?_; rintro _ w_ ⟨v, rfl, hw_⟩; clear hw; (try clear hc0); (try clear hc1); (try clear hc2); (try clear hc3); (try clear hc4); (try clear hc5); (try clear hc6); have hw := Holds.unfocus1 2 (by simp) hw_; clear hw_; (try simp only [List.map_cons, List.map_nil, List.getD_cons_zero, List.getD_cons_succ, List.getD_nil, List.set_cons_zero, List.set_cons_succ, List.cons_append, List.nil_append, Act.eval, Array.getD_eq_getD_getElem?, List.getElem?_toArray, List.getElem?_cons_succ, List.getElem?_cons_zero, Option.getD_some, Value.cells] at hw); (try simp (disch := first | (simp; done) | (simp; omega)) only [Sep.mid_set, Sep.mid_set2, Sep.mid_set0, Sep.mid_splice, Sep.mid_splice0, List.set_cons_zero, List.set_cons_succ] at hw); (try simp only [Sep.splice, List.take_succ_cons, List.take_zero, List.drop_succ_cons, List.drop_zero, List.length_cons, List.length_nil, Nat.reduceAdd, List.cons_append, List.nil_append] at hw); (try replace hc0 := Sep.Holds.cells hw (i := 0) rfl); (try replace hc1 := Sep.Holds.cells hw (i := 1) rfl); (try replace hc2 := Sep.Holds.cells hw (i := 2) rfl); (try replace hc3 := Sep.Holds.cells hw (i := 3) rfl); (try replace hc4 := Sep.Holds.cells hw (i := 4) rfl); (try replace hc5 := Sep.Holds.cells hw (i := 5) rfl); (try replace hc6 := Sep.Holds.cells hw (i := 6) rfl))
  refine ⟨(SL.drop 4 (by kernel_rfl) (SL.drop 9 (by kernel_rfl) SL.nil)), ?_⟩
  try simp only [Act.put, List.setIfInBounds_toArray, List.set_cons_zero, List.set_cons_succ]
  refine wpL_q 10 ?_ rfl (Or.inl ⟨by rfl, fun w_ hS_ => ?_⟩) (marks 12 2047) ?_
  rotate_left
  next => (go_simp; try (first | rfl | exact (Bool.not_not _).symm))
  try simp only [Act.put, List.setIfInBounds_toArray, List.set_cons_zero, List.set_cons_succ]
  refine wpL_q 11 ?_ rfl (Or.inl ⟨by rfl, fun w_ hS_ => ?_⟩) (marks 12 4095) ?_
  rotate_left
  next => (go_simp; try (first | rfl | exact (Bool.not_not _).symm))
  try simp only [Act.put, List.setIfInBounds_toArray, List.set_cons_zero, List.set_cons_succ]
  all_goals refine wpL_done (by kernel_rfl) ?_ _
  go_wp2_with fail
  refine HP.out _ _ ⟨u, v, rfl, ?_⟩
  have h : Holds e _ [X, IsInts u M.wr, IsInts v M.ww, _, _, _] := hw.sel [0, 4, 5, 1, 2, 3] (by decide)
  have h := Holds.group [X, IsInts u M.wr, IsInts v M.ww] _ h
  have h2 := exL.mk (f := rwParts p M) r h
  exact (Holds.ungroup [X, IsInts u M.wr, IsInts v M.ww] [_] h2).sel [0, 3, 1, 2] (by decide)
end Go.Proofs.Ytlngkjgoacelfaa
