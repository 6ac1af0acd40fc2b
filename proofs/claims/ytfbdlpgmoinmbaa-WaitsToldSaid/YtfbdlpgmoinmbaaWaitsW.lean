/-
  The walks of the methods of a group that is waited for.
-/
import Derived.Test.YtfbdlpgmoinmbaaWaitsM
import Derived.Test.YtfbdlpgmoinmbaaRowsW
import Derived.Test.YtfbdlpgmoinmbaaIntsR8
import Derived.Test.YtfbdlpgmoinmbaaSepRet
namespace Go.Proofs.Ytfbdlpgmoinmbaa
set_option linter.unusedSimpArgs false
set_option linter.unusedVariables false
open Go.RowKit Go.Sep Go.RingM

def waitsParts (p : Nat) (M : WM) (r : Nat) : List HProp := [pt p [.pointer (some ⟨r, 0, none⟩), .int .i64 M.c] 56, IsRows r M.n [M.row], fct (0 ≤ M.c ∧ M.c ≤ 9223372036854775807)]
def IsWaits (p : Nat) (M : WM) : HProp := exL (waitsParts p M)

theorem waits_ok {p i : Nat} {M : WM} {e w : World} {L : List HProp} (hi : L[i]? = some (IsWaits p M)) (hw : Holds e w L) : RowsOk M.n [M.row] ∧ 0 ≤ M.c ∧ M.c ≤ 9223372036854775807 := by
  have hw := hw.focus1 i hi
  obtain ⟨r, hw⟩ := exL.open_ hw
  have hw := hw.open_ 1 rfl
  (try simp only [List.map_cons, List.map_nil, List.getD_cons_zero, List.getD_cons_succ, List.getD_nil, List.set_cons_zero, List.set_cons_succ, List.cons_append, List.nil_append, Act.eval, Array.getD_eq_getD_getElem?, List.getElem?_toArray, List.getElem?_cons_succ, List.getElem?_cons_zero, Option.getD_some, Value.cells] at hw); (try simp (disch := first | (simp; done) | (simp; omega)) only [Sep.mid_set, Sep.mid_set2, Sep.mid_set0, Sep.mid_splice, Sep.mid_splice0, List.set_cons_zero, List.set_cons_succ] at hw); (try simp only [Sep.splice, List.take_succ_cons, List.take_zero, List.drop_succ_cons, List.drop_zero, List.length_cons, List.length_nil, Nat.reduceAdd, List.cons_append, List.nil_append] at hw)
  exact ⟨Holds.rowsOk (i := 2) rfl hw, Holds.fct (i := 3) rfl hw⟩
theorem waits_len {p i : Nat} {M : WM} {e w : World} {L : List HProp} (hi : L[i]? = some (IsWaits p M)) (hw : Holds e w L) : M.row.length ≤ 1000 := by
  have h := (waits_ok hi hw).1
  exact Nat.le_trans (rowsLen h (by simp)) h.n2
set_option maxHeartbeats 800000 in
theorem oNew_ok (n : Nat) (n1 : 1 ≤ n) (n2 : n ≤ 1000) (e w : World) (X : HProp) (hw : Holds e w [X]) :
    Calls Try.prog 7 #[.int .i64 (n : Int)] w fun en w' => ∃ p, en = .returned (.tuple #[.pointer (some ⟨p, 0, none⟩), .int .i64 0]) ∧ Holds e w' [X, IsWaits p ⟨n, 0, []⟩] := by
  refine Sep.calls_post ?_
  intro Post_ hPost_
  have HP := Sep.hid hPost_
  clear hPost_
  go_enter Try.func7, Try.ntmps7
  go_wp2_with fail
  refine (wNew 1 n n1 n2 (by decide) (by decide) e _ _ hw).mono ?_
  rintro en_ w_ ⟨r, rfl, hw_⟩
  clear hw; have hw := hw_; clear hw_
  go_wp2_with (refine wpList_on rfl (wp_box rfl hw ?_); intro b_ w_ hw_; clear hw; have hw := hw_; clear hw_; (try simp only [List.map_cons, List.map_nil, List.getD_cons_zero, List.getD_cons_succ, List.getD_nil, List.set_cons_zero, List.set_cons_succ, List.cons_append, List.nil_append, Act.eval, Array.getD_eq_getD_getElem?, List.getElem?_toArray, List.getElem?_cons_succ, List.getElem?_cons_zero, Option.getD_some, Value.cells] at hw); (try simp (disch := first | (simp; done) | (simp; omega)) only [Sep.mid_set, Sep.mid_set2, Sep.mid_set0, Sep.mid_splice, Sep.mid_splice0, List.set_cons_zero, List.set_cons_succ] at hw); (try simp only [Sep.splice, List.take_succ_cons, List.take_zero, List.drop_succ_cons, List.drop_zero, List.length_cons, List.length_nil, Nat.reduceAdd, List.cons_append, List.nil_append] at hw); (try replace hc0 := Sep.Holds.cells hw (i := 0) rfl); (try replace hc1 := Sep.Holds.cells hw (i := 1) rfl); (try replace hc2 := Sep.Holds.cells hw (i := 2) rfl); (try replace hc3 := Sep.Holds.cells hw (i := 3) rfl); (try replace hc4 := Sep.Holds.cells hw (i := 4) rfl); (try replace hc5 := Sep.Holds.cells hw (i := 5) rfl); (try replace hc6 := Sep.Holds.cells hw (i := 6) rfl))
  refine HP.out _ _ ⟨_, rfl, ?_⟩
  exact exL.mk (f := waitsParts _ ⟨n, 0, []⟩) r ((hw.addFct (p := (0 : Int) ≤ 0 ∧ (0 : Int) ≤ 9223372036854775807) (by decide)).sel [0, 2, 1, 3] (by decide))
set_option maxHeartbeats 800000 in
theorem oNew_no (n : Int) (h : n < 1 ∨ 1000 < n) (w : World) :
    Calls Try.prog 7 #[.int .i64 n] w fun en w' => en = .returned (.tuple #[.pointer none, .int .i64 1]) ∧ w' = w := by
  have H := Sep.hid h; clear h
  refine Sep.calls_post ?_
  intro Post_ hPost_
  have HP := Sep.hid hPost_
  clear hPost_
  go_enter Try.func7, Try.ntmps7
  go_wp2_with fail
  refine (rNew_no 1 n (by have := H.out; omega) _).mono ?_
  rintro en_ w_ ⟨rfl, rfl⟩
  go_wp2_with fail
  exact HP.out _ _ ⟨rfl, rfl⟩
set_option maxHeartbeats 1600000 in
theorem oWait (p : Nat) (M : WM) (t : Int) (e w : World) (X : HProp) (hw : Holds e w [X, IsWaits p M]) :
    Calls Try.prog 18 #[.pointer (some ⟨p, 0, none⟩), .int .i64 t] w fun en w' => en = .returned (.tuple #[.bool (M.wait t).1, .int .i64 (M.wait t).2.1]) ∧ Holds e w' [X, IsWaits p (M.wait t).2.2] := by
  have Hw0 := Sep.hid hw
  obtain ⟨r, hw⟩ := exL.open_ hw
  have hw := hw.open_ 1 rfl
  (try simp only [List.map_cons, List.map_nil, List.getD_cons_zero, List.getD_cons_succ, List.getD_nil, List.set_cons_zero, List.set_cons_succ, List.cons_append, List.nil_append, Act.eval, Array.getD_eq_getD_getElem?, List.getElem?_toArray, List.getElem?_cons_succ, List.getElem?_cons_zero, Option.getD_some, Value.cells] at hw); (try simp (disch := first | (simp; done) | (simp; omega)) only [Sep.mid_set, Sep.mid_set2, Sep.mid_set0, Sep.mid_splice, Sep.mid_splice0, List.set_cons_zero, List.set_cons_succ] at hw); (try simp only [Sep.splice, List.take_succ_cons, List.take_zero, List.drop_succ_cons, List.drop_zero, List.length_cons, List.length_nil, Nat.reduceAdd, List.cons_append, List.nil_append] at hw)
  have Hc := Sep.hid (Holds.fct (i := 3) rfl hw)
  by_cases ht0 : t < 0
  · have hb : M.wait t = (false, 3, M) := by unfold WM.wait; rw [if_pos (by omega)]
    rw [hb]; clear hb
    refine Sep.calls_post ?_
    intro Post_ hPost_
    have HP := Sep.hid hPost_
    clear hPost_
    go_enter Try.func18, Try.ntmps18
    go_wp2_with fail
    exact HP.out _ _ ⟨rfl, Hw0.out⟩
  by_cases htn : (M.n : Int) ≤ t
  · have hb : M.wait t = (false, 3, M) := by unfold WM.wait; rw [if_pos (by omega)]
    rw [hb]; clear hb
    (try replace hc0 := Sep.Holds.cells hw (i := 0) rfl); (try replace hc1 := Sep.Holds.cells hw (i := 1) rfl); (try replace hc2 := Sep.Holds.cells hw (i := 2) rfl); (try replace hc3 := Sep.Holds.cells hw (i := 3) rfl); (try replace hc4 := Sep.Holds.cells hw (i := 4) rfl); (try replace hc5 := Sep.Holds.cells hw (i := 5) rfl); (try replace hc6 := Sep.Holds.cells hw (i := 6) rfl)
    refine Sep.calls_post ?_
    intro Post_ hPost_
    have HP := Sep.hid hPost_
    clear hPost_
    go_enter Try.func18, Try.ntmps18
    go_wp2_with (go_at_call 24; refine (wNodes r M.n [M.row] e _ _ (hw.focus1 2 rfl)).mono ?_; rintro _ w_ ⟨rfl, rfl⟩)
    exact HP.out _ _ ⟨rfl, Hw0.out⟩
  have ht : 0 ≤ t ∧ t < M.n := by omega
  by_cases hr : t ∈ M.row
  · have hb : M.wait t = (false, 6, M) := by unfold WM.wait; rw [if_neg (fun h => h ht), if_pos hr]
    rw [hb]; clear hb
    have Hro : Hid (rowOf [M.row] t = 0) := Sep.hid (by rw [rowOf1, if_pos hr])
    clear ht hr
    (try replace hc0 := Sep.Holds.cells hw (i := 0) rfl); (try replace hc1 := Sep.Holds.cells hw (i := 1) rfl); (try replace hc2 := Sep.Holds.cells hw (i := 2) rfl); (try replace hc3 := Sep.Holds.cells hw (i := 3) rfl); (try replace hc4 := Sep.Holds.cells hw (i := 4) rfl); (try replace hc5 := Sep.Holds.cells hw (i := 5) rfl); (try replace hc6 := Sep.Holds.cells hw (i := 6) rfl)
    refine Sep.calls_post ?_
    intro Post_ hPost_
    have HP := Sep.hid hPost_
    clear hPost_
    go_enter Try.func18, Try.ntmps18
    go_wp2_with (first
      | (go_at_call 24; refine (wNodes r M.n [M.row] e _ _ (hw.focus1 2 rfl)).mono ?_; rintro _ w_ ⟨rfl, rfl⟩)
      | (go_at_call 25; refine (wIn r M.n [M.row] t e _ _ (hw.focus1 2 rfl)).mono ?_; rintro _ w_ ⟨rfl, rfl⟩; rw [Hro.out]))
    exact HP.out _ _ ⟨rfl, Hw0.out⟩
  have Hro : Hid (rowOf [M.row] t = -1) := Sep.hid (by rw [rowOf1, if_neg hr])
  by_cases hc0 : M.c = 0
  · have hb : M.wait t = (true, 0, M) := by unfold WM.wait; rw [if_neg (fun h => h ht), if_neg hr, if_pos hc0]
    rw [hb]; clear hb ht hr
    (try replace hc0 := Sep.Holds.cells hw (i := 0) rfl); (try replace hc1 := Sep.Holds.cells hw (i := 1) rfl); (try replace hc2 := Sep.Holds.cells hw (i := 2) rfl); (try replace hc3 := Sep.Holds.cells hw (i := 3) rfl); (try replace hc4 := Sep.Holds.cells hw (i := 4) rfl); (try replace hc5 := Sep.Holds.cells hw (i := 5) rfl); (try replace hc6 := Sep.Holds.cells hw (i := 6) rfl)
    refine Sep.calls_post ?_
    intro Post_ hPost_
    have HP := Sep.hid hPost_
    clear hPost_
    go_enter Try.func18, Try.ntmps18
    go_wp2_with (first
      | (go_at_call 24; refine (wNodes r M.n [M.row] e _ _ (hw.focus1 2 rfl)).mono ?_; rintro _ w_ ⟨rfl, rfl⟩)
      | (go_at_call 25; refine (wIn r M.n [M.row] t e _ _ (hw.focus1 2 rfl)).mono ?_; rintro _ w_ ⟨rfl, rfl⟩; rw [Hro.out]))
    exact HP.out _ _ ⟨rfl, Hw0.out⟩
  · have hb : M.wait t = (false, 0, { M with row := M.row ++ [t] }) := by unfold WM.wait; rw [if_neg (fun h => h ht), if_neg hr, if_neg hc0]
    rw [hb]; clear hb
    have Hpe : Hid (putE M.n [M.row] t = 0) := Sep.hid (by rw [putE1, if_pos ht, if_neg hr])
    have Hpr : Hid (putR M.n [M.row] 0 t = [M.row ++ [t]]) := Sep.hid (by rw [putR1, if_pos Hpe.out])
    clear ht hr
    (try replace hc0 := Sep.Holds.cells hw (i := 0) rfl); (try replace hc1 := Sep.Holds.cells hw (i := 1) rfl); (try replace hc2 := Sep.Holds.cells hw (i := 2) rfl); (try replace hc3 := Sep.Holds.cells hw (i := 3) rfl); (try replace hc4 := Sep.Holds.cells hw (i := 4) rfl); (try replace hc5 := Sep.Holds.cells hw (i := 5) rfl); (try replace hc6 := Sep.Holds.cells hw (i := 6) rfl)
    refine Sep.calls_post ?_
    intro Post_ hPost_
    have HP := Sep.hid hPost_
    clear hPost_
    go_enter Try.func18, Try.ntmps18
    go_wp2_with (first
      | (go_at_call 24; refine (wNodes r M.n [M.row] e _ _ (hw.focus1 2 rfl)).mono ?_; rintro _ w_ ⟨rfl, rfl⟩)
      | (go_at_call 25; refine (wIn r M.n [M.row] t e _ _ (hw.focus1 2 rfl)).mono ?_; rintro _ w_ ⟨rfl, rfl⟩; rw [Hro.out]))
    refine (wPut r M.n [M.row] 0 (by simp) t e _ _ (hw.focus1 2 rfl)).mono ?_
    rintro en_ w_ ⟨rfl, hw_⟩
    clear hw; (try clear hc0); (try clear hc1); (try clear hc2); (try clear hc3); (try clear hc4); (try clear hc5); (try clear hc6); have hw := Holds.unfocus1 2 (by simp) hw_; clear hw_
    (try simp only [List.map_cons, List.map_nil, List.getD_cons_zero, List.getD_cons_succ, List.getD_nil, List.set_cons_zero, List.set_cons_succ, List.cons_append, List.nil_append, Act.eval, Array.getD_eq_getD_getElem?, List.getElem?_toArray, List.getElem?_cons_succ, List.getElem?_cons_zero, Option.getD_some, Value.cells] at hw); (try simp (disch := first | (simp; done) | (simp; omega)) only [Sep.mid_set, Sep.mid_set2, Sep.mid_set0, Sep.mid_splice, Sep.mid_splice0, List.set_cons_zero, List.set_cons_succ] at hw); (try simp only [Sep.splice, List.take_succ_cons, List.take_zero, List.drop_succ_cons, List.drop_zero, List.length_cons, List.length_nil, Nat.reduceAdd, List.cons_append, List.nil_append] at hw)
    rw [Hpe.out]
    rw [Hpr.out] at hw
    go_wp2_with fail
    exact HP.out _ _ ⟨rfl, exL.mk (f := waitsParts p ⟨M.n, M.c, M.row ++ [t]⟩) r hw⟩
set_option maxHeartbeats 400000 in
theorem oLeave (p : Nat) (M : WM) (t : Int) (e w : World) (X : HProp) (hw : Holds e w [X, IsWaits p M]) :
    Calls Try.prog 20 #[.pointer (some ⟨p, 0, none⟩), .int .i64 t] w fun en w' => en = .returned (.bool (M.leave t).1) ∧ Holds e w' [X, IsWaits p (M.leave t).2] := by
  obtain ⟨r, hw⟩ := exL.open_ hw
  have hw := hw.open_ 1 rfl
  (try simp only [List.map_cons, List.map_nil, List.getD_cons_zero, List.getD_cons_succ, List.getD_nil, List.set_cons_zero, List.set_cons_succ, List.cons_append, List.nil_append, Act.eval, Array.getD_eq_getD_getElem?, List.getElem?_toArray, List.getElem?_cons_succ, List.getElem?_cons_zero, Option.getD_some, Value.cells] at hw); (try simp (disch := first | (simp; done) | (simp; omega)) only [Sep.mid_set, Sep.mid_set2, Sep.mid_set0, Sep.mid_splice, Sep.mid_splice0, List.set_cons_zero, List.set_cons_succ] at hw); (try simp only [Sep.splice, List.take_succ_cons, List.take_zero, List.drop_succ_cons, List.drop_zero, List.length_cons, List.length_nil, Nat.reduceAdd, List.cons_append, List.nil_append] at hw)
  (try replace hc0 := Sep.Holds.cells hw (i := 0) rfl); (try replace hc1 := Sep.Holds.cells hw (i := 1) rfl); (try replace hc2 := Sep.Holds.cells hw (i := 2) rfl); (try replace hc3 := Sep.Holds.cells hw (i := 3) rfl); (try replace hc4 := Sep.Holds.cells hw (i := 4) rfl); (try replace hc5 := Sep.Holds.cells hw (i := 5) rfl); (try replace hc6 := Sep.Holds.cells hw (i := 6) rfl)
  refine Sep.calls_post ?_
  intro Post_ hPost_
  have HP := Sep.hid hPost_
  clear hPost_
  go_enter Try.func20, Try.ntmps20
  go_wp2_with fail
  refine (wDrop r M.n [M.row] t e _ _ (hw.focus1 2 rfl)).mono ?_
  rintro en_ w_ ⟨rfl, hw_⟩
  clear hw; (try clear hc0); (try clear hc1); (try clear hc2); (try clear hc3); (try clear hc4); (try clear hc5); (try clear hc6); have hw := Holds.unfocus1 2 (by simp) hw_; clear hw_
  (try simp only [List.map_cons, List.map_nil, List.getD_cons_zero, List.getD_cons_succ, List.getD_nil, List.set_cons_zero, List.set_cons_succ, List.cons_append, List.nil_append, Act.eval, Array.getD_eq_getD_getElem?, List.getElem?_toArray, List.getElem?_cons_succ, List.getElem?_cons_zero, Option.getD_some, Value.cells] at hw); (try simp (disch := first | (simp; done) | (simp; omega)) only [Sep.mid_set, Sep.mid_set2, Sep.mid_set0, Sep.mid_splice, Sep.mid_splice0, List.set_cons_zero, List.set_cons_succ] at hw); (try simp only [Sep.splice, List.take_succ_cons, List.take_zero, List.drop_succ_cons, List.drop_zero, List.length_cons, List.length_nil, Nat.reduceAdd, List.cons_append, List.nil_append] at hw)
  go_wp2_with fail
  refine HP.out _ _ ⟨?_, exL.mk (f := waitsParts p (M.leave t).2) r hw⟩
  rw [rowOf1]
  by_cases h : t ∈ M.row <;> simp [WM.leave, h]
set_option maxHeartbeats 400000 in
theorem oCount (p : Nat) (M : WM) (e w : World) (X : HProp) (hw : Holds e w [X, IsWaits p M]) :
    Calls Try.prog 14 #[.pointer (some ⟨p, 0, none⟩)] w fun en w' => en = .returned (.int .i64 M.c) ∧ w' = w := by
  obtain ⟨r, hw⟩ := exL.open_ hw
  have hw := hw.open_ 1 rfl
  (try simp only [List.map_cons, List.map_nil, List.getD_cons_zero, List.getD_cons_succ, List.getD_nil, List.set_cons_zero, List.set_cons_succ, List.cons_append, List.nil_append, Act.eval, Array.getD_eq_getD_getElem?, List.getElem?_toArray, List.getElem?_cons_succ, List.getElem?_cons_zero, Option.getD_some, Value.cells] at hw); (try simp (disch := first | (simp; done) | (simp; omega)) only [Sep.mid_set, Sep.mid_set2, Sep.mid_set0, Sep.mid_splice, Sep.mid_splice0, List.set_cons_zero, List.set_cons_succ] at hw); (try simp only [Sep.splice, List.take_succ_cons, List.take_zero, List.drop_succ_cons, List.drop_zero, List.length_cons, List.length_nil, Nat.reduceAdd, List.cons_append, List.nil_append] at hw)
  (try replace hc0 := Sep.Holds.cells hw (i := 0) rfl); (try replace hc1 := Sep.Holds.cells hw (i := 1) rfl); (try replace hc2 := Sep.Holds.cells hw (i := 2) rfl); (try replace hc3 := Sep.Holds.cells hw (i := 3) rfl); (try replace hc4 := Sep.Holds.cells hw (i := 4) rfl); (try replace hc5 := Sep.Holds.cells hw (i := 5) rfl); (try replace hc6 := Sep.Holds.cells hw (i := 6) rfl)
  refine Sep.calls_post ?_
  intro Post_ hPost_
  have HP := Sep.hid hPost_
  clear hPost_
  go_enter Try.func14, Try.ntmps14
  go_wp2_with fail
  exact HP.out _ _ ⟨rfl, rfl⟩
set_option maxHeartbeats 400000 in
theorem oWaiting (p : Nat) (M : WM) (e w : World) (X : HProp) (hw : Holds e w [X, IsWaits p M]) :
    Calls Try.prog 15 #[.pointer (some ⟨p, 0, none⟩)] w fun en w' => ∃ v, en = .returned v ∧ Holds e w' [X, IsWaits p M, IsInts v M.row] := by
  obtain ⟨r, hw⟩ := exL.open_ hw
  have hw := hw.open_ 1 rfl
  (try simp only [List.map_cons, List.map_nil, List.getD_cons_zero, List.getD_cons_succ, List.getD_nil, List.set_cons_zero, List.set_cons_succ, List.cons_append, List.nil_append, Act.eval, Array.getD_eq_getD_getElem?, List.getElem?_toArray, List.getElem?_cons_succ, List.getElem?_cons_zero, Option.getD_some, Value.cells] at hw); (try simp (disch := first | (simp; done) | (simp; omega)) only [Sep.mid_set, Sep.mid_set2, Sep.mid_set0, Sep.mid_splice, Sep.mid_splice0, List.set_cons_zero, List.set_cons_succ] at hw); (try simp only [Sep.splice, List.take_succ_cons, List.take_zero, List.drop_succ_cons, List.drop_zero, List.length_cons, List.length_nil, Nat.reduceAdd, List.cons_append, List.nil_append] at hw)
  (try replace hc0 := Sep.Holds.cells hw (i := 0) rfl); (try replace hc1 := Sep.Holds.cells hw (i := 1) rfl); (try replace hc2 := Sep.Holds.cells hw (i := 2) rfl); (try replace hc3 := Sep.Holds.cells hw (i := 3) rfl); (try replace hc4 := Sep.Holds.cells hw (i := 4) rfl); (try replace hc5 := Sep.Holds.cells hw (i := 5) rfl); (try replace hc6 := Sep.Holds.cells hw (i := 6) rfl)
  refine Sep.calls_post ?_
  intro Post_ hPost_
  have HP := Sep.hid hPost_
  clear hPost_
  go_enter Try.func15, Try.ntmps15
  go_wp2_with fail
  refine (wList r M.n [M.row] 0 e _ _ (hw.focus1 2 rfl)).mono ?_
  rintro en_ w_ ⟨v, rfl, hw_⟩
  clear hw; (try clear hc0); (try clear hc1); (try clear hc2); (try clear hc3); (try clear hc4); (try clear hc5); (try clear hc6); have hw := Holds.unfocus1 2 (by simp) hw_; clear hw_
  (try simp only [List.map_cons, List.map_nil, List.getD_cons_zero, List.getD_cons_succ, List.getD_nil, List.set_cons_zero, List.set_cons_succ, List.cons_append, List.nil_append, Act.eval, Array.getD_eq_getD_getElem?, List.getElem?_toArray, List.getElem?_cons_succ, List.getElem?_cons_zero, Option.getD_some, Value.cells] at hw); (try simp (disch := first | (simp; done) | (simp; omega)) only [Sep.mid_set, Sep.mid_set2, Sep.mid_set0, Sep.mid_splice, Sep.mid_splice0, List.set_cons_zero, List.set_cons_succ] at hw); (try simp only [Sep.splice, List.take_succ_cons, List.take_zero, List.drop_succ_cons, List.drop_zero, List.length_cons, List.length_nil, Nat.reduceAdd, List.cons_append, List.nil_append] at hw)
  go_wp2_with fail
  refine HP.out _ _ ⟨v, rfl, ?_⟩
  have h := Holds.group [X, IsInts v M.row] _ (hw.sel [0, 4, 1, 2, 3] (by decide))
  have h2 := exL.mk (f := waitsParts p M) r h
  exact (Holds.ungroup [X, IsInts v M.row] [_] h2).sel [0, 2, 1] (by decide)
set_option maxHeartbeats 1600000 in
theorem oAdd (p : Nat) (M : WM) (t : Int) (ht : -9223372036854775808 ≤ t ∧ t ≤ 9223372036854775807) (e w : World) (X : HProp) (hw : Holds e w [X, IsWaits p M]) :
    Calls Try.prog 19 #[.pointer (some ⟨p, 0, none⟩), .int .i64 t] w fun en w' => ∃ v, en = .returned (.tuple #[v, .int .i64 (M.add t).2.1]) ∧ Holds e w' [X, IsWaits p (M.add t).2.2, IsInts v (M.add t).1] := by
  have Hw0 := Sep.hid hw
  obtain ⟨r, hw⟩ := exL.open_ hw
  have hw := hw.open_ 1 rfl
  (try simp only [List.map_cons, List.map_nil, List.getD_cons_zero, List.getD_cons_succ, List.getD_nil, List.set_cons_zero, List.set_cons_succ, List.cons_append, List.nil_append, Act.eval, Array.getD_eq_getD_getElem?, List.getElem?_toArray, List.getElem?_cons_succ, List.getElem?_cons_zero, Option.getD_some, Value.cells] at hw); (try simp (disch := first | (simp; done) | (simp; omega)) only [Sep.mid_set, Sep.mid_set2, Sep.mid_set0, Sep.mid_splice, Sep.mid_splice0, List.set_cons_zero, List.set_cons_succ] at hw); (try simp only [Sep.splice, List.take_succ_cons, List.take_zero, List.drop_succ_cons, List.drop_zero, List.length_cons, List.length_nil, Nat.reduceAdd, List.cons_append, List.nil_append] at hw)
  have hc := Holds.fct (i := 3) rfl hw
  by_cases h1 : M.c + t < 0
  · have hb : M.add t = ([], 1, M) := by unfold WM.add; rw [if_pos h1]
    rw [hb]; clear hb
    have hwr : IntKind.i64.wrap (M.c + t) = M.c + t := IntWalk.i64_in _ (by omega)
    have hneg : ¬ 0 < t := by omega
    clear ht hc
    (try replace hc0 := Sep.Holds.cells hw (i := 0) rfl); (try replace hc1 := Sep.Holds.cells hw (i := 1) rfl); (try replace hc2 := Sep.Holds.cells hw (i := 2) rfl); (try replace hc3 := Sep.Holds.cells hw (i := 3) rfl); (try replace hc4 := Sep.Holds.cells hw (i := 4) rfl); (try replace hc5 := Sep.Holds.cells hw (i := 5) rfl); (try replace hc6 := Sep.Holds.cells hw (i := 6) rfl)
    refine Sep.calls_post ?_
    intro Post_ hPost_
    have HP := Sep.hid hPost_
    clear hPost_
    go_enter Try.func19, Try.ntmps19
    go_wp2_with fail
    exact HP.out _ _ ⟨_, rfl, Hw0.out.addEmp (Sl.nil _ _ _)⟩
  by_cases h2 : 9223372036854775807 < M.c + t
  · have hb : M.add t = ([], 2, M) := by unfold WM.add; rw [if_neg h1, if_pos h2]
    rw [hb]; clear hb
    have hwr : IntKind.i64.wrap (M.c + t) = M.c + t - 18446744073709551616 := i64_over _ (by omega)
    have hneg : M.c + t - 18446744073709551616 < 0 := by omega
    have hpos : 0 < t := by omega
    clear ht hc h1 h2
    generalize M.c + t - 18446744073709551616 = z at *
    (try replace hc0 := Sep.Holds.cells hw (i := 0) rfl); (try replace hc1 := Sep.Holds.cells hw (i := 1) rfl); (try replace hc2 := Sep.Holds.cells hw (i := 2) rfl); (try replace hc3 := Sep.Holds.cells hw (i := 3) rfl); (try replace hc4 := Sep.Holds.cells hw (i := 4) rfl); (try replace hc5 := Sep.Holds.cells hw (i := 5) rfl); (try replace hc6 := Sep.Holds.cells hw (i := 6) rfl)
    refine Sep.calls_post ?_
    intro Post_ hPost_
    have HP := Sep.hid hPost_
    clear hPost_
    go_enter Try.func19, Try.ntmps19
    go_wp2_with fail
    exact HP.out _ _ ⟨_, rfl, Hw0.out.addEmp (Sl.nil _ _ _)⟩
  have hwr : IntKind.i64.wrap (M.c + t) = M.c + t := IntWalk.i64_in _ (by omega)
  by_cases h3 : 0 < M.c + t
  · have hb : M.add t = ([], 0, { M with c := M.c + t }) := by unfold WM.add; rw [if_neg h1, if_neg h2, if_pos h3]
    rw [hb]; clear hb
    have Hf : Hid (0 ≤ M.c + t ∧ M.c + t ≤ 9223372036854775807) := Sep.hid (by omega)
    clear ht hc h2
    (try replace hc0 := Sep.Holds.cells hw (i := 0) rfl); (try replace hc1 := Sep.Holds.cells hw (i := 1) rfl); (try replace hc2 := Sep.Holds.cells hw (i := 2) rfl); (try replace hc3 := Sep.Holds.cells hw (i := 3) rfl); (try replace hc4 := Sep.Holds.cells hw (i := 4) rfl); (try replace hc5 := Sep.Holds.cells hw (i := 5) rfl); (try replace hc6 := Sep.Holds.cells hw (i := 6) rfl)
    refine Sep.calls_post ?_
    intro Post_ hPost_
    have HP := Sep.hid hPost_
    clear hPost_
    go_enter Try.func19, Try.ntmps19
    go_wp2_with ((first | refine wpList_on rfl (wp_store1 (v := _) rfl rfl rfl hw (i := 0) rfl (by simp [Sep.mid_length, Act.eval, Value.cells]; try omega) rfl ?_) | refine wpList_on rfl (wp_store1 (v := _) rfl rfl rfl hw (i := 1) rfl (by simp [Sep.mid_length, Act.eval, Value.cells]; try omega) rfl ?_) | refine wpList_on rfl (wp_store1 (v := _) rfl rfl rfl hw (i := 2) rfl (by simp [Sep.mid_length, Act.eval, Value.cells]; try omega) rfl ?_) | refine wpList_on rfl (wp_store1 (v := _) rfl rfl rfl hw (i := 3) rfl (by simp [Sep.mid_length, Act.eval, Value.cells]; try omega) rfl ?_) | refine wpList_on rfl (wp_store1 (v := _) rfl rfl rfl hw (i := 4) rfl (by simp [Sep.mid_length, Act.eval, Value.cells]; try omega) rfl ?_)); intro w_ hw_; clear hw; have hw := hw_; clear hw_; (try simp only [List.map_cons, List.map_nil, List.getD_cons_zero, List.getD_cons_succ, List.getD_nil, List.set_cons_zero, List.set_cons_succ, List.cons_append, List.nil_append, Act.eval, Array.getD_eq_getD_getElem?, List.getElem?_toArray, List.getElem?_cons_succ, List.getElem?_cons_zero, Option.getD_some, Value.cells] at hw); (try simp (disch := first | (simp; done) | (simp; omega)) only [Sep.mid_set, Sep.mid_set2, Sep.mid_set0, Sep.mid_splice, Sep.mid_splice0, List.set_cons_zero, List.set_cons_succ] at hw); (try simp only [Sep.splice, List.take_succ_cons, List.take_zero, List.drop_succ_cons, List.drop_zero, List.length_cons, List.length_nil, Nat.reduceAdd, List.cons_append, List.nil_append] at hw); (try replace hc0 := Sep.Holds.cells hw (i := 0) rfl); (try replace hc1 := Sep.Holds.cells hw (i := 1) rfl); (try replace hc2 := Sep.Holds.cells hw (i := 2) rfl); (try replace hc3 := Sep.Holds.cells hw (i := 3) rfl); (try replace hc4 := Sep.Holds.cells hw (i := 4) rfl); (try replace hc5 := Sep.Holds.cells hw (i := 5) rfl); (try replace hc6 := Sep.Holds.cells hw (i := 6) rfl))
    refine HP.out _ _ ⟨_, rfl, ?_⟩
    have h := (hw.sel [0, 1, 2] (by decide)).addFct Hf.out
    have h2 := exL.mk (f := waitsParts p ⟨M.n, M.c + t, M.row⟩) r h
    exact h2.addEmp (Sl.nil _ _ _)
  · have hb : M.add t = (M.row, 0, { M with c := 0, row := [] }) := by unfold WM.add; rw [if_neg h1, if_neg h2, if_neg h3]
    rw [hb]; clear hb
    have hz : M.c + t = 0 := by omega
    clear ht hc h1 h2 h3 hwr
    have hok := Holds.rowsOk (i := 2) rfl hw
    have Hlen : Hid (M.row.length ≤ 1000) := Sep.hid (Nat.le_trans (rowsLen hok (by simp)) hok.n2)
    clear hok
    replace hw := hw.sel [0, 1, 2] (by decide)
    (try simp only [List.map_cons, List.map_nil, List.getD_cons_zero, List.getD_cons_succ, List.getD_nil, List.set_cons_zero, List.set_cons_succ, List.cons_append, List.nil_append, Act.eval, Array.getD_eq_getD_getElem?, List.getElem?_toArray, List.getElem?_cons_succ, List.getElem?_cons_zero, Option.getD_some, Value.cells] at hw); (try simp (disch := first | (simp; done) | (simp; omega)) only [Sep.mid_set, Sep.mid_set2, Sep.mid_set0, Sep.mid_splice, Sep.mid_splice0, List.set_cons_zero, List.set_cons_succ] at hw); (try simp only [Sep.splice, List.take_succ_cons, List.take_zero, List.drop_succ_cons, List.drop_zero, List.length_cons, List.length_nil, Nat.reduceAdd, List.cons_append, List.nil_append] at hw)
    (try replace hc0 := Sep.Holds.cells hw (i := 0) rfl); (try replace hc1 := Sep.Holds.cells hw (i := 1) rfl); (try replace hc2 := Sep.Holds.cells hw (i := 2) rfl); (try replace hc3 := Sep.Holds.cells hw (i := 3) rfl); (try replace hc4 := Sep.Holds.cells hw (i := 4) rfl); (try replace hc5 := Sep.Holds.cells hw (i := 5) rfl); (try replace hc6 := Sep.Holds.cells hw (i := 6) rfl)
    refine Sep.calls_post ?_
    intro Post_ hPost_
    have HP := Sep.hid hPost_
    clear hPost_
    go_enter Try.func19, Try.ntmps19
    go_wp2_with ((first | refine wpList_on rfl (wp_store1 (v := _) rfl rfl rfl hw (i := 0) rfl (by simp [Sep.mid_length, Act.eval, Value.cells]; try omega) rfl ?_) | refine wpList_on rfl (wp_store1 (v := _) rfl rfl rfl hw (i := 1) rfl (by simp [Sep.mid_length, Act.eval, Value.cells]; try omega) rfl ?_) | refine wpList_on rfl (wp_store1 (v := _) rfl rfl rfl hw (i := 2) rfl (by simp [Sep.mid_length, Act.eval, Value.cells]; try omega) rfl ?_) | refine wpList_on rfl (wp_store1 (v := _) rfl rfl rfl hw (i := 3) rfl (by simp [Sep.mid_length, Act.eval, Value.cells]; try omega) rfl ?_) | refine wpList_on rfl (wp_store1 (v := _) rfl rfl rfl hw (i := 4) rfl (by simp [Sep.mid_length, Act.eval, Value.cells]; try omega) rfl ?_)); intro w_ hw_; clear hw; have hw := hw_; clear hw_; (try simp only [List.map_cons, List.map_nil, List.getD_cons_zero, List.getD_cons_succ, List.getD_nil, List.set_cons_zero, List.set_cons_succ, List.cons_append, List.nil_append, Act.eval, Array.getD_eq_getD_getElem?, List.getElem?_toArray, List.getElem?_cons_succ, List.getElem?_cons_zero, Option.getD_some, Value.cells] at hw); (try simp (disch := first | (simp; done) | (simp; omega)) only [Sep.mid_set, Sep.mid_set2, Sep.mid_set0, Sep.mid_splice, Sep.mid_splice0, List.set_cons_zero, List.set_cons_succ] at hw); (try simp only [Sep.splice, List.take_succ_cons, List.take_zero, List.drop_succ_cons, List.drop_zero, List.length_cons, List.length_nil, Nat.reduceAdd, List.cons_append, List.nil_append] at hw); (try replace hc0 := Sep.Holds.cells hw (i := 0) rfl); (try replace hc1 := Sep.Holds.cells hw (i := 1) rfl); (try replace hc2 := Sep.Holds.cells hw (i := 2) rfl); (try replace hc3 := Sep.Holds.cells hw (i := 3) rfl); (try replace hc4 := Sep.Holds.cells hw (i := 4) rfl); (try replace hc5 := Sep.Holds.cells hw (i := 5) rfl); (try replace hc6 := Sep.Holds.cells hw (i := 6) rfl))
    refine (wList r M.n [M.row] 0 e _ _ (hw.focus1 2 rfl)).mono ?_
    rintro en_ w_ ⟨v, rfl, hw_⟩
    clear hw; (try clear hc0); (try clear hc1); (try clear hc2); (try clear hc3); (try clear hc4); (try clear hc5); (try clear hc6); have hw := Holds.unfocus1 2 (by simp) hw_; clear hw_
    (try simp only [List.map_cons, List.map_nil, List.getD_cons_zero, List.getD_cons_succ, List.getD_nil, List.set_cons_zero, List.set_cons_succ, List.cons_append, List.nil_append, Act.eval, Array.getD_eq_getD_getElem?, List.getElem?_toArray, List.getElem?_cons_succ, List.getElem?_cons_zero, Option.getD_some, Value.cells] at hw); (try simp (disch := first | (simp; done) | (simp; omega)) only [Sep.mid_set, Sep.mid_set2, Sep.mid_set0, Sep.mid_splice, Sep.mid_splice0, List.set_cons_zero, List.set_cons_succ] at hw); (try simp only [Sep.splice, List.take_succ_cons, List.take_zero, List.drop_succ_cons, List.drop_zero, List.length_cons, List.length_nil, Nat.reduceAdd, List.cons_append, List.nil_append] at hw)
    have hw : Holds e w_ [X, _, _, Sl 3 1 v M.row.length (encI M.row)] := hw
    obtain ⟨oa, oc, rfl⟩ := Sl.value (i := 3) rfl hw
    generalize hn' : M.row.length = n' at *
    have Hn' := Sep.hid hn'; clear hn'
    go_wp2_with fail
    have Hw1 := Sep.hid hw; clear hw; (try clear hc0); (try clear hc1); (try clear hc2); (try clear hc3); (try clear hc4); (try clear hc5); (try clear hc6)
    go_loopw [37] (fun i wr => ∃ k : Nat, k ≤ n' ∧ i = .int .i64 k ∧ Holds e wr [X, pt p [.pointer (some ⟨r, 0, none⟩), .int .i64 0] 56, IsRows r M.n [M.row.drop k], Sl 3 1 (.slice oa n' oc) n' (encI M.row)]) (fun i _ => n' - (intOf i).toNat)
    case atStart => exact ⟨0, Nat.zero_le _, rfl, Hw1.out⟩
    case round =>
      clear Hw1
      obtain ⟨k, hk, rfl, hw⟩ := hrel
      have hn2 : n' ≤ 1000 := Hlen.out
      by_cases hlt : k < n'
      · have Hdr : Hid (takeR [M.row.drop k] 0 = [M.row.drop (k + 1)]) := Sep.hid (by rw [takeR1, List.tail_drop])
        (try replace hc0 := Sep.Holds.cells hw (i := 0) rfl); (try replace hc1 := Sep.Holds.cells hw (i := 1) rfl); (try replace hc2 := Sep.Holds.cells hw (i := 2) rfl); (try replace hc3 := Sep.Holds.cells hw (i := 3) rfl); (try replace hc4 := Sep.Holds.cells hw (i := 4) rfl); (try replace hc5 := Sep.Holds.cells hw (i := 5) rfl); (try replace hc6 := Sep.Holds.cells hw (i := 6) rfl)
        go_wp2_with fail
        refine (wTake r M.n [M.row.drop k] 0 (by simp) e _ _ (hw.focus1 2 rfl)).mono ?_
        rintro en_ w_ ⟨rfl, hw_⟩
        clear hw; (try clear hc0); (try clear hc1); (try clear hc2); (try clear hc3); (try clear hc4); (try clear hc5); (try clear hc6); have hw := Holds.unfocus1 2 (by simp) hw_; clear hw_
        (try simp only [List.map_cons, List.map_nil, List.getD_cons_zero, List.getD_cons_succ, List.getD_nil, List.set_cons_zero, List.set_cons_succ, List.cons_append, List.nil_append, Act.eval, Array.getD_eq_getD_getElem?, List.getElem?_toArray, List.getElem?_cons_succ, List.getElem?_cons_zero, Option.getD_some, Value.cells] at hw); (try simp (disch := first | (simp; done) | (simp; omega)) only [Sep.mid_set, Sep.mid_set2, Sep.mid_set0, Sep.mid_splice, Sep.mid_splice0, List.set_cons_zero, List.set_cons_succ] at hw); (try simp only [Sep.splice, List.take_succ_cons, List.take_zero, List.drop_succ_cons, List.drop_zero, List.length_cons, List.length_nil, Nat.reduceAdd, List.cons_append, List.nil_append] at hw)
        rw [Hdr.out] at hw
        go_wp2_with fail
        go_roundw
        case rel => exact ⟨k + 1, by omega, by go_num, hw⟩
        case measure => simp [intOf]; omega
      · have hke : M.row.drop k = [] := List.drop_eq_nil_of_le (by rw [Hn'.out]; omega)
        rw [hke] at hw
        clear hke
        go_wp2_with fail
        refine HP.out _ _ ⟨_, rfl, ?_⟩
        rw [sl_ints Hn'] at hw
        have hf : Holds e wr [X, IsInts (.slice oa n' oc) M.row, _, _, _] := (hw.sel [0, 3, 1, 2] (by decide)).addFct (p := (0 : Int) ≤ 0 ∧ (0 : Int) ≤ 9223372036854775807) (by decide)
        have h := Holds.group [X, IsInts _ M.row] _ hf
        have h2 := exL.mk (f := waitsParts p ⟨M.n, 0, []⟩) r h
        exact (Holds.ungroup [X, IsInts _ M.row] [_] h2).sel [0, 2, 1] (by decide)
set_option maxHeartbeats 400000 in
theorem oDone (p : Nat) (M : WM) (e w : World) (X : HProp) (hw : Holds e w [X, IsWaits p M]) :
    Calls Try.prog 21 #[.pointer (some ⟨p, 0, none⟩)] w fun en w' => ∃ v, en = .returned (.tuple #[v, .int .i64 (M.add (-1)).2.1]) ∧ Holds e w' [X, IsWaits p (M.add (-1)).2.2, IsInts v (M.add (-1)).1] := by
  refine Sep.calls_post ?_
  intro Post_ hPost_
  have HP := Sep.hid hPost_
  clear hPost_
  go_enter Try.func21, Try.ntmps21
  go_wp2_with fail
  refine (oAdd p M (-1) (by decide) e _ _ hw).mono ?_
  rintro en_ w_ ⟨v, rfl, hw_⟩
  clear hw
  go_wp2_with fail
  exact HP.out _ _ ⟨v, rfl, hw_⟩
end Go.Proofs.Ytfbdlpgmoinmbaa
