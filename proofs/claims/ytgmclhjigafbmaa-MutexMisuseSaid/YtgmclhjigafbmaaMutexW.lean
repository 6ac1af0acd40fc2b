/-
  The walks of the methods of a lock.
-/
import Derived.Test.YtgmclhjigafbmaaMutexM
import Derived.Test.YtgmclhjigafbmaaRowsW
import Derived.Test.YtgmclhjigafbmaaIntsR8
import Derived.Test.YtgmclhjigafbmaaSepRet
namespace Go.Proofs.Ytgmclhjigafbmaa
set_option linter.unusedSimpArgs false
set_option linter.unusedVariables false
open Go.RowKit Go.Sep Go.RingM

def mutexParts (p : Nat) (M : MM) (r : Nat) : List HProp := [pt p [.pointer (some ⟨r, 0, none⟩), .int .i64 M.h] 55, IsRows r M.n [M.row], fct (-1 ≤ M.h ∧ M.h < M.n)]
def IsMutex (p : Nat) (M : MM) : HProp := exL (mutexParts p M)
theorem mutex_ok {p i : Nat} {M : MM} {e w : World} {L : List HProp} (hi : L[i]? = some (IsMutex p M)) (hw : Holds e w L) : RowsOk M.n [M.row] ∧ -1 ≤ M.h ∧ M.h < M.n := by
  have hw := hw.focus1 i hi
  obtain ⟨r, hw⟩ := exL.open_ hw
  have hw := hw.open_ 1 rfl
  (try simp only [List.map_cons, List.map_nil, List.getD_cons_zero, List.getD_cons_succ, List.getD_nil, List.set_cons_zero, List.set_cons_succ, List.cons_append, List.nil_append, Act.eval, Array.getD_eq_getD_getElem?, List.getElem?_toArray, List.getElem?_cons_succ, List.getElem?_cons_zero, Option.getD_some, Value.cells] at hw); (try simp (disch := first | (simp; done) | (simp; omega)) only [Sep.mid_set, Sep.mid_set2, Sep.mid_set0, Sep.mid_splice, Sep.mid_splice0, List.set_cons_zero, List.set_cons_succ] at hw); (try simp only [Sep.splice, List.take_succ_cons, List.take_zero, List.drop_succ_cons, List.drop_zero, List.length_cons, List.length_nil, Nat.reduceAdd, List.cons_append, List.nil_append] at hw)
  exact ⟨Holds.rowsOk (i := 2) rfl hw, Holds.fct (i := 3) rfl hw⟩
theorem mutex_len {p i : Nat} {M : MM} {e w : World} {L : List HProp} (hi : L[i]? = some (IsMutex p M)) (hw : Holds e w L) : M.row.length ≤ 1000 := by
  have h := (mutex_ok hi hw).1
  exact Nat.le_trans (rowsLen h (by simp)) h.n2
set_option maxHeartbeats 800000 in
theorem oNew_ok (n : Nat) (n1 : 1 ≤ n) (n2 : n ≤ 1000) (e w : World) (X : HProp) (hw : Holds e w [X]) :
    Calls Try.prog 7 #[.int .i64 (n : Int)] w fun en w' => ∃ p, en = .returned (.tuple #[.pointer (some ⟨p, 0, none⟩), .int .i64 0]) ∧ Holds e w' [X, IsMutex p ⟨n, -1, []⟩] := by
  refine Sep.calls_post ?_
  intro Post_ hPost_
  have HP := Sep.hid hPost_
  clear hPost_
  go_enter Try.func7, Try.ntmps7
  go_wp2_with fail
  refine (wNew 1 n n1 n2 (by decide) (by decide) e _ _ hw).mono ?_
  rintro en_ w_ ⟨r, rfl, hw_⟩
  clear hw; have hw := hw_; clear hw_
  go_wp2_with (refine wpList_on rfl (wp_box rfl hw ?_); intro b_ w_ hw_; clear hw; have hw := hw_; clear hw_; (try simp only [List.map_cons, List.map_nil, List.getD_cons_zero, List.getD_cons_succ, List.getD_nil, List.set_cons_zero, List.set_cons_succ, List.cons_append, List.nil_append, Act.eval, Array.getD_eq_getD_getElem?, List.getElem?_toArray, List.getElem?_cons_succ, List.getElem?_cons_zero, Option.getD_some, Value.cells] at hw); (try simp (disch := first | (simp; done) | (simp; omega)) only [Sep.mid_set, Sep.mid_set2, Sep.mid_set0, Sep.mid_splice, Sep.mid_splice0, List.set_cons_zero, List.set_cons_succ] at hw); (try simp only [Sep.splice, List.take_succ_cons, List.take_zero, List.drop_succ_cons, List.drop_zero, List.length_cons, List.length_nil, Nat.reduceAdd, List.cons_append, List.nil_append] at hw); (try replace hc0 := Sep.Holds.cells hw (i := 0) rfl); (try replace hc1 := Sep.Holds.cells hw (i := 1) rfl); (try replace hc2 := Sep.Holds.cells hw (i := 2) rfl); (try replace hc3 := Sep.Holds.cells hw (i := 3) rfl); (try replace hc4 := Sep.Holds.cells hw (i := 4) rfl); (try replace hc5 := Sep.Holds.cells hw (i := 5) rfl); (try replace hc6 := Sep.Holds.cells hw (i := 6) rfl))
  refine HP.out _ _ ⟨_, rfl, ?_⟩
  exact exL.mk (f := mutexParts _ ⟨n, -1, []⟩) r ((hw.addFct (p := (-1 : Int) ≤ -1 ∧ (-1 : Int) < (n : Int)) (by omega)).sel [0, 2, 1, 3] (by decide))
set_option maxHeartbeats 800000 in
theorem oNew_no (n : Int) (h : n < 1 ∨ 1000 < n) (w : World) :
    Calls Try.prog 7 #[.int .i64 n] w fun en w' => en = .returned (.tuple #[.pointer none, .int .i64 1]) ∧ w' = w := by
  have H := Sep.hid h; clear h
  refine Sep.calls_post ?_
  intro Post_ hPost_
  have HP := Sep.hid hPost_
  clear hPost_
  go_enter Try.func7, Try.ntmps7
  go_wp2_with fail
  refine (rNew_no 1 n (by have := H.out; omega) _).mono ?_
  rintro en_ w_ ⟨rfl, rfl⟩
  go_wp2_with fail
  exact HP.out _ _ ⟨rfl, rfl⟩
def mayM (M : MM) (t : Int) : Int := if ¬ (0 ≤ t ∧ t < M.n) then 3 else if t ∈ M.row then 6 else 0
set_option maxHeartbeats 1600000 in
theorem oMay (p : Nat) (M : MM) (t : Int) (e w : World) (X : HProp) (hw : Holds e w [X, IsMutex p M]) :
    Calls Try.prog 25 #[.pointer (some ⟨p, 0, none⟩), .int .i64 t] w fun en w' => en = .returned (.int .i64 (mayM M t)) ∧ w' = w := by
  obtain ⟨r, hw⟩ := exL.open_ hw
  have hw := hw.open_ 1 rfl
  (try simp only [List.map_cons, List.map_nil, List.getD_cons_zero, List.getD_cons_succ, List.getD_nil, List.set_cons_zero, List.set_cons_succ, List.cons_append, List.nil_append, Act.eval, Array.getD_eq_getD_getElem?, List.getElem?_toArray, List.getElem?_cons_succ, List.getElem?_cons_zero, Option.getD_some, Value.cells] at hw); (try simp (disch := first | (simp; done) | (simp; omega)) only [Sep.mid_set, Sep.mid_set2, Sep.mid_set0, Sep.mid_splice, Sep.mid_splice0, List.set_cons_zero, List.set_cons_succ] at hw); (try simp only [Sep.splice, List.take_succ_cons, List.take_zero, List.drop_succ_cons, List.drop_zero, List.length_cons, List.length_nil, Nat.reduceAdd, List.cons_append, List.nil_append] at hw)
  by_cases ht0 : t < 0
  · have hb : mayM M t = 3 := by unfold mayM; rw [if_pos (by omega)]
    rw [hb]; clear hb
    (try replace hc0 := Sep.Holds.cells hw (i := 0) rfl); (try replace hc1 := Sep.Holds.cells hw (i := 1) rfl); (try replace hc2 := Sep.Holds.cells hw (i := 2) rfl); (try replace hc3 := Sep.Holds.cells hw (i := 3) rfl); (try replace hc4 := Sep.Holds.cells hw (i := 4) rfl); (try replace hc5 := Sep.Holds.cells hw (i := 5) rfl); (try replace hc6 := Sep.Holds.cells hw (i := 6) rfl)
    refine Sep.calls_post ?_
    intro Post_ hPost_
    have HP := Sep.hid hPost_
    clear hPost_
    go_enter Try.func25, Try.ntmps25
    go_wp2_with (go_at_call 27; refine (wNodes r M.n [M.row] e _ _ (hw.focus1 2 rfl)).mono ?_; rintro _ w_ ⟨rfl, rfl⟩)
    exact HP.out _ _ ⟨rfl, rfl⟩
  by_cases htn : (M.n : Int) ≤ t
  · have hb : mayM M t = 3 := by unfold mayM; rw [if_pos (by omega)]
    rw [hb]; clear hb
    (try replace hc0 := Sep.Holds.cells hw (i := 0) rfl); (try replace hc1 := Sep.Holds.cells hw (i := 1) rfl); (try replace hc2 := Sep.Holds.cells hw (i := 2) rfl); (try replace hc3 := Sep.Holds.cells hw (i := 3) rfl); (try replace hc4 := Sep.Holds.cells hw (i := 4) rfl); (try replace hc5 := Sep.Holds.cells hw (i := 5) rfl); (try replace hc6 := Sep.Holds.cells hw (i := 6) rfl)
    refine Sep.calls_post ?_
    intro Post_ hPost_
    have HP := Sep.hid hPost_
    clear hPost_
    go_enter Try.func25, Try.ntmps25
    go_wp2_with (go_at_call 27; refine (wNodes r M.n [M.row] e _ _ (hw.focus1 2 rfl)).mono ?_; rintro _ w_ ⟨rfl, rfl⟩)
    exact HP.out _ _ ⟨rfl, rfl⟩
  have ht : 0 ≤ t ∧ t < M.n := by omega
  by_cases hr : t ∈ M.row
  · have hb : mayM M t = 6 := by unfold mayM; rw [if_neg (fun h => h ht), if_pos hr]
    rw [hb]; clear hb
    have Hro : Hid (rowOf [M.row] t = 0) := Sep.hid (by rw [rowOf1, if_pos hr])
    clear ht hr
    (try replace hc0 := Sep.Holds.cells hw (i := 0) rfl); (try replace hc1 := Sep.Holds.cells hw (i := 1) rfl); (try replace hc2 := Sep.Holds.cells hw (i := 2) rfl); (try replace hc3 := Sep.Holds.cells hw (i := 3) rfl); (try replace hc4 := Sep.Holds.cells hw (i := 4) rfl); (try replace hc5 := Sep.Holds.cells hw (i := 5) rfl); (try replace hc6 := Sep.Holds.cells hw (i := 6) rfl)
    refine Sep.calls_post ?_
    intro Post_ hPost_
    have HP := Sep.hid hPost_
    clear hPost_
    go_enter Try.func25, Try.ntmps25
    go_wp2_with (first
      | (go_at_call 27; refine (wNodes r M.n [M.row] e _ _ (hw.focus1 2 rfl)).mono ?_; rintro _ w_ ⟨rfl, rfl⟩)
      | (go_at_call 33; refine (wIn r M.n [M.row] t e _ _ (hw.focus1 2 rfl)).mono ?_; rintro _ w_ ⟨rfl, rfl⟩; rw [Hro.out]))
    exact HP.out _ _ ⟨rfl, rfl⟩
  · have hb : mayM M t = 0 := by unfold mayM; rw [if_neg (fun h => h ht), if_neg hr]
    rw [hb]; clear hb
    have Hro : Hid (rowOf [M.row] t = -1) := Sep.hid (by rw [rowOf1, if_neg hr])
    clear ht hr
    (try replace hc0 := Sep.Holds.cells hw (i := 0) rfl); (try replace hc1 := Sep.Holds.cells hw (i := 1) rfl); (try replace hc2 := Sep.Holds.cells hw (i := 2) rfl); (try replace hc3 := Sep.Holds.cells hw (i := 3) rfl); (try replace hc4 := Sep.Holds.cells hw (i := 4) rfl); (try replace hc5 := Sep.Holds.cells hw (i := 5) rfl); (try replace hc6 := Sep.Holds.cells hw (i := 6) rfl)
    refine Sep.calls_post ?_
    intro Post_ hPost_
    have HP := Sep.hid hPost_
    clear hPost_
    go_enter Try.func25, Try.ntmps25
    go_wp2_with (first
      | (go_at_call 27; refine (wNodes r M.n [M.row] e _ _ (hw.focus1 2 rfl)).mono ?_; rintro _ w_ ⟨rfl, rfl⟩)
      | (go_at_call 33; refine (wIn r M.n [M.row] t e _ _ (hw.focus1 2 rfl)).mono ?_; rintro _ w_ ⟨rfl, rfl⟩; rw [Hro.out]))
    exact HP.out _ _ ⟨rfl, rfl⟩
theorem lock_may (M : MM) (t : Int) (b : Bool) : (¬ mayM M t = 0 ∧ M.lock t b = (false, mayM M t, M)) ∨
    (mayM M t = 0 ∧ 0 ≤ t ∧ t < M.n ∧ t ∉ M.row ∧ ((M.h = -1 ∧ M.lock t b = (true, 0, { M with h := t })) ∨ (¬ M.h = -1 ∧ M.lock t b = (false, 0, { M with row := if b then M.row ++ [t] else M.row })))) := by
  by_cases ht : 0 ≤ t ∧ t < M.n
  · by_cases hr : t ∈ M.row
    · have e1 : mayM M t = 6 := by unfold mayM; rw [if_neg (fun h => h ht), if_pos hr]
      have e2 : M.lock t b = (false, 6, M) := by unfold MM.lock; rw [if_neg (fun h => h ht), if_pos hr]
      rw [e1, e2]; exact .inl ⟨by decide, rfl⟩
    · have e1 : mayM M t = 0 := by unfold mayM; rw [if_neg (fun h => h ht), if_neg hr]
      refine .inr ⟨e1, ht.1, ht.2, hr, ?_⟩
      by_cases hh : M.h = -1
      · exact .inl ⟨hh, by unfold MM.lock; rw [if_neg (fun h => h ht), if_neg hr, if_pos hh]⟩
      · exact .inr ⟨hh, by unfold MM.lock; rw [if_neg (fun h => h ht), if_neg hr, if_neg hh]⟩
  · have e1 : mayM M t = 3 := by unfold mayM; rw [if_pos ht]
    have e2 : M.lock t b = (false, 3, M) := by unfold MM.lock; rw [if_pos ht]
    rw [e1, e2]; exact .inl ⟨by decide, rfl⟩
set_option maxHeartbeats 1600000 in
theorem oTryLock (p : Nat) (M : MM) (t : Int) (e w : World) (X : HProp) (hw : Holds e w [X, IsMutex p M]) :
    Calls Try.prog 18 #[.pointer (some ⟨p, 0, none⟩), .int .i64 t] w fun en w' => en = .returned (.tuple #[.bool (M.lock t false).1, .int .i64 (M.lock t false).2.1]) ∧ Holds e w' [X, IsMutex p (M.lock t false).2.2] := by
  have Hw0 := Sep.hid hw
  obtain ⟨r, hw⟩ := exL.open_ hw
  have hw := hw.open_ 1 rfl
  (try simp only [List.map_cons, List.map_nil, List.getD_cons_zero, List.getD_cons_succ, List.getD_nil, List.set_cons_zero, List.set_cons_succ, List.cons_append, List.nil_append, Act.eval, Array.getD_eq_getD_getElem?, List.getElem?_toArray, List.getElem?_cons_succ, List.getElem?_cons_zero, Option.getD_some, Value.cells] at hw); (try simp (disch := first | (simp; done) | (simp; omega)) only [Sep.mid_set, Sep.mid_set2, Sep.mid_set0, Sep.mid_splice, Sep.mid_splice0, List.set_cons_zero, List.set_cons_succ] at hw); (try simp only [Sep.splice, List.take_succ_cons, List.take_zero, List.drop_succ_cons, List.drop_zero, List.length_cons, List.length_nil, Nat.reduceAdd, List.cons_append, List.nil_append] at hw)
  rcases lock_may M t false with ⟨hm, hb⟩ | ⟨hm, ht0, htn, hr, ⟨hh, hb⟩ | ⟨hh, hb⟩⟩
  · rw [hb]; clear hb
    generalize hmm : mayM M t = mm at *
    have Hm := Sep.hid hmm; clear hmm
    refine Sep.calls_post ?_
    intro Post_ hPost_
    have HP := Sep.hid hPost_
    clear hPost_
    go_enter Try.func18, Try.ntmps18
    go_wp2_with (go_at_call 25; refine (oMay p M t e _ X Hw0.out).mono ?_; rintro _ w_ ⟨rfl, rfl⟩; rw [Hm.out])
    exact HP.out _ _ ⟨rfl, Hw0.out⟩
  · rw [hb]; clear hb
    have Hm := Sep.hid hm; clear hm
    have Hf : Hid (-1 ≤ t ∧ t < M.n) := Sep.hid (by omega)
    clear hr
    replace hw := hw.sel [0, 1, 2] (by decide)
    (try simp only [List.map_cons, List.map_nil, List.getD_cons_zero, List.getD_cons_succ, List.getD_nil, List.set_cons_zero, List.set_cons_succ, List.cons_append, List.nil_append, Act.eval, Array.getD_eq_getD_getElem?, List.getElem?_toArray, List.getElem?_cons_succ, List.getElem?_cons_zero, Option.getD_some, Value.cells] at hw); (try simp (disch := first | (simp; done) | (simp; omega)) only [Sep.mid_set, Sep.mid_set2, Sep.mid_set0, Sep.mid_splice, Sep.mid_splice0, List.set_cons_zero, List.set_cons_succ] at hw); (try simp only [Sep.splice, List.take_succ_cons, List.take_zero, List.drop_succ_cons, List.drop_zero, List.length_cons, List.length_nil, Nat.reduceAdd, List.cons_append, List.nil_append] at hw)
    (try replace hc0 := Sep.Holds.cells hw (i := 0) rfl); (try replace hc1 := Sep.Holds.cells hw (i := 1) rfl); (try replace hc2 := Sep.Holds.cells hw (i := 2) rfl); (try replace hc3 := Sep.Holds.cells hw (i := 3) rfl); (try replace hc4 := Sep.Holds.cells hw (i := 4) rfl); (try replace hc5 := Sep.Holds.cells hw (i := 5) rfl); (try replace hc6 := Sep.Holds.cells hw (i := 6) rfl)
    refine Sep.calls_post ?_
    intro Post_ hPost_
    have HP := Sep.hid hPost_
    clear hPost_
    go_enter Try.func18, Try.ntmps18
    go_wp2_with (first
      | (go_at_call 25; refine (oMay p M t e _ X Hw0.out).mono ?_; rintro _ w_ ⟨rfl, rfl⟩; rw [Hm.out])
      | ((first | refine wpList_on rfl (wp_store1 (v := _) rfl rfl rfl hw (i := 0) rfl (by simp [Sep.mid_length, Act.eval, Value.cells]; try omega) rfl ?_) | refine wpList_on rfl (wp_store1 (v := _) rfl rfl rfl hw (i := 1) rfl (by simp [Sep.mid_length, Act.eval, Value.cells]; try omega) rfl ?_) | refine wpList_on rfl (wp_store1 (v := _) rfl rfl rfl hw (i := 2) rfl (by simp [Sep.mid_length, Act.eval, Value.cells]; try omega) rfl ?_) | refine wpList_on rfl (wp_store1 (v := _) rfl rfl rfl hw (i := 3) rfl (by simp [Sep.mid_length, Act.eval, Value.cells]; try omega) rfl ?_) | refine wpList_on rfl (wp_store1 (v := _) rfl rfl rfl hw (i := 4) rfl (by simp [Sep.mid_length, Act.eval, Value.cells]; try omega) rfl ?_)); intro w_ hw_; clear hw; have hw := hw_; clear hw_; (try simp only [List.map_cons, List.map_nil, List.getD_cons_zero, List.getD_cons_succ, List.getD_nil, List.set_cons_zero, List.set_cons_succ, List.cons_append, List.nil_append, Act.eval, Array.getD_eq_getD_getElem?, List.getElem?_toArray, List.getElem?_cons_succ, List.getElem?_cons_zero, Option.getD_some, Value.cells] at hw); (try simp (disch := first | (simp; done) | (simp; omega)) only [Sep.mid_set, Sep.mid_set2, Sep.mid_set0, Sep.mid_splice, Sep.mid_splice0, List.set_cons_zero, List.set_cons_succ] at hw); (try simp only [Sep.splice, List.take_succ_cons, List.take_zero, List.drop_succ_cons, List.drop_zero, List.length_cons, List.length_nil, Nat.reduceAdd, List.cons_append, List.nil_append] at hw); (try replace hc0 := Sep.Holds.cells hw (i := 0) rfl); (try replace hc1 := Sep.Holds.cells hw (i := 1) rfl); (try replace hc2 := Sep.Holds.cells hw (i := 2) rfl); (try replace hc3 := Sep.Holds.cells hw (i := 3) rfl); (try replace hc4 := Sep.Holds.cells hw (i := 4) rfl); (try replace hc5 := Sep.Holds.cells hw (i := 5) rfl); (try replace hc6 := Sep.Holds.cells hw (i := 6) rfl)))
    exact HP.out _ _ ⟨rfl, exL.mk (f := mutexParts p ⟨M.n, t, M.row⟩) r (hw.addFct Hf.out)⟩
  · rw [hb]; clear hb
    have Hm := Sep.hid hm; clear hm hr
    (try replace hc0 := Sep.Holds.cells hw (i := 0) rfl); (try replace hc1 := Sep.Holds.cells hw (i := 1) rfl); (try replace hc2 := Sep.Holds.cells hw (i := 2) rfl); (try replace hc3 := Sep.Holds.cells hw (i := 3) rfl); (try replace hc4 := Sep.Holds.cells hw (i := 4) rfl); (try replace hc5 := Sep.Holds.cells hw (i := 5) rfl); (try replace hc6 := Sep.Holds.cells hw (i := 6) rfl)
    refine Sep.calls_post ?_
    intro Post_ hPost_
    have HP := Sep.hid hPost_
    clear hPost_
    go_enter Try.func18, Try.ntmps18
    go_wp2_with (first
      | (go_at_call 25; refine (oMay p M t e _ X Hw0.out).mono ?_; rintro _ w_ ⟨rfl, rfl⟩; rw [Hm.out])
      | ((first | refine wpList_on rfl (wp_store1 (v := _) rfl rfl rfl hw (i := 0) rfl (by simp [Sep.mid_length, Act.eval, Value.cells]; try omega) rfl ?_) | refine wpList_on rfl (wp_store1 (v := _) rfl rfl rfl hw (i := 1) rfl (by simp [Sep.mid_length, Act.eval, Value.cells]; try omega) rfl ?_) | refine wpList_on rfl (wp_store1 (v := _) rfl rfl rfl hw (i := 2) rfl (by simp [Sep.mid_length, Act.eval, Value.cells]; try omega) rfl ?_) | refine wpList_on rfl (wp_store1 (v := _) rfl rfl rfl hw (i := 3) rfl (by simp [Sep.mid_length, Act.eval, Value.cells]; try omega) rfl ?_) | refine wpList_on rfl (wp_store1 (v := _) rfl rfl rfl hw (i := 4) rfl (by simp [Sep.mid_length, Act.eval, Value.cells]; try omega) rfl ?_)); intro w_ hw_; clear hw; have hw := hw_; clear hw_; (try simp only [List.map_cons, List.map_nil, List.getD_cons_zero, List.getD_cons_succ, List.getD_nil, List.set_cons_zero, List.set_cons_succ, List.cons_append, List.nil_append, Act.eval, Array.getD_eq_getD_getElem?, List.getElem?_toArray, List.getElem?_cons_succ, List.getElem?_cons_zero, Option.getD_some, Value.cells] at hw); (try simp (disch := first | (simp; done) | (simp; omega)) only [Sep.mid_set, Sep.mid_set2, Sep.mid_set0, Sep.mid_splice, Sep.mid_splice0, List.set_cons_zero, List.set_cons_succ] at hw); (try simp only [Sep.splice, List.take_succ_cons, List.take_zero, List.drop_succ_cons, List.drop_zero, List.length_cons, List.length_nil, Nat.reduceAdd, List.cons_append, List.nil_append] at hw); (try replace hc0 := Sep.Holds.cells hw (i := 0) rfl); (try replace hc1 := Sep.Holds.cells hw (i := 1) rfl); (try replace hc2 := Sep.Holds.cells hw (i := 2) rfl); (try replace hc3 := Sep.Holds.cells hw (i := 3) rfl); (try replace hc4 := Sep.Holds.cells hw (i := 4) rfl); (try replace hc5 := Sep.Holds.cells hw (i := 5) rfl); (try replace hc6 := Sep.Holds.cells hw (i := 6) rfl)))
    exact HP.out _ _ ⟨rfl, Hw0.out⟩
theorem lock_try (M : MM) (t : Int) : (¬ (M.lock t false).2.1 = 0 ∧ (M.lock t false).1 = false ∧ (M.lock t false).2.2 = M ∧ M.lock t true = (false, (M.lock t false).2.1, M)) ∨
    ((M.lock t false).2.1 = 0 ∧ (M.lock t false).1 = true ∧ M.lock t true = (true, 0, (M.lock t false).2.2)) ∨
    ((M.lock t false).2.1 = 0 ∧ (M.lock t false).1 = false ∧ (M.lock t false).2.2 = M ∧ 0 ≤ t ∧ t < M.n ∧ t ∉ M.row ∧ M.lock t true = (false, 0, { M with row := M.row ++ [t] })) := by
  rcases lock_may M t false with ⟨hm, hb⟩ | ⟨hm, ht0, htn, hr, ⟨hh, hb⟩ | ⟨hh, hb⟩⟩
  all_goals rcases lock_may M t true with ⟨hm', hb'⟩ | ⟨hm', _, _, _, ⟨hh', hb'⟩ | ⟨hh', hb'⟩⟩
  all_goals rw [hb, hb']
  · exact .inl ⟨hm, rfl, rfl, rfl⟩
  · exact absurd hm' hm
  · exact absurd hm' hm
  · exact absurd hm hm'
  · exact .inr (.inl ⟨rfl, rfl, rfl⟩)
  · exact absurd hh hh'
  · exact absurd hm hm'
  · exact absurd hh' hh
  · exact .inr (.inr ⟨rfl, rfl, rfl, ht0, htn, hr, rfl⟩)
set_option maxHeartbeats 1600000 in
theorem oLock (p : Nat) (M : MM) (t : Int) (e w : World) (X : HProp) (hw : Holds e w [X, IsMutex p M]) :
    Calls Try.prog 17 #[.pointer (some ⟨p, 0, none⟩), .int .i64 t] w fun en w' => en = .returned (.tuple #[.bool (M.lock t true).1, .int .i64 (M.lock t true).2.1]) ∧ Holds e w' [X, IsMutex p (M.lock t true).2.2] := by
  have hdo := oTryLock p M t e w X hw
  rcases lock_try M t with ⟨he, hi, hm, hb⟩ | ⟨he, hi, hb⟩ | ⟨he, hi, hm, ht0, htn, hr, hb⟩
  · rw [hb]; clear hb
    rw [hi, hm] at hdo
    generalize (M.lock t false).2.1 = er at *
    clear hi hm
    refine Sep.calls_post ?_
    intro Post_ hPost_
    have HP := Sep.hid hPost_
    clear hPost_
    go_enter Try.func17, Try.ntmps17
    go_wp2_with fail
    refine hdo.mono ?_
    rintro en_ w_ ⟨rfl, hw_⟩
    clear hw
    go_wp2_with fail
    exact HP.out _ _ ⟨rfl, hw_⟩
  · rw [hb]; clear hb
    rw [hi, he] at hdo
    generalize (M.lock t false).2.2 = M' at *
    clear hi he
    refine Sep.calls_post ?_
    intro Post_ hPost_
    have HP := Sep.hid hPost_
    clear hPost_
    go_enter Try.func17, Try.ntmps17
    go_wp2_with fail
    refine hdo.mono ?_
    rintro en_ w_ ⟨rfl, hw_⟩
    clear hw
    go_wp2_with fail
    exact HP.out _ _ ⟨rfl, hw_⟩
  · rw [hb]; clear hb
    rw [hi, hm, he] at hdo
    clear hi hm he
    have Hpe : Hid (putE M.n [M.row] t = 0) := Sep.hid (by rw [putE1, if_pos ⟨ht0, htn⟩, if_neg hr])
    have Hpr : Hid (putR M.n [M.row] 0 t = [M.row ++ [t]]) := Sep.hid (by rw [putR1, if_pos Hpe.out])
    clear hr
    refine Sep.calls_post ?_
    intro Post_ hPost_
    have HP := Sep.hid hPost_
    clear hPost_
    go_enter Try.func17, Try.ntmps17
    go_wp2_with fail
    refine hdo.mono ?_
    rintro en_ w_ ⟨rfl, hw_⟩
    clear hw; have hw := hw_; clear hw_
    obtain ⟨r, hw⟩ := exL.open_ hw
    have hw := hw.open_ 1 rfl
    (try simp only [List.map_cons, List.map_nil, List.getD_cons_zero, List.getD_cons_succ, List.getD_nil, List.set_cons_zero, List.set_cons_succ, List.cons_append, List.nil_append, Act.eval, Array.getD_eq_getD_getElem?, List.getElem?_toArray, List.getElem?_cons_succ, List.getElem?_cons_zero, Option.getD_some, Value.cells] at hw); (try simp (disch := first | (simp; done) | (simp; omega)) only [Sep.mid_set, Sep.mid_set2, Sep.mid_set0, Sep.mid_splice, Sep.mid_splice0, List.set_cons_zero, List.set_cons_succ] at hw); (try simp only [Sep.splice, List.take_succ_cons, List.take_zero, List.drop_succ_cons, List.drop_zero, List.length_cons, List.length_nil, Nat.reduceAdd, List.cons_append, List.nil_append] at hw)
    (try replace hc0 := Sep.Holds.cells hw (i := 0) rfl); (try replace hc1 := Sep.Holds.cells hw (i := 1) rfl); (try replace hc2 := Sep.Holds.cells hw (i := 2) rfl); (try replace hc3 := Sep.Holds.cells hw (i := 3) rfl); (try replace hc4 := Sep.Holds.cells hw (i := 4) rfl); (try replace hc5 := Sep.Holds.cells hw (i := 5) rfl); (try replace hc6 := Sep.Holds.cells hw (i := 6) rfl)
    go_wp2_with fail
    refine (wPut r M.n [M.row] 0 (by simp) t e _ _ (hw.focus1 2 rfl)).mono ?_
    rintro en_ w_ ⟨rfl, hw_⟩
    clear hw; (try clear hc0); (try clear hc1); (try clear hc2); (try clear hc3); (try clear hc4); (try clear hc5); (try clear hc6); have hw := Holds.unfocus1 2 (by simp) hw_; clear hw_
    (try simp only [List.map_cons, List.map_nil, List.getD_cons_zero, List.getD_cons_succ, List.getD_nil, List.set_cons_zero, List.set_cons_succ, List.cons_append, List.nil_append, Act.eval, Array.getD_eq_getD_getElem?, List.getElem?_toArray, List.getElem?_cons_succ, List.getElem?_cons_zero, Option.getD_some, Value.cells] at hw); (try simp (disch := first | (simp; done) | (simp; omega)) only [Sep.mid_set, Sep.mid_set2, Sep.mid_set0, Sep.mid_splice, Sep.mid_splice0, List.set_cons_zero, List.set_cons_succ] at hw); (try simp only [Sep.splice, List.take_succ_cons, List.take_zero, List.drop_succ_cons, List.drop_zero, List.length_cons, List.length_nil, Nat.reduceAdd, List.cons_append, List.nil_append] at hw)
    rw [Hpe.out]
    rw [Hpr.out] at hw
    go_wp2_with fail
    exact HP.out _ _ ⟨rfl, exL.mk (f := mutexParts p ⟨M.n, M.h, M.row ++ [t]⟩) r hw⟩
set_option maxHeartbeats 1600000 in
theorem oUnlock (p : Nat) (M : MM) (t : Int) (e w : World) (X : HProp) (hw : Holds e w [X, IsMutex p M]) :
    Calls Try.prog 20 #[.pointer (some ⟨p, 0, none⟩), .int .i64 t] w fun en w' => en = .returned (.tuple #[.int .i64 (M.unlock t).1, .int .i64 (M.unlock t).2.1]) ∧ Holds e w' [X, IsMutex p (M.unlock t).2.2] := by
  have Hw0 := Sep.hid hw
  obtain ⟨r, hw⟩ := exL.open_ hw
  have hw := hw.open_ 1 rfl
  (try simp only [List.map_cons, List.map_nil, List.getD_cons_zero, List.getD_cons_succ, List.getD_nil, List.set_cons_zero, List.set_cons_succ, List.cons_append, List.nil_append, Act.eval, Array.getD_eq_getD_getElem?, List.getElem?_toArray, List.getElem?_cons_succ, List.getElem?_cons_zero, Option.getD_some, Value.cells] at hw); (try simp (disch := first | (simp; done) | (simp; omega)) only [Sep.mid_set, Sep.mid_set2, Sep.mid_set0, Sep.mid_splice, Sep.mid_splice0, List.set_cons_zero, List.set_cons_succ] at hw); (try simp only [Sep.splice, List.take_succ_cons, List.take_zero, List.drop_succ_cons, List.drop_zero, List.length_cons, List.length_nil, Nat.reduceAdd, List.cons_append, List.nil_append] at hw)
  by_cases ht0 : t < 0
  · have hb : M.unlock t = (-1, 3, M) := by unfold MM.unlock; rw [if_pos (by omega)]
    rw [hb]; clear hb
    (try replace hc0 := Sep.Holds.cells hw (i := 0) rfl); (try replace hc1 := Sep.Holds.cells hw (i := 1) rfl); (try replace hc2 := Sep.Holds.cells hw (i := 2) rfl); (try replace hc3 := Sep.Holds.cells hw (i := 3) rfl); (try replace hc4 := Sep.Holds.cells hw (i := 4) rfl); (try replace hc5 := Sep.Holds.cells hw (i := 5) rfl); (try replace hc6 := Sep.Holds.cells hw (i := 6) rfl)
    refine Sep.calls_post ?_
    intro Post_ hPost_
    have HP := Sep.hid hPost_
    clear hPost_
    go_enter Try.func20, Try.ntmps20
    go_wp2_with (go_at_call 27; refine (wNodes r M.n [M.row] e _ _ (hw.focus1 2 rfl)).mono ?_; rintro _ w_ ⟨rfl, rfl⟩)
    exact HP.out _ _ ⟨rfl, Hw0.out⟩
  by_cases htn : (M.n : Int) ≤ t
  · have hb : M.unlock t = (-1, 3, M) := by unfold MM.unlock; rw [if_pos (by omega)]
    rw [hb]; clear hb
    (try replace hc0 := Sep.Holds.cells hw (i := 0) rfl); (try replace hc1 := Sep.Holds.cells hw (i := 1) rfl); (try replace hc2 := Sep.Holds.cells hw (i := 2) rfl); (try replace hc3 := Sep.Holds.cells hw (i := 3) rfl); (try replace hc4 := Sep.Holds.cells hw (i := 4) rfl); (try replace hc5 := Sep.Holds.cells hw (i := 5) rfl); (try replace hc6 := Sep.Holds.cells hw (i := 6) rfl)
    refine Sep.calls_post ?_
    intro Post_ hPost_
    have HP := Sep.hid hPost_
    clear hPost_
    go_enter Try.func20, Try.ntmps20
    go_wp2_with (go_at_call 27; refine (wNodes r M.n [M.row] e _ _ (hw.focus1 2 rfl)).mono ?_; rintro _ w_ ⟨rfl, rfl⟩)
    exact HP.out _ _ ⟨rfl, Hw0.out⟩
  have ht : 0 ≤ t ∧ t < M.n := by omega
  by_cases hh : M.h = t
  · have hb : M.unlock t = (M.row.headD (-1), 0, { M with h := M.row.headD (-1), row := M.row.tail }) := by unfold MM.unlock; rw [if_neg (fun h => h ht), if_neg (fun h => h hh)]
    rw [hb]; clear hb
    have hok := Holds.rowsOk (i := 2) rfl hw
    have Hf : Hid (-1 ≤ M.row.headD (-1) ∧ M.row.headD (-1) < M.n) := Sep.hid (by
      have hn := hok.n1
      cases hrow : M.row with
      | nil => simp only [List.headD_nil]; omega
      | cons y l =>
        have := hok.pos M.row (by simp) y (by rw [hrow]; simp)
        simp only [List.headD_cons]; omega)
    clear hok ht
    replace hw := hw.sel [0, 1, 2] (by decide)
    (try simp only [List.map_cons, List.map_nil, List.getD_cons_zero, List.getD_cons_succ, List.getD_nil, List.set_cons_zero, List.set_cons_succ, List.cons_append, List.nil_append, Act.eval, Array.getD_eq_getD_getElem?, List.getElem?_toArray, List.getElem?_cons_succ, List.getElem?_cons_zero, Option.getD_some, Value.cells] at hw); (try simp (disch := first | (simp; done) | (simp; omega)) only [Sep.mid_set, Sep.mid_set2, Sep.mid_set0, Sep.mid_splice, Sep.mid_splice0, List.set_cons_zero, List.set_cons_succ] at hw); (try simp only [Sep.splice, List.take_succ_cons, List.take_zero, List.drop_succ_cons, List.drop_zero, List.length_cons, List.length_nil, Nat.reduceAdd, List.cons_append, List.nil_append] at hw)
    (try replace hc0 := Sep.Holds.cells hw (i := 0) rfl); (try replace hc1 := Sep.Holds.cells hw (i := 1) rfl); (try replace hc2 := Sep.Holds.cells hw (i := 2) rfl); (try replace hc3 := Sep.Holds.cells hw (i := 3) rfl); (try replace hc4 := Sep.Holds.cells hw (i := 4) rfl); (try replace hc5 := Sep.Holds.cells hw (i := 5) rfl); (try replace hc6 := Sep.Holds.cells hw (i := 6) rfl)
    refine Sep.calls_post ?_
    intro Post_ hPost_
    have HP := Sep.hid hPost_
    clear hPost_
    go_enter Try.func20, Try.ntmps20
    go_wp2_with (go_at_call 27; refine (wNodes r M.n [M.row] e _ _ (hw.focus1 2 rfl)).mono ?_; rintro _ w_ ⟨rfl, rfl⟩)
    refine (wTake r M.n [M.row] 0 (by simp) e _ _ (hw.focus1 2 rfl)).mono ?_
    rintro en_ w_ ⟨rfl, hw_⟩
    clear hw; (try clear hc0); (try clear hc1); (try clear hc2); (try clear hc3); (try clear hc4); (try clear hc5); (try clear hc6); have hw := Holds.unfocus1 2 (by simp) hw_; clear hw_
    (try simp only [List.map_cons, List.map_nil, List.getD_cons_zero, List.getD_cons_succ, List.getD_nil, List.set_cons_zero, List.set_cons_succ, List.cons_append, List.nil_append, Act.eval, Array.getD_eq_getD_getElem?, List.getElem?_toArray, List.getElem?_cons_succ, List.getElem?_cons_zero, Option.getD_some, Value.cells] at hw); (try simp (disch := first | (simp; done) | (simp; omega)) only [Sep.mid_set, Sep.mid_set2, Sep.mid_set0, Sep.mid_splice, Sep.mid_splice0, List.set_cons_zero, List.set_cons_succ] at hw); (try simp only [Sep.splice, List.take_succ_cons, List.take_zero, List.drop_succ_cons, List.drop_zero, List.length_cons, List.length_nil, Nat.reduceAdd, List.cons_append, List.nil_append] at hw)
    rw [show ([M.row].getD 0 []) = M.row from rfl]
    generalize M.row.headD (-1) = hd at *
    (try replace hc0 := Sep.Holds.cells hw (i := 0) rfl); (try replace hc1 := Sep.Holds.cells hw (i := 1) rfl); (try replace hc2 := Sep.Holds.cells hw (i := 2) rfl); (try replace hc3 := Sep.Holds.cells hw (i := 3) rfl); (try replace hc4 := Sep.Holds.cells hw (i := 4) rfl); (try replace hc5 := Sep.Holds.cells hw (i := 5) rfl); (try replace hc6 := Sep.Holds.cells hw (i := 6) rfl)
    go_wp2_with ((first | refine wpList_on rfl (wp_store1 (v := _) rfl rfl rfl hw (i := 0) rfl (by simp [Sep.mid_length, Act.eval, Value.cells]; try omega) rfl ?_) | refine wpList_on rfl (wp_store1 (v := _) rfl rfl rfl hw (i := 1) rfl (by simp [Sep.mid_length, Act.eval, Value.cells]; try omega) rfl ?_) | refine wpList_on rfl (wp_store1 (v := _) rfl rfl rfl hw (i := 2) rfl (by simp [Sep.mid_length, Act.eval, Value.cells]; try omega) rfl ?_) | refine wpList_on rfl (wp_store1 (v := _) rfl rfl rfl hw (i := 3) rfl (by simp [Sep.mid_length, Act.eval, Value.cells]; try omega) rfl ?_) | refine wpList_on rfl (wp_store1 (v := _) rfl rfl rfl hw (i := 4) rfl (by simp [Sep.mid_length, Act.eval, Value.cells]; try omega) rfl ?_)); intro w_ hw_; clear hw; have hw := hw_; clear hw_; (try simp only [List.map_cons, List.map_nil, List.getD_cons_zero, List.getD_cons_succ, List.getD_nil, List.set_cons_zero, List.set_cons_succ, List.cons_append, List.nil_append, Act.eval, Array.getD_eq_getD_getElem?, List.getElem?_toArray, List.getElem?_cons_succ, List.getElem?_cons_zero, Option.getD_some, Value.cells] at hw); (try simp (disch := first | (simp; done) | (simp; omega)) only [Sep.mid_set, Sep.mid_set2, Sep.mid_set0, Sep.mid_splice, Sep.mid_splice0, List.set_cons_zero, List.set_cons_succ] at hw); (try simp only [Sep.splice, List.take_succ_cons, List.take_zero, List.drop_succ_cons, List.drop_zero, List.length_cons, List.length_nil, Nat.reduceAdd, List.cons_append, List.nil_append] at hw); (try replace hc0 := Sep.Holds.cells hw (i := 0) rfl); (try replace hc1 := Sep.Holds.cells hw (i := 1) rfl); (try replace hc2 := Sep.Holds.cells hw (i := 2) rfl); (try replace hc3 := Sep.Holds.cells hw (i := 3) rfl); (try replace hc4 := Sep.Holds.cells hw (i := 4) rfl); (try replace hc5 := Sep.Holds.cells hw (i := 5) rfl); (try replace hc6 := Sep.Holds.cells hw (i := 6) rfl))
    exact HP.out _ _ ⟨rfl, exL.mk (f := mutexParts p ⟨M.n, hd, M.row.tail⟩) r (hw.addFct Hf.out)⟩
  · have hb : M.unlock t = (-1, 4, M) := by unfold MM.unlock; rw [if_neg (fun h => h ht), if_pos hh]
    rw [hb]; clear hb ht
    (try replace hc0 := Sep.Holds.cells hw (i := 0) rfl); (try replace hc1 := Sep.Holds.cells hw (i := 1) rfl); (try replace hc2 := Sep.Holds.cells hw (i := 2) rfl); (try replace hc3 := Sep.Holds.cells hw (i := 3) rfl); (try replace hc4 := Sep.Holds.cells hw (i := 4) rfl); (try replace hc5 := Sep.Holds.cells hw (i := 5) rfl); (try replace hc6 := Sep.Holds.cells hw (i := 6) rfl)
    refine Sep.calls_post ?_
    intro Post_ hPost_
    have HP := Sep.hid hPost_
    clear hPost_
    go_enter Try.func20, Try.ntmps20
    go_wp2_with (go_at_call 27; refine (wNodes r M.n [M.row] e _ _ (hw.focus1 2 rfl)).mono ?_; rintro _ w_ ⟨rfl, rfl⟩)
    exact HP.out _ _ ⟨rfl, Hw0.out⟩
set_option maxHeartbeats 400000 in
theorem oLeave (p : Nat) (M : MM) (t : Int) (e w : World) (X : HProp) (hw : Holds e w [X, IsMutex p M]) :
    Calls Try.prog 19 #[.pointer (some ⟨p, 0, none⟩), .int .i64 t] w fun en w' => en = .returned (.bool (M.leave t).1) ∧ Holds e w' [X, IsMutex p (M.leave t).2] := by
  obtain ⟨r, hw⟩ := exL.open_ hw
  have hw := hw.open_ 1 rfl
  (try simp only [List.map_cons, List.map_nil, List.getD_cons_zero, List.getD_cons_succ, List.getD_nil, List.set_cons_zero, List.set_cons_succ, List.cons_append, List.nil_append, Act.eval, Array.getD_eq_getD_getElem?, List.getElem?_toArray, List.getElem?_cons_succ, List.getElem?_cons_zero, Option.getD_some, Value.cells] at hw); (try simp (disch := first | (simp; done) | (simp; omega)) only [Sep.mid_set, Sep.mid_set2, Sep.mid_set0, Sep.mid_splice, Sep.mid_splice0, List.set_cons_zero, List.set_cons_succ] at hw); (try simp only [Sep.splice, List.take_succ_cons, List.take_zero, List.drop_succ_cons, List.drop_zero, List.length_cons, List.length_nil, Nat.reduceAdd, List.cons_append, List.nil_append] at hw)
  (try replace hc0 := Sep.Holds.cells hw (i := 0) rfl); (try replace hc1 := Sep.Holds.cells hw (i := 1) rfl); (try replace hc2 := Sep.Holds.cells hw (i := 2) rfl); (try replace hc3 := Sep.Holds.cells hw (i := 3) rfl); (try replace hc4 := Sep.Holds.cells hw (i := 4) rfl); (try replace hc5 := Sep.Holds.cells hw (i := 5) rfl); (try replace hc6 := Sep.Holds.cells hw (i := 6) rfl)
  refine Sep.calls_post ?_
  intro Post_ hPost_
  have HP := Sep.hid hPost_
  clear hPost_
  go_enter Try.func19, Try.ntmps19
  go_wp2_with fail
  refine (wDrop r M.n [M.row] t e _ _ (hw.focus1 2 rfl)).mono ?_
  rintro en_ w_ ⟨rfl, hw_⟩
  clear hw; (try clear hc0); (try clear hc1); (try clear hc2); (try clear hc3); (try clear hc4); (try clear hc5); (try clear hc6); have hw := Holds.unfocus1 2 (by simp) hw_; clear hw_
  (try simp only [List.map_cons, List.map_nil, List.getD_cons_zero, List.getD_cons_succ, List.getD_nil, List.set_cons_zero, List.set_cons_succ, List.cons_append, List.nil_append, Act.eval, Array.getD_eq_getD_getElem?, List.getElem?_toArray, List.getElem?_cons_succ, List.getElem?_cons_zero, Option.getD_some, Value.cells] at hw); (try simp (disch := first | (simp; done) | (simp; omega)) only [Sep.mid_set, Sep.mid_set2, Sep.mid_set0, Sep.mid_splice, Sep.mid_splice0, List.set_cons_zero, List.set_cons_succ] at hw); (try simp only [Sep.splice, List.take_succ_cons, List.take_zero, List.drop_succ_cons, List.drop_zero, List.length_cons, List.length_nil, Nat.reduceAdd, List.cons_append, List.nil_append] at hw)
  go_wp2_with fail
  refine HP.out _ _ ⟨?_, exL.mk (f := mutexParts p (M.leave t).2) r hw⟩
  rw [rowOf1]
  by_cases h : t ∈ M.row <;> simp [MM.leave, h]
set_option maxHeartbeats 400000 in
theorem oHolder (p : Nat) (M : MM) (e w : World) (X : HProp) (hw : Holds e w [X, IsMutex p M]) :
    Calls Try.prog 13 #[.pointer (some ⟨p, 0, none⟩)] w fun en w' => en = .returned (.int .i64 M.h) ∧ w' = w := by
  obtain ⟨r, hw⟩ := exL.open_ hw
  have hw := hw.open_ 1 rfl
  (try simp only [List.map_cons, List.map_nil, List.getD_cons_zero, List.getD_cons_succ, List.getD_nil, List.set_cons_zero, List.set_cons_succ, List.cons_append, List.nil_append, Act.eval, Array.getD_eq_getD_getElem?, List.getElem?_toArray, List.getElem?_cons_succ, List.getElem?_cons_zero, Option.getD_some, Value.cells] at hw); (try simp (disch := first | (simp; done) | (simp; omega)) only [Sep.mid_set, Sep.mid_set2, Sep.mid_set0, Sep.mid_splice, Sep.mid_splice0, List.set_cons_zero, List.set_cons_succ] at hw); (try simp only [Sep.splice, List.take_succ_cons, List.take_zero, List.drop_succ_cons, List.drop_zero, List.length_cons, List.length_nil, Nat.reduceAdd, List.cons_append, List.nil_append] at hw)
  (try replace hc0 := Sep.Holds.cells hw (i := 0) rfl); (try replace hc1 := Sep.Holds.cells hw (i := 1) rfl); (try replace hc2 := Sep.Holds.cells hw (i := 2) rfl); (try replace hc3 := Sep.Holds.cells hw (i := 3) rfl); (try replace hc4 := Sep.Holds.cells hw (i := 4) rfl); (try replace hc5 := Sep.Holds.cells hw (i := 5) rfl); (try replace hc6 := Sep.Holds.cells hw (i := 6) rfl)
  refine Sep.calls_post ?_
  intro Post_ hPost_
  have HP := Sep.hid hPost_
  clear hPost_
  go_enter Try.func13, Try.ntmps13
  go_wp2_with fail
  exact HP.out _ _ ⟨rfl, rfl⟩
set_option maxHeartbeats 400000 in
theorem oWaiting (p : Nat) (M : MM) (e w : World) (X : HProp) (hw : Holds e w [X, IsMutex p M]) :
    Calls Try.prog 15 #[.pointer (some ⟨p, 0, none⟩)] w fun en w' => ∃ v, en = .returned v ∧ Holds e w' [X, IsMutex p M, IsInts v M.row] := by
  obtain ⟨r, hw⟩ := exL.open_ hw
  have hw := hw.open_ 1 rfl
  (try simp only [List.map_cons, List.map_nil, List.getD_cons_zero, List.getD_cons_succ, List.getD_nil, List.set_cons_zero, List.set_cons_succ, List.cons_append, List.nil_append, Act.eval, Array.getD_eq_getD_getElem?, List.getElem?_toArray, List.getElem?_cons_succ, List.getElem?_cons_zero, Option.getD_some, Value.cells] at hw); (try simp (disch := first | (simp; done) | (simp; omega)) only [Sep.mid_set, Sep.mid_set2, Sep.mid_set0, Sep.mid_splice, Sep.mid_splice0, List.set_cons_zero, List.set_cons_succ] at hw); (try simp only [Sep.splice, List.take_succ_cons, List.take_zero, List.drop_succ_cons, List.drop_zero, List.length_cons, List.length_nil, Nat.reduceAdd, List.cons_append, List.nil_append] at hw)
  (try replace hc0 := Sep.Holds.cells hw (i := 0) rfl); (try replace hc1 := Sep.Holds.cells hw (i := 1) rfl); (try replace hc2 := Sep.Holds.cells hw (i := 2) rfl); (try replace hc3 := Sep.Holds.cells hw (i := 3) rfl); (try replace hc4 := Sep.Holds.cells hw (i := 4) rfl); (try replace hc5 := Sep.Holds.cells hw (i := 5) rfl); (try replace hc6 := Sep.Holds.cells hw (i := 6) rfl)
  refine Sep.calls_post ?_
  intro Post_ hPost_
  have HP := Sep.hid hPost_
  clear hPost_
  go_enter Try.func15, Try.ntmps15
  go_wp2_with fail
  refine (wList r M.n [M.row] 0 e _ _ (hw.focus1 2 rfl)).mono ?_
  rintro en_ w_ ⟨v, rfl, hw_⟩
  clear hw; (try clear hc0); (try clear hc1); (try clear hc2); (try clear hc3); (try clear hc4); (try clear hc5); (try clear hc6); have hw := Holds.unfocus1 2 (by simp) hw_; clear hw_
  (try simp only [List.map_cons, List.map_nil, List.getD_cons_zero, List.getD_cons_succ, List.getD_nil, List.set_cons_zero, List.set_cons_succ, List.cons_append, List.nil_append, Act.eval, Array.getD_eq_getD_getElem?, List.getElem?_toArray, List.getElem?_cons_succ, List.getElem?_cons_zero, Option.getD_some, Value.cells] at hw); (try simp (disch := first | (simp; done) | (simp; omega)) only [Sep.mid_set, Sep.mid_set2, Sep.mid_set0, Sep.mid_splice, Sep.mid_splice0, List.set_cons_zero, List.set_cons_succ] at hw); (try simp only [Sep.splice, List.take_succ_cons, List.take_zero, List.drop_succ_cons, List.drop_zero, List.length_cons, List.length_nil, Nat.reduceAdd, List.cons_append, List.nil_append] at hw)
  go_wp2_with fail
  refine HP.out _ _ ⟨v, rfl, ?_⟩
  have h := Holds.group [X, IsInts v M.row] _ (hw.sel [0, 4, 1, 2, 3] (by decide))
  have h2 := exL.mk (f := mutexParts p M) r h
  exact (Holds.ungroup [X, IsInts v M.row] [_] h2).sel [0, 2, 1] (by decide)
end Go.Proofs.Ytgmclhjigafbmaa
