/-
  The walks of the methods of a semaphore.
-/
import Derived.Test.YtpbpineehbemhaaSemaM
import Derived.Test.YtpbpineehbemhaaRowsW
import Derived.Test.YtpbpineehbemhaaIntsR8
import Derived.Test.YtpbpineehbemhaaSepRet
namespace Go.Proofs.Ytpbpineehbemhaa
set_option linter.unusedSimpArgs false
set_option linter.unusedVariables false
open Go.RowKit Go.Sep Go.RingM

structure SMp where
  r : Nat
  m : Nat
def semaParts (p : Nat) (M : SM) (x : SMp) : List HProp := [pt p [.pointer (some ⟨x.r, 0, none⟩), .int .i64 M.held, .int .i64 M.room, .map (some x.m)] 63, IsRows x.r M.n [M.w, M.d], IsMap x.m .i64 (encF M.f), fct M.Ok]
def IsSema (p : Nat) (M : SM) : HProp := exL (semaParts p M)
theorem sema_ok {p i : Nat} {M : SM} {e w : World} {L : List HProp} (hi : L[i]? = some (IsSema p M)) (hw : Holds e w L) : RowsOk M.n [M.w, M.d] ∧ M.Ok := by
  have hw := hw.focus1 i hi
  obtain ⟨⟨r, m⟩, hw⟩ := exL.open_ hw
  have hw := hw.open_ 1 rfl
  (try simp only [List.map_cons, List.map_nil, List.getD_cons_zero, List.getD_cons_succ, List.getD_nil, List.set_cons_zero, List.set_cons_succ, List.cons_append, List.nil_append, Act.eval, Array.getD_eq_getD_getElem?, List.getElem?_toArray, List.getElem?_cons_succ, List.getElem?_cons_zero, Option.getD_some, Value.cells] at hw); (try simp (disch := first | (simp; done) | (simp; omega)) only [Sep.mid_set, Sep.mid_set2, Sep.mid_set0, Sep.mid_splice, Sep.mid_splice0, List.set_cons_zero, List.set_cons_succ] at hw); (try simp only [Sep.splice, List.take_succ_cons, List.take_zero, List.drop_succ_cons, List.drop_zero, List.length_cons, List.length_nil, Nat.reduceAdd, List.cons_append, List.nil_append] at hw)
  exact ⟨Holds.rowsOk (i := 2) rfl hw, Holds.fct (i := 4) rfl hw⟩
theorem sema_len {p i : Nat} {M : SM} {e w : World} {L : List HProp} (hi : L[i]? = some (IsSema p M)) (hw : Holds e w L) : M.w.length ≤ 1000 ∧ M.d.length ≤ 1000 := by
  have h := (sema_ok hi hw).1
  exact ⟨Nat.le_trans (rowsLen h (by simp)) h.n2, Nat.le_trans (rowsLen h (by simp)) h.n2⟩
set_option maxHeartbeats 800000 in
theorem sFits (a b c : Int) (hc : c ≤ 9223372036854775807) (w : World) :
    Calls Try.prog 20 #[.int .i64 a, .int .i64 b, .int .i64 c] w fun en w' => en = .returned (.bool (fits a b c)) ∧ w' = w := by
  by_cases h1 : a < 0
  · clear hc
    have hb : fits a b c = false := by unfold fits; exact decide_eq_false (by omega)
    rw [hb]; clear hb
    refine Sep.calls_post ?_
    intro Post_ hPost_
    have HP := Sep.hid hPost_
    clear hPost_
    go_enter Try.func20, Try.ntmps20
    go_wp2_with fail
    exact HP.out _ _ ⟨rfl, rfl⟩
  by_cases h2 : b < 0
  · clear hc
    have hb : fits a b c = false := by unfold fits; exact decide_eq_false (by omega)
    rw [hb]; clear hb
    refine Sep.calls_post ?_
    intro Post_ hPost_
    have HP := Sep.hid hPost_
    clear hPost_
    go_enter Try.func20, Try.ntmps20
    go_wp2_with fail
    exact HP.out _ _ ⟨rfl, rfl⟩
  by_cases h3 : c < 0
  · clear hc
    have hb : fits a b c = false := by unfold fits; exact decide_eq_false (by omega)
    rw [hb]; clear hb
    refine Sep.calls_post ?_
    intro Post_ hPost_
    have HP := Sep.hid hPost_
    clear hPost_
    go_enter Try.func20, Try.ntmps20
    go_wp2_with fail
    exact HP.out _ _ ⟨rfl, rfl⟩
  by_cases h4 : c < a
  · clear hc
    have hb : fits a b c = false := by unfold fits; exact decide_eq_false (by omega)
    rw [hb]; clear hb
    refine Sep.calls_post ?_
    intro Post_ hPost_
    have HP := Sep.hid hPost_
    clear hPost_
    go_enter Try.func20, Try.ntmps20
    go_wp2_with fail
    exact HP.out _ _ ⟨rfl, rfl⟩
  have hwr : IntKind.i64.wrap (c - a) = c - a := IntWalk.i64_in _ (by omega)
  have hv : Hid (decide (b ≤ c - a) = fits a b c) := Sep.hid (by
    by_cases h5 : b ≤ c - a
    · rw [decide_eq_true h5, (fits_iff a b c).2 (by omega)]
    · rw [decide_eq_false h5]; unfold fits; exact (decide_eq_false (by omega)).symm)
  clear hc
  refine Sep.calls_post ?_
  intro Post_ hPost_
  have HP := Sep.hid hPost_
  clear hPost_
  go_enter Try.func20, Try.ntmps20
  go_wp2_with fail
  rw [← hv.out] at HP
  exact HP.out _ _ ⟨rfl, rfl⟩
set_option maxHeartbeats 800000 in
theorem oNew_ok (n : Nat) (room : Int) (n1 : 1 ≤ n) (n2 : n ≤ 1000) (r0 : 0 ≤ room) (r1 : room ≤ 9223372036854775807) (e w : World) (X : HProp) (hw : Holds e w [X]) :
    Calls Try.prog 8 #[.int .i64 (n : Int), .int .i64 room] w fun en w' => ∃ p, en = .returned (.tuple #[.pointer (some ⟨p, 0, none⟩), .int .i64 0]) ∧ Holds e w' [X, IsSema p ⟨n, 0, room, [], [], fun _ => none⟩] := by
  have Hok := Sep.hid (SM.ok_new n room r0 r1)
  refine Sep.calls_post ?_
  intro Post_ hPost_
  have HP := Sep.hid hPost_
  clear hPost_
  go_enter Try.func8, Try.ntmps8
  go_wp2_with fail
  refine (wNew 2 n n1 n2 (by decide) (by decide) e _ _ hw).mono ?_
  rintro en_ w_ ⟨r, rfl, hw_⟩
  clear hw; have hw := hw_; clear hw_
  go_wp2_with (first | (refine wpList_on rfl (wp_box rfl hw ?_); intro b_ w_ hw_; clear hw; have hw := hw_; clear hw_; (try simp only [List.map_cons, List.map_nil, List.getD_cons_zero, List.getD_cons_succ, List.getD_nil, List.set_cons_zero, List.set_cons_succ, List.cons_append, List.nil_append, Act.eval, Array.getD_eq_getD_getElem?, List.getElem?_toArray, List.getElem?_cons_succ, List.getElem?_cons_zero, Option.getD_some, Value.cells] at hw); (try simp (disch := first | (simp; done) | (simp; omega)) only [Sep.mid_set, Sep.mid_set2, Sep.mid_set0, Sep.mid_splice, Sep.mid_splice0, List.set_cons_zero, List.set_cons_succ] at hw); (try simp only [Sep.splice, List.take_succ_cons, List.take_zero, List.drop_succ_cons, List.drop_zero, List.length_cons, List.length_nil, Nat.reduceAdd, List.cons_append, List.nil_append] at hw); (try replace hc0 := Sep.Holds.cells hw (i := 0) rfl); (try replace hc1 := Sep.Holds.cells hw (i := 1) rfl); (try replace hc2 := Sep.Holds.cells hw (i := 2) rfl); (try replace hc3 := Sep.Holds.cells hw (i := 3) rfl); (try replace hc4 := Sep.Holds.cells hw (i := 4) rfl); (try replace hc5 := Sep.Holds.cells hw (i := 5) rfl); (try replace hc6 := Sep.Holds.cells hw (i := 6) rfl)) | (refine wpList_on rfl (wp_makeMap rfl hw .i64 ?_); intro m_ w_ hw_; clear hw; have hw := hw_; clear hw_; (try simp only [List.map_cons, List.map_nil, List.getD_cons_zero, List.getD_cons_succ, List.getD_nil, List.set_cons_zero, List.set_cons_succ, List.cons_append, List.nil_append, Act.eval, Array.getD_eq_getD_getElem?, List.getElem?_toArray, List.getElem?_cons_succ, List.getElem?_cons_zero, Option.getD_some, Value.cells] at hw); (try simp (disch := first | (simp; done) | (simp; omega)) only [Sep.mid_set, Sep.mid_set2, Sep.mid_set0, Sep.mid_splice, Sep.mid_splice0, List.set_cons_zero, List.set_cons_succ] at hw); (try simp only [Sep.splice, List.take_succ_cons, List.take_zero, List.drop_succ_cons, List.drop_zero, List.length_cons, List.length_nil, Nat.reduceAdd, List.cons_append, List.nil_append] at hw); (try replace hc0 := Sep.Holds.cells hw (i := 0) rfl); (try replace hc1 := Sep.Holds.cells hw (i := 1) rfl); (try replace hc2 := Sep.Holds.cells hw (i := 2) rfl); (try replace hc3 := Sep.Holds.cells hw (i := 3) rfl); (try replace hc4 := Sep.Holds.cells hw (i := 4) rfl); (try replace hc5 := Sep.Holds.cells hw (i := 5) rfl); (try replace hc6 := Sep.Holds.cells hw (i := 6) rfl)))
  refine HP.out _ _ ⟨_, rfl, ?_⟩
  exact exL.mk (f := semaParts _ ⟨n, 0, room, [], [], fun _ => none⟩) ⟨r, m_⟩ ((hw.addFct Hok.out).sel [0, 3, 1, 2, 4] (by decide))
set_option maxHeartbeats 800000 in
theorem oNew_no (n room : Int) (h : n < 1 ∨ 1000 < n ∨ room < 0) (e w : World) (X : HProp) (hw : Holds e w [X]) :
    Calls Try.prog 8 #[.int .i64 n, .int .i64 room] w fun en w' => en = .returned (.tuple #[.pointer none, .int .i64 1]) ∧ Holds e w' [X] := by
  by_cases hn : n < 1 ∨ 1000 < n
  · have H := Sep.hid hn; clear h hn
    refine Sep.calls_post ?_
    intro Post_ hPost_
    have HP := Sep.hid hPost_
    clear hPost_
    go_enter Try.func8, Try.ntmps8
    go_wp2_with fail
    refine (rNew_no 2 n (by have := H.out; omega) _).mono ?_
    rintro en_ w_ ⟨rfl, rfl⟩
    go_wp2_with fail
    exact HP.out _ _ ⟨rfl, hw⟩
  · have hr : room < 0 := by omega
    obtain ⟨k, rfl⟩ : ∃ k : Nat, n = (k : Int) := ⟨n.toNat, by omega⟩
    have H : Hid (1 ≤ k ∧ k ≤ 1000) := Sep.hid (by omega)
    clear h hn
    refine Sep.calls_post ?_
    intro Post_ hPost_
    have HP := Sep.hid hPost_
    clear hPost_
    go_enter Try.func8, Try.ntmps8
    go_wp2_with fail
    refine (wNew 2 k H.out.1 H.out.2 (by decide) (by decide) e _ _ hw).mono ?_
    rintro en_ w_ ⟨r, rfl, hw_⟩
    clear hw; have hw := hw_; clear hw_
    go_wp2_with fail
    exact HP.out _ _ ⟨rfl, hw.sel [0] (by decide)⟩
set_option maxHeartbeats 1600000 in
theorem oMay (p : Nat) (M : SM) (t n : Int) (e w : World) (X : HProp) (hw : Holds e w [X, IsSema p M]) :
    Calls Try.prog 33 #[.pointer (some ⟨p, 0, none⟩), .int .i64 t, .int .i64 n] w fun en w' => en = .returned (.int .i64 (M.may t n)) ∧ w' = w := by
  obtain ⟨⟨r, m⟩, hw⟩ := exL.open_ hw
  have hw := hw.open_ 1 rfl
  (try simp only [List.map_cons, List.map_nil, List.getD_cons_zero, List.getD_cons_succ, List.getD_nil, List.set_cons_zero, List.set_cons_succ, List.cons_append, List.nil_append, Act.eval, Array.getD_eq_getD_getElem?, List.getElem?_toArray, List.getElem?_cons_succ, List.getElem?_cons_zero, Option.getD_some, Value.cells] at hw); (try simp (disch := first | (simp; done) | (simp; omega)) only [Sep.mid_set, Sep.mid_set2, Sep.mid_set0, Sep.mid_splice, Sep.mid_splice0, List.set_cons_zero, List.set_cons_succ] at hw); (try simp only [Sep.splice, List.take_succ_cons, List.take_zero, List.drop_succ_cons, List.drop_zero, List.length_cons, List.length_nil, Nat.reduceAdd, List.cons_append, List.nil_append] at hw)
  by_cases ht0 : t < 0
  · have hb : M.may t n = 3 := by unfold SM.may; rw [if_pos (by omega)]
    rw [hb]; clear hb
    (try replace hc0 := Sep.Holds.cells hw (i := 0) rfl); (try replace hc1 := Sep.Holds.cells hw (i := 1) rfl); (try replace hc2 := Sep.Holds.cells hw (i := 2) rfl); (try replace hc3 := Sep.Holds.cells hw (i := 3) rfl); (try replace hc4 := Sep.Holds.cells hw (i := 4) rfl); (try replace hc5 := Sep.Holds.cells hw (i := 5) rfl); (try replace hc6 := Sep.Holds.cells hw (i := 6) rfl)
    refine Sep.calls_post ?_
    intro Post_ hPost_
    have HP := Sep.hid hPost_
    clear hPost_
    go_enter Try.func33, Try.ntmps33
    go_wp2_with (go_at_call 43; refine (wNodes r M.n [M.w, M.d] e _ _ (hw.focus1 2 rfl)).mono ?_; rintro _ w_ ⟨rfl, rfl⟩)
    exact HP.out _ _ ⟨rfl, rfl⟩
  by_cases htn : (M.n : Int) ≤ t
  · have hb : M.may t n = 3 := by unfold SM.may; rw [if_pos (by omega)]
    rw [hb]; clear hb
    (try replace hc0 := Sep.Holds.cells hw (i := 0) rfl); (try replace hc1 := Sep.Holds.cells hw (i := 1) rfl); (try replace hc2 := Sep.Holds.cells hw (i := 2) rfl); (try replace hc3 := Sep.Holds.cells hw (i := 3) rfl); (try replace hc4 := Sep.Holds.cells hw (i := 4) rfl); (try replace hc5 := Sep.Holds.cells hw (i := 5) rfl); (try replace hc6 := Sep.Holds.cells hw (i := 6) rfl)
    refine Sep.calls_post ?_
    intro Post_ hPost_
    have HP := Sep.hid hPost_
    clear hPost_
    go_enter Try.func33, Try.ntmps33
    go_wp2_with (go_at_call 43; refine (wNodes r M.n [M.w, M.d] e _ _ (hw.focus1 2 rfl)).mono ?_; rintro _ w_ ⟨rfl, rfl⟩)
    exact HP.out _ _ ⟨rfl, rfl⟩
  have ht : 0 ≤ t ∧ t < M.n := by omega
  by_cases hn : n < 0
  · have hb : M.may t n = 1 := by unfold SM.may; rw [if_neg (fun h => h ht), if_pos hn]
    rw [hb]; clear hb ht
    (try replace hc0 := Sep.Holds.cells hw (i := 0) rfl); (try replace hc1 := Sep.Holds.cells hw (i := 1) rfl); (try replace hc2 := Sep.Holds.cells hw (i := 2) rfl); (try replace hc3 := Sep.Holds.cells hw (i := 3) rfl); (try replace hc4 := Sep.Holds.cells hw (i := 4) rfl); (try replace hc5 := Sep.Holds.cells hw (i := 5) rfl); (try replace hc6 := Sep.Holds.cells hw (i := 6) rfl)
    refine Sep.calls_post ?_
    intro Post_ hPost_
    have HP := Sep.hid hPost_
    clear hPost_
    go_enter Try.func33, Try.ntmps33
    go_wp2_with (go_at_call 43; refine (wNodes r M.n [M.w, M.d] e _ _ (hw.focus1 2 rfl)).mono ?_; rintro _ w_ ⟨rfl, rfl⟩)
    exact HP.out _ _ ⟨rfl, rfl⟩
  by_cases hr : t ∈ M.w
  · have hb : M.may t n = 6 := by unfold SM.may; rw [if_neg (fun h => h ht), if_neg hn, if_pos (.inl hr)]
    rw [hb]; clear hb
    have Hro : Hid (rowOf [M.w, M.d] t = 0) := Sep.hid (by rw [rowOf2, if_pos hr])
    clear ht hr
    (try replace hc0 := Sep.Holds.cells hw (i := 0) rfl); (try replace hc1 := Sep.Holds.cells hw (i := 1) rfl); (try replace hc2 := Sep.Holds.cells hw (i := 2) rfl); (try replace hc3 := Sep.Holds.cells hw (i := 3) rfl); (try replace hc4 := Sep.Holds.cells hw (i := 4) rfl); (try replace hc5 := Sep.Holds.cells hw (i := 5) rfl); (try replace hc6 := Sep.Holds.cells hw (i := 6) rfl)
    refine Sep.calls_post ?_
    intro Post_ hPost_
    have HP := Sep.hid hPost_
    clear hPost_
    go_enter Try.func33, Try.ntmps33
    go_wp2_with (first
      | (go_at_call 43; refine (wNodes r M.n [M.w, M.d] e _ _ (hw.focus1 2 rfl)).mono ?_; rintro _ w_ ⟨rfl, rfl⟩)
      | (go_at_call 44; refine (wIn r M.n [M.w, M.d] t e _ _ (hw.focus1 2 rfl)).mono ?_; rintro _ w_ ⟨rfl, rfl⟩; rw [Hro.out]))
    exact HP.out _ _ ⟨rfl, rfl⟩
  by_cases hr2 : t ∈ M.d
  · have hb : M.may t n = 6 := by unfold SM.may; rw [if_neg (fun h => h ht), if_neg hn, if_pos (.inr hr2)]
    rw [hb]; clear hb
    have Hro : Hid (rowOf [M.w, M.d] t = 1) := Sep.hid (by rw [rowOf2, if_neg hr, if_pos hr2])
    clear ht hr hr2
    (try replace hc0 := Sep.Holds.cells hw (i := 0) rfl); (try replace hc1 := Sep.Holds.cells hw (i := 1) rfl); (try replace hc2 := Sep.Holds.cells hw (i := 2) rfl); (try replace hc3 := Sep.Holds.cells hw (i := 3) rfl); (try replace hc4 := Sep.Holds.cells hw (i := 4) rfl); (try replace hc5 := Sep.Holds.cells hw (i := 5) rfl); (try replace hc6 := Sep.Holds.cells hw (i := 6) rfl)
    refine Sep.calls_post ?_
    intro Post_ hPost_
    have HP := Sep.hid hPost_
    clear hPost_
    go_enter Try.func33, Try.ntmps33
    go_wp2_with (first
      | (go_at_call 43; refine (wNodes r M.n [M.w, M.d] e _ _ (hw.focus1 2 rfl)).mono ?_; rintro _ w_ ⟨rfl, rfl⟩)
      | (go_at_call 44; refine (wIn r M.n [M.w, M.d] t e _ _ (hw.focus1 2 rfl)).mono ?_; rintro _ w_ ⟨rfl, rfl⟩; rw [Hro.out]))
    exact HP.out _ _ ⟨rfl, rfl⟩
  · have hb : M.may t n = 0 := by unfold SM.may; rw [if_neg (fun h => h ht), if_neg hn, if_neg (fun h => h.elim hr hr2)]
    rw [hb]; clear hb
    have Hro : Hid (rowOf [M.w, M.d] t = -1) := Sep.hid (by rw [rowOf2, if_neg hr, if_neg hr2])
    clear ht hr hr2
    (try replace hc0 := Sep.Holds.cells hw (i := 0) rfl); (try replace hc1 := Sep.Holds.cells hw (i := 1) rfl); (try replace hc2 := Sep.Holds.cells hw (i := 2) rfl); (try replace hc3 := Sep.Holds.cells hw (i := 3) rfl); (try replace hc4 := Sep.Holds.cells hw (i := 4) rfl); (try replace hc5 := Sep.Holds.cells hw (i := 5) rfl); (try replace hc6 := Sep.Holds.cells hw (i := 6) rfl)
    refine Sep.calls_post ?_
    intro Post_ hPost_
    have HP := Sep.hid hPost_
    clear hPost_
    go_enter Try.func33, Try.ntmps33
    go_wp2_with (first
      | (go_at_call 43; refine (wNodes r M.n [M.w, M.d] e _ _ (hw.focus1 2 rfl)).mono ?_; rintro _ w_ ⟨rfl, rfl⟩)
      | (go_at_call 44; refine (wIn r M.n [M.w, M.d] t e _ _ (hw.focus1 2 rfl)).mono ?_; rintro _ w_ ⟨rfl, rfl⟩; rw [Hro.out]))
    exact HP.out _ _ ⟨rfl, rfl⟩
set_option maxHeartbeats 1600000 in
theorem oTry (p : Nat) (M : SM) (t n : Int) (hn : n ≤ 9223372036854775807) (e w : World) (X : HProp) (hw : Holds e w [X, IsSema p M]) :
    Calls Try.prog 23 #[.pointer (some ⟨p, 0, none⟩), .int .i64 t, .int .i64 n] w fun en w' => en = .returned (.tuple #[.bool (M.tryA t n).1, .int .i64 (M.tryA t n).2.1]) ∧ Holds e w' [X, IsSema p (M.tryA t n).2.2] := by
  have Hw0 := Sep.hid hw
  have Hok' := Sep.hid ((sema_ok (i := 1) rfl hw).2.tryA t n)
  have Hok := Sep.hid (sema_ok (i := 1) rfl hw).2
  rcases acq_cases M t n with ⟨hm, _, hb⟩ | ⟨hm, ht0, htn, hn0, hr1, hr2, ⟨hwn, hf, _, hb⟩ | ⟨hnf, hb, _⟩⟩
  · rw [hb]; clear hb
    generalize hmm : M.may t n = mm at *
    have Hm := Sep.hid hmm; clear hmm
    refine Sep.calls_post ?_
    intro Post_ hPost_
    have HP := Sep.hid hPost_
    clear hPost_
    go_enter Try.func23, Try.ntmps23
    go_wp2_with (go_at_call 33; refine (oMay p M t n e _ X Hw0.out).mono ?_; rintro _ w_ ⟨rfl, rfl⟩; rw [Hm.out])
    exact HP.out _ _ ⟨rfl, Hw0.out⟩
  · rw [hb] at Hok' ⊢; clear hb
    have Hm := Sep.hid hm; clear hm
    have Hf := Sep.hid hf; clear hf
    have hff := (fits_iff _ _ _).1 Hf.out
    have hwr : IntKind.i64.wrap (M.held + n) = M.held + n := IntWalk.i64_in _ (by have := Hok.out.h2; omega)
    have Hl : Hid ((([M.w, M.d].getD 0 []).length : Int) = 0) := Sep.hid (by rw [show [M.w, M.d].getD 0 [] = M.w from rfl, hwn]; rfl)
    clear hwn hr1 hr2 hff
    refine Sep.calls_post ?_
    intro Post_ hPost_
    have HP := Sep.hid hPost_
    clear hPost_
    go_enter Try.func23, Try.ntmps23
    go_wp2_with (go_at_call 33; refine (oMay p M t n e _ X Hw0.out).mono ?_; rintro _ w_ ⟨rfl, rfl⟩; rw [Hm.out])
    obtain ⟨⟨r, m⟩, hw⟩ := exL.open_ hw
    have hw := hw.open_ 1 rfl
    (try simp only [List.map_cons, List.map_nil, List.getD_cons_zero, List.getD_cons_succ, List.getD_nil, List.set_cons_zero, List.set_cons_succ, List.cons_append, List.nil_append, Act.eval, Array.getD_eq_getD_getElem?, List.getElem?_toArray, List.getElem?_cons_succ, List.getElem?_cons_zero, Option.getD_some, Value.cells] at hw); (try simp (disch := first | (simp; done) | (simp; omega)) only [Sep.mid_set, Sep.mid_set2, Sep.mid_set0, Sep.mid_splice, Sep.mid_splice0, List.set_cons_zero, List.set_cons_succ] at hw); (try simp only [Sep.splice, List.take_succ_cons, List.take_zero, List.drop_succ_cons, List.drop_zero, List.length_cons, List.length_nil, Nat.reduceAdd, List.cons_append, List.nil_append] at hw)
    refine wp_region_L [4, 16] [(3, (fun w' => w' = w_.drew)), (10, (fun w' => Holds e w' [pt p [.pointer (some ⟨r, 0, none⟩), .int .i64 M.held, .int .i64 M.room, .map (some m)] 63])), (15, (fun w' => Holds e w' [pt p [.pointer (some ⟨r, 0, none⟩), .int .i64 M.held, .int .i64 M.room, .map (some m)] 63]))] (n := 19) (listed := (marks 19 0)) (by kernel_rfl) rfl (by kernel_rfl) ?conds1 ?_
    case conds1 =>
     intro c hc
     simp only [List.mem_cons, List.not_mem_nil, or_false] at hc
     rcases hc with rfl | rfl | rfl
     · rfl
     · exact (by replace hw := hw.drew; exact hw.sel [1] (by decide))
     · exact (by replace hw := hw.drew; exact hw.sel [1] (by decide))
    replace hw := hw.drew
    (try replace hc0 := Sep.Holds.cells hw (i := 0) rfl); (try replace hc1 := Sep.Holds.cells hw (i := 1) rfl); (try replace hc2 := Sep.Holds.cells hw (i := 2) rfl); (try replace hc3 := Sep.Holds.cells hw (i := 3) rfl); (try replace hc4 := Sep.Holds.cells hw (i := 4) rfl); (try replace hc5 := Sep.Holds.cells hw (i := 5) rfl); (try replace hc6 := Sep.Holds.cells hw (i := 6) rfl)
    refine wpL_q 0 ?_ rfl (Or.inl ⟨by rfl, fun w_ hS_ => ?_⟩) (marks 19 1) ?_
    rotate_left
    next => (go_simp; try (first | rfl | exact (Bool.not_not _).symm))
    try simp only [Act.put, List.setIfInBounds_toArray, List.set_cons_zero, List.set_cons_succ]
    refine wpL_q 1 ?_ rfl (Or.inl ⟨by rfl, fun w_ hS_ => ?_⟩) (marks 19 3) ?_
    rotate_left
    next => (go_simp; try (first | rfl | exact (Bool.not_not _).symm))
    try simp only [Act.put, List.setIfInBounds_toArray, List.set_cons_zero, List.set_cons_succ]
    refine wpL_q 2 ?_ rfl (Or.inl ⟨by rfl, fun w_ hS_ => ?_⟩) (marks 19 7) ?_
    rotate_left
    next => (go_simp; try (first | rfl | exact (Bool.not_not _).symm))
    try simp only [Act.put, List.setIfInBounds_toArray, List.set_cons_zero, List.set_cons_succ]
    refine wpL_m 3 ?_ rfl (.head _) (Or.inl ⟨by rfl, fun w_ hS_ => ?_⟩) (marks 19 15) ?_
    rotate_left
    next => (subst hS_; go_simp; try (first | rfl | exact (Bool.not_not _).symm))
    try simp only [Act.put, List.setIfInBounds_toArray, List.set_cons_zero, List.set_cons_succ]
    refine wpL_o 4 rfl (by rfl) (marks 19 31) ?_
    (go_simp; go_at_call 34; refine (wLen r M.n [M.w, M.d] 0 e _ _ (hw.focus1 2 rfl)).mono ?_; rintro _ w_ ⟨rfl, rfl⟩; rw [Hl.out])
    refine ⟨(SL.drop 4 (by kernel_rfl) (SL.keep (by exact hw.sel [1] (by decide)) (SL.keep (by exact hw.sel [1] (by decide)) SL.nil))), ?_⟩
    try simp only [Act.put, List.setIfInBounds_toArray, List.set_cons_zero, List.set_cons_succ]
    refine wpL_q 5 ?_ rfl (Or.inl ⟨by rfl, fun w_ hS_ => ?_⟩) (marks 19 63) ?_
    rotate_left
    next => (go_simp; try (first | rfl | exact (Bool.not_not _).symm))
    try simp only [Act.put, List.setIfInBounds_toArray, List.set_cons_zero, List.set_cons_succ]
    refine wpL_b 6 ?_ rfl (Or.inl ⟨by rfl, fun w_ hS_ => ?_⟩) (marks 19 127) ?_
    rotate_left
    next => (go_simp; try (first | rfl | exact (Bool.not_not _).symm))
    intro bb_ hg6
    cases bb_
    case' true =>
     (try simp only [decide_eq_true_eq, decide_eq_false_iff_not, beq_iff_eq, beq_eq_false_iff_ne, bne_iff_ne, bne_eq_false_iff_eq, Bool.not_eq_true', Bool.not_eq_false', Int.not_lt, Int.not_le] at hg6)
     first | (cases hg6; done) | (exfalso; omega; done)
    case' false =>
     (try simp only [decide_eq_true_eq, decide_eq_false_iff_not, beq_iff_eq, beq_eq_false_iff_ne, bne_iff_ne, bne_eq_false_iff_eq, Bool.not_eq_true', Bool.not_eq_false', Int.not_lt, Int.not_le] at hg6)
     first | (cases hg6; done) | (exfalso; omega; done) | skip
     all_goals
      try replace hg6 := Sep.hid hg6
      try simp only [Act.put, List.setIfInBounds_toArray, List.set_cons_zero, List.set_cons_succ]
      refine wpL_q 7 ?_ rfl (Or.inl ⟨by rfl, fun w_ hS_ => ?_⟩) (marks 19 255) ?_
      rotate_left
      next => (go_simp; try (first | rfl | exact (Bool.not_not _).symm))
      try simp only [Act.put, List.setIfInBounds_toArray, List.set_cons_zero, List.set_cons_succ]
      refine wpL_q 8 ?_ rfl (Or.inl ⟨by rfl, fun w_ hS_ => ?_⟩) (marks 19 511) ?_
      rotate_left
      next => (go_simp; try (first | rfl | exact (Bool.not_not _).symm))
      try simp only [Act.put, List.setIfInBounds_toArray, List.set_cons_zero, List.set_cons_succ]
      refine wpL_q 9 ?_ rfl (Or.inl ⟨by rfl, fun w_ hS_ => ?_⟩) (marks 19 1023) ?_
      rotate_left
      next => (go_simp; try (first | rfl | exact (Bool.not_not _).symm))
      try simp only [Act.put, List.setIfInBounds_toArray, List.set_cons_zero, List.set_cons_succ]
      refine wpL_m 10 ?_ rfl (.tail _ (.head _)) (Or.inl ⟨by rfl, fun w_ hS_ => ?_⟩) (marks 19 2047) ?_
      rotate_left
      next => (dsimp only at hS_; (try have q0 := Sep.Holds.cells hS_ (i := 0) rfl); (try have q1 := Sep.Holds.cells hS_ (i := 1) rfl); (try have q2 := Sep.Holds.cells hS_ (i := 2) rfl); (try have q3 := Sep.Holds.cells hS_ (i := 3) rfl); (try have q4 := Sep.Holds.cells hS_ (i := 4) rfl); (try have q5 := Sep.Holds.cells hS_ (i := 5) rfl); (try have q6 := Sep.Holds.cells hS_ (i := 6) rfl); go_simp; try (first | rfl | exact (Bool.not_not _).symm))
      try simp only [Act.put, List.setIfInBounds_toArray, List.set_cons_zero, List.set_cons_succ]
      refine wpL_q 11 ?_ rfl (Or.inl ⟨by rfl, fun w_ hS_ => ?_⟩) (marks 19 4095) ?_
      rotate_left
      next => (go_simp; try (first | rfl | exact (Bool.not_not _).symm))
      try simp only [Act.put, List.setIfInBounds_toArray, List.set_cons_zero, List.set_cons_succ]
      refine wpL_q 12 ?_ rfl (Or.inl ⟨by rfl, fun w_ hS_ => ?_⟩) (marks 19 8191) ?_
      rotate_left
      next => (go_simp; try (first | rfl | exact (Bool.not_not _).symm))
      try simp only [Act.put, List.setIfInBounds_toArray, List.set_cons_zero, List.set_cons_succ]
      refine wpL_q 13 ?_ rfl (Or.inl ⟨by rfl, fun w_ hS_ => ?_⟩) (marks 19 16383) ?_
      rotate_left
      next => (go_simp; try (first | rfl | exact (Bool.not_not _).symm))
      try simp only [Act.put, List.setIfInBounds_toArray, List.set_cons_zero, List.set_cons_succ]
      refine wpL_q 14 ?_ rfl (Or.inl ⟨by rfl, fun w_ hS_ => ?_⟩) (marks 19 32767) ?_
      rotate_left
      next => (go_simp; try (first | rfl | exact (Bool.not_not _).symm))
      try simp only [Act.put, List.setIfInBounds_toArray, List.set_cons_zero, List.set_cons_succ]
      refine wpL_m 15 ?_ rfl (.tail _ (.tail _ (.head _))) (Or.inl ⟨by rfl, fun w_ hS_ => ?_⟩) (marks 19 65535) ?_
      rotate_left
      next => (dsimp only at hS_; (try have q0 := Sep.Holds.cells hS_ (i := 0) rfl); (try have q1 := Sep.Holds.cells hS_ (i := 1) rfl); (try have q2 := Sep.Holds.cells hS_ (i := 2) rfl); (try have q3 := Sep.Holds.cells hS_ (i := 3) rfl); (try have q4 := Sep.Holds.cells hS_ (i := 4) rfl); (try have q5 := Sep.Holds.cells hS_ (i := 5) rfl); (try have q6 := Sep.Holds.cells hS_ (i := 6) rfl); go_simp; try (first | rfl | exact (Bool.not_not _).symm))
      try simp only [Act.put, List.setIfInBounds_toArray, List.set_cons_zero, List.set_cons_succ]
      refine wpL_o 16 rfl (by rfl) (marks 19 131071) ?_
      (go_simp; go_at_call 20; refine (sFits M.held n M.room Hok.out.h2 _).mono ?_; rintro _ w_ ⟨rfl, rfl⟩; rw [Hf.out])
      refine ⟨(SL.drop 4 (by kernel_rfl) (SL.drop 16 (by kernel_rfl) (SL.drop 16 (by kernel_rfl) SL.nil))), ?_⟩
      try simp only [Act.put, List.setIfInBounds_toArray, List.set_cons_zero, List.set_cons_succ]
      refine wpL_q 17 ?_ rfl (Or.inl ⟨by rfl, fun w_ hS_ => ?_⟩) (marks 19 262143) ?_
      rotate_left
      next => (go_simp; try (first | rfl | exact (Bool.not_not _).symm))
      try simp only [Act.put, List.setIfInBounds_toArray, List.set_cons_zero, List.set_cons_succ]
    all_goals
     refine wpL_q 18 ?_ rfl (Or.inl ⟨by rfl, fun w_ hS_ => ?_⟩) (marks 19 524287) ?_
     rotate_left
     next => (go_simp; try (first | rfl | exact (Bool.not_not _).symm))
     try simp only [Act.put, List.setIfInBounds_toArray, List.set_cons_zero, List.set_cons_succ]
     all_goals refine wpL_done (by kernel_rfl) ?_ _
    (try replace hc0 := Sep.Holds.cells hw (i := 0) rfl); (try replace hc1 := Sep.Holds.cells hw (i := 1) rfl); (try replace hc2 := Sep.Holds.cells hw (i := 2) rfl); (try replace hc3 := Sep.Holds.cells hw (i := 3) rfl); (try replace hc4 := Sep.Holds.cells hw (i := 4) rfl); (try replace hc5 := Sep.Holds.cells hw (i := 5) rfl); (try replace hc6 := Sep.Holds.cells hw (i := 6) rfl)
    go_wp2_with ((first | refine wpList_on rfl (wp_store1 (v := _) rfl rfl rfl hw (i := 0) rfl (by simp [Sep.mid_length, Act.eval, Value.cells]; try omega) rfl ?_) | refine wpList_on rfl (wp_store1 (v := _) rfl rfl rfl hw (i := 1) rfl (by simp [Sep.mid_length, Act.eval, Value.cells]; try omega) rfl ?_) | refine wpList_on rfl (wp_store1 (v := _) rfl rfl rfl hw (i := 2) rfl (by simp [Sep.mid_length, Act.eval, Value.cells]; try omega) rfl ?_) | refine wpList_on rfl (wp_store1 (v := _) rfl rfl rfl hw (i := 3) rfl (by simp [Sep.mid_length, Act.eval, Value.cells]; try omega) rfl ?_) | refine wpList_on rfl (wp_store1 (v := _) rfl rfl rfl hw (i := 4) rfl (by simp [Sep.mid_length, Act.eval, Value.cells]; try omega) rfl ?_)); intro w_ hw_; clear hw; have hw := hw_; clear hw_; (try simp only [List.map_cons, List.map_nil, List.getD_cons_zero, List.getD_cons_succ, List.getD_nil, List.set_cons_zero, List.set_cons_succ, List.cons_append, List.nil_append, Act.eval, Array.getD_eq_getD_getElem?, List.getElem?_toArray, List.getElem?_cons_succ, List.getElem?_cons_zero, Option.getD_some, Value.cells] at hw); (try simp (disch := first | (simp; done) | (simp; omega)) only [Sep.mid_set, Sep.mid_set2, Sep.mid_set0, Sep.mid_splice, Sep.mid_splice0, List.set_cons_zero, List.set_cons_succ] at hw); (try simp only [Sep.splice, List.take_succ_cons, List.take_zero, List.drop_succ_cons, List.drop_zero, List.length_cons, List.length_nil, Nat.reduceAdd, List.cons_append, List.nil_append] at hw); (try replace hc0 := Sep.Holds.cells hw (i := 0) rfl); (try replace hc1 := Sep.Holds.cells hw (i := 1) rfl); (try replace hc2 := Sep.Holds.cells hw (i := 2) rfl); (try replace hc3 := Sep.Holds.cells hw (i := 3) rfl); (try replace hc4 := Sep.Holds.cells hw (i := 4) rfl); (try replace hc5 := Sep.Holds.cells hw (i := 5) rfl); (try replace hc6 := Sep.Holds.cells hw (i := 6) rfl))
    exact HP.out _ _ ⟨rfl, exL.mk (f := semaParts p { M with held := M.held + n }) ⟨r, m⟩ ((hw.sel [0, 1, 2, 3] (by decide)).addFct Hok'.out)⟩
  · rw [hb]; clear hb
    have Hm := Sep.hid hm; clear hm hr1 hr2
    cases hwn : M.w with
    | cons y l =>
      have Hl : Hid ((([M.w, M.d].getD 0 []).length : Int) = (l.length : Int) + 1) := Sep.hid (by rw [show [M.w, M.d].getD 0 [] = M.w from rfl, hwn]; simp)
      have hl0 : (0 : Int) < (l.length : Int) + 1 := by omega
      clear hnf hwn
      refine Sep.calls_post ?_
      intro Post_ hPost_
      have HP := Sep.hid hPost_
      clear hPost_
      go_enter Try.func23, Try.ntmps23
      go_wp2_with (go_at_call 33; refine (oMay p M t n e _ X Hw0.out).mono ?_; rintro _ w_ ⟨rfl, rfl⟩; rw [Hm.out])
      obtain ⟨⟨r, m⟩, hw⟩ := exL.open_ hw
      have hw := hw.open_ 1 rfl
      (try simp only [List.map_cons, List.map_nil, List.getD_cons_zero, List.getD_cons_succ, List.getD_nil, List.set_cons_zero, List.set_cons_succ, List.cons_append, List.nil_append, Act.eval, Array.getD_eq_getD_getElem?, List.getElem?_toArray, List.getElem?_cons_succ, List.getElem?_cons_zero, Option.getD_some, Value.cells] at hw); (try simp (disch := first | (simp; done) | (simp; omega)) only [Sep.mid_set, Sep.mid_set2, Sep.mid_set0, Sep.mid_splice, Sep.mid_splice0, List.set_cons_zero, List.set_cons_succ] at hw); (try simp only [Sep.splice, List.take_succ_cons, List.take_zero, List.drop_succ_cons, List.drop_zero, List.length_cons, List.length_nil, Nat.reduceAdd, List.cons_append, List.nil_append] at hw)
      refine wp_region_L [4, 16] [(3, (fun w' => w' = w_.drew)), (10, (fun w' => Holds e w' [pt p [.pointer (some ⟨r, 0, none⟩), .int .i64 M.held, .int .i64 M.room, .map (some m)] 63])), (15, (fun w' => Holds e w' [pt p [.pointer (some ⟨r, 0, none⟩), .int .i64 M.held, .int .i64 M.room, .map (some m)] 63]))] (n := 19) (listed := (marks 19 0)) (by kernel_rfl) rfl (by kernel_rfl) ?conds2 ?_
      case conds2 =>
       intro c hc
       simp only [List.mem_cons, List.not_mem_nil, or_false] at hc
       rcases hc with rfl | rfl | rfl
       · rfl
       · exact (by replace hw := hw.drew; exact hw.sel [1] (by decide))
       · exact (by replace hw := hw.drew; exact hw.sel [1] (by decide))
      replace hw := hw.drew
      (try replace hc0 := Sep.Holds.cells hw (i := 0) rfl); (try replace hc1 := Sep.Holds.cells hw (i := 1) rfl); (try replace hc2 := Sep.Holds.cells hw (i := 2) rfl); (try replace hc3 := Sep.Holds.cells hw (i := 3) rfl); (try replace hc4 := Sep.Holds.cells hw (i := 4) rfl); (try replace hc5 := Sep.Holds.cells hw (i := 5) rfl); (try replace hc6 := Sep.Holds.cells hw (i := 6) rfl)
      refine wpL_q 0 ?_ rfl (Or.inl ⟨by rfl, fun w_ hS_ => ?_⟩) (marks 19 1) ?_
      rotate_left
      next => (go_simp; try (first | rfl | exact (Bool.not_not _).symm))
      try simp only [Act.put, List.setIfInBounds_toArray, List.set_cons_zero, List.set_cons_succ]
      refine wpL_q 1 ?_ rfl (Or.inl ⟨by rfl, fun w_ hS_ => ?_⟩) (marks 19 3) ?_
      rotate_left
      next => (go_simp; try (first | rfl | exact (Bool.not_not _).symm))
      try simp only [Act.put, List.setIfInBounds_toArray, List.set_cons_zero, List.set_cons_succ]
      refine wpL_q 2 ?_ rfl (Or.inl ⟨by rfl, fun w_ hS_ => ?_⟩) (marks 19 7) ?_
      rotate_left
      next => (go_simp; try (first | rfl | exact (Bool.not_not _).symm))
      try simp only [Act.put, List.setIfInBounds_toArray, List.set_cons_zero, List.set_cons_succ]
      refine wpL_m 3 ?_ rfl (.head _) (Or.inl ⟨by rfl, fun w_ hS_ => ?_⟩) (marks 19 15) ?_
      rotate_left
      next => (subst hS_; go_simp; try (first | rfl | exact (Bool.not_not _).symm))
      try simp only [Act.put, List.setIfInBounds_toArray, List.set_cons_zero, List.set_cons_succ]
      refine wpL_o 4 rfl (by rfl) (marks 19 31) ?_
      (go_simp; go_at_call 34; refine (wLen r M.n [M.w, M.d] 0 e _ _ (hw.focus1 2 rfl)).mono ?_; rintro _ w_ ⟨rfl, rfl⟩; rw [Hl.out])
      refine ⟨(SL.drop 4 (by kernel_rfl) (SL.keep (by exact hw.sel [1] (by decide)) (SL.keep (by exact hw.sel [1] (by decide)) SL.nil))), ?_⟩
      try simp only [Act.put, List.setIfInBounds_toArray, List.set_cons_zero, List.set_cons_succ]
      refine wpL_q 5 ?_ rfl (Or.inl ⟨by rfl, fun w_ hS_ => ?_⟩) (marks 19 63) ?_
      rotate_left
      next => (go_simp; try (first | rfl | exact (Bool.not_not _).symm))
      try simp only [Act.put, List.setIfInBounds_toArray, List.set_cons_zero, List.set_cons_succ]
      refine wpL_b 6 ?_ rfl (Or.inl ⟨by rfl, fun w_ hS_ => ?_⟩) (marks 19 127) ?_
      rotate_left
      next => (go_simp; try (first | rfl | exact (Bool.not_not _).symm))
      intro bb_ hg6
      cases bb_
      case' true =>
       (try simp only [decide_eq_true_eq, decide_eq_false_iff_not, beq_iff_eq, beq_eq_false_iff_ne, bne_iff_ne, bne_eq_false_iff_eq, Bool.not_eq_true', Bool.not_eq_false', Int.not_lt, Int.not_le] at hg6)
       first | (cases hg6; done) | (exfalso; omega; done) | skip
       all_goals
        try replace hg6 := Sep.hid hg6
        try simp only [Act.put, List.setIfInBounds_toArray, List.set_cons_zero, List.set_cons_succ]
        refine wpL_q 7 undef rfl (Or.inr ⟨by rfl, rfl⟩) (marks 19 255) ?_
        try simp only [Act.put, List.setIfInBounds_toArray, List.set_cons_zero, List.set_cons_succ]
        refine wpL_q 8 undef rfl (Or.inr ⟨by rfl, rfl⟩) (marks 19 511) ?_
        try simp only [Act.put, List.setIfInBounds_toArray, List.set_cons_zero, List.set_cons_succ]
        refine wpL_q 9 undef rfl (Or.inr ⟨by rfl, rfl⟩) (marks 19 1023) ?_
        try simp only [Act.put, List.setIfInBounds_toArray, List.set_cons_zero, List.set_cons_succ]
        refine wpL_m 10 undef rfl (.tail _ (.head _)) (Or.inr ⟨by rfl, rfl⟩) (marks 19 2047) ?_
        try simp only [Act.put, List.setIfInBounds_toArray, List.set_cons_zero, List.set_cons_succ]
        refine wpL_q 11 undef rfl (Or.inr ⟨by rfl, rfl⟩) (marks 19 4095) ?_
        try simp only [Act.put, List.setIfInBounds_toArray, List.set_cons_zero, List.set_cons_succ]
        refine wpL_q 12 undef rfl (Or.inr ⟨by rfl, rfl⟩) (marks 19 8191) ?_
        try simp only [Act.put, List.setIfInBounds_toArray, List.set_cons_zero, List.set_cons_succ]
        refine wpL_q 13 undef rfl (Or.inr ⟨by rfl, rfl⟩) (marks 19 16383) ?_
        try simp only [Act.put, List.setIfInBounds_toArray, List.set_cons_zero, List.set_cons_succ]
        refine wpL_q 14 undef rfl (Or.inr ⟨by rfl, rfl⟩) (marks 19 32767) ?_
        try simp only [Act.put, List.setIfInBounds_toArray, List.set_cons_zero, List.set_cons_succ]
        refine wpL_m 15 undef rfl (.tail _ (.tail _ (.head _))) (Or.inr ⟨by rfl, rfl⟩) (marks 19 65535) ?_
        try simp only [Act.put, List.setIfInBounds_toArray, List.set_cons_zero, List.set_cons_succ]
        refine wpL_s 16 rfl (by rfl) (marks 19 131071) ?_
        try simp only [Act.put, List.setIfInBounds_toArray, List.set_cons_zero, List.set_cons_succ]
        refine wpL_q 17 undef rfl (Or.inr ⟨by rfl, rfl⟩) (marks 19 262143) ?_
        try simp only [Act.put, List.setIfInBounds_toArray, List.set_cons_zero, List.set_cons_succ]
      case' false =>
       (try simp only [decide_eq_true_eq, decide_eq_false_iff_not, beq_iff_eq, beq_eq_false_iff_ne, bne_iff_ne, bne_eq_false_iff_eq, Bool.not_eq_true', Bool.not_eq_false', Int.not_lt, Int.not_le] at hg6)
       first | (cases hg6; done) | (exfalso; omega; done)
      all_goals
       refine wpL_q 18 ?_ rfl (Or.inl ⟨by rfl, fun w_ hS_ => ?_⟩) (marks 19 524287) ?_
       rotate_left
       next => (go_simp; try (first | rfl | exact (Bool.not_not _).symm))
       try simp only [Act.put, List.setIfInBounds_toArray, List.set_cons_zero, List.set_cons_succ]
       all_goals refine wpL_done (by kernel_rfl) ?_ _
      go_wp2_with fail
      exact HP.out _ _ ⟨rfl, Hw0.out.drew⟩
    | nil =>
      have Hf : Hid (fits M.held n M.room = false) := Sep.hid (by
        cases hq : fits M.held n M.room with
        | false => rfl
        | true => exact absurd ⟨hwn, hq⟩ hnf)
      have Hl : Hid ((([M.w, M.d].getD 0 []).length : Int) = 0) := Sep.hid (by rw [show [M.w, M.d].getD 0 [] = M.w from rfl, hwn]; rfl)
      clear hnf hwn
      refine Sep.calls_post ?_
      intro Post_ hPost_
      have HP := Sep.hid hPost_
      clear hPost_
      go_enter Try.func23, Try.ntmps23
      go_wp2_with (go_at_call 33; refine (oMay p M t n e _ X Hw0.out).mono ?_; rintro _ w_ ⟨rfl, rfl⟩; rw [Hm.out])
      obtain ⟨⟨r, m⟩, hw⟩ := exL.open_ hw
      have hw := hw.open_ 1 rfl
      (try simp only [List.map_cons, List.map_nil, List.getD_cons_zero, List.getD_cons_succ, List.getD_nil, List.set_cons_zero, List.set_cons_succ, List.cons_append, List.nil_append, Act.eval, Array.getD_eq_getD_getElem?, List.getElem?_toArray, List.getElem?_cons_succ, List.getElem?_cons_zero, Option.getD_some, Value.cells] at hw); (try simp (disch := first | (simp; done) | (simp; omega)) only [Sep.mid_set, Sep.mid_set2, Sep.mid_set0, Sep.mid_splice, Sep.mid_splice0, List.set_cons_zero, List.set_cons_succ] at hw); (try simp only [Sep.splice, List.take_succ_cons, List.take_zero, List.drop_succ_cons, List.drop_zero, List.length_cons, List.length_nil, Nat.reduceAdd, List.cons_append, List.nil_append] at hw)
      refine wp_region_L [4, 16] [(3, (fun w' => w' = w_.drew)), (10, (fun w' => Holds e w' [pt p [.pointer (some ⟨r, 0, none⟩), .int .i64 M.held, .int .i64 M.room, .map (some m)] 63])), (15, (fun w' => Holds e w' [pt p [.pointer (some ⟨r, 0, none⟩), .int .i64 M.held, .int .i64 M.room, .map (some m)] 63]))] (n := 19) (listed := (marks 19 0)) (by kernel_rfl) rfl (by kernel_rfl) ?conds3 ?_
      case conds3 =>
       intro c hc
       simp only [List.mem_cons, List.not_mem_nil, or_false] at hc
       rcases hc with rfl | rfl | rfl
       · rfl
       · exact (by replace hw := hw.drew; exact hw.sel [1] (by decide))
       · exact (by replace hw := hw.drew; exact hw.sel [1] (by decide))
      replace hw := hw.drew
      (try replace hc0 := Sep.Holds.cells hw (i := 0) rfl); (try replace hc1 := Sep.Holds.cells hw (i := 1) rfl); (try replace hc2 := Sep.Holds.cells hw (i := 2) rfl); (try replace hc3 := Sep.Holds.cells hw (i := 3) rfl); (try replace hc4 := Sep.Holds.cells hw (i := 4) rfl); (try replace hc5 := Sep.Holds.cells hw (i := 5) rfl); (try replace hc6 := Sep.Holds.cells hw (i := 6) rfl)
      refine wpL_q 0 ?_ rfl (Or.inl ⟨by rfl, fun w_ hS_ => ?_⟩) (marks 19 1) ?_
      rotate_left
      next => (go_simp; try (first | rfl | exact (Bool.not_not _).symm))
      try simp only [Act.put, List.setIfInBounds_toArray, List.set_cons_zero, List.set_cons_succ]
      refine wpL_q 1 ?_ rfl (Or.inl ⟨by rfl, fun w_ hS_ => ?_⟩) (marks 19 3) ?_
      rotate_left
      next => (go_simp; try (first | rfl | exact (Bool.not_not _).symm))
      try simp only [Act.put, List.setIfInBounds_toArray, List.set_cons_zero, List.set_cons_succ]
      refine wpL_q 2 ?_ rfl (Or.inl ⟨by rfl, fun w_ hS_ => ?_⟩) (marks 19 7) ?_
      rotate_left
      next => (go_simp; try (first | rfl | exact (Bool.not_not _).symm))
      try simp only [Act.put, List.setIfInBounds_toArray, List.set_cons_zero, List.set_cons_succ]
      refine wpL_m 3 ?_ rfl (.head _) (Or.inl ⟨by rfl, fun w_ hS_ => ?_⟩) (marks 19 15) ?_
      rotate_left
      next => (subst hS_; go_simp; try (first | rfl | exact (Bool.not_not _).symm))
      try simp only [Act.put, List.setIfInBounds_toArray, List.set_cons_zero, List.set_cons_succ]
      refine wpL_o 4 rfl (by rfl) (marks 19 31) ?_
      (go_simp; go_at_call 34; refine (wLen r M.n [M.w, M.d] 0 e _ _ (hw.focus1 2 rfl)).mono ?_; rintro _ w_ ⟨rfl, rfl⟩; rw [Hl.out])
      refine ⟨(SL.drop 4 (by kernel_rfl) (SL.keep (by exact hw.sel [1] (by decide)) (SL.keep (by exact hw.sel [1] (by decide)) SL.nil))), ?_⟩
      try simp only [Act.put, List.setIfInBounds_toArray, List.set_cons_zero, List.set_cons_succ]
      refine wpL_q 5 ?_ rfl (Or.inl ⟨by rfl, fun w_ hS_ => ?_⟩) (marks 19 63) ?_
      rotate_left
      next => (go_simp; try (first | rfl | exact (Bool.not_not _).symm))
      try simp only [Act.put, List.setIfInBounds_toArray, List.set_cons_zero, List.set_cons_succ]
      refine wpL_b 6 ?_ rfl (Or.inl ⟨by rfl, fun w_ hS_ => ?_⟩) (marks 19 127) ?_
      rotate_left
      next => (go_simp; try (first | rfl | exact (Bool.not_not _).symm))
      intro bb_ hg6
      cases bb_
      case' true =>
       (try simp only [decide_eq_true_eq, decide_eq_false_iff_not, beq_iff_eq, beq_eq_false_iff_ne, bne_iff_ne, bne_eq_false_iff_eq, Bool.not_eq_true', Bool.not_eq_false', Int.not_lt, Int.not_le] at hg6)
       first | (cases hg6; done) | (exfalso; omega; done)
      case' false =>
       (try simp only [decide_eq_true_eq, decide_eq_false_iff_not, beq_iff_eq, beq_eq_false_iff_ne, bne_iff_ne, bne_eq_false_iff_eq, Bool.not_eq_true', Bool.not_eq_false', Int.not_lt, Int.not_le] at hg6)
       first | (cases hg6; done) | (exfalso; omega; done) | skip
       all_goals
        try replace hg6 := Sep.hid hg6
        try simp only [Act.put, List.setIfInBounds_toArray, List.set_cons_zero, List.set_cons_succ]
        refine wpL_q 7 ?_ rfl (Or.inl ⟨by rfl, fun w_ hS_ => ?_⟩) (marks 19 255) ?_
        rotate_left
        next => (go_simp; try (first | rfl | exact (Bool.not_not _).symm))
        try simp only [Act.put, List.setIfInBounds_toArray, List.set_cons_zero, List.set_cons_succ]
        refine wpL_q 8 ?_ rfl (Or.inl ⟨by rfl, fun w_ hS_ => ?_⟩) (marks 19 511) ?_
        rotate_left
        next => (go_simp; try (first | rfl | exact (Bool.not_not _).symm))
        try simp only [Act.put, List.setIfInBounds_toArray, List.set_cons_zero, List.set_cons_succ]
        refine wpL_q 9 ?_ rfl (Or.inl ⟨by rfl, fun w_ hS_ => ?_⟩) (marks 19 1023) ?_
        rotate_left
        next => (go_simp; try (first | rfl | exact (Bool.not_not _).symm))
        try simp only [Act.put, List.setIfInBounds_toArray, List.set_cons_zero, List.set_cons_succ]
        refine wpL_m 10 ?_ rfl (.tail _ (.head _)) (Or.inl ⟨by rfl, fun w_ hS_ => ?_⟩) (marks 19 2047) ?_
        rotate_left
        next => (dsimp only at hS_; (try have q0 := Sep.Holds.cells hS_ (i := 0) rfl); (try have q1 := Sep.Holds.cells hS_ (i := 1) rfl); (try have q2 := Sep.Holds.cells hS_ (i := 2) rfl); (try have q3 := Sep.Holds.cells hS_ (i := 3) rfl); (try have q4 := Sep.Holds.cells hS_ (i := 4) rfl); (try have q5 := Sep.Holds.cells hS_ (i := 5) rfl); (try have q6 := Sep.Holds.cells hS_ (i := 6) rfl); go_simp; try (first | rfl | exact (Bool.not_not _).symm))
        try simp only [Act.put, List.setIfInBounds_toArray, List.set_cons_zero, List.set_cons_succ]
        refine wpL_q 11 ?_ rfl (Or.inl ⟨by rfl, fun w_ hS_ => ?_⟩) (marks 19 4095) ?_
        rotate_left
        next => (go_simp; try (first | rfl | exact (Bool.not_not _).symm))
        try simp only [Act.put, List.setIfInBounds_toArray, List.set_cons_zero, List.set_cons_succ]
        refine wpL_q 12 ?_ rfl (Or.inl ⟨by rfl, fun w_ hS_ => ?_⟩) (marks 19 8191) ?_
        rotate_left
        next => (go_simp; try (first | rfl | exact (Bool.not_not _).symm))
        try simp only [Act.put, List.setIfInBounds_toArray, List.set_cons_zero, List.set_cons_succ]
        refine wpL_q 13 ?_ rfl (Or.inl ⟨by rfl, fun w_ hS_ => ?_⟩) (marks 19 16383) ?_
        rotate_left
        next => (go_simp; try (first | rfl | exact (Bool.not_not _).symm))
        try simp only [Act.put, List.setIfInBounds_toArray, List.set_cons_zero, List.set_cons_succ]
        refine wpL_q 14 ?_ rfl (Or.inl ⟨by rfl, fun w_ hS_ => ?_⟩) (marks 19 32767) ?_
        rotate_left
        next => (go_simp; try (first | rfl | exact (Bool.not_not _).symm))
        try simp only [Act.put, List.setIfInBounds_toArray, List.set_cons_zero, List.set_cons_succ]
        refine wpL_m 15 ?_ rfl (.tail _ (.tail _ (.head _))) (Or.inl ⟨by rfl, fun w_ hS_ => ?_⟩) (marks 19 65535) ?_
        rotate_left
        next => (dsimp only at hS_; (try have q0 := Sep.Holds.cells hS_ (i := 0) rfl); (try have q1 := Sep.Holds.cells hS_ (i := 1) rfl); (try have q2 := Sep.Holds.cells hS_ (i := 2) rfl); (try have q3 := Sep.Holds.cells hS_ (i := 3) rfl); (try have q4 := Sep.Holds.cells hS_ (i := 4) rfl); (try have q5 := Sep.Holds.cells hS_ (i := 5) rfl); (try have q6 := Sep.Holds.cells hS_ (i := 6) rfl); go_simp; try (first | rfl | exact (Bool.not_not _).symm))
        try simp only [Act.put, List.setIfInBounds_toArray, List.set_cons_zero, List.set_cons_succ]
        refine wpL_o 16 rfl (by rfl) (marks 19 131071) ?_
        (go_simp; go_at_call 20; refine (sFits M.held n M.room Hok.out.h2 _).mono ?_; rintro _ w_ ⟨rfl, rfl⟩; rw [Hf.out])
        refine ⟨(SL.drop 4 (by kernel_rfl) (SL.drop 16 (by kernel_rfl) (SL.drop 16 (by kernel_rfl) SL.nil))), ?_⟩
        try simp only [Act.put, List.setIfInBounds_toArray, List.set_cons_zero, List.set_cons_succ]
        refine wpL_q 17 ?_ rfl (Or.inl ⟨by rfl, fun w_ hS_ => ?_⟩) (marks 19 262143) ?_
        rotate_left
        next => (go_simp; try (first | rfl | exact (Bool.not_not _).symm))
        try simp only [Act.put, List.setIfInBounds_toArray, List.set_cons_zero, List.set_cons_succ]
      all_goals
       refine wpL_q 18 ?_ rfl (Or.inl ⟨by rfl, fun w_ hS_ => ?_⟩) (marks 19 524287) ?_
       rotate_left
       next => (go_simp; try (first | rfl | exact (Bool.not_not _).symm))
       try simp only [Act.put, List.setIfInBounds_toArray, List.set_cons_zero, List.set_cons_succ]
       all_goals refine wpL_done (by kernel_rfl) ?_ _
      go_wp2_with fail
      exact HP.out _ _ ⟨rfl, Hw0.out.drew⟩
theorem without_head' {y : Int} {l d : List Int} (h : ((y :: l) ++ d).Nodup) : without (y :: l) y = l ∧ without d y = d := by
  have h' : (y :: (l ++ d)).Nodup := by simpa using h
  have hn := (List.nodup_cons.1 h').1
  constructor
  · have : without l y = l := without_none (fun hh => hn (by simp [hh]))
    unfold without at this ⊢
    simp [this]
  · exact without_none (fun hh => hn (by simp [hh]))
section
variable {P : Program} {ops : Array Oper} {Q : Exit → Act → World → Prop} {K : Act → World → Prop} {a : Act} {e w : World} {rest : List Oper} {o : Oper} {L : List HProp}
theorem enc_getD (f : Int → Option Int) (q : Int) : (encF f q).getD (.int .i64 0) = .int .i64 ((f q).getD 0) := by unfold encF; cases f q <;> rfl
theorem enc_isSome (f : Int → Option Int) (q : Int) : (encF f q).isSome = (f q).isSome := by unfold encF; cases f q <;> rfl
theorem wp_look {t kt el : TypeId} {kd : TypeDesc} {b : Nat} [mt : MpT P t kt el] [it : IntT P kt kd] [ti : TI P el (.int .i64 0) 1 b] {x y : Operand} {i r : Nat} {f : Int → Option Int} {q : Int}
    (ho : o.op = .lookup t x y false) (hx : a.eval x = .map (some r)) (hy : a.eval y = .int .i64 q) (hw : Holds e w L) (hi : L[i]? = some (IsMap r .i64 (encF f)))
    (h : K (a.put o.dst (.int .i64 ((f q).getD 0))) w) : o.wp P a w K Q :=
  wp_lookup ho hx hy hw hi (by rw [if_neg (by decide), enc_getD]; exact h)
theorem wp_lookOk {t kt el : TypeId} {kd : TypeDesc} {b : Nat} [mt : MpT P t kt el] [it : IntT P kt kd] [ti : TI P el (.int .i64 0) 1 b] {x y : Operand} {i r : Nat} {f : Int → Option Int} {q : Int}
    (ho : o.op = .lookup t x y true) (hx : a.eval x = .map (some r)) (hy : a.eval y = .int .i64 q) (hw : Holds e w L) (hi : L[i]? = some (IsMap r .i64 (encF f)))
    (h : K (a.put o.dst (.tuple #[.int .i64 ((f q).getD 0), .bool (f q).isSome])) w) : o.wp P a w K Q :=
  wp_lookup ho hx hy hw hi (by rw [if_pos rfl, enc_getD, enc_isSome]; exact h)
theorem run_lookup {t kt el : TypeId} {kd : TypeDesc} {z : Value} {n b : Nat} [mt : MpT P t kt el] [it : IntT P kt kd] [ti : TI P el z n b] {x y : Operand} {c : Bool} {i r : Nat} {k : IntKind} {f : Int → Option Value} {q : Int}
    (ho : o.op = .lookup t x y c) (hx : a.eval x = .map (some r)) (hy : a.eval y = .int k q) (hw : Holds e w L) (hi : L[i]? = some (IsMap r k f)) :
    (execOp a.eval o).run P w = .ok (.value (if c then .tuple #[(f q).getD z, .bool (f q).isSome] else (f q).getD z)) w := by
  obtain ⟨es, clock, R, hb⟩ := hw.mapAt hi
  have hr : (Instr.lookup t (.map (some r)) (.int k q) c).run P w = .ok (if c then .tuple #[(f q).getD z, .bool (f q).isSome] else (f q).getD z) w := by
    unfold Instr.lookup
    simp only [Sem.run_bind, run_underlying mt.out, Result.andThen_ok, Sem.run_pure, run_getMap hb, run_checkKey]
    rcases run_findKey (P := P) (kt := kt) R q w with ⟨hf, _, hr⟩ | ⟨l1, e', l2, _, _, _, hf, hr⟩
    · simp only [hr, Result.andThen_ok, Sem.run_bind, ti.zero_run, Sem.run_pure, hf]
      cases c <;> rfl
    · simp only [hr, Result.andThen_ok, Sem.run_bind, Sem.run_pure, hf]
      cases c <;> rfl
  unfold execOp
  simp only [ho, hx, hy, Sem.run_bind, Sem.run_pure, hr, Result.andThen_ok]
theorem run_look {t kt el : TypeId} {kd : TypeDesc} {b : Nat} [mt : MpT P t kt el] [it : IntT P kt kd] [ti : TI P el (.int .i64 0) 1 b] {x y : Operand} {i r : Nat} {f : Int → Option Int} {q : Int}
    (ho : o.op = .lookup t x y false) (hx : a.eval x = .map (some r)) (hy : a.eval y = .int .i64 q) (hw : Holds e w L) (hi : L[i]? = some (IsMap r .i64 (encF f))) :
    (execOp a.eval o).run P w = .ok (.value (.int .i64 ((f q).getD 0))) w := by
  rw [run_lookup (P := P) ho hx hy hw hi, if_neg (by decide), enc_getD]
theorem wp_setI {t kt el : TypeId} {kd : TypeDesc} [mt : MpT P t kt el] [it : IntT P kt kd] {x y z : Operand} {i r : Nat} {f : Int → Option Int} {q v : Int}
    (ho : o.op = .mapUpdate t x y z) (hx : a.eval x = .map (some r)) (hy : a.eval y = .int .i64 q) (hz : a.eval z = .int .i64 v) (hw : Holds e w L) (hi : L[i]? = some (IsMap r .i64 (encF f)))
    (h : ∀ w', Holds e w' (L.set i (IsMap r .i64 (encF (setI f q (some v))))) → K (a.put o.dst undef) w') : o.wp P a w K Q :=
  wp_mapUpdate ho hx hy hz hw hi (by rw [setF_some]; exact h)
theorem wp_delI {t kt el t2 : TypeId} {kd : TypeDesc} [mt : MpT P t kt el] [it : IntT P kt kd] {x y : Operand} {i r : Nat} {f : Int → Option Int} {q : Int}
    (ho : o.op = .call { callee := .builtin .delete, args := #[x, y], argTypes := #[t, t2] }) (hx : a.eval x = .map (some r)) (hy : a.eval y = .int .i64 q) (hw : Holds e w L) (hi : L[i]? = some (IsMap r .i64 (encF f)))
    (h : ∀ w', Holds e w' (L.set i (IsMap r .i64 (encF (setI f q none)))) → K (a.put o.dst (.tuple #[])) w') : o.wp P a w K Q :=
  wp_mapDelete ho hx hy hw hi (by rw [setF_none]; exact h)
end
set_option maxHeartbeats 1600000 in
theorem oAcquire (p : Nat) (M : SM) (t n : Int) (hn : n ≤ 9223372036854775807) (e w : World) (X : HProp) (hw : Holds e w [X, IsSema p M]) :
    Calls Try.prog 22 #[.pointer (some ⟨p, 0, none⟩), .int .i64 t, .int .i64 n] w fun en w' => en = .returned (.tuple #[.bool (M.acq t n).1, .int .i64 (M.acq t n).2.1]) ∧ Holds e w' [X, IsSema p (M.acq t n).2.2] := by
  have hdo := oTry p M t n hn e w X hw
  have Hok' := Sep.hid ((sema_ok (i := 1) rfl hw).2.acq t n hn)
  rcases acq_cases M t n with ⟨hm, hb, hb2⟩ | ⟨hm, ht0, htn, hn0, hr1, hr2, ⟨hwn, hf, hb, hb2⟩ | ⟨hnf, hb2, ⟨hlt, hb⟩ | ⟨hlt, hb⟩⟩⟩
  · rw [hb]; rw [hb2] at hdo; clear hb hb2 Hok'
    generalize M.may t n = er at *
    refine Sep.calls_post ?_
    intro Post_ hPost_
    have HP := Sep.hid hPost_
    clear hPost_
    go_enter Try.func22, Try.ntmps22
    go_wp2_with fail
    refine hdo.mono ?_
    rintro en_ w_ ⟨rfl, hw_⟩
    clear hw
    go_wp2_with fail
    exact HP.out _ _ ⟨rfl, hw_⟩
  · rw [hb]; rw [hb2] at hdo; clear hb hb2 Hok' hwn hf hm
    refine Sep.calls_post ?_
    intro Post_ hPost_
    have HP := Sep.hid hPost_
    clear hPost_
    go_enter Try.func22, Try.ntmps22
    go_wp2_with fail
    refine hdo.mono ?_
    rintro en_ w_ ⟨rfl, hw_⟩
    clear hw
    go_wp2_with fail
    exact HP.out _ _ ⟨rfl, hw_⟩
  all_goals
    rw [hb] at Hok' ⊢; rw [hb2] at hdo; clear hb hb2 hnf hm
    have Hpe : Hid (putE M.n [M.w, M.d] t = 0) := Sep.hid (by rw [putE2, if_pos ⟨ht0, htn⟩, if_neg (fun h => h.elim hr1 hr2)])
    clear hr1 hr2 ht0 htn hn0
  · have Hpr : Hid (putR M.n [M.w, M.d] 1 t = [M.w, M.d ++ [t]]) := Sep.hid (putR21 _ _ _ _ Hpe.out)
    refine Sep.calls_post ?_
    intro Post_ hPost_
    have HP := Sep.hid hPost_
    clear hPost_
    go_enter Try.func22, Try.ntmps22
    go_wp2_with fail
    refine hdo.mono ?_
    rintro en_ w_ ⟨rfl, hw_⟩
    clear hw; have hw := hw_; clear hw_
    obtain ⟨⟨r, m⟩, hw⟩ := exL.open_ hw
    have hw := hw.open_ 1 rfl
    (try simp only [List.map_cons, List.map_nil, List.getD_cons_zero, List.getD_cons_succ, List.getD_nil, List.set_cons_zero, List.set_cons_succ, List.cons_append, List.nil_append, Act.eval, Array.getD_eq_getD_getElem?, List.getElem?_toArray, List.getElem?_cons_succ, List.getElem?_cons_zero, Option.getD_some, Value.cells] at hw); (try simp (disch := first | (simp; done) | (simp; omega)) only [Sep.mid_set, Sep.mid_set2, Sep.mid_set0, Sep.mid_splice, Sep.mid_splice0, List.set_cons_zero, List.set_cons_succ] at hw); (try simp only [Sep.splice, List.take_succ_cons, List.take_zero, List.drop_succ_cons, List.drop_zero, List.length_cons, List.length_nil, Nat.reduceAdd, List.cons_append, List.nil_append] at hw)
    (try replace hc0 := Sep.Holds.cells hw (i := 0) rfl); (try replace hc1 := Sep.Holds.cells hw (i := 1) rfl); (try replace hc2 := Sep.Holds.cells hw (i := 2) rfl); (try replace hc3 := Sep.Holds.cells hw (i := 3) rfl); (try replace hc4 := Sep.Holds.cells hw (i := 4) rfl); (try replace hc5 := Sep.Holds.cells hw (i := 5) rfl); (try replace hc6 := Sep.Holds.cells hw (i := 6) rfl)
    go_wp2_with (refine wpList_on rfl (wp_setI (i := 3) rfl rfl rfl rfl hw rfl ?_); intro w_ hw_; clear hw; have hw := hw_; clear hw_; (try simp only [List.map_cons, List.map_nil, List.getD_cons_zero, List.getD_cons_succ, List.getD_nil, List.set_cons_zero, List.set_cons_succ, List.cons_append, List.nil_append, Act.eval, Array.getD_eq_getD_getElem?, List.getElem?_toArray, List.getElem?_cons_succ, List.getElem?_cons_zero, Option.getD_some, Value.cells] at hw); (try simp (disch := first | (simp; done) | (simp; omega)) only [Sep.mid_set, Sep.mid_set2, Sep.mid_set0, Sep.mid_splice, Sep.mid_splice0, List.set_cons_zero, List.set_cons_succ] at hw); (try simp only [Sep.splice, List.take_succ_cons, List.take_zero, List.drop_succ_cons, List.drop_zero, List.length_cons, List.length_nil, Nat.reduceAdd, List.cons_append, List.nil_append] at hw); (try replace hc0 := Sep.Holds.cells hw (i := 0) rfl); (try replace hc1 := Sep.Holds.cells hw (i := 1) rfl); (try replace hc2 := Sep.Holds.cells hw (i := 2) rfl); (try replace hc3 := Sep.Holds.cells hw (i := 3) rfl); (try replace hc4 := Sep.Holds.cells hw (i := 4) rfl); (try replace hc5 := Sep.Holds.cells hw (i := 5) rfl); (try replace hc6 := Sep.Holds.cells hw (i := 6) rfl))
    refine (wPut r M.n [M.w, M.d] 1 (by simp) t e _ _ (hw.focus1 2 rfl)).mono ?_
    rintro en_ w_ ⟨rfl, hw_⟩
    clear hw; (try clear hc0); (try clear hc1); (try clear hc2); (try clear hc3); (try clear hc4); (try clear hc5); (try clear hc6); have hw := Holds.unfocus1 2 (by simp) hw_; clear hw_
    (try simp only [List.map_cons, List.map_nil, List.getD_cons_zero, List.getD_cons_succ, List.getD_nil, List.set_cons_zero, List.set_cons_succ, List.cons_append, List.nil_append, Act.eval, Array.getD_eq_getD_getElem?, List.getElem?_toArray, List.getElem?_cons_succ, List.getElem?_cons_zero, Option.getD_some, Value.cells] at hw); (try simp (disch := first | (simp; done) | (simp; omega)) only [Sep.mid_set, Sep.mid_set2, Sep.mid_set0, Sep.mid_splice, Sep.mid_splice0, List.set_cons_zero, List.set_cons_succ] at hw); (try simp only [Sep.splice, List.take_succ_cons, List.take_zero, List.drop_succ_cons, List.drop_zero, List.length_cons, List.length_nil, Nat.reduceAdd, List.cons_append, List.nil_append] at hw)
    rw [Hpe.out]
    rw [Hpr.out] at hw
    go_wp2_with fail
    exact HP.out _ _ ⟨rfl, exL.mk (f := semaParts p { M with d := M.d ++ [t], f := setI M.f t (some n) }) ⟨r, m⟩ ((hw.sel [0, 1, 2, 3] (by decide)).addFct Hok'.out)⟩
  · have Hpr : Hid (putR M.n [M.w, M.d] 0 t = [M.w ++ [t], M.d]) := Sep.hid (putR20 _ _ _ _ Hpe.out)
    have hle : n ≤ M.room := by omega
    refine Sep.calls_post ?_
    intro Post_ hPost_
    have HP := Sep.hid hPost_
    clear hPost_
    go_enter Try.func22, Try.ntmps22
    go_wp2_with fail
    refine hdo.mono ?_
    rintro en_ w_ ⟨rfl, hw_⟩
    clear hw; have hw := hw_; clear hw_
    obtain ⟨⟨r, m⟩, hw⟩ := exL.open_ hw
    have hw := hw.open_ 1 rfl
    (try simp only [List.map_cons, List.map_nil, List.getD_cons_zero, List.getD_cons_succ, List.getD_nil, List.set_cons_zero, List.set_cons_succ, List.cons_append, List.nil_append, Act.eval, Array.getD_eq_getD_getElem?, List.getElem?_toArray, List.getElem?_cons_succ, List.getElem?_cons_zero, Option.getD_some, Value.cells] at hw); (try simp (disch := first | (simp; done) | (simp; omega)) only [Sep.mid_set, Sep.mid_set2, Sep.mid_set0, Sep.mid_splice, Sep.mid_splice0, List.set_cons_zero, List.set_cons_succ] at hw); (try simp only [Sep.splice, List.take_succ_cons, List.take_zero, List.drop_succ_cons, List.drop_zero, List.length_cons, List.length_nil, Nat.reduceAdd, List.cons_append, List.nil_append] at hw)
    (try replace hc0 := Sep.Holds.cells hw (i := 0) rfl); (try replace hc1 := Sep.Holds.cells hw (i := 1) rfl); (try replace hc2 := Sep.Holds.cells hw (i := 2) rfl); (try replace hc3 := Sep.Holds.cells hw (i := 3) rfl); (try replace hc4 := Sep.Holds.cells hw (i := 4) rfl); (try replace hc5 := Sep.Holds.cells hw (i := 5) rfl); (try replace hc6 := Sep.Holds.cells hw (i := 6) rfl)
    go_wp2_with (refine wpList_on rfl (wp_setI (i := 3) rfl rfl rfl rfl hw rfl ?_); intro w_ hw_; clear hw; have hw := hw_; clear hw_; (try simp only [List.map_cons, List.map_nil, List.getD_cons_zero, List.getD_cons_succ, List.getD_nil, List.set_cons_zero, List.set_cons_succ, List.cons_append, List.nil_append, Act.eval, Array.getD_eq_getD_getElem?, List.getElem?_toArray, List.getElem?_cons_succ, List.getElem?_cons_zero, Option.getD_some, Value.cells] at hw); (try simp (disch := first | (simp; done) | (simp; omega)) only [Sep.mid_set, Sep.mid_set2, Sep.mid_set0, Sep.mid_splice, Sep.mid_splice0, List.set_cons_zero, List.set_cons_succ] at hw); (try simp only [Sep.splice, List.take_succ_cons, List.take_zero, List.drop_succ_cons, List.drop_zero, List.length_cons, List.length_nil, Nat.reduceAdd, List.cons_append, List.nil_append] at hw); (try replace hc0 := Sep.Holds.cells hw (i := 0) rfl); (try replace hc1 := Sep.Holds.cells hw (i := 1) rfl); (try replace hc2 := Sep.Holds.cells hw (i := 2) rfl); (try replace hc3 := Sep.Holds.cells hw (i := 3) rfl); (try replace hc4 := Sep.Holds.cells hw (i := 4) rfl); (try replace hc5 := Sep.Holds.cells hw (i := 5) rfl); (try replace hc6 := Sep.Holds.cells hw (i := 6) rfl))
    refine (wPut r M.n [M.w, M.d] 0 (by simp) t e _ _ (hw.focus1 2 rfl)).mono ?_
    rintro en_ w_ ⟨rfl, hw_⟩
    clear hw; (try clear hc0); (try clear hc1); (try clear hc2); (try clear hc3); (try clear hc4); (try clear hc5); (try clear hc6); have hw := Holds.unfocus1 2 (by simp) hw_; clear hw_
    (try simp only [List.map_cons, List.map_nil, List.getD_cons_zero, List.getD_cons_succ, List.getD_nil, List.set_cons_zero, List.set_cons_succ, List.cons_append, List.nil_append, Act.eval, Array.getD_eq_getD_getElem?, List.getElem?_toArray, List.getElem?_cons_succ, List.getElem?_cons_zero, Option.getD_some, Value.cells] at hw); (try simp (disch := first | (simp; done) | (simp; omega)) only [Sep.mid_set, Sep.mid_set2, Sep.mid_set0, Sep.mid_splice, Sep.mid_splice0, List.set_cons_zero, List.set_cons_succ] at hw); (try simp only [Sep.splice, List.take_succ_cons, List.take_zero, List.drop_succ_cons, List.drop_zero, List.length_cons, List.length_nil, Nat.reduceAdd, List.cons_append, List.nil_append] at hw)
    rw [Hpe.out]
    rw [Hpr.out] at hw
    go_wp2_with fail
    exact HP.out _ _ ⟨rfl, exL.mk (f := semaParts p { M with w := M.w ++ [t], f := setI M.f t (some n) }) ⟨r, m⟩ ((hw.sel [0, 1, 2, 3] (by decide)).addFct Hok'.out)⟩
set_option maxHeartbeats 1600000 in
theorem oDrop (p : Nat) (M : SM) (t : Int) (e w : World) (X : HProp) (hw : Holds e w [X, IsSema p M]) :
    Calls Try.prog 36 #[.pointer (some ⟨p, 0, none⟩), .int .i64 t] w fun en w' => en = .returned (.bool (decide (t ∈ M.w ∨ t ∈ M.d))) ∧ Holds e w' [X, IsSema p (M.drop t)] := by
  have Hok' := Sep.hid ((sema_ok (i := 1) rfl hw).2.drop t)
  obtain ⟨⟨r, m⟩, hw⟩ := exL.open_ hw
  have hw := hw.open_ 1 rfl
  (try simp only [List.map_cons, List.map_nil, List.getD_cons_zero, List.getD_cons_succ, List.getD_nil, List.set_cons_zero, List.set_cons_succ, List.cons_append, List.nil_append, Act.eval, Array.getD_eq_getD_getElem?, List.getElem?_toArray, List.getElem?_cons_succ, List.getElem?_cons_zero, Option.getD_some, Value.cells] at hw); (try simp (disch := first | (simp; done) | (simp; omega)) only [Sep.mid_set, Sep.mid_set2, Sep.mid_set0, Sep.mid_splice, Sep.mid_splice0, List.set_cons_zero, List.set_cons_succ] at hw); (try simp only [Sep.splice, List.take_succ_cons, List.take_zero, List.drop_succ_cons, List.drop_zero, List.length_cons, List.length_nil, Nat.reduceAdd, List.cons_append, List.nil_append] at hw)
  (try replace hc0 := Sep.Holds.cells hw (i := 0) rfl); (try replace hc1 := Sep.Holds.cells hw (i := 1) rfl); (try replace hc2 := Sep.Holds.cells hw (i := 2) rfl); (try replace hc3 := Sep.Holds.cells hw (i := 3) rfl); (try replace hc4 := Sep.Holds.cells hw (i := 4) rfl); (try replace hc5 := Sep.Holds.cells hw (i := 5) rfl); (try replace hc6 := Sep.Holds.cells hw (i := 6) rfl)
  refine Sep.calls_post ?_
  intro Post_ hPost_
  have HP := Sep.hid hPost_
  clear hPost_
  go_enter Try.func36, Try.ntmps36
  go_wp2_with (refine wpList_on rfl (wp_delI (i := 3) rfl rfl rfl hw rfl ?_); intro w_ hw_; clear hw; have hw := hw_; clear hw_; (try simp only [List.map_cons, List.map_nil, List.getD_cons_zero, List.getD_cons_succ, List.getD_nil, List.set_cons_zero, List.set_cons_succ, List.cons_append, List.nil_append, Act.eval, Array.getD_eq_getD_getElem?, List.getElem?_toArray, List.getElem?_cons_succ, List.getElem?_cons_zero, Option.getD_some, Value.cells] at hw); (try simp (disch := first | (simp; done) | (simp; omega)) only [Sep.mid_set, Sep.mid_set2, Sep.mid_set0, Sep.mid_splice, Sep.mid_splice0, List.set_cons_zero, List.set_cons_succ] at hw); (try simp only [Sep.splice, List.take_succ_cons, List.take_zero, List.drop_succ_cons, List.drop_zero, List.length_cons, List.length_nil, Nat.reduceAdd, List.cons_append, List.nil_append] at hw); (try replace hc0 := Sep.Holds.cells hw (i := 0) rfl); (try replace hc1 := Sep.Holds.cells hw (i := 1) rfl); (try replace hc2 := Sep.Holds.cells hw (i := 2) rfl); (try replace hc3 := Sep.Holds.cells hw (i := 3) rfl); (try replace hc4 := Sep.Holds.cells hw (i := 4) rfl); (try replace hc5 := Sep.Holds.cells hw (i := 5) rfl); (try replace hc6 := Sep.Holds.cells hw (i := 6) rfl))
  refine (wDrop r M.n [M.w, M.d] t e _ _ (hw.focus1 2 rfl)).mono ?_
  rintro en_ w_ ⟨rfl, hw_⟩
  clear hw; (try clear hc0); (try clear hc1); (try clear hc2); (try clear hc3); (try clear hc4); (try clear hc5); (try clear hc6); have hw := Holds.unfocus1 2 (by simp) hw_; clear hw_
  (try simp only [List.map_cons, List.map_nil, List.getD_cons_zero, List.getD_cons_succ, List.getD_nil, List.set_cons_zero, List.set_cons_succ, List.cons_append, List.nil_append, Act.eval, Array.getD_eq_getD_getElem?, List.getElem?_toArray, List.getElem?_cons_succ, List.getElem?_cons_zero, Option.getD_some, Value.cells] at hw); (try simp (disch := first | (simp; done) | (simp; omega)) only [Sep.mid_set, Sep.mid_set2, Sep.mid_set0, Sep.mid_splice, Sep.mid_splice0, List.set_cons_zero, List.set_cons_succ] at hw); (try simp only [Sep.splice, List.take_succ_cons, List.take_zero, List.drop_succ_cons, List.drop_zero, List.length_cons, List.length_nil, Nat.reduceAdd, List.cons_append, List.nil_append] at hw)
  go_wp2_with fail
  refine HP.out _ _ ⟨?_, exL.mk (f := semaParts p (M.drop t)) ⟨r, m⟩ ((hw.sel [0, 1, 2, 3] (by decide)).addFct Hok'.out)⟩
  rw [rowOf2]
  by_cases h : t ∈ M.w <;> by_cases h2 : t ∈ M.d <;> simp [h, h2]
set_option maxHeartbeats 400000 in
theorem oHeld (p : Nat) (M : SM) (e w : World) (X : HProp) (hw : Holds e w [X, IsSema p M]) :
    Calls Try.prog 16 #[.pointer (some ⟨p, 0, none⟩)] w fun en w' => en = .returned (.int .i64 M.held) ∧ w' = w := by
  obtain ⟨⟨r, m⟩, hw⟩ := exL.open_ hw
  have hw := hw.open_ 1 rfl
  (try simp only [List.map_cons, List.map_nil, List.getD_cons_zero, List.getD_cons_succ, List.getD_nil, List.set_cons_zero, List.set_cons_succ, List.cons_append, List.nil_append, Act.eval, Array.getD_eq_getD_getElem?, List.getElem?_toArray, List.getElem?_cons_succ, List.getElem?_cons_zero, Option.getD_some, Value.cells] at hw); (try simp (disch := first | (simp; done) | (simp; omega)) only [Sep.mid_set, Sep.mid_set2, Sep.mid_set0, Sep.mid_splice, Sep.mid_splice0, List.set_cons_zero, List.set_cons_succ] at hw); (try simp only [Sep.splice, List.take_succ_cons, List.take_zero, List.drop_succ_cons, List.drop_zero, List.length_cons, List.length_nil, Nat.reduceAdd, List.cons_append, List.nil_append] at hw)
  (try replace hc0 := Sep.Holds.cells hw (i := 0) rfl); (try replace hc1 := Sep.Holds.cells hw (i := 1) rfl); (try replace hc2 := Sep.Holds.cells hw (i := 2) rfl); (try replace hc3 := Sep.Holds.cells hw (i := 3) rfl); (try replace hc4 := Sep.Holds.cells hw (i := 4) rfl); (try replace hc5 := Sep.Holds.cells hw (i := 5) rfl); (try replace hc6 := Sep.Holds.cells hw (i := 6) rfl)
  refine Sep.calls_post ?_
  intro Post_ hPost_
  have HP := Sep.hid hPost_
  clear hPost_
  go_enter Try.func16, Try.ntmps16
  go_wp2_with fail
  exact HP.out _ _ ⟨rfl, rfl⟩
set_option maxHeartbeats 400000 in
theorem oCap (p : Nat) (M : SM) (e w : World) (X : HProp) (hw : Holds e w [X, IsSema p M]) :
    Calls Try.prog 17 #[.pointer (some ⟨p, 0, none⟩)] w fun en w' => en = .returned (.int .i64 M.room) ∧ w' = w := by
  obtain ⟨⟨r, m⟩, hw⟩ := exL.open_ hw
  have hw := hw.open_ 1 rfl
  (try simp only [List.map_cons, List.map_nil, List.getD_cons_zero, List.getD_cons_succ, List.getD_nil, List.set_cons_zero, List.set_cons_succ, List.cons_append, List.nil_append, Act.eval, Array.getD_eq_getD_getElem?, List.getElem?_toArray, List.getElem?_cons_succ, List.getElem?_cons_zero, Option.getD_some, Value.cells] at hw); (try simp (disch := first | (simp; done) | (simp; omega)) only [Sep.mid_set, Sep.mid_set2, Sep.mid_set0, Sep.mid_splice, Sep.mid_splice0, List.set_cons_zero, List.set_cons_succ] at hw); (try simp only [Sep.splice, List.take_succ_cons, List.take_zero, List.drop_succ_cons, List.drop_zero, List.length_cons, List.length_nil, Nat.reduceAdd, List.cons_append, List.nil_append] at hw)
  (try replace hc0 := Sep.Holds.cells hw (i := 0) rfl); (try replace hc1 := Sep.Holds.cells hw (i := 1) rfl); (try replace hc2 := Sep.Holds.cells hw (i := 2) rfl); (try replace hc3 := Sep.Holds.cells hw (i := 3) rfl); (try replace hc4 := Sep.Holds.cells hw (i := 4) rfl); (try replace hc5 := Sep.Holds.cells hw (i := 5) rfl); (try replace hc6 := Sep.Holds.cells hw (i := 6) rfl)
  refine Sep.calls_post ?_
  intro Post_ hPost_
  have HP := Sep.hid hPost_
  clear hPost_
  go_enter Try.func17, Try.ntmps17
  go_wp2_with fail
  exact HP.out _ _ ⟨rfl, rfl⟩
set_option maxHeartbeats 800000 in
theorem oWants (p : Nat) (M : SM) (t : Int) (e w : World) (X : HProp) (hw : Holds e w [X, IsSema p M]) :
    Calls Try.prog 18 #[.pointer (some ⟨p, 0, none⟩), .int .i64 t] w fun en w' => en = .returned (.tuple #[.int .i64 (M.wt t), .bool (M.f t).isSome]) ∧ w' = w := by
  obtain ⟨⟨r, m⟩, hw⟩ := exL.open_ hw
  have hw := hw.open_ 1 rfl
  (try simp only [List.map_cons, List.map_nil, List.getD_cons_zero, List.getD_cons_succ, List.getD_nil, List.set_cons_zero, List.set_cons_succ, List.cons_append, List.nil_append, Act.eval, Array.getD_eq_getD_getElem?, List.getElem?_toArray, List.getElem?_cons_succ, List.getElem?_cons_zero, Option.getD_some, Value.cells] at hw); (try simp (disch := first | (simp; done) | (simp; omega)) only [Sep.mid_set, Sep.mid_set2, Sep.mid_set0, Sep.mid_splice, Sep.mid_splice0, List.set_cons_zero, List.set_cons_succ] at hw); (try simp only [Sep.splice, List.take_succ_cons, List.take_zero, List.drop_succ_cons, List.drop_zero, List.length_cons, List.length_nil, Nat.reduceAdd, List.cons_append, List.nil_append] at hw)
  (try replace hc0 := Sep.Holds.cells hw (i := 0) rfl); (try replace hc1 := Sep.Holds.cells hw (i := 1) rfl); (try replace hc2 := Sep.Holds.cells hw (i := 2) rfl); (try replace hc3 := Sep.Holds.cells hw (i := 3) rfl); (try replace hc4 := Sep.Holds.cells hw (i := 4) rfl); (try replace hc5 := Sep.Holds.cells hw (i := 5) rfl); (try replace hc6 := Sep.Holds.cells hw (i := 6) rfl)
  refine Sep.calls_post ?_
  intro Post_ hPost_
  have HP := Sep.hid hPost_
  clear hPost_
  go_enter Try.func18, Try.ntmps18
  go_wp2_with (refine wpList_on rfl (wp_lookOk (i := 3) rfl rfl rfl hw rfl ?_))
  exact HP.out _ _ ⟨rfl, rfl⟩
set_option maxHeartbeats 800000 in
theorem oWaiting (p : Nat) (M : SM) (e w : World) (X : HProp) (hw : Holds e w [X, IsSema p M]) :
    Calls Try.prog 14 #[.pointer (some ⟨p, 0, none⟩)] w fun en w' => ∃ u v, en = .returned (.tuple #[u, v]) ∧ Holds e w' [X, IsSema p M, IsInts u M.w, IsInts v M.d] := by
  obtain ⟨⟨r, m⟩, hw⟩ := exL.open_ hw
  have hw := hw.open_ 1 rfl
  (try simp only [List.map_cons, List.map_nil, List.getD_cons_zero, List.getD_cons_succ, List.getD_nil, List.set_cons_zero, List.set_cons_succ, List.cons_append, List.nil_append, Act.eval, Array.getD_eq_getD_getElem?, List.getElem?_toArray, List.getElem?_cons_succ, List.getElem?_cons_zero, Option.getD_some, Value.cells] at hw); (try simp (disch := first | (simp; done) | (simp; omega)) only [Sep.mid_set, Sep.mid_set2, Sep.mid_set0, Sep.mid_splice, Sep.mid_splice0, List.set_cons_zero, List.set_cons_succ] at hw); (try simp only [Sep.splice, List.take_succ_cons, List.take_zero, List.drop_succ_cons, List.drop_zero, List.length_cons, List.length_nil, Nat.reduceAdd, List.cons_append, List.nil_append] at hw)
  (try replace hc0 := Sep.Holds.cells hw (i := 0) rfl); (try replace hc1 := Sep.Holds.cells hw (i := 1) rfl); (try replace hc2 := Sep.Holds.cells hw (i := 2) rfl); (try replace hc3 := Sep.Holds.cells hw (i := 3) rfl); (try replace hc4 := Sep.Holds.cells hw (i := 4) rfl); (try replace hc5 := Sep.Holds.cells hw (i := 5) rfl); (try replace hc6 := Sep.Holds.cells hw (i := 6) rfl)
  refine Sep.calls_post ?_
  intro Post_ hPost_
  have HP := Sep.hid hPost_
  clear hPost_
  go_enter Try.func14, Try.ntmps14
  go_wp2_with fail
  refine wp_region_L [4, 9] [(3, (fun w' => w' = w.drew)), (8, (fun w' => Holds e w' [pt p [.pointer (some ⟨r, 0, none⟩), .int .i64 M.held, .int .i64 M.room, .map (some m)] 63]))] (n := 12) (listed := (marks 12 0)) (by kernel_rfl) rfl (by kernel_rfl) ?conds4 ?_
  case conds4 =>
   intro c hc
   simp only [List.mem_cons, List.not_mem_nil, or_false] at hc
   rcases hc with rfl | rfl
   · rfl
   · exact (by replace hw := hw.drew; exact hw.sel [1] (by decide))
  replace hw := hw.drew
  (try replace hc0 := Sep.Holds.cells hw (i := 0) rfl); (try replace hc1 := Sep.Holds.cells hw (i := 1) rfl); (try replace hc2 := Sep.Holds.cells hw (i := 2) rfl); (try replace hc3 := Sep.Holds.cells hw (i := 3) rfl); (try replace hc4 := Sep.Holds.cells hw (i := 4) rfl); (try replace hc5 := Sep.Holds.cells hw (i := 5) rfl); (try replace hc6 := Sep.Holds.cells hw (i := 6) rfl)
  refine wpL_q 0 ?_ rfl (Or.inl ⟨by rfl, fun w_ hS_ => ?_⟩) (marks 12 1) ?_
  rotate_left
  next => (go_simp; try (first | rfl | exact (Bool.not_not _).symm))
  try simp only [Act.put, List.setIfInBounds_toArray, List.set_cons_zero, List.set_cons_succ]
  refine wpL_q 1 ?_ rfl (Or.inl ⟨by rfl, fun w_ hS_ => ?_⟩) (marks 12 3) ?_
  rotate_left
  next => (go_simp; try (first | rfl | exact (Bool.not_not _).symm))
  try simp only [Act.put, List.setIfInBounds_toArray, List.set_cons_zero, List.set_cons_succ]
  refine wpL_q 2 ?_ rfl (Or.inl ⟨by rfl, fun w_ hS_ => ?_⟩) (marks 12 7) ?_
  rotate_left
  next => (go_simp; try (first | rfl | exact (Bool.not_not _).symm))
  try simp only [Act.put, List.setIfInBounds_toArray, List.set_cons_zero, List.set_cons_succ]
  refine wpL_m 3 ?_ rfl (.head _) (Or.inl ⟨by rfl, fun w_ hS_ => ?_⟩) (marks 12 15) ?_
  rotate_left
  next => (subst hS_; go_simp; try (first | rfl | exact (Bool.not_not _).symm))
  try simp only [Act.put, List.setIfInBounds_toArray, List.set_cons_zero, List.set_cons_succ]
  refine wpL_q 5 ?_ rfl (Or.inl ⟨by rfl, fun w_ hS_ => ?_⟩) (marks 12 47) ?_
  rotate_left
  next => (go_simp; try (first | rfl | exact (Bool.not_not _).symm))
  try simp only [Act.put, List.setIfInBounds_toArray, List.set_cons_zero, List.set_cons_succ]
  refine wpL_q 6 ?_ rfl (Or.inl ⟨by rfl, fun w_ hS_ => ?_⟩) (marks 12 111) ?_
  rotate_left
  next => (go_simp; try (first | rfl | exact (Bool.not_not _).symm))
  try simp only [Act.put, List.setIfInBounds_toArray, List.set_cons_zero, List.set_cons_succ]
  refine wpL_q 7 ?_ rfl (Or.inl ⟨by rfl, fun w_ hS_ => ?_⟩) (marks 12 239) ?_
  rotate_left
  next => (go_simp; try (first | rfl | exact (Bool.not_not _).symm))
  try simp only [Act.put, List.setIfInBounds_toArray, List.set_cons_zero, List.set_cons_succ]
  refine wpL_m 8 ?_ rfl (.tail _ (.head _)) (Or.inl ⟨by rfl, fun w_ hS_ => ?_⟩) (marks 12 495) ?_
  rotate_left
  next => (dsimp only at hS_; (try have q0 := Sep.Holds.cells hS_ (i := 0) rfl); (try have q1 := Sep.Holds.cells hS_ (i := 1) rfl); (try have q2 := Sep.Holds.cells hS_ (i := 2) rfl); (try have q3 := Sep.Holds.cells hS_ (i := 3) rfl); (try have q4 := Sep.Holds.cells hS_ (i := 4) rfl); (try have q5 := Sep.Holds.cells hS_ (i := 5) rfl); (try have q6 := Sep.Holds.cells hS_ (i := 6) rfl); go_simp; try (first | rfl | exact (Bool.not_not _).symm))
  try simp only [Act.put, List.setIfInBounds_toArray, List.set_cons_zero, List.set_cons_succ]
  refine wpL_o 4 rfl (by rfl) (marks 12 511) ?_
  (go_simp; go_at_call 31; refine (wList r M.n [M.w, M.d] 0 e _ _ (hw.focus1 2 rfl)).mono ?_; rintro _ w_ ⟨u, rfl, hw_⟩; clear hw; (try clear hc0); (try clear hc1); (try clear hc2); (try clear hc3); (try clear hc4); (try clear hc5); (try clear hc6); have hw := Holds.unfocus1 2 (by simp) hw_; clear hw_; (try simp only [List.map_cons, List.map_nil, List.getD_cons_zero, List.getD_cons_succ, List.getD_nil, List.set_cons_zero, List.set_cons_succ, List.cons_append, List.nil_append, Act.eval, Array.getD_eq_getD_getElem?, List.getElem?_toArray, List.getElem?_cons_succ, List.getElem?_cons_zero, Option.getD_some, Value.cells] at hw); (try simp (disch := first | (simp; done) | (simp; omega)) only [Sep.mid_set, Sep.mid_set2, Sep.mid_set0, Sep.mid_splice, Sep.mid_splice0, List.set_cons_zero, List.set_cons_succ] at hw); (try simp only [Sep.splice, List.take_succ_cons, List.take_zero, List.drop_succ_cons, List.drop_zero, List.length_cons, List.length_nil, Nat.reduceAdd, List.cons_append, List.nil_append] at hw); (try replace hc0 := Sep.Holds.cells hw (i := 0) rfl); (try replace hc1 := Sep.Holds.cells hw (i := 1) rfl); (try replace hc2 := Sep.Holds.cells hw (i := 2) rfl); (try replace hc3 := Sep.Holds.cells hw (i := 3) rfl); (try replace hc4 := Sep.Holds.cells hw (i := 4) rfl); (try replace hc5 := Sep.Holds.cells hw (i := 5) rfl); (try replace hc6 := Sep.Holds.cells hw (i := 6) rfl))
  refine ⟨(SL.drop 4 (by kernel_rfl) (SL.keep (by exact hw.sel [1] (by decide)) SL.nil)), ?_⟩
  try simp only [Act.put, List.setIfInBounds_toArray, List.set_cons_zero, List.set_cons_succ]
  refine wpL_o 9 rfl (by rfl) (marks 12 1023) ?_
  (go_simp; go_at_call 31; refine (wList r M.n [M.w, M.d] 1 e _ _ (hw.focus1 2 rfl)).mono ?_; rintro _ w_ ⟨v, rfl, hw_⟩; clear hw; (try clear hc0); (try clear hc1); (try clear hc2); (try clear hc3); (try clear hc4); (try clear hc5); (try clear hc6); have hw := Holds.unfocus1 2 (by simp) hw_; clear hw_; (try simp only [List.map_cons, List.map_nil, List.getD_cons_zero, List.getD_cons_succ, List.getD_nil, List.set_cons_zero, List.set_cons_succ, List.cons_append, List.nil_append, Act.eval, Array.getD_eq_getD_getElem?, List.getElem?_toArray, List.getElem?_cons_succ, List.getElem?_cons_zero, Option.getD_some, Value.cells] at hw); (try simp (disch := first | (simp; done) | (simp; omega)) only [Sep.mid_set, Sep.mid_set2, Sep.mid_set0, Sep.mid_splice, Sep.mid_splice0, List.set_cons_zero, List.set_cons_succ] at hw); (try simp only [Sep.splice, List.take_succ_cons, List.take_zero, List.drop_succ_cons, List.drop_zero, List.length_cons, List.length_nil, Nat.reduceAdd, List.cons_append, List.nil_append] at hw); (try replace hc0 := Sep.Holds.cells hw (i := 0) rfl); (try replace hc1 := Sep.Holds.cells hw (i := 1) rfl); (try replace hc2 := Sep.Holds.cells hw (i := 2) rfl); (try replace hc3 := Sep.Holds.cells hw (i := 3) rfl); (try replace hc4 := Sep.Holds.cells hw (i := 4) rfl); (try replace hc5 := Sep.Holds.cells hw (i := 5) rfl); (try replace hc6 := Sep.Holds.cells hw (i := 6) rfl))
  refine ⟨(SL.drop 4 (by kernel_rfl) (SL.drop 9 (by kernel_rfl) SL.nil)), ?_⟩
  try simp only [Act.put, List.setIfInBounds_toArray, List.set_cons_zero, List.set_cons_succ]
  refine wpL_q 10 ?_ rfl (Or.inl ⟨by rfl, fun w_ hS_ => ?_⟩) (marks 12 2047) ?_
  rotate_left
  next => (go_simp; try (first | rfl | exact (Bool.not_not _).symm))
  try simp only [Act.put, List.setIfInBounds_toArray, List.set_cons_zero, List.set_cons_succ]
  refine wpL_q 11 ?_ rfl (Or.inl ⟨by rfl, fun w_ hS_ => ?_⟩) (marks 12 4095) ?_
  rotate_left
  next => (go_simp; try (first | rfl | exact (Bool.not_not _).symm))
  try simp only [Act.put, List.setIfInBounds_toArray, List.set_cons_zero, List.set_cons_succ]
  all_goals refine wpL_done (by kernel_rfl) ?_ _
  go_wp2_with fail
  refine HP.out _ _ ⟨u, v, rfl, ?_⟩
  have h : Holds e _ [X, IsInts u M.w, IsInts v M.d, _, _, _, _] := hw.sel [0, 5, 6, 1, 2, 3, 4] (by decide)
  have h := Holds.group [X, IsInts u M.w, IsInts v M.d] _ h
  have h2 := exL.mk (f := semaParts p M) ⟨r, m⟩ h
  exact (Holds.ungroup [X, IsInts u M.w, IsInts v M.d] [_] h2).sel [0, 3, 1, 2] (by decide)
end Go.Proofs.Ytpbpineehbemhaa
