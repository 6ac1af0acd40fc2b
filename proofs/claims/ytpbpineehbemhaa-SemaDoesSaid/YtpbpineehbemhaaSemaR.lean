/-
  The walks of the document's own methods of a semaphore.
-/
import Derived.Test.YtpbpineehbemhaaSemaG
import Derived.Test.YtpbpineehbemhaaReads
namespace Go.Proofs.Ytpbpineehbemhaa
set_option linter.unusedSimpArgs false
set_option linter.unusedVariables false
open Go.RowKit Go.Sep Go.RingM

def IsI64s (v : Value) (l : List Int) : HProp := Sl 2 1 v l.length (encI l)
theorem sl_snoc64 (v : Value) (l : List Int) (t : Int) : Sl 2 1 v (l.length + 1) (encI l ++ [.int .i64 t]) = IsI64s v (l ++ [t]) := by
  unfold IsI64s; rw [List.length_append, encI_append]; rfl
structure SRv where
  w : Value
  d : Value
  wn : Value
  dn : Value
def refParts (p : Nat) (M : SM) (x : SRv) : List HProp := [pt p [.int .i64 M.held, .int .i64 M.room, x.w, x.d, x.wn, x.dn, .int .i64 (M.n : Int)] 48, IsInts x.w M.w, IsInts x.d M.d, IsI64s x.wn M.wn, IsI64s x.dn M.dn]
def IsRef (p : Nat) (M : SM) : HProp := exL (refParts p M)
set_option maxHeartbeats 800000 in
theorem rAdd (a b : Int) (ha : 0 ≤ a ∧ a ≤ 9223372036854775807) (hb : 0 ≤ b ∧ b ≤ 9223372036854775807) (w : World) :
    Calls Try.prog 37 #[.int .i64 a, .int .i64 b] w fun en w' => en = .returned (.int .i64 (if 9223372036854775807 < a + b then 9223372036854775807 else a + b)) ∧ w' = w := by
  have h1 : IntKind.i64.wrap (9223372036854775807 - b) = 9223372036854775807 - b := IntWalk.i64_in _ (by omega)
  by_cases hs : 9223372036854775807 < a + b
  · rw [if_pos hs]
    have hb0 : 0 < b := by omega
    have hx : 9223372036854775807 - b < a := by omega
    clear hs ha hb
    refine Sep.calls_post ?_
    intro Post_ hPost_
    have HP := Sep.hid hPost_
    clear hPost_
    go_enter Try.func37, Try.ntmps37
    go_wp2_with fail
    exact HP.out _ _ ⟨rfl, rfl⟩
  · rw [if_neg hs]
    have h2 : IntKind.i64.wrap (a + b) = a + b := IntWalk.i64_in _ (by omega)
    have hb1 : ¬ b < 0 := by omega
    have hx : ¬ 9223372036854775807 - b < a := by omega
    by_cases hb0 : 0 < b
    · clear hs ha hb
      refine Sep.calls_post ?_
      intro Post_ hPost_
      have HP := Sep.hid hPost_
      clear hPost_
      go_enter Try.func37, Try.ntmps37
      go_wp2_with fail
      exact HP.out _ _ ⟨rfl, rfl⟩
    · clear hs ha hb
      refine Sep.calls_post ?_
      intro Post_ hPost_
      have HP := Sep.hid hPost_
      clear hPost_
      go_enter Try.func37, Try.ntmps37
      go_wp2_with fail
      exact HP.out _ _ ⟨rfl, rfl⟩
set_option maxHeartbeats 800000 in
theorem rSub (b : Int) (hb : 0 ≤ b ∧ b ≤ 9223372036854775807) (w : World) :
    Calls Try.prog 38 #[.int .i64 9223372036854775807, .int .i64 b] w fun en w' => en = .returned (.int .i64 (9223372036854775807 - b)) ∧ w' = w := by
  have h1 : IntKind.i64.wrap (9223372036854775807 - b) = 9223372036854775807 - b := IntWalk.i64_in _ (by omega)
  have h2 : IntKind.i64.wrap (-9223372036854775808 + b) = -9223372036854775808 + b := IntWalk.i64_in _ (by omega)
  have hb1 : ¬ b < 0 := by omega
  have hx : ¬ (9223372036854775807 : Int) < -9223372036854775808 + b := by omega
  by_cases hb0 : 0 < b
  · clear hb
    refine Sep.calls_post ?_
    intro Post_ hPost_
    have HP := Sep.hid hPost_
    clear hPost_
    go_enter Try.func38, Try.ntmps38
    go_wp2_with fail
    exact HP.out _ _ ⟨rfl, rfl⟩
  · clear hb
    refine Sep.calls_post ?_
    intro Post_ hPost_
    have HP := Sep.hid hPost_
    clear hPost_
    go_enter Try.func38, Try.ntmps38
    go_wp2_with fail
    exact HP.out _ _ ⟨rfl, rfl⟩
set_option maxHeartbeats 1600000 in
theorem rFits (a b c : Int) (ha : a ≤ 9223372036854775807) (hb : b ≤ 9223372036854775807) (hc : c ≤ 9223372036854775807) (w : World) :
    Calls Try.prog 28 #[.int .i64 a, .int .i64 b, .int .i64 c] w fun en w' => en = .returned (.bool (fits a b c)) ∧ w' = w := by
  by_cases h1 : a < 0
  · have hv : fits a b c = false := by unfold fits; exact decide_eq_false (by omega)
    rw [hv]; clear hv
    clear ha hb hc
    refine Sep.calls_post ?_
    intro Post_ hPost_
    have HP := Sep.hid hPost_
    clear hPost_
    go_enter Try.func28, Try.ntmps28
    go_wp2_with fail
    exact HP.out _ _ ⟨rfl, rfl⟩
  by_cases h2 : b < 0
  · have hv : fits a b c = false := by unfold fits; exact decide_eq_false (by omega)
    rw [hv]; clear hv
    clear ha hb hc
    refine Sep.calls_post ?_
    intro Post_ hPost_
    have HP := Sep.hid hPost_
    clear hPost_
    go_enter Try.func28, Try.ntmps28
    go_wp2_with fail
    exact HP.out _ _ ⟨rfl, rfl⟩
  by_cases h3 : c < 0
  · have hv : fits a b c = false := by unfold fits; exact decide_eq_false (by omega)
    rw [hv]; clear hv
    clear ha hb hc
    refine Sep.calls_post ?_
    intro Post_ hPost_
    have HP := Sep.hid hPost_
    clear hPost_
    go_enter Try.func28, Try.ntmps28
    go_wp2_with fail
    exact HP.out _ _ ⟨rfl, rfl⟩
  have hA := rAdd a b ⟨by omega, ha⟩ ⟨by omega, hb⟩
  have hS := rSub b ⟨by omega, hb⟩
  by_cases hs : 9223372036854775807 < a + b
  · rw [if_pos hs] at hA
    have hv : fits a b c = false := by unfold fits; exact decide_eq_false (by omega)
    rw [hv]; clear hv
    have hne : ¬ 9223372036854775807 - b = a := by omega
    have HA := Sep.hid hA; have HS := Sep.hid hS
    clear hA hS hs ha hb
    by_cases h4 : c < 9223372036854775807
    · clear hc
      refine Sep.calls_post ?_
      intro Post_ hPost_
      have HP := Sep.hid hPost_
      clear hPost_
      go_enter Try.func28, Try.ntmps28
      go_wp2_with (first
        | (go_at_call 37; refine (HA.out _).mono ?_; rintro _ w_ ⟨rfl, rfl⟩)
        | (go_at_call 38; refine (HS.out _).mono ?_; rintro _ w_ ⟨rfl, rfl⟩))
      exact HP.out _ _ ⟨rfl, rfl⟩
    · have h5 : ¬ c < 9223372036854775807 := h4
      obtain rfl : c = 9223372036854775807 := by omega
      clear hc h4 h5
      have hq : (9223372036854775807 - b == a) = false := by simpa using hne
      refine Sep.calls_post ?_
      intro Post_ hPost_
      have HP := Sep.hid hPost_
      clear hPost_
      go_enter Try.func28, Try.ntmps28
      go_wp2_with (first
        | (go_at_call 37; refine (HA.out _).mono ?_; rintro _ w_ ⟨rfl, rfl⟩)
        | (go_at_call 38; refine (HS.out _).mono ?_; rintro _ w_ ⟨rfl, rfl⟩))
      exact HP.out _ _ ⟨rfl, rfl⟩
  · rw [if_neg hs] at hA
    have HA := Sep.hid hA; have HS := Sep.hid hS
    clear hA hS ha hb
    by_cases h4 : c < a + b
    · have hv : fits a b c = false := by unfold fits; exact decide_eq_false (by omega)
      rw [hv]; clear hv
      clear hc hs
      refine Sep.calls_post ?_
      intro Post_ hPost_
      have HP := Sep.hid hPost_
      clear hPost_
      go_enter Try.func28, Try.ntmps28
      go_wp2_with (first
        | (go_at_call 37; refine (HA.out _).mono ?_; rintro _ w_ ⟨rfl, rfl⟩)
        | (go_at_call 38; refine (HS.out _).mono ?_; rintro _ w_ ⟨rfl, rfl⟩))
      exact HP.out _ _ ⟨rfl, rfl⟩
    · have hv : fits a b c = true := (fits_iff a b c).2 (by omega)
      rw [hv]; clear hv hc
      by_cases h5 : a + b < 9223372036854775807
      · clear hs
        refine Sep.calls_post ?_
        intro Post_ hPost_
        have HP := Sep.hid hPost_
        clear hPost_
        go_enter Try.func28, Try.ntmps28
        go_wp2_with (first
          | (go_at_call 37; refine (HA.out _).mono ?_; rintro _ w_ ⟨rfl, rfl⟩)
          | (go_at_call 38; refine (HS.out _).mono ?_; rintro _ w_ ⟨rfl, rfl⟩))
        exact HP.out _ _ ⟨rfl, rfl⟩
      · have he : 9223372036854775807 - b = a := by omega
        have hq : (9223372036854775807 - b == a) = true := by simpa using he
        clear hs
        refine Sep.calls_post ?_
        intro Post_ hPost_
        have HP := Sep.hid hPost_
        clear hPost_
        go_enter Try.func28, Try.ntmps28
        go_wp2_with (first
          | (go_at_call 37; refine (HA.out _).mono ?_; rintro _ w_ ⟨rfl, rfl⟩)
          | (go_at_call 38; refine (HS.out _).mono ?_; rintro _ w_ ⟨rfl, rfl⟩))
        exact HP.out _ _ ⟨rfl, rfl⟩
set_option maxHeartbeats 800000 in
theorem fNew_ok (n : Nat) (room : Int) (n1 : 1 ≤ n) (n2 : n ≤ 1000) (h0 : 0 ≤ room) (e w : World) (X : HProp) (hw : Holds e w [X]) :
    Calls Try.prog 9 #[.int .i64 (n : Int), .int .i64 room] w fun en w' => ∃ p, en = .returned (.tuple #[.pointer (some ⟨p, 0, none⟩), .int .i64 0]) ∧ Holds e w' [X, IsRef p ⟨n, 0, room, [], [], fun _ => none⟩] := by
  refine Sep.calls_post ?_
  intro Post_ hPost_
  have HP := Sep.hid hPost_
  clear hPost_
  go_enter Try.func9, Try.ntmps9
  go_wp2_with (first | (refine wpList_on rfl (wp_box rfl hw ?_); intro b_ w_ hw_; clear hw; have hw := hw_; clear hw_; (try simp only [List.map_cons, List.map_nil, List.getD_cons_zero, List.getD_cons_succ, List.getD_nil, List.set_cons_zero, List.set_cons_succ, List.cons_append, List.nil_append, Act.eval, Array.getD_eq_getD_getElem?, List.getElem?_toArray, List.getElem?_cons_succ, List.getElem?_cons_zero, Option.getD_some, Value.cells] at hw); (try simp (disch := first | (simp; done) | (simp; omega)) only [Sep.mid_set, Sep.mid_set2, Sep.mid_set0, Sep.mid_splice, Sep.mid_splice0, List.set_cons_zero, List.set_cons_succ] at hw); (try simp only [Sep.splice, List.take_succ_cons, List.take_zero, List.drop_succ_cons, List.drop_zero, List.length_cons, List.length_nil, Nat.reduceAdd, List.cons_append, List.nil_append] at hw); (try replace hc0 := Sep.Holds.cells hw (i := 0) rfl); (try replace hc1 := Sep.Holds.cells hw (i := 1) rfl); (try replace hc2 := Sep.Holds.cells hw (i := 2) rfl); (try replace hc3 := Sep.Holds.cells hw (i := 3) rfl); (try replace hc4 := Sep.Holds.cells hw (i := 4) rfl); (try replace hc5 := Sep.Holds.cells hw (i := 5) rfl); (try replace hc6 := Sep.Holds.cells hw (i := 6) rfl)) | (refine wpList_on rfl (wp_alloc rfl hw ?_); intro b_ w_ hw_; clear hw; have hw := hw_; clear hw_; (try simp only [List.map_cons, List.map_nil, List.getD_cons_zero, List.getD_cons_succ, List.getD_nil, List.set_cons_zero, List.set_cons_succ, List.cons_append, List.nil_append, Act.eval, Array.getD_eq_getD_getElem?, List.getElem?_toArray, List.getElem?_cons_succ, List.getElem?_cons_zero, Option.getD_some, Value.cells] at hw); (try simp (disch := first | (simp; done) | (simp; omega)) only [Sep.mid_set, Sep.mid_set2, Sep.mid_set0, Sep.mid_splice, Sep.mid_splice0, List.set_cons_zero, List.set_cons_succ] at hw); (try simp only [Sep.splice, List.take_succ_cons, List.take_zero, List.drop_succ_cons, List.drop_zero, List.length_cons, List.length_nil, Nat.reduceAdd, List.cons_append, List.nil_append] at hw); (try replace hc0 := Sep.Holds.cells hw (i := 0) rfl); (try replace hc1 := Sep.Holds.cells hw (i := 1) rfl); (try replace hc2 := Sep.Holds.cells hw (i := 2) rfl); (try replace hc3 := Sep.Holds.cells hw (i := 3) rfl); (try replace hc4 := Sep.Holds.cells hw (i := 4) rfl); (try replace hc5 := Sep.Holds.cells hw (i := 5) rfl); (try replace hc6 := Sep.Holds.cells hw (i := 6) rfl)) | ((first | refine wpList_on rfl (wp_store1 (v := _) rfl rfl rfl hw (i := 0) rfl (by simp [Sep.mid_length, Act.eval, Value.cells]; try omega) rfl ?_) | refine wpList_on rfl (wp_store1 (v := _) rfl rfl rfl hw (i := 1) rfl (by simp [Sep.mid_length, Act.eval, Value.cells]; try omega) rfl ?_) | refine wpList_on rfl (wp_store1 (v := _) rfl rfl rfl hw (i := 2) rfl (by simp [Sep.mid_length, Act.eval, Value.cells]; try omega) rfl ?_) | refine wpList_on rfl (wp_store1 (v := _) rfl rfl rfl hw (i := 3) rfl (by simp [Sep.mid_length, Act.eval, Value.cells]; try omega) rfl ?_) | refine wpList_on rfl (wp_store1 (v := _) rfl rfl rfl hw (i := 4) rfl (by simp [Sep.mid_length, Act.eval, Value.cells]; try omega) rfl ?_)); intro w_ hw_; clear hw; have hw := hw_; clear hw_; (try simp only [List.map_cons, List.map_nil, List.getD_cons_zero, List.getD_cons_succ, List.getD_nil, List.set_cons_zero, List.set_cons_succ, List.cons_append, List.nil_append, Act.eval, Array.getD_eq_getD_getElem?, List.getElem?_toArray, List.getElem?_cons_succ, List.getElem?_cons_zero, Option.getD_some, Value.cells] at hw); (try simp (disch := first | (simp; done) | (simp; omega)) only [Sep.mid_set, Sep.mid_set2, Sep.mid_set0, Sep.mid_splice, Sep.mid_splice0, List.set_cons_zero, List.set_cons_succ] at hw); (try simp only [Sep.splice, List.take_succ_cons, List.take_zero, List.drop_succ_cons, List.drop_zero, List.length_cons, List.length_nil, Nat.reduceAdd, List.cons_append, List.nil_append] at hw); (try replace hc0 := Sep.Holds.cells hw (i := 0) rfl); (try replace hc1 := Sep.Holds.cells hw (i := 1) rfl); (try replace hc2 := Sep.Holds.cells hw (i := 2) rfl); (try replace hc3 := Sep.Holds.cells hw (i := 3) rfl); (try replace hc4 := Sep.Holds.cells hw (i := 4) rfl); (try replace hc5 := Sep.Holds.cells hw (i := 5) rfl); (try replace hc6 := Sep.Holds.cells hw (i := 6) rfl)))
  refine HP.out _ _ ⟨_, rfl, ?_⟩
  exact exL.mk (f := refParts _ ⟨n, 0, room, [], [], fun _ => none⟩) ⟨.slice none 0 0, .slice none 0 0, .slice none 0 0, .slice none 0 0⟩ ((((hw.addEmp (Sl.nil _ _ _)).addEmp (Sl.nil _ _ _)).addEmp (Sl.nil _ _ _)).addEmp (Sl.nil _ _ _))
set_option maxHeartbeats 800000 in
theorem fNew_no (n room : Int) (h : n < 1 ∨ 1000 < n ∨ room < 0) (w : World) :
    Calls Try.prog 9 #[.int .i64 n, .int .i64 room] w fun en w' => en = .returned (.tuple #[.pointer none, .int .i64 1]) ∧ w' = w := by
  by_cases h1 : n < 1
  · clear h
    refine Sep.calls_post ?_
    intro Post_ hPost_
    have HP := Sep.hid hPost_
    clear hPost_
    go_enter Try.func9, Try.ntmps9
    go_wp2_with fail
    exact HP.out _ _ ⟨rfl, rfl⟩
  by_cases h2 : 1000 < n
  · clear h
    refine Sep.calls_post ?_
    intro Post_ hPost_
    have HP := Sep.hid hPost_
    clear hPost_
    go_enter Try.func9, Try.ntmps9
    go_wp2_with fail
    exact HP.out _ _ ⟨rfl, rfl⟩
  · have h3 : room < 0 := by omega
    clear h
    refine Sep.calls_post ?_
    intro Post_ hPost_
    have HP := Sep.hid hPost_
    clear hPost_
    go_enter Try.func9, Try.ntmps9
    go_wp2_with fail
    exact HP.out _ _ ⟨rfl, rfl⟩
end Go.Proofs.Ytpbpineehbemhaa
