/-
  The walks of the methods of a lock for one who writes, or several who read.
-/
import Derived.Test.YtlngkjgoacelfaaRwM
import Derived.Test.YtlngkjgoacelfaaRowsW
import Derived.Test.YtlngkjgoacelfaaIntsR8
import Derived.Test.YtlngkjgoacelfaaSepRet
import Derived.Test.YtlngkjgoacelfaaSepGrow
import Derived.Test.YtlngkjgoacelfaaReads
namespace Go.Proofs.Ytlngkjgoacelfaa
set_option linter.unusedSimpArgs false
set_option linter.unusedVariables false
open Go.RowKit Go.Sep Go.RingM

def rwParts (p : Nat) (M : LM) (r : Nat) : List HProp := [pt p [.pointer (some ⟨r, 0, none⟩)] 61, IsRows r M.n [M.wr, M.ww, M.rd, M.wt], fct M.Ok]
def IsRW (p : Nat) (M : LM) : HProp := exL (rwParts p M)
theorem rw_ok {p i : Nat} {M : LM} {e w : World} {L : List HProp} (hi : L[i]? = some (IsRW p M)) (hw : Holds e w L) : RowsOk M.n [M.wr, M.ww, M.rd, M.wt] ∧ M.Ok := by
  have hw := hw.focus1 i hi
  obtain ⟨r, hw⟩ := exL.open_ hw
  have hw := hw.open_ 1 rfl
  (try simp only [List.map_cons, List.map_nil, List.getD_cons_zero, List.getD_cons_succ, List.getD_nil, List.set_cons_zero, List.set_cons_succ, List.cons_append, List.nil_append, Act.eval, Array.getD_eq_getD_getElem?, List.getElem?_toArray, List.getElem?_cons_succ, List.getElem?_cons_zero, Option.getD_some, Value.cells] at hw); (try simp (disch := first | (simp; done) | (simp; omega)) only [Sep.mid_set, Sep.mid_set2, Sep.mid_set0, Sep.mid_splice, Sep.mid_splice0, List.set_cons_zero, List.set_cons_succ] at hw); (try simp only [Sep.splice, List.take_succ_cons, List.take_zero, List.drop_succ_cons, List.drop_zero, List.length_cons, List.length_nil, Nat.reduceAdd, List.cons_append, List.nil_append] at hw)
  exact ⟨Holds.rowsOk (i := 2) rfl hw, Holds.fct (i := 3) rfl hw⟩
theorem rw_len {p i : Nat} {M : LM} {e w : World} {L : List HProp} (hi : L[i]? = some (IsRW p M)) (hw : Holds e w L) : M.wr.length ≤ 1000 ∧ M.ww.length ≤ 1000 ∧ M.rd.length ≤ 1000 := by
  have h := (rw_ok hi hw).1
  exact ⟨Nat.le_trans (rowsLen h (by simp)) h.n2, Nat.le_trans (rowsLen h (by simp)) h.n2, Nat.le_trans (rowsLen h (by simp)) h.n2⟩
set_option maxHeartbeats 800000 in
theorem oNew_ok (n : Nat) (n1 : 1 ≤ n) (n2 : n ≤ 1000) (e w : World) (X : HProp) (hw : Holds e w [X]) :
    Calls Try.prog 8 #[.int .i64 (n : Int)] w fun en w' => ∃ p, en = .returned (.tuple #[.pointer (some ⟨p, 0, none⟩), .int .i64 0]) ∧ Holds e w' [X, IsRW p ⟨n, [], [], [], []⟩] := by
  refine Sep.calls_post ?_
  intro Post_ hPost_
  have HP := Sep.hid hPost_
  clear hPost_
  go_enter Try.func8, Try.ntmps8
  go_wp2_with fail
  refine (wNew 4 n n1 n2 (by decide) (by decide) e _ _ hw).mono ?_
  rintro en_ w_ ⟨r, rfl, hw_⟩
  clear hw; have hw := hw_; clear hw_
  go_wp2_with (refine wpList_on rfl (wp_box rfl hw ?_); intro b_ w_ hw_; clear hw; have hw := hw_; clear hw_; (try simp only [List.map_cons, List.map_nil, List.getD_cons_zero, List.getD_cons_succ, List.getD_nil, List.set_cons_zero, List.set_cons_succ, List.cons_append, List.nil_append, Act.eval, Array.getD_eq_getD_getElem?, List.getElem?_toArray, List.getElem?_cons_succ, List.getElem?_cons_zero, Option.getD_some, Value.cells] at hw); (try simp (disch := first | (simp; done) | (simp; omega)) only [Sep.mid_set, Sep.mid_set2, Sep.mid_set0, Sep.mid_splice, Sep.mid_splice0, List.set_cons_zero, List.set_cons_succ] at hw); (try simp only [Sep.splice, List.take_succ_cons, List.take_zero, List.drop_succ_cons, List.drop_zero, List.length_cons, List.length_nil, Nat.reduceAdd, List.cons_append, List.nil_append] at hw); (try replace hc0 := Sep.Holds.cells hw (i := 0) rfl); (try replace hc1 := Sep.Holds.cells hw (i := 1) rfl); (try replace hc2 := Sep.Holds.cells hw (i := 2) rfl); (try replace hc3 := Sep.Holds.cells hw (i := 3) rfl); (try replace hc4 := Sep.Holds.cells hw (i := 4) rfl); (try replace hc5 := Sep.Holds.cells hw (i := 5) rfl); (try replace hc6 := Sep.Holds.cells hw (i := 6) rfl))
  refine HP.out _ _ ⟨_, rfl, ?_⟩
  exact exL.mk (f := rwParts _ ⟨n, [], [], [], []⟩) r ((hw.addFct (LM.ok_new n n2)).sel [0, 2, 1, 3] (by decide))
set_option maxHeartbeats 800000 in
theorem oNew_no (n : Int) (h : n < 1 ∨ 1000 < n) (w : World) :
    Calls Try.prog 8 #[.int .i64 n] w fun en w' => en = .returned (.tuple #[.pointer none, .int .i64 1]) ∧ w' = w := by
  have H := Sep.hid h; clear h
  refine Sep.calls_post ?_
  intro Post_ hPost_
  have HP := Sep.hid hPost_
  clear hPost_
  go_enter Try.func8, Try.ntmps8
  go_wp2_with fail
  refine (rNew_no 4 n (by have := H.out; omega) _).mono ?_
  rintro en_ w_ ⟨rfl, rfl⟩
  go_wp2_with fail
  exact HP.out _ _ ⟨rfl, rfl⟩
theorem move_ok {n : Nat} {a b c d : List Int} {y : Int} {i : Nat} {rs : List (List Int)} (hr : RowsOk n rs) (hi : rs[i]? = some (y :: a)) (h1 : [b, c, d] = rs.eraseIdx i) : 0 ≤ y ∧ y < n ∧ y ∉ a ∧ y ∉ b ∧ y ∉ c ∧ y ∉ d := by
  have hm := List.mem_of_getElem? hi
  have hp := hr.pos _ hm y (by simp)
  have hn := List.nodup_cons.1 (hr.nodup _ hm)
  have hne : ∀ (l : List Int), l ∈ rs.eraseIdx i → y ∉ l := by
    intro l hl hy
    obtain ⟨j, hji, hj⟩ := List.mem_eraseIdx_iff_getElem?.1 hl
    exact hji (hr.apart i j (y :: a) l y hi hj (by simp) hy).symm
  rw [← h1] at hne
  exact ⟨hp.1, hp.2, hn.1, hne b (by simp), hne c (by simp), hne d (by simp)⟩
set_option maxHeartbeats 800000 in
theorem rMove13 (p r n : Nat) (a b c d : List Int) (y : Int) (e w : World) (X : HProp) (hw : Holds e w [X, pt p [.pointer (some ⟨r, 0, none⟩)] 61, IsRows r n [a, y :: b, c, d]]) :
    Calls Try.prog 39 #[.pointer (some ⟨p, 0, none⟩), .int .i64 1, .int .i64 3] w fun en w' => ∃ v, en = .returned v ∧ Holds e w' [X, pt p [.pointer (some ⟨r, 0, none⟩)] 61, IsRows r n [a, b, c, d ++ [y]], IsInts v [y]] := by
  have hr := Holds.rowsOk (i := 2) rfl hw
  obtain ⟨h0, hn, h1, h2, h3, h4⟩ := move_ok (i := 1) (a := b) (b := a) (c := c) (d := d) hr rfl rfl
  have Hpe : Hid (putE n [a, b, c, d] y = 0) := Sep.hid (putE4 n a b c d y ⟨h0, hn⟩ h2 h1 h3 h4)
  clear hr h0 hn h1 h2 h3 h4
  (try replace hc0 := Sep.Holds.cells hw (i := 0) rfl); (try replace hc1 := Sep.Holds.cells hw (i := 1) rfl); (try replace hc2 := Sep.Holds.cells hw (i := 2) rfl); (try replace hc3 := Sep.Holds.cells hw (i := 3) rfl); (try replace hc4 := Sep.Holds.cells hw (i := 4) rfl); (try replace hc5 := Sep.Holds.cells hw (i := 5) rfl); (try replace hc6 := Sep.Holds.cells hw (i := 6) rfl)
  refine Sep.calls_post ?_
  intro Post_ hPost_
  have HP := Sep.hid hPost_
  clear hPost_
  go_enter Try.func39, Try.ntmps39
  go_wp2_with fail
  refine (wTake r n [a, y :: b, c, d] 1 (by simp) e _ _ (hw.focus1 2 rfl)).mono ?_
  rintro en_ w_ ⟨rfl, hw_⟩
  clear hw; (try clear hc0); (try clear hc1); (try clear hc2); (try clear hc3); (try clear hc4); (try clear hc5); (try clear hc6); have hw := Holds.unfocus1 2 (by simp) hw_; clear hw_
  (try simp only [List.map_cons, List.map_nil, List.getD_cons_zero, List.getD_cons_succ, List.getD_nil, List.set_cons_zero, List.set_cons_succ, List.cons_append, List.nil_append, Act.eval, Array.getD_eq_getD_getElem?, List.getElem?_toArray, List.getElem?_cons_succ, List.getElem?_cons_zero, Option.getD_some, Value.cells] at hw); (try simp (disch := first | (simp; done) | (simp; omega)) only [Sep.mid_set, Sep.mid_set2, Sep.mid_set0, Sep.mid_splice, Sep.mid_splice0, List.set_cons_zero, List.set_cons_succ] at hw); (try simp only [Sep.splice, List.take_succ_cons, List.take_zero, List.drop_succ_cons, List.drop_zero, List.length_cons, List.length_nil, Nat.reduceAdd, List.cons_append, List.nil_append] at hw)
  rw [show ((([a, y :: b, c, d] : List (List Int)).getD 1 []).headD (-1)) = y from rfl, show (!(([a, y :: b, c, d] : List (List Int)).getD 1 []).isEmpty) = true from rfl]
  have hw : Holds e w_ [X, pt p [.pointer (some ⟨r, 0, none⟩)] 61, IsRows r n [a, b, c, d]] := hw
  (try replace hc0 := Sep.Holds.cells hw (i := 0) rfl); (try replace hc1 := Sep.Holds.cells hw (i := 1) rfl); (try replace hc2 := Sep.Holds.cells hw (i := 2) rfl); (try replace hc3 := Sep.Holds.cells hw (i := 3) rfl); (try replace hc4 := Sep.Holds.cells hw (i := 4) rfl); (try replace hc5 := Sep.Holds.cells hw (i := 5) rfl); (try replace hc6 := Sep.Holds.cells hw (i := 6) rfl)
  go_wp2_with fail
  refine (wPut r n [a, b, c, d] 3 (by simp) y e _ _ (hw.focus1 2 rfl)).mono ?_
  rintro en_ w_ ⟨rfl, hw_⟩
  clear hw; (try clear hc0); (try clear hc1); (try clear hc2); (try clear hc3); (try clear hc4); (try clear hc5); (try clear hc6); have hw := Holds.unfocus1 2 (by simp) hw_; clear hw_
  (try simp only [List.map_cons, List.map_nil, List.getD_cons_zero, List.getD_cons_succ, List.getD_nil, List.set_cons_zero, List.set_cons_succ, List.cons_append, List.nil_append, Act.eval, Array.getD_eq_getD_getElem?, List.getElem?_toArray, List.getElem?_cons_succ, List.getElem?_cons_zero, Option.getD_some, Value.cells] at hw); (try simp (disch := first | (simp; done) | (simp; omega)) only [Sep.mid_set, Sep.mid_set2, Sep.mid_set0, Sep.mid_splice, Sep.mid_splice0, List.set_cons_zero, List.set_cons_succ] at hw); (try simp only [Sep.splice, List.take_succ_cons, List.take_zero, List.drop_succ_cons, List.drop_zero, List.length_cons, List.length_nil, Nat.reduceAdd, List.cons_append, List.nil_append] at hw)
  rw [show putR n [a, b, c, d] 3 y = [a, b, c, d ++ [y]] by unfold putR; rw [if_pos Hpe.out]; rfl] at hw
  (try replace hc0 := Sep.Holds.cells hw (i := 0) rfl); (try replace hc1 := Sep.Holds.cells hw (i := 1) rfl); (try replace hc2 := Sep.Holds.cells hw (i := 2) rfl); (try replace hc3 := Sep.Holds.cells hw (i := 3) rfl); (try replace hc4 := Sep.Holds.cells hw (i := 4) rfl); (try replace hc5 := Sep.Holds.cells hw (i := 5) rfl); (try replace hc6 := Sep.Holds.cells hw (i := 6) rfl)
  go_wp2_with (refine wpList_on rfl (wp_bsl1 rfl rfl (by rfl) (by rfl) (by decide) hw ?_); intro b_ w_ hw_; clear hw; have hw := hw_; clear hw_; (try simp only [List.map_cons, List.map_nil, List.getD_cons_zero, List.getD_cons_succ, List.getD_nil, List.set_cons_zero, List.set_cons_succ, List.cons_append, List.nil_append, Act.eval, Array.getD_eq_getD_getElem?, List.getElem?_toArray, List.getElem?_cons_succ, List.getElem?_cons_zero, Option.getD_some, Value.cells] at hw); (try simp (disch := first | (simp; done) | (simp; omega)) only [Sep.mid_set, Sep.mid_set2, Sep.mid_set0, Sep.mid_splice, Sep.mid_splice0, List.set_cons_zero, List.set_cons_succ] at hw); (try simp only [Sep.splice, List.take_succ_cons, List.take_zero, List.drop_succ_cons, List.drop_zero, List.length_cons, List.length_nil, Nat.reduceAdd, List.cons_append, List.nil_append] at hw); (try replace hc0 := Sep.Holds.cells hw (i := 0) rfl); (try replace hc1 := Sep.Holds.cells hw (i := 1) rfl); (try replace hc2 := Sep.Holds.cells hw (i := 2) rfl); (try replace hc3 := Sep.Holds.cells hw (i := 3) rfl); (try replace hc4 := Sep.Holds.cells hw (i := 4) rfl); (try replace hc5 := Sep.Holds.cells hw (i := 5) rfl); (try replace hc6 := Sep.Holds.cells hw (i := 6) rfl))
  refine HP.out _ _ ⟨_, rfl, ?_⟩
  have hw := hw.newSl (i := 3) rfl 1 1 rfl (by decide)
  exact hw
set_option maxHeartbeats 800000 in
theorem rMove02 (p r n : Nat) (a b c d : List Int) (y : Int) (e w : World) (X : HProp) (hw : Holds e w [X, pt p [.pointer (some ⟨r, 0, none⟩)] 61, IsRows r n [y :: a, b, c, d]]) :
    Calls Try.prog 39 #[.pointer (some ⟨p, 0, none⟩), .int .i64 0, .int .i64 2] w fun en w' => ∃ v, en = .returned v ∧ Holds e w' [X, pt p [.pointer (some ⟨r, 0, none⟩)] 61, IsRows r n [a, b, c ++ [y], d], IsInts v [y]] := by
  have hr := Holds.rowsOk (i := 2) rfl hw
  obtain ⟨h0, hn, h1, h2, h3, h4⟩ := move_ok (i := 0) (a := a) (b := b) (c := c) (d := d) hr rfl rfl
  have Hpe : Hid (putE n [a, b, c, d] y = 0) := Sep.hid (putE4 n a b c d y ⟨h0, hn⟩ h1 h2 h3 h4)
  clear hr h0 hn h1 h2 h3 h4
  (try replace hc0 := Sep.Holds.cells hw (i := 0) rfl); (try replace hc1 := Sep.Holds.cells hw (i := 1) rfl); (try replace hc2 := Sep.Holds.cells hw (i := 2) rfl); (try replace hc3 := Sep.Holds.cells hw (i := 3) rfl); (try replace hc4 := Sep.Holds.cells hw (i := 4) rfl); (try replace hc5 := Sep.Holds.cells hw (i := 5) rfl); (try replace hc6 := Sep.Holds.cells hw (i := 6) rfl)
  refine Sep.calls_post ?_
  intro Post_ hPost_
  have HP := Sep.hid hPost_
  clear hPost_
  go_enter Try.func39, Try.ntmps39
  go_wp2_with fail
  refine (wTake r n [y :: a, b, c, d] 0 (by simp) e _ _ (hw.focus1 2 rfl)).mono ?_
  rintro en_ w_ ⟨rfl, hw_⟩
  clear hw; (try clear hc0); (try clear hc1); (try clear hc2); (try clear hc3); (try clear hc4); (try clear hc5); (try clear hc6); have hw := Holds.unfocus1 2 (by simp) hw_; clear hw_
  (try simp only [List.map_cons, List.map_nil, List.getD_cons_zero, List.getD_cons_succ, List.getD_nil, List.set_cons_zero, List.set_cons_succ, List.cons_append, List.nil_append, Act.eval, Array.getD_eq_getD_getElem?, List.getElem?_toArray, List.getElem?_cons_succ, List.getElem?_cons_zero, Option.getD_some, Value.cells] at hw); (try simp (disch := first | (simp; done) | (simp; omega)) only [Sep.mid_set, Sep.mid_set2, Sep.mid_set0, Sep.mid_splice, Sep.mid_splice0, List.set_cons_zero, List.set_cons_succ] at hw); (try simp only [Sep.splice, List.take_succ_cons, List.take_zero, List.drop_succ_cons, List.drop_zero, List.length_cons, List.length_nil, Nat.reduceAdd, List.cons_append, List.nil_append] at hw)
  rw [show ((([y :: a, b, c, d] : List (List Int)).getD 0 []).headD (-1)) = y from rfl, show (!(([y :: a, b, c, d] : List (List Int)).getD 0 []).isEmpty) = true from rfl]
  have hw : Holds e w_ [X, pt p [.pointer (some ⟨r, 0, none⟩)] 61, IsRows r n [a, b, c, d]] := hw
  (try replace hc0 := Sep.Holds.cells hw (i := 0) rfl); (try replace hc1 := Sep.Holds.cells hw (i := 1) rfl); (try replace hc2 := Sep.Holds.cells hw (i := 2) rfl); (try replace hc3 := Sep.Holds.cells hw (i := 3) rfl); (try replace hc4 := Sep.Holds.cells hw (i := 4) rfl); (try replace hc5 := Sep.Holds.cells hw (i := 5) rfl); (try replace hc6 := Sep.Holds.cells hw (i := 6) rfl)
  go_wp2_with fail
  refine (wPut r n [a, b, c, d] 2 (by simp) y e _ _ (hw.focus1 2 rfl)).mono ?_
  rintro en_ w_ ⟨rfl, hw_⟩
  clear hw; (try clear hc0); (try clear hc1); (try clear hc2); (try clear hc3); (try clear hc4); (try clear hc5); (try clear hc6); have hw := Holds.unfocus1 2 (by simp) hw_; clear hw_
  (try simp only [List.map_cons, List.map_nil, List.getD_cons_zero, List.getD_cons_succ, List.getD_nil, List.set_cons_zero, List.set_cons_succ, List.cons_append, List.nil_append, Act.eval, Array.getD_eq_getD_getElem?, List.getElem?_toArray, List.getElem?_cons_succ, List.getElem?_cons_zero, Option.getD_some, Value.cells] at hw); (try simp (disch := first | (simp; done) | (simp; omega)) only [Sep.mid_set, Sep.mid_set2, Sep.mid_set0, Sep.mid_splice, Sep.mid_splice0, List.set_cons_zero, List.set_cons_succ] at hw); (try simp only [Sep.splice, List.take_succ_cons, List.take_zero, List.drop_succ_cons, List.drop_zero, List.length_cons, List.length_nil, Nat.reduceAdd, List.cons_append, List.nil_append] at hw)
  rw [show putR n [a, b, c, d] 2 y = [a, b, c ++ [y], d] by unfold putR; rw [if_pos Hpe.out]; rfl] at hw
  (try replace hc0 := Sep.Holds.cells hw (i := 0) rfl); (try replace hc1 := Sep.Holds.cells hw (i := 1) rfl); (try replace hc2 := Sep.Holds.cells hw (i := 2) rfl); (try replace hc3 := Sep.Holds.cells hw (i := 3) rfl); (try replace hc4 := Sep.Holds.cells hw (i := 4) rfl); (try replace hc5 := Sep.Holds.cells hw (i := 5) rfl); (try replace hc6 := Sep.Holds.cells hw (i := 6) rfl)
  go_wp2_with (refine wpList_on rfl (wp_bsl1 rfl rfl (by rfl) (by rfl) (by decide) hw ?_); intro b_ w_ hw_; clear hw; have hw := hw_; clear hw_; (try simp only [List.map_cons, List.map_nil, List.getD_cons_zero, List.getD_cons_succ, List.getD_nil, List.set_cons_zero, List.set_cons_succ, List.cons_append, List.nil_append, Act.eval, Array.getD_eq_getD_getElem?, List.getElem?_toArray, List.getElem?_cons_succ, List.getElem?_cons_zero, Option.getD_some, Value.cells] at hw); (try simp (disch := first | (simp; done) | (simp; omega)) only [Sep.mid_set, Sep.mid_set2, Sep.mid_set0, Sep.mid_splice, Sep.mid_splice0, List.set_cons_zero, List.set_cons_succ] at hw); (try simp only [Sep.splice, List.take_succ_cons, List.take_zero, List.drop_succ_cons, List.drop_zero, List.length_cons, List.length_nil, Nat.reduceAdd, List.cons_append, List.nil_append] at hw); (try replace hc0 := Sep.Holds.cells hw (i := 0) rfl); (try replace hc1 := Sep.Holds.cells hw (i := 1) rfl); (try replace hc2 := Sep.Holds.cells hw (i := 2) rfl); (try replace hc3 := Sep.Holds.cells hw (i := 3) rfl); (try replace hc4 := Sep.Holds.cells hw (i := 4) rfl); (try replace hc5 := Sep.Holds.cells hw (i := 5) rfl); (try replace hc6 := Sep.Holds.cells hw (i := 6) rfl))
  refine HP.out _ _ ⟨_, rfl, ?_⟩
  have hw := hw.newSl (i := 3) rfl 1 1 rfl (by decide)
  exact hw
set_option maxHeartbeats 800000 in
theorem grow_calls (n : Nat) (h0 : 0 < n) (hn : n ≤ 1000000) (e w : World) (R : HProp) (hw : Holds e w [R]) :
    Calls Try.prog 45 #[.slice none 0 0, .int .i64 (n : Int)] w fun en w' => ∃ v, en = .returned v ∧ Holds e w' [R, IsInts v []] := by
  refine Sep.calls_post ?_
  intro Post_ hPost_
  have HP := Sep.hid hPost_
  clear hPost_
  go_enter Try.func45, Try.ntmps45
  go_wp2_with (first
    | (refine wpList_on rfl (wp_appendZeros (n := n) Try.underlying3 rfl rfl rfl rfl h0 hn (by decide) hw ?_); intro b_ G_ w_ hG1_ hG2_ hw_; clear hw; have hw := hw_; clear hw_; (try simp only [List.map_cons, List.map_nil, List.getD_cons_zero, List.getD_cons_succ, List.getD_nil, List.set_cons_zero, List.set_cons_succ, List.cons_append, List.nil_append, Act.eval, Array.getD_eq_getD_getElem?, List.getElem?_toArray, List.getElem?_cons_succ, List.getElem?_cons_zero, Option.getD_some, Value.cells] at hw); (try simp (disch := first | (simp; done) | (simp; omega)) only [Sep.mid_set, Sep.mid_set2, Sep.mid_set0, Sep.mid_splice, Sep.mid_splice0, List.set_cons_zero, List.set_cons_succ] at hw); (try simp only [Sep.splice, List.take_succ_cons, List.take_zero, List.drop_succ_cons, List.drop_zero, List.length_cons, List.length_nil, Nat.reduceAdd, List.cons_append, List.nil_append] at hw); (try replace hc0 := Sep.Holds.cells hw (i := 0) rfl); (try replace hc1 := Sep.Holds.cells hw (i := 1) rfl); (try replace hc2 := Sep.Holds.cells hw (i := 2) rfl); (try replace hc3 := Sep.Holds.cells hw (i := 3) rfl); (try replace hc4 := Sep.Holds.cells hw (i := 4) rfl); (try replace hc5 := Sep.Holds.cells hw (i := 5) rfl); (try replace hc6 := Sep.Holds.cells hw (i := 6) rfl))
    | (refine wpList_on rfl (wp_sliceTo (k := 0) rfl rfl rfl (Nat.zero_le _) ?_); (try simp only [Act.put, List.setIfInBounds_toArray, List.set_cons_zero, List.set_cons_succ])))
  exact HP.out _ _ ⟨_, rfl, hw⟩
end Go.Proofs.Ytlngkjgoacelfaa
