/-
  The walks of the document's own condition: Take.
-/
import Derived.Test.YtcefnihhlbeebaaCondR
namespace Go.Proofs.Ytcefnihhlbeebaa
set_option linter.unusedSimpArgs false
set_option linter.unusedVariables false
open Go.RowKit Go.Sep Go.RingM

theorem encT_drop (l : List Told) (k : Nat) : (encT l).drop (k * 2) = encT (l.drop k) := by
  induction k generalizing l with
  | zero => simp
  | succ k ih =>
    cases l with
    | nil => simp [encT]
    | cons x l =>
      have e1 : encT (x :: l) = encX x ++ encT l := by simp [encT]
      rw [List.drop_succ_cons, ← ih l, e1, show (k + 1) * 2 = 2 + k * 2 by omega, ← List.drop_drop]
      rfl
theorem readsT_take {w : World} {a : Option Addr} {l : List Told} (h : ReadsT w a l) (k : Nat) : ReadsT w a (l.take k) := by
  intro q x hx
  rw [List.getElem?_take] at hx
  split at hx
  · exact h q x hx
  · cases hx
theorem dropT {e w : World} {L : List HProp} {T i n k ca ca' : Nat} {a a' : Option Addr} {l : List Told} (hs : sliced a k n ca 2 = .slice a' (n - k) ca') (hk : k ≤ n) (hw : Holds e w L) (hi : L[i]? = some (Sl T 2 (.slice a n ca) n (encT l))) :
    Holds e w (L.set i (Sl T 2 (.slice a' (n - k) ca') (n - k) (encT (l.drop k)))) := by
  obtain ⟨a2, c2, h1, h2⟩ := hw.dropSl hi hk
  rw [hs] at h1
  cases h1
  rw [encT_drop] at h2
  exact h2
theorem readsT_drop {e w : World} {L : List HProp} {T i n k ca ca' : Nat} {a a' : Option Addr} {l : List Told} (hs : sliced a k n ca 2 = .slice a' (n - k) ca') (hk : k ≤ n) (hw : Holds e w L) (hi : L[i]? = some (Sl T 2 (.slice a n ca) n (encT l))) : ReadsT w a' (l.drop k) :=
  readsT (dropT hs hk hw hi) (List.getElem?_set_self (List.getElem?_eq_some_iff.1 hi).1)
theorem cap_le {e w : World} {L : List HProp} {T sz i n ca : Nat} {a : Option Addr} {cs : List Value} (hw : Holds e w L) (hi : L[i]? = some (Sl T sz (.slice a n ca) n cs)) : n ≤ ca := by
  rcases hw.openSl hi with ⟨h1, h2, _⟩ | ⟨b, cap, pre, post, hv, g1, _⟩
  · cases h1; omega
  · cases hv; exact g1
theorem run_sliceFromV {P : Program} {w : World} {o : Oper} {a : Go.Act} {t E : TypeId} {z v : Value} {sz kb : Nat} {x lo : Operand} [st : SlT P t E] [ti : TI P E z sz kb] {n l cap : Nat} {ao : Option Addr}
    (hs : sliced ao l n cap sz = v) (ho : o.op = .slice t x (some lo) none none) (hx : a.eval x = .slice ao n cap) (hlo : a.eval lo = .int .i64 (l : Int)) (hl : l ≤ n) :
    (execOp a.eval o).run P w = .ok (.value v) w := by
  subst hs; exact run_sliceFrom ho hx hlo hl
set_option maxHeartbeats 1600000 in
theorem fTake (r m k : Nat) (M : CM) (hk : k = min M.w.length m) (hL : M.w.length ≤ 100000) (e w : World) (X : HProp) (hw : Holds e w [X, IsRef r M]) :
    Calls Try.prog 11 #[.pointer (some ⟨r, 0, none⟩), .int .i64 (m : Int)] w fun en w' => ∃ a ca a' ca', en = .returned (.slice a k ca) ∧ sliced a k M.w.length ca 2 = .slice a' (M.w.length - k) ca' ∧
      Holds e w' [X, pt r [.slice a' (M.w.length - k) ca', .int .i64 (M.n : Int)] 47, Sl 40 2 (.slice a M.w.length ca) M.w.length (encT M.w)] := by
  obtain ⟨⟨v⟩, hw⟩ := exL.open_ hw
  have hw := hw.open_ 1 rfl
  (try simp only [List.map_cons, List.map_nil, List.getD_cons_zero, List.getD_cons_succ, List.getD_nil, List.set_cons_zero, List.set_cons_succ, List.cons_append, List.nil_append, Act.eval, Array.getD_eq_getD_getElem?, List.getElem?_toArray, List.getElem?_cons_succ, List.getElem?_cons_zero, Option.getD_some, Value.cells] at hw); (try simp (disch := first | (simp; done) | (simp; omega)) only [Sep.mid_set, Sep.mid_set2, Sep.mid_set0, Sep.mid_splice, Sep.mid_splice0, List.set_cons_zero, List.set_cons_succ] at hw); (try simp only [Sep.splice, List.take_succ_cons, List.take_zero, List.drop_succ_cons, List.drop_zero, List.length_cons, List.length_nil, Nat.reduceAdd, List.cons_append, List.nil_append] at hw)
  have hw : Holds e w [X, pt r [v, .int .i64 (M.n : Int)] 47, Sl 40 2 v M.w.length (encT M.w)] := hw
  generalize hn' : M.w.length = n' at *
  clear hn'
  obtain ⟨a, ca, rfl⟩ := Sl.value (i := 2) rfl hw
  by_cases hgt : m < n'
  · obtain rfl : k = m := by omega
    clear hk
    obtain ⟨a', ca', hs, _⟩ := hw.dropSl (i := 2) (l := k) rfl (by omega)
    have Hs := Sep.hid hs
    have Hcap : Hid (k ≤ ca) := Sep.hid (by have := cap_le (i := 2) hw rfl; omega)
    have Hkn : Hid (k ≤ n') := Sep.hid (by omega)
    clear hs
    (try replace hc0 := Sep.Holds.cells hw (i := 0) rfl); (try replace hc1 := Sep.Holds.cells hw (i := 1) rfl); (try replace hc2 := Sep.Holds.cells hw (i := 2) rfl); (try replace hc3 := Sep.Holds.cells hw (i := 3) rfl); (try replace hc4 := Sep.Holds.cells hw (i := 4) rfl); (try replace hc5 := Sep.Holds.cells hw (i := 5) rfl); (try replace hc6 := Sep.Holds.cells hw (i := 6) rfl)
    refine Sep.calls_post ?_
    intro Post_ hPost_
    have HP := Sep.hid hPost_
    clear hPost_
    go_enter Try.func11, Try.ntmps11
    go_wp2_with (first
      | (refine wpList_on rfl (wp_of_run (run_sliceTo (n := n') (k := k) rfl rfl rfl Hcap.out) ?_); (try simp only [Act.put, List.setIfInBounds_toArray, List.set_cons_zero, List.set_cons_succ]))
      | (refine wpList_on rfl (wp_of_run (run_sliceFromV (n := n') (l := k) Hs.out rfl rfl rfl Hkn.out) ?_); (try simp only [Act.put, List.setIfInBounds_toArray, List.set_cons_zero, List.set_cons_succ]))
      | (refine wpList_on rfl (wp_store1 (v := _) rfl rfl rfl hw (i := 1) rfl (by simp [Sep.mid_length, Act.eval, Value.cells]; try omega) rfl ?_); intro w_ hw_; clear hw; have hw := hw_; clear hw_; (try simp only [List.map_cons, List.map_nil, List.getD_cons_zero, List.getD_cons_succ, List.getD_nil, List.set_cons_zero, List.set_cons_succ, List.cons_append, List.nil_append, Act.eval, Array.getD_eq_getD_getElem?, List.getElem?_toArray, List.getElem?_cons_succ, List.getElem?_cons_zero, Option.getD_some, Value.cells] at hw); (try simp (disch := first | (simp; done) | (simp; omega)) only [Sep.mid_set, Sep.mid_set2, Sep.mid_set0, Sep.mid_splice, Sep.mid_splice0, List.set_cons_zero, List.set_cons_succ] at hw); (try simp only [Sep.splice, List.take_succ_cons, List.take_zero, List.drop_succ_cons, List.drop_zero, List.length_cons, List.length_nil, Nat.reduceAdd, List.cons_append, List.nil_append] at hw); (try replace hc0 := Sep.Holds.cells hw (i := 0) rfl); (try replace hc1 := Sep.Holds.cells hw (i := 1) rfl); (try replace hc2 := Sep.Holds.cells hw (i := 2) rfl); (try replace hc3 := Sep.Holds.cells hw (i := 3) rfl); (try replace hc4 := Sep.Holds.cells hw (i := 4) rfl); (try replace hc5 := Sep.Holds.cells hw (i := 5) rfl); (try replace hc6 := Sep.Holds.cells hw (i := 6) rfl)))
    exact HP.out _ _ ⟨a, ca, a', ca', rfl, Hs.out, hw⟩
  · obtain rfl : k = n' := by omega
    clear hk
    obtain ⟨a', ca', hs, _⟩ := hw.dropSl (i := 2) (l := k) rfl (by omega)
    have Hs := Sep.hid hs
    have Hcap : Hid (k ≤ ca) := Sep.hid (by have := cap_le (i := 2) hw rfl; omega)
    have Hkn : Hid (k ≤ k) := Sep.hid (by omega)
    clear hs
    (try replace hc0 := Sep.Holds.cells hw (i := 0) rfl); (try replace hc1 := Sep.Holds.cells hw (i := 1) rfl); (try replace hc2 := Sep.Holds.cells hw (i := 2) rfl); (try replace hc3 := Sep.Holds.cells hw (i := 3) rfl); (try replace hc4 := Sep.Holds.cells hw (i := 4) rfl); (try replace hc5 := Sep.Holds.cells hw (i := 5) rfl); (try replace hc6 := Sep.Holds.cells hw (i := 6) rfl)
    refine Sep.calls_post ?_
    intro Post_ hPost_
    have HP := Sep.hid hPost_
    clear hPost_
    go_enter Try.func11, Try.ntmps11
    go_wp2_with (first
      | (refine wpList_on rfl (wp_of_run (run_sliceTo (n := k) (k := k) rfl rfl rfl Hcap.out) ?_); (try simp only [Act.put, List.setIfInBounds_toArray, List.set_cons_zero, List.set_cons_succ]))
      | (refine wpList_on rfl (wp_of_run (run_sliceFromV (n := k) (l := k) Hs.out rfl rfl rfl Hkn.out) ?_); (try simp only [Act.put, List.setIfInBounds_toArray, List.set_cons_zero, List.set_cons_succ]))
      | (refine wpList_on rfl (wp_store1 (v := _) rfl rfl rfl hw (i := 1) rfl (by simp [Sep.mid_length, Act.eval, Value.cells]; try omega) rfl ?_); intro w_ hw_; clear hw; have hw := hw_; clear hw_; (try simp only [List.map_cons, List.map_nil, List.getD_cons_zero, List.getD_cons_succ, List.getD_nil, List.set_cons_zero, List.set_cons_succ, List.cons_append, List.nil_append, Act.eval, Array.getD_eq_getD_getElem?, List.getElem?_toArray, List.getElem?_cons_succ, List.getElem?_cons_zero, Option.getD_some, Value.cells] at hw); (try simp (disch := first | (simp; done) | (simp; omega)) only [Sep.mid_set, Sep.mid_set2, Sep.mid_set0, Sep.mid_splice, Sep.mid_splice0, List.set_cons_zero, List.set_cons_succ] at hw); (try simp only [Sep.splice, List.take_succ_cons, List.take_zero, List.drop_succ_cons, List.drop_zero, List.length_cons, List.length_nil, Nat.reduceAdd, List.cons_append, List.nil_append] at hw); (try replace hc0 := Sep.Holds.cells hw (i := 0) rfl); (try replace hc1 := Sep.Holds.cells hw (i := 1) rfl); (try replace hc2 := Sep.Holds.cells hw (i := 2) rfl); (try replace hc3 := Sep.Holds.cells hw (i := 3) rfl); (try replace hc4 := Sep.Holds.cells hw (i := 4) rfl); (try replace hc5 := Sep.Holds.cells hw (i := 5) rfl); (try replace hc6 := Sep.Holds.cells hw (i := 6) rfl)))
    exact HP.out _ _ ⟨a, ca, a', ca', rfl, Hs.out, hw⟩
end Go.Proofs.Ytcefnihhlbeebaa
