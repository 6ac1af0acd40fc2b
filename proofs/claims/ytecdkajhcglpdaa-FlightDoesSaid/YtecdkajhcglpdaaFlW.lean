/-
  The walks of the methods of a flight.
-/
import Derived.Test.YtecdkajhcglpdaaFlM
import Derived.Test.YtecdkajhcglpdaaRowsW
import Derived.Test.YtecdkajhcglpdaaIntsR8
import Derived.Test.YtecdkajhcglpdaaSepRet
import Derived.Test.YtecdkajhcglpdaaSepEntry
import Derived.Test.YtecdkajhcglpdaaRegionS
namespace Go.Proofs.Ytecdkajhcglpdaa
set_option linter.unusedSimpArgs false
set_option linter.unusedVariables false
open Go.RowKit Go.Sep Go.RingM

structure FAt where
  r : Nat
  m1 : Nat
  m2 : Nat
def flParts (p : Nat) (M : FM) (a : FAt) : List HProp := [pt p [.pointer (some ⟨a.r, 0, none⟩), .map (some a.m1), .map (some a.m2)] 66, IsRows a.r M.n M.rows, IsMap a.m1 .i64 (encF M.calls), IsMap a.m2 .i64 (encF M.keys), fct M.Ok]
def IsFlight (p : Nat) (M : FM) : HProp := exL (flParts p M)
theorem fl_ok {p i : Nat} {M : FM} {e w : World} {L : List HProp} (hi : L[i]? = some (IsFlight p M)) (hw : Holds e w L) : RowsOk M.n M.rows ∧ M.Ok := by
  have hw := hw.focus1 i hi
  obtain ⟨⟨r, m1, m2⟩, hw⟩ := exL.open_ hw
  have hw := hw.open_ 1 rfl
  (try simp only [List.map_cons, List.map_nil, List.getD_cons_zero, List.getD_cons_succ, List.getD_nil, List.set_cons_zero, List.set_cons_succ, List.cons_append, List.nil_append, Act.eval, Array.getD_eq_getD_getElem?, List.getElem?_toArray, List.getElem?_cons_succ, List.getElem?_cons_zero, Option.getD_some, Value.cells] at hw); (try simp (disch := first | (simp; done) | (simp; omega)) only [Sep.mid_set, Sep.mid_set2, Sep.mid_set0, Sep.mid_splice, Sep.mid_splice0, List.set_cons_zero, List.set_cons_succ] at hw); (try simp only [Sep.splice, List.take_succ_cons, List.take_zero, List.drop_succ_cons, List.drop_zero, List.length_cons, List.length_nil, Nat.reduceAdd, List.cons_append, List.nil_append] at hw)
  exact ⟨Holds.rowsOk (i := 2) rfl hw, Holds.fct (i := 5) rfl hw⟩
theorem drop_step {n t k : Nat} {rows : List (List Int)} {l : List Int} {x : Int} (h : RowsOk n rows) (hl : rows[t]? = some l) (hx : l[k]? = some x) : dropR (rows.set t (l.drop k)) x = rows.set t (l.drop (k + 1)) := by
  obtain ⟨hk, hx2⟩ := List.getElem?_eq_some_iff.1 hx
  have hd : l.drop k = x :: l.drop (k + 1) := by rw [List.drop_eq_getElem_cons hk, hx2]
  have hnd : x ∉ l.drop (k + 1) := by
    have h1 := h.nodup l (List.mem_of_getElem? hl)
    rw [← List.take_append_drop k l, hd] at h1
    exact (List.nodup_cons.1 (List.nodup_append.1 h1).2.1).1
  unfold dropR
  apply List.ext_getElem?
  intro q
  rw [List.getElem?_map, List.getElem?_set, List.getElem?_set]
  by_cases hq : t = q
  · subst hq
    have ht := (List.getElem?_eq_some_iff.1 hl).1
    rw [if_pos rfl, if_pos rfl, if_pos ht, if_pos ht]
    show some (without (l.drop k) x) = _
    have h0 : without (l.drop k) x = without (l.drop (k + 1)) x := by rw [hd]; simp [without]
    rw [h0, without_none hnd]
  · rw [if_neg hq, if_neg hq]
    cases hg : rows[q]? with
    | none => rfl
    | some m =>
      show some (without m x) = some m
      rw [without_none (fun hm => hq (h.apart t q l m x hl hg (List.mem_of_getElem? hx) hm))]
set_option maxHeartbeats 800000 in
theorem oNew_ok (n : Nat) (n1 : 1 ≤ n) (n2 : n ≤ 1000) (e w : World) (X : HProp) (hw : Holds e w [X]) :
    Calls Try.prog 7 #[.int .i64 (n : Int)] w fun en w' => ∃ p, en = .returned (.tuple #[.pointer (some ⟨p, 0, none⟩), .int .i64 0]) ∧ Holds e w' [X, IsFlight p ⟨n, List.replicate n [], fun _ => none, fun _ => none⟩] := by
  refine Sep.calls_post ?_
  intro Post_ hPost_
  have HP := Sep.hid hPost_
  clear hPost_
  go_enter Try.func7, Try.ntmps7
  go_wp2_with fail
  refine (wNew n n n1 n2 n1 n2 e _ _ hw).mono ?_
  rintro en_ w_ ⟨r, rfl, hw_⟩
  clear hw; have hw := hw_; clear hw_
  go_wp2_with (first | (refine wpList_on rfl (wp_box rfl hw ?_); intro b_ w_ hw_; clear hw; have hw := hw_; clear hw_; (try simp only [List.map_cons, List.map_nil, List.getD_cons_zero, List.getD_cons_succ, List.getD_nil, List.set_cons_zero, List.set_cons_succ, List.cons_append, List.nil_append, Act.eval, Array.getD_eq_getD_getElem?, List.getElem?_toArray, List.getElem?_cons_succ, List.getElem?_cons_zero, Option.getD_some, Value.cells] at hw); (try simp (disch := first | (simp; done) | (simp; omega)) only [Sep.mid_set, Sep.mid_set2, Sep.mid_set0, Sep.mid_splice, Sep.mid_splice0, List.set_cons_zero, List.set_cons_succ] at hw); (try simp only [Sep.splice, List.take_succ_cons, List.take_zero, List.drop_succ_cons, List.drop_zero, List.length_cons, List.length_nil, Nat.reduceAdd, List.cons_append, List.nil_append] at hw); (try replace hc0 := Sep.Holds.cells hw (i := 0) rfl); (try replace hc1 := Sep.Holds.cells hw (i := 1) rfl); (try replace hc2 := Sep.Holds.cells hw (i := 2) rfl); (try replace hc3 := Sep.Holds.cells hw (i := 3) rfl); (try replace hc4 := Sep.Holds.cells hw (i := 4) rfl); (try replace hc5 := Sep.Holds.cells hw (i := 5) rfl); (try replace hc6 := Sep.Holds.cells hw (i := 6) rfl)) | (refine wpList_on rfl (wp_newMap rfl hw ?_); intro m_ w_ hw_; clear hw; have hw := hw_; clear hw_; (try simp only [List.map_cons, List.map_nil, List.getD_cons_zero, List.getD_cons_succ, List.getD_nil, List.set_cons_zero, List.set_cons_succ, List.cons_append, List.nil_append, Act.eval, Array.getD_eq_getD_getElem?, List.getElem?_toArray, List.getElem?_cons_succ, List.getElem?_cons_zero, Option.getD_some, Value.cells] at hw); (try simp (disch := first | (simp; done) | (simp; omega)) only [Sep.mid_set, Sep.mid_set2, Sep.mid_set0, Sep.mid_splice, Sep.mid_splice0, List.set_cons_zero, List.set_cons_succ] at hw); (try simp only [Sep.splice, List.take_succ_cons, List.take_zero, List.drop_succ_cons, List.drop_zero, List.length_cons, List.length_nil, Nat.reduceAdd, List.cons_append, List.nil_append] at hw); (try replace hc0 := Sep.Holds.cells hw (i := 0) rfl); (try replace hc1 := Sep.Holds.cells hw (i := 1) rfl); (try replace hc2 := Sep.Holds.cells hw (i := 2) rfl); (try replace hc3 := Sep.Holds.cells hw (i := 3) rfl); (try replace hc4 := Sep.Holds.cells hw (i := 4) rfl); (try replace hc5 := Sep.Holds.cells hw (i := 5) rfl); (try replace hc6 := Sep.Holds.cells hw (i := 6) rfl)))
  refine HP.out _ _ ⟨_, rfl, ?_⟩
  exact exL.mk (f := flParts _ ⟨n, List.replicate n [], fun _ => none, fun _ => none⟩) ⟨r, _, _⟩ ((hw.addFct (FM.ok_new n)).sel [0, 4, 1, 2, 3, 5] (by decide))
set_option maxHeartbeats 800000 in
theorem oNew_no (n : Int) (h : n < 1 ∨ 1000 < n) (w : World) :
    Calls Try.prog 7 #[.int .i64 n] w fun en w' => en = .returned (.tuple #[.pointer none, .int .i64 1]) ∧ w' = w := by
  have H := Sep.hid h; clear h
  refine Sep.calls_post ?_
  intro Post_ hPost_
  have HP := Sep.hid hPost_
  clear hPost_
  go_enter Try.func7, Try.ntmps7
  go_wp2_with fail
  refine (rNew_no n n (by have := H.out; omega) _).mono ?_
  rintro en_ w_ ⟨rfl, rfl⟩
  go_wp2_with fail
  exact HP.out _ _ ⟨rfl, rfl⟩
set_option maxHeartbeats 800000 in
theorem oThere (p : Nat) (M : FM) (t : Int) (e w : World) (X : HProp) (hw : Holds e w [X, IsFlight p M]) :
    Calls Try.prog 31 #[.pointer (some ⟨p, 0, none⟩), .int .i64 t] w fun en w' => en = .returned (.bool (decide (0 ≤ t ∧ t < M.n))) ∧ w' = w := by
  obtain ⟨⟨r, m1, m2⟩, hw⟩ := exL.open_ hw
  have hw := hw.open_ 1 rfl
  (try simp only [List.map_cons, List.map_nil, List.getD_cons_zero, List.getD_cons_succ, List.getD_nil, List.set_cons_zero, List.set_cons_succ, List.cons_append, List.nil_append, Act.eval, Array.getD_eq_getD_getElem?, List.getElem?_toArray, List.getElem?_cons_succ, List.getElem?_cons_zero, Option.getD_some, Value.cells] at hw); (try simp (disch := first | (simp; done) | (simp; omega)) only [Sep.mid_set, Sep.mid_set2, Sep.mid_set0, Sep.mid_splice, Sep.mid_splice0, List.set_cons_zero, List.set_cons_succ] at hw); (try simp only [Sep.splice, List.take_succ_cons, List.take_zero, List.drop_succ_cons, List.drop_zero, List.length_cons, List.length_nil, Nat.reduceAdd, List.cons_append, List.nil_append] at hw)
  (try replace hc0 := Sep.Holds.cells hw (i := 0) rfl); (try replace hc1 := Sep.Holds.cells hw (i := 1) rfl); (try replace hc2 := Sep.Holds.cells hw (i := 2) rfl); (try replace hc3 := Sep.Holds.cells hw (i := 3) rfl); (try replace hc4 := Sep.Holds.cells hw (i := 4) rfl); (try replace hc5 := Sep.Holds.cells hw (i := 5) rfl); (try replace hc6 := Sep.Holds.cells hw (i := 6) rfl)
  by_cases h0 : 0 ≤ t
  · have hd : Hid (decide (t < (M.n : Int)) = decide (0 ≤ t ∧ t < M.n)) := Sep.hid (by simp [h0])
    refine Sep.calls_post ?_
    intro Post_ hPost_
    have HP := Sep.hid hPost_
    clear hPost_
    go_enter Try.func31, Try.ntmps31
    go_wp2_with fail
    refine (wNodes r M.n M.rows e _ _ (hw.focus1 2 rfl)).mono ?_
    rintro _ w_ ⟨rfl, rfl⟩
    go_wp2_with fail
    refine HP.out _ _ ⟨?_, rfl⟩
    rw [← hd.out]; rfl
  · have hd : Hid (decide (0 ≤ t ∧ t < M.n) = false) := Sep.hid (by simp [h0])
    refine Sep.calls_post ?_
    intro Post_ hPost_
    have HP := Sep.hid hPost_
    clear hPost_
    go_enter Try.func31, Try.ntmps31
    go_wp2_with fail
    refine HP.out _ _ ⟨?_, rfl⟩
    rw [hd.out]
set_option maxHeartbeats 800000 in
theorem cLeader (p r m1 m2 : Nat) (f : Int → Option Int) (key : Int) (e w : World) (X : HProp) (hw : Holds e w [X, pt p [.pointer (some ⟨r, 0, none⟩), .map (some m1), .map (some m2)] 66, IsMap m1 .i64 (encF f)]) :
    Calls Try.prog 16 #[.pointer (some ⟨p, 0, none⟩), .int .i64 key] w fun en w' => en = .returned (.int .i64 ((f key).getD (-1))) ∧ w' = w := by
  (try replace hc0 := Sep.Holds.cells hw (i := 0) rfl); (try replace hc1 := Sep.Holds.cells hw (i := 1) rfl); (try replace hc2 := Sep.Holds.cells hw (i := 2) rfl); (try replace hc3 := Sep.Holds.cells hw (i := 3) rfl); (try replace hc4 := Sep.Holds.cells hw (i := 4) rfl); (try replace hc5 := Sep.Holds.cells hw (i := 5) rfl); (try replace hc6 := Sep.Holds.cells hw (i := 6) rfl)
  cases hc : f key with
  | some u =>
    have H1 : Hid ((f key).getD 0 = u) := Sep.hid (by rw [hc]; rfl)
    have H2 : Hid ((f key).isSome = true) := Sep.hid (by rw [hc]; rfl)
    clear hc
    refine Sep.calls_post ?_
    intro Post_ hPost_
    have HP := Sep.hid hPost_
    clear hPost_
    go_enter Try.func16, Try.ntmps16
    go_wp2_with (refine wpList_on rfl (wp_lookOkV (i := 2) rfl rfl rfl hw rfl H1.out H2.out ?_))
    exact HP.out _ _ ⟨rfl, rfl⟩
  | none =>
    have H1 : Hid ((f key).getD 0 = 0) := Sep.hid (by rw [hc]; rfl)
    have H2 : Hid ((f key).isSome = false) := Sep.hid (by rw [hc]; rfl)
    clear hc
    refine Sep.calls_post ?_
    intro Post_ hPost_
    have HP := Sep.hid hPost_
    clear hPost_
    go_enter Try.func16, Try.ntmps16
    go_wp2_with (refine wpList_on rfl (wp_lookOkV (i := 2) rfl rfl rfl hw rfl H1.out H2.out ?_))
    exact HP.out _ _ ⟨rfl, rfl⟩
theorem oLeader (p : Nat) (M : FM) (key : Int) (e w : World) (X : HProp) (hw : Holds e w [X, IsFlight p M]) :
    Calls Try.prog 16 #[.pointer (some ⟨p, 0, none⟩), .int .i64 key] w fun en w' => en = .returned (.int .i64 (M.leader key)) ∧ w' = w := by
  obtain ⟨⟨r, m1, m2⟩, hw⟩ := exL.open_ hw
  have hw := hw.open_ 1 rfl
  (try simp only [List.map_cons, List.map_nil, List.getD_cons_zero, List.getD_cons_succ, List.getD_nil, List.set_cons_zero, List.set_cons_succ, List.cons_append, List.nil_append, Act.eval, Array.getD_eq_getD_getElem?, List.getElem?_toArray, List.getElem?_cons_succ, List.getElem?_cons_zero, Option.getD_some, Value.cells] at hw); (try simp (disch := first | (simp; done) | (simp; omega)) only [Sep.mid_set, Sep.mid_set2, Sep.mid_set0, Sep.mid_splice, Sep.mid_splice0, List.set_cons_zero, List.set_cons_succ] at hw); (try simp only [Sep.splice, List.take_succ_cons, List.take_zero, List.drop_succ_cons, List.drop_zero, List.length_cons, List.length_nil, Nat.reduceAdd, List.cons_append, List.nil_append] at hw)
  exact cLeader p r m1 m2 M.calls key e w _ (hw.focus2 1 3 rfl rfl (by decide))
set_option maxHeartbeats 800000 in
theorem oLeads (p : Nat) (M : FM) (t : Int) (e w : World) (X : HProp) (hw : Holds e w [X, IsFlight p M]) :
    Calls Try.prog 17 #[.pointer (some ⟨p, 0, none⟩), .int .i64 t] w fun en w' => en = .returned (.tuple #[.int .i64 ((M.keys t).getD 0), .bool (M.keys t).isSome]) ∧ w' = w := by
  obtain ⟨⟨r, m1, m2⟩, hw⟩ := exL.open_ hw
  have hw := hw.open_ 1 rfl
  (try simp only [List.map_cons, List.map_nil, List.getD_cons_zero, List.getD_cons_succ, List.getD_nil, List.set_cons_zero, List.set_cons_succ, List.cons_append, List.nil_append, Act.eval, Array.getD_eq_getD_getElem?, List.getElem?_toArray, List.getElem?_cons_succ, List.getElem?_cons_zero, Option.getD_some, Value.cells] at hw); (try simp (disch := first | (simp; done) | (simp; omega)) only [Sep.mid_set, Sep.mid_set2, Sep.mid_set0, Sep.mid_splice, Sep.mid_splice0, List.set_cons_zero, List.set_cons_succ] at hw); (try simp only [Sep.splice, List.take_succ_cons, List.take_zero, List.drop_succ_cons, List.drop_zero, List.length_cons, List.length_nil, Nat.reduceAdd, List.cons_append, List.nil_append] at hw)
  (try replace hc0 := Sep.Holds.cells hw (i := 0) rfl); (try replace hc1 := Sep.Holds.cells hw (i := 1) rfl); (try replace hc2 := Sep.Holds.cells hw (i := 2) rfl); (try replace hc3 := Sep.Holds.cells hw (i := 3) rfl); (try replace hc4 := Sep.Holds.cells hw (i := 4) rfl); (try replace hc5 := Sep.Holds.cells hw (i := 5) rfl); (try replace hc6 := Sep.Holds.cells hw (i := 6) rfl)
  refine Sep.calls_post ?_
  intro Post_ hPost_
  have HP := Sep.hid hPost_
  clear hPost_
  go_enter Try.func17, Try.ntmps17
  go_wp2_with (refine wpList_on rfl (wp_lookOk (i := 4) rfl rfl rfl hw rfl ?_))
  exact HP.out _ _ ⟨rfl, rfl⟩
set_option maxHeartbeats 800000 in
theorem oJoins (p : Nat) (M : FM) (t : Int) (e w : World) (X : HProp) (hw : Holds e w [X, IsFlight p M]) :
    Calls Try.prog 19 #[.pointer (some ⟨p, 0, none⟩), .int .i64 t] w fun en w' => en = .returned (.int .i64 (rowOf M.rows t)) ∧ w' = w := by
  obtain ⟨⟨r, m1, m2⟩, hw⟩ := exL.open_ hw
  have hw := hw.open_ 1 rfl
  (try simp only [List.map_cons, List.map_nil, List.getD_cons_zero, List.getD_cons_succ, List.getD_nil, List.set_cons_zero, List.set_cons_succ, List.cons_append, List.nil_append, Act.eval, Array.getD_eq_getD_getElem?, List.getElem?_toArray, List.getElem?_cons_succ, List.getElem?_cons_zero, Option.getD_some, Value.cells] at hw); (try simp (disch := first | (simp; done) | (simp; omega)) only [Sep.mid_set, Sep.mid_set2, Sep.mid_set0, Sep.mid_splice, Sep.mid_splice0, List.set_cons_zero, List.set_cons_succ] at hw); (try simp only [Sep.splice, List.take_succ_cons, List.take_zero, List.drop_succ_cons, List.drop_zero, List.length_cons, List.length_nil, Nat.reduceAdd, List.cons_append, List.nil_append] at hw)
  (try replace hc0 := Sep.Holds.cells hw (i := 0) rfl); (try replace hc1 := Sep.Holds.cells hw (i := 1) rfl); (try replace hc2 := Sep.Holds.cells hw (i := 2) rfl); (try replace hc3 := Sep.Holds.cells hw (i := 3) rfl); (try replace hc4 := Sep.Holds.cells hw (i := 4) rfl); (try replace hc5 := Sep.Holds.cells hw (i := 5) rfl); (try replace hc6 := Sep.Holds.cells hw (i := 6) rfl)
  refine Sep.calls_post ?_
  intro Post_ hPost_
  have HP := Sep.hid hPost_
  clear hPost_
  go_enter Try.func19, Try.ntmps19
  go_wp2_with fail
  refine (wIn r M.n M.rows t e _ _ (hw.focus1 2 rfl)).mono ?_
  rintro _ w_ ⟨rfl, rfl⟩
  go_wp2_with fail
  exact HP.out _ _ ⟨rfl, rfl⟩
set_option maxHeartbeats 800000 in
theorem cJoined (p r m1 m2 n : Nat) (rows : List (List Int)) (t : Int) (e w : World) (X : HProp) (hw : Holds e w [X, pt p [.pointer (some ⟨r, 0, none⟩), .map (some m1), .map (some m2)] 66, IsRows r n rows]) :
    Calls Try.prog 21 #[.pointer (some ⟨p, 0, none⟩), .int .i64 t] w fun en w' => ∃ v, en = .returned v ∧ Holds e w' [X, pt p [.pointer (some ⟨r, 0, none⟩), .map (some m1), .map (some m2)] 66, IsRows r n rows, IsInts v (if 0 ≤ t then rows.getD t.toNat [] else [])] := by
  (try replace hc0 := Sep.Holds.cells hw (i := 0) rfl); (try replace hc1 := Sep.Holds.cells hw (i := 1) rfl); (try replace hc2 := Sep.Holds.cells hw (i := 2) rfl); (try replace hc3 := Sep.Holds.cells hw (i := 3) rfl); (try replace hc4 := Sep.Holds.cells hw (i := 4) rfl); (try replace hc5 := Sep.Holds.cells hw (i := 5) rfl); (try replace hc6 := Sep.Holds.cells hw (i := 6) rfl)
  refine Sep.calls_post ?_
  intro Post_ hPost_
  have HP := Sep.hid hPost_
  clear hPost_
  go_enter Try.func21, Try.ntmps21
  go_wp2_with fail
  refine (wList r n rows t e _ _ (hw.focus1 2 rfl)).mono ?_
  rintro _ w_ ⟨v, rfl, hw_⟩
  clear hw; (try clear hc0); (try clear hc1); (try clear hc2); (try clear hc3); (try clear hc4); (try clear hc5); (try clear hc6); have hw := Holds.unfocus1 2 (by simp) hw_; clear hw_
  (try simp only [List.map_cons, List.map_nil, List.getD_cons_zero, List.getD_cons_succ, List.getD_nil, List.set_cons_zero, List.set_cons_succ, List.cons_append, List.nil_append, Act.eval, Array.getD_eq_getD_getElem?, List.getElem?_toArray, List.getElem?_cons_succ, List.getElem?_cons_zero, Option.getD_some, Value.cells] at hw); (try simp (disch := first | (simp; done) | (simp; omega)) only [Sep.mid_set, Sep.mid_set2, Sep.mid_set0, Sep.mid_splice, Sep.mid_splice0, List.set_cons_zero, List.set_cons_succ] at hw); (try simp only [Sep.splice, List.take_succ_cons, List.take_zero, List.drop_succ_cons, List.drop_zero, List.length_cons, List.length_nil, Nat.reduceAdd, List.cons_append, List.nil_append] at hw)
  go_wp2_with fail
  exact HP.out _ _ ⟨v, rfl, hw⟩
theorem oJoined (p : Nat) (M : FM) (t : Int) (e w : World) (X : HProp) (hw : Holds e w [X, IsFlight p M]) :
    Calls Try.prog 21 #[.pointer (some ⟨p, 0, none⟩), .int .i64 t] w fun en w' => ∃ v, en = .returned v ∧ Holds e w' [X, IsFlight p M, IsInts v (M.row t)] := by
  have Hok := Sep.hid (fl_ok (i := 1) rfl hw).2
  obtain ⟨⟨r, m1, m2⟩, hw⟩ := exL.open_ hw
  have hw := hw.open_ 1 rfl
  (try simp only [List.map_cons, List.map_nil, List.getD_cons_zero, List.getD_cons_succ, List.getD_nil, List.set_cons_zero, List.set_cons_succ, List.cons_append, List.nil_append, Act.eval, Array.getD_eq_getD_getElem?, List.getElem?_toArray, List.getElem?_cons_succ, List.getElem?_cons_zero, Option.getD_some, Value.cells] at hw); (try simp (disch := first | (simp; done) | (simp; omega)) only [Sep.mid_set, Sep.mid_set2, Sep.mid_set0, Sep.mid_splice, Sep.mid_splice0, List.set_cons_zero, List.set_cons_succ] at hw); (try simp only [Sep.splice, List.take_succ_cons, List.take_zero, List.drop_succ_cons, List.drop_zero, List.length_cons, List.length_nil, Nat.reduceAdd, List.cons_append, List.nil_append] at hw)
  refine (cJoined p r m1 m2 M.n M.rows t e w _ (hw.focus2 1 2 rfl rfl (by decide))).mono ?_
  rintro en w_ ⟨v, rfl, hw_⟩
  refine ⟨v, rfl, ?_⟩
  clear hw; have hw := Holds.unfocus2 1 2 (by simp) (by simp) (by decide) hw_; clear hw_
  (try simp only [List.map_cons, List.map_nil, List.getD_cons_zero, List.getD_cons_succ, List.getD_nil, List.set_cons_zero, List.set_cons_succ, List.cons_append, List.nil_append, Act.eval, Array.getD_eq_getD_getElem?, List.getElem?_toArray, List.getElem?_cons_succ, List.getElem?_cons_zero, Option.getD_some, Value.cells] at hw); (try simp (disch := first | (simp; done) | (simp; omega)) only [Sep.mid_set, Sep.mid_set2, Sep.mid_set0, Sep.mid_splice, Sep.mid_splice0, List.set_cons_zero, List.set_cons_succ] at hw); (try simp only [Sep.splice, List.take_succ_cons, List.take_zero, List.drop_succ_cons, List.drop_zero, List.length_cons, List.length_nil, Nat.reduceAdd, List.cons_append, List.nil_append] at hw)
  have h : Holds e _ [X, IsInts v (M.row t), _, _, _, _, _] := (hw.sel [0, 6, 1, 2, 3, 4] (by decide)).addFct Hok.out
  have h := Holds.group [X, IsInts v (M.row t)] _ h
  have h2 := exL.mk (f := flParts p M) ⟨r, m1, m2⟩ h
  exact (Holds.ungroup [X, IsInts v (M.row t)] [_] h2).sel [0, 2, 1] (by decide)
set_option maxHeartbeats 800000 in
theorem oForget (p : Nat) (M : FM) (key : Int) (e w : World) (X : HProp) (hw : Holds e w [X, IsFlight p M]) :
    Calls Try.prog 25 #[.pointer (some ⟨p, 0, none⟩), .int .i64 key] w fun en w' => en = .returned (.bool (M.forget key).1) ∧ Holds e w' [X, IsFlight p (M.forget key).2] := by
  have Hok := Sep.hid ((fl_ok (i := 1) rfl hw).2.forget key)
  obtain ⟨⟨r, m1, m2⟩, hw⟩ := exL.open_ hw
  have hw := hw.open_ 1 rfl
  (try simp only [List.map_cons, List.map_nil, List.getD_cons_zero, List.getD_cons_succ, List.getD_nil, List.set_cons_zero, List.set_cons_succ, List.cons_append, List.nil_append, Act.eval, Array.getD_eq_getD_getElem?, List.getElem?_toArray, List.getElem?_cons_succ, List.getElem?_cons_zero, Option.getD_some, Value.cells] at hw); (try simp (disch := first | (simp; done) | (simp; omega)) only [Sep.mid_set, Sep.mid_set2, Sep.mid_set0, Sep.mid_splice, Sep.mid_splice0, List.set_cons_zero, List.set_cons_succ] at hw); (try simp only [Sep.splice, List.take_succ_cons, List.take_zero, List.drop_succ_cons, List.drop_zero, List.length_cons, List.length_nil, Nat.reduceAdd, List.cons_append, List.nil_append] at hw)
  (try replace hc0 := Sep.Holds.cells hw (i := 0) rfl); (try replace hc1 := Sep.Holds.cells hw (i := 1) rfl); (try replace hc2 := Sep.Holds.cells hw (i := 2) rfl); (try replace hc3 := Sep.Holds.cells hw (i := 3) rfl); (try replace hc4 := Sep.Holds.cells hw (i := 4) rfl); (try replace hc5 := Sep.Holds.cells hw (i := 5) rfl); (try replace hc6 := Sep.Holds.cells hw (i := 6) rfl)
  refine Sep.calls_post ?_
  intro Post_ hPost_
  have HP := Sep.hid hPost_
  clear hPost_
  go_enter Try.func25, Try.ntmps25
  go_wp2_with (first | (refine wpList_on rfl (wp_lookOk (i := 3) rfl rfl rfl hw rfl ?_)) | (refine wpList_on rfl (wp_delI (i := 3) rfl rfl rfl hw rfl ?_); intro w_ hw_; clear hw; have hw := hw_; clear hw_; (try simp only [List.map_cons, List.map_nil, List.getD_cons_zero, List.getD_cons_succ, List.getD_nil, List.set_cons_zero, List.set_cons_succ, List.cons_append, List.nil_append, Act.eval, Array.getD_eq_getD_getElem?, List.getElem?_toArray, List.getElem?_cons_succ, List.getElem?_cons_zero, Option.getD_some, Value.cells] at hw); (try simp (disch := first | (simp; done) | (simp; omega)) only [Sep.mid_set, Sep.mid_set2, Sep.mid_set0, Sep.mid_splice, Sep.mid_splice0, List.set_cons_zero, List.set_cons_succ] at hw); (try simp only [Sep.splice, List.take_succ_cons, List.take_zero, List.drop_succ_cons, List.drop_zero, List.length_cons, List.length_nil, Nat.reduceAdd, List.cons_append, List.nil_append] at hw); (try replace hc0 := Sep.Holds.cells hw (i := 0) rfl); (try replace hc1 := Sep.Holds.cells hw (i := 1) rfl); (try replace hc2 := Sep.Holds.cells hw (i := 2) rfl); (try replace hc3 := Sep.Holds.cells hw (i := 3) rfl); (try replace hc4 := Sep.Holds.cells hw (i := 4) rfl); (try replace hc5 := Sep.Holds.cells hw (i := 5) rfl); (try replace hc6 := Sep.Holds.cells hw (i := 6) rfl)))
  exact HP.out _ _ ⟨rfl, exL.mk (f := flParts p (M.forget key).2) ⟨r, m1, m2⟩ ((hw.sel [0, 1, 2, 3, 4] (by decide)).addFct Hok.out)⟩
set_option maxHeartbeats 800000 in
theorem oLeave (p : Nat) (M : FM) (t : Int) (e w : World) (X : HProp) (hw : Holds e w [X, IsFlight p M]) :
    Calls Try.prog 27 #[.pointer (some ⟨p, 0, none⟩), .int .i64 t] w fun en w' => en = .returned (.bool (M.leave t).1) ∧ Holds e w' [X, IsFlight p (M.leave t).2] := by
  have Hok := Sep.hid ((fl_ok (i := 1) rfl hw).2.leave t)
  obtain ⟨⟨r, m1, m2⟩, hw⟩ := exL.open_ hw
  have hw := hw.open_ 1 rfl
  (try simp only [List.map_cons, List.map_nil, List.getD_cons_zero, List.getD_cons_succ, List.getD_nil, List.set_cons_zero, List.set_cons_succ, List.cons_append, List.nil_append, Act.eval, Array.getD_eq_getD_getElem?, List.getElem?_toArray, List.getElem?_cons_succ, List.getElem?_cons_zero, Option.getD_some, Value.cells] at hw); (try simp (disch := first | (simp; done) | (simp; omega)) only [Sep.mid_set, Sep.mid_set2, Sep.mid_set0, Sep.mid_splice, Sep.mid_splice0, List.set_cons_zero, List.set_cons_succ] at hw); (try simp only [Sep.splice, List.take_succ_cons, List.take_zero, List.drop_succ_cons, List.drop_zero, List.length_cons, List.length_nil, Nat.reduceAdd, List.cons_append, List.nil_append] at hw)
  (try replace hc0 := Sep.Holds.cells hw (i := 0) rfl); (try replace hc1 := Sep.Holds.cells hw (i := 1) rfl); (try replace hc2 := Sep.Holds.cells hw (i := 2) rfl); (try replace hc3 := Sep.Holds.cells hw (i := 3) rfl); (try replace hc4 := Sep.Holds.cells hw (i := 4) rfl); (try replace hc5 := Sep.Holds.cells hw (i := 5) rfl); (try replace hc6 := Sep.Holds.cells hw (i := 6) rfl)
  refine Sep.calls_post ?_
  intro Post_ hPost_
  have HP := Sep.hid hPost_
  clear hPost_
  go_enter Try.func27, Try.ntmps27
  go_wp2_with fail
  refine (wDrop r M.n M.rows t e _ _ (hw.focus1 2 rfl)).mono ?_
  rintro en_ w_ ⟨rfl, hw_⟩
  clear hw; (try clear hc0); (try clear hc1); (try clear hc2); (try clear hc3); (try clear hc4); (try clear hc5); (try clear hc6); have hw := Holds.unfocus1 2 (by simp) hw_; clear hw_
  (try simp only [List.map_cons, List.map_nil, List.getD_cons_zero, List.getD_cons_succ, List.getD_nil, List.set_cons_zero, List.set_cons_succ, List.cons_append, List.nil_append, Act.eval, Array.getD_eq_getD_getElem?, List.getElem?_toArray, List.getElem?_cons_succ, List.getElem?_cons_zero, Option.getD_some, Value.cells] at hw); (try simp (disch := first | (simp; done) | (simp; omega)) only [Sep.mid_set, Sep.mid_set2, Sep.mid_set0, Sep.mid_splice, Sep.mid_splice0, List.set_cons_zero, List.set_cons_succ] at hw); (try simp only [Sep.splice, List.take_succ_cons, List.take_zero, List.drop_succ_cons, List.drop_zero, List.length_cons, List.length_nil, Nat.reduceAdd, List.cons_append, List.nil_append] at hw)
  go_wp2_with fail
  exact HP.out _ _ ⟨rfl, exL.mk (f := flParts p (M.leave t).2) ⟨r, m1, m2⟩ ((hw.sel [0, 1, 2, 3, 4] (by decide)).addFct Hok.out)⟩
end Go.Proofs.Ytecdkajhcglpdaa
