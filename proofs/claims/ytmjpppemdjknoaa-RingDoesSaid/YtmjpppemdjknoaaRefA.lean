/-
  The document's own arena: how it lies in memory; New, Row, In, First, List.
-/
import Derived.Test.YtmjpppemdjknoaaOnceM
import Derived.Test.YtmjpppemdjknoaaReads
import Derived.Test.YtmjpppemdjknoaaSepPick
namespace Go.Proofs.Ytmjpppemdjknoaa
set_option linter.unusedSimpArgs false
set_option linter.unusedVariables false
open Go.RowKit Go.Sep Go.RingM

structure RAv where
  b : Nat
  vs : List Value
def rowsOf (vs : List Value) (rows : List (List Nat)) : List HProp := List.zipWith (fun v l => IsInts v (ints l)) vs rows
def raParts (p : Nat) (R : Ring) (x : RAv) : List HProp :=
  [pt p [.slice (some ⟨x.b, 0, none⟩) R.rows.length R.rows.length, .int .i64 (R.n : Int)] 57, pt x.b x.vs 38, sepL (rowsOf x.vs R.rows), fct (x.vs.length = R.rows.length)]
def IsRA (p : Nat) (R : Ring) : HProp := exL (raParts p R)
theorem rowsOf_length {vs : List Value} {rows : List (List Nat)} (h : vs.length = rows.length) : (rowsOf vs rows).length = rows.length := by
  unfold rowsOf; rw [List.length_zipWith, h, Nat.min_self]
theorem rowsOf_get {vs : List Value} {rows : List (List Nat)} {i : Nat} {l : List Nat} (h : vs.length = rows.length) (hl : rows[i]? = some l) : ∃ v, vs[i]? = some v ∧ (rowsOf vs rows)[i]? = some (IsInts v (ints l)) := by
  obtain ⟨hi, hl'⟩ := List.getElem?_eq_some_iff.1 hl
  have hi2 : i < vs.length := by omega
  refine ⟨vs[i], List.getElem?_eq_getElem hi2, ?_⟩
  unfold rowsOf
  rw [List.getElem?_zipWith, List.getElem?_eq_getElem hi2, hl]
theorem rowsOf_set {vs : List Value} {rows : List (List Nat)} {i : Nat} {v : Value} {l : List Nat} (h : vs.length = rows.length) : (rowsOf vs rows).set i (IsInts v (ints l)) = rowsOf (vs.set i v) (rows.set i l) := by
  apply List.ext_getElem?
  intro q
  unfold rowsOf
  simp only [List.getElem?_set, List.getElem?_zipWith, List.length_zipWith, h, Nat.min_self]
  by_cases hq : i = q
  · subst hq
    by_cases hl : i < rows.length
    · simp [hl]
    · simp [hl]
  · simp [hq]
/-- The row r comes to the end of the list. -/
theorem ra_pick {e w : World} {X : HProp} {p : Nat} {R : Ring} {x : RAv} {r : Nat} {l : List Nat} (hl : R.rows[r]? = some l) (hw : Holds e w [X, pt p [.slice (some ⟨x.b, 0, none⟩) R.rows.length R.rows.length, .int .i64 (R.n : Int)] 57, pt x.b x.vs 38, sepL (rowsOf x.vs R.rows), fct (x.vs.length = R.rows.length)]) :
    ∃ a c, x.vs[r]? = some (.slice a l.length c) ∧ x.vs.length = R.rows.length ∧ Holds e w [X, pt p [.slice (some ⟨x.b, 0, none⟩) R.rows.length R.rows.length, .int .i64 (R.n : Int)] 57, pt x.b x.vs 38, sepL ((rowsOf x.vs R.rows).set r emp), Sl 3 1 (.slice a l.length c) l.length (encI (ints l))] := by
  have hlen := Holds.fct (i := 4) rfl hw
  obtain ⟨v, hv, hr⟩ := rowsOf_get hlen hl
  have h1 := (hw.sel [0, 1, 2, 3] (by decide)).pick 3 r rfl hr
  have h1 : Holds e w [X, _, _, _, IsInts v (ints l)] := h1
  rw [← sl_ints (Sep.hid (ints_length l))] at h1
  obtain ⟨a, c, rfl⟩ := Sl.value (i := 4) rfl h1
  exact ⟨a, c, hv, hlen, h1⟩
/-- A row that is turned goes back. -/
theorem ra_close {e w : World} {X : HProp} {p : Nat} {R : Ring} {b : Nat} {vs : List Value} {r : Nat} {l' : List Nat} {v' : Value} (hr : r < R.rows.length) (hlen : vs.length = R.rows.length)
    (hw : Holds e w [X, pt p [.slice (some ⟨b, 0, none⟩) R.rows.length R.rows.length, .int .i64 (R.n : Int)] 57, pt b (vs.set r v') 38, sepL ((rowsOf vs R.rows).set r emp), IsInts v' (ints l')]) :
    Holds e w [X, IsRA p (R.setRow r l')] := by
  have h1 := Holds.unpick (L := [X, pt p [.slice (some ⟨b, 0, none⟩) R.rows.length R.rows.length, .int .i64 (R.n : Int)] 57, pt b (vs.set r v') 38, sepL ((rowsOf vs R.rows).set r emp)]) (R := rowsOf vs R.rows) 3 r rfl (by rw [rowsOf_length hlen]; exact hr) hw
  rw [rowsOf_set hlen] at h1
  have h2 := h1.addFct (p := (vs.set r v').length = R.rows.length) (by simp [hlen])
  have e1 : (R.setRow r l').rows.length = R.rows.length := by simp [Ring.setRow]
  refine exL.mk (f := raParts p (R.setRow r l')) ⟨b, vs.set r v'⟩ ?_
  unfold raParts
  rw [e1]
  exact h2.sel [0, 1, 2, 3, 4] (by decide)
theorem ra_same {e w : World} {X : HProp} {p : Nat} {R : Ring} {b : Nat} {vs : List Value} {r : Nat} {l : List Nat} {a : Option Addr} {c : Nat} (hl : R.rows[r]? = some l) (hv : vs[r]? = some (.slice a l.length c)) (hlen : vs.length = R.rows.length)
    (hw : Holds e w [X, pt p [.slice (some ⟨b, 0, none⟩) R.rows.length R.rows.length, .int .i64 (R.n : Int)] 57, pt b vs 38, sepL ((rowsOf vs R.rows).set r emp), Sl 3 1 (.slice a l.length c) l.length (encI (ints l))]) :
    Holds e w [X, IsRA p R] := by
  obtain ⟨hr, hr2⟩ := List.getElem?_eq_some_iff.1 hl
  obtain ⟨hr3, hr4⟩ := List.getElem?_eq_some_iff.1 hv
  rw [sl_ints (Sep.hid (ints_length l))] at hw
  have hs : vs.set r (.slice a l.length c) = vs := by rw [← hr4]; exact List.set_getElem_self hr3
  have h := ra_close (p := p) (R := R) (l' := l) (v' := .slice a l.length c) hr hlen (by rw [hs]; exact hw)
  have he : R.setRow r l = R := by
    unfold Ring.setRow
    rw [← hr2, List.set_getElem_self]
  rwa [he] at h
theorem raWf_len {p i : Nat} {R : Ring} {e w : World} {L : List HProp} (hi : L[i]? = some (IsRA p R)) (hw : Holds e w L) : True := trivial
theorem row_len {R : Ring} (hW : R.Wf) (hn : R.n ≤ 1000) {k : Nat} {l : List Nat} (h : R.rows[k]? = some l) : l.length ≤ 1000 := by
  have := nodup_le (hW.one k l h).1 (hW.one k l h).2
  omega
set_option maxHeartbeats 800000 in
theorem fNew_ok (m n : Nat) (n1 : 1 ≤ n) (n2 : n ≤ 1000) (m1 : 1 ≤ m) (m2 : m ≤ 1000) (e w : World) (X : HProp) (hw : Holds e w [X]) :
    Calls Try.prog 8 #[.int .i64 (m : Int), .int .i64 (n : Int)] w fun en w' => ∃ p, en = .returned (.tuple #[.pointer (some ⟨p, 0, none⟩), .int .i64 0]) ∧ Holds e w' [X, IsRA p (newRing n m)] := by
  refine Sep.calls_post ?_
  intro Post_ hPost_
  have HP := Sep.hid hPost_
  clear hPost_
  go_enter Try.func8, Try.ntmps8
  go_wp2_with (first | (refine wpList_on rfl (wp_make1 (n := m) rfl rfl rfl rfl (by omega) (by decide) hw ?_); intro bm_ w_ hw_; clear hw; have hw := hw_; clear hw_; (try replace hc0 := Sep.Holds.cells hw (i := 0) rfl); (try replace hc1 := Sep.Holds.cells hw (i := 1) rfl); (try replace hc2 := Sep.Holds.cells hw (i := 2) rfl); (try replace hc3 := Sep.Holds.cells hw (i := 3) rfl); (try replace hc4 := Sep.Holds.cells hw (i := 4) rfl); (try replace hc5 := Sep.Holds.cells hw (i := 5) rfl); (try replace hc6 := Sep.Holds.cells hw (i := 6) rfl)) | (refine wpList_on rfl (wp_box rfl hw ?_); intro b_ w_ hw_; clear hw; have hw := hw_; clear hw_; (try simp only [List.map_cons, List.map_nil, List.getD_cons_zero, List.getD_cons_succ, List.getD_nil, List.set_cons_zero, List.set_cons_succ, List.cons_append, List.nil_append, Act.eval, Array.getD_eq_getD_getElem?, List.getElem?_toArray, List.getElem?_cons_succ, List.getElem?_cons_zero, Option.getD_some, Value.cells] at hw); (try simp (disch := first | (simp; done) | (simp; omega)) only [Sep.mid_set, Sep.mid_set2, Sep.mid_set0, Sep.mid_splice, Sep.mid_splice0, List.set_cons_zero, List.set_cons_succ] at hw); (try simp only [Sep.splice, List.take_succ_cons, List.take_zero, List.drop_succ_cons, List.drop_zero, List.length_cons, List.length_nil, Nat.reduceAdd, List.cons_append, List.nil_append] at hw); (try replace hc0 := Sep.Holds.cells hw (i := 0) rfl); (try replace hc1 := Sep.Holds.cells hw (i := 1) rfl); (try replace hc2 := Sep.Holds.cells hw (i := 2) rfl); (try replace hc3 := Sep.Holds.cells hw (i := 3) rfl); (try replace hc4 := Sep.Holds.cells hw (i := 4) rfl); (try replace hc5 := Sep.Holds.cells hw (i := 5) rfl); (try replace hc6 := Sep.Holds.cells hw (i := 6) rfl)))
  refine HP.out _ _ ⟨_, rfl, ?_⟩
  have hl : (newRing n m).rows.length = m := by simp [newRing]
  have hr : ∀ k, rowsOf (List.replicate k (Value.slice none 0 0)) (List.replicate k []) = List.replicate k (IsInts (.slice none 0 0) []) := fun k => by
    unfold rowsOf
    rw [List.zipWith_replicate, Nat.min_self]; rfl
  have hs := hw.addEmp (X := sepL (rowsOf (List.replicate m (Value.slice none 0 0)) (List.replicate m []))) (by
    rw [hr]
    refine ⟨fun _ _ => none, ?_, by simp, by simp⟩
    intro i P hi
    rw [List.getElem?_replicate] at hi
    split at hi
    · cases hi; exact Sl.nil _ _ _
    · cases hi)
  have hf := hs.addFct (p := (List.replicate m (Value.slice none 0 0)).length = m) (by simp)
  refine exL.mk (f := raParts _ (newRing n m)) ⟨bm_, List.replicate m (.slice none 0 0)⟩ ?_
  unfold raParts
  rw [hl]
  exact hf.sel [0, 2, 1, 3, 4] (by decide)
set_option maxHeartbeats 800000 in
theorem fNew_no (m n : Int) (h : m < 1 ∨ 1000 < m ∨ n < 1 ∨ 1000 < n) (w : World) :
    Calls Try.prog 8 #[.int .i64 m, .int .i64 n] w fun en w' => en = .returned (.tuple #[.pointer none, .int .i64 1]) ∧ w' = w := by
  by_cases h1 : m < 1
  · clear h
    refine Sep.calls_post ?_
    intro Post_ hPost_
    have HP := Sep.hid hPost_
    clear hPost_
    go_enter Try.func8, Try.ntmps8
    go_wp2_with fail
    exact HP.out _ _ ⟨rfl, rfl⟩
  by_cases h2 : 1000 < m
  · clear h
    refine Sep.calls_post ?_
    intro Post_ hPost_
    have HP := Sep.hid hPost_
    clear hPost_
    go_enter Try.func8, Try.ntmps8
    go_wp2_with fail
    exact HP.out _ _ ⟨rfl, rfl⟩
  by_cases h3 : n < 1
  · clear h
    refine Sep.calls_post ?_
    intro Post_ hPost_
    have HP := Sep.hid hPost_
    clear hPost_
    go_enter Try.func8, Try.ntmps8
    go_wp2_with fail
    exact HP.out _ _ ⟨rfl, rfl⟩
  · have h4 : 1000 < n := by omega
    clear h
    refine Sep.calls_post ?_
    intro Post_ hPost_
    have HP := Sep.hid hPost_
    clear hPost_
    go_enter Try.func8, Try.ntmps8
    go_wp2_with fail
    exact HP.out _ _ ⟨rfl, rfl⟩
set_option maxHeartbeats 800000 in
theorem fRow (p : Nat) (R : Ring) (r : Int) (e w : World) (X : HProp) (hw : Holds e w [X, IsRA p R]) :
    Calls Try.prog 37 #[.pointer (some ⟨p, 0, none⟩), .int .i64 r] w fun en w' => en = .returned (.bool (R.isRow r)) ∧ w' = w := by
  obtain ⟨⟨b, vs⟩, hw⟩ := exL.open_ hw
  have hw := hw.open_ 1 rfl
  (try simp only [List.map_cons, List.map_nil, List.getD_cons_zero, List.getD_cons_succ, List.getD_nil, List.set_cons_zero, List.set_cons_succ, List.cons_append, List.nil_append, Act.eval, Array.getD_eq_getD_getElem?, List.getElem?_toArray, List.getElem?_cons_succ, List.getElem?_cons_zero, Option.getD_some, Value.cells] at hw); (try simp (disch := first | (simp; done) | (simp; omega)) only [Sep.mid_set, Sep.mid_set2, Sep.mid_set0, Sep.mid_splice, Sep.mid_splice0, List.set_cons_zero, List.set_cons_succ] at hw); (try simp only [Sep.splice, List.take_succ_cons, List.take_zero, List.drop_succ_cons, List.drop_zero, List.length_cons, List.length_nil, Nat.reduceAdd, List.cons_append, List.nil_append] at hw)
  (try replace hc0 := Sep.Holds.cells hw (i := 0) rfl); (try replace hc1 := Sep.Holds.cells hw (i := 1) rfl); (try replace hc2 := Sep.Holds.cells hw (i := 2) rfl); (try replace hc3 := Sep.Holds.cells hw (i := 3) rfl); (try replace hc4 := Sep.Holds.cells hw (i := 4) rfl); (try replace hc5 := Sep.Holds.cells hw (i := 5) rfl); (try replace hc6 := Sep.Holds.cells hw (i := 6) rfl)
  unfold Ring.isRow
  generalize R.rows.length = m at *
  by_cases h0 : 0 ≤ r
  · by_cases h1 : r < m
    · rw [decide_eq_true h0, decide_eq_true h1]
      refine Sep.calls_post ?_
      intro Post_ hPost_
      have HP := Sep.hid hPost_
      clear hPost_
      go_enter Try.func37, Try.ntmps37
      go_wp2_with fail
      exact HP.out _ _ ⟨rfl, rfl⟩
    · rw [decide_eq_true h0, decide_eq_false h1]
      refine Sep.calls_post ?_
      intro Post_ hPost_
      have HP := Sep.hid hPost_
      clear hPost_
      go_enter Try.func37, Try.ntmps37
      go_wp2_with fail
      exact HP.out _ _ ⟨rfl, rfl⟩
  · rw [decide_eq_false h0]
    refine Sep.calls_post ?_
    intro Post_ hPost_
    have HP := Sep.hid hPost_
    clear hPost_
    go_enter Try.func37, Try.ntmps37
    go_wp2_with fail
    exact HP.out _ _ ⟨rfl, rfl⟩
theorem in_of {R : Ring} (hW : R.Wf) {i : Nat} {l : List Nat} {t : Int} (hl : R.rows[i]? = some l) (ht : t ∈ ints l) : R.in_ t = (i : Int) := by
  unfold ints at ht
  obtain ⟨x, hx, rfl⟩ := List.mem_map.1 ht
  exact (in_row hW hl hx).1
theorem in_none {R : Ring} {t : Int} (h : ∀ (i : Nat) (l : List Nat), R.rows[i]? = some l → t ∉ ints l) : R.in_ t = -1 := by
  unfold Ring.in_
  by_cases hn : R.isNode t = true
  · rw [if_pos hn]
    apply Ring.inOf_none
    intro r l hr hx
    refine h r l hr ?_
    unfold Ring.isNode at hn
    simp at hn
    unfold ints
    exact List.mem_map.2 ⟨_, hx, by omega⟩
  · rw [if_neg hn]
set_option maxHeartbeats 4000000 in
theorem fIn (p : Nat) (R : Ring) (hW : R.Wf) (hb : R.n ≤ 1000 ∧ R.rows.length ≤ 1000) (t : Int) (e w : World) (X : HProp) (hw : Holds e w [X, IsRA p R]) :
    Calls Try.prog 30 #[.pointer (some ⟨p, 0, none⟩), .int .i64 t] w fun en w' => en = .returned (.int .i64 (R.in_ t)) ∧ w' = w := by
  have HW := Sep.hid hW; have Hb := Sep.hid hb; clear hW hb
  obtain ⟨A, hA⟩ : ∃ A, R.in_ t = A := ⟨_, rfl⟩
  rw [hA]
  have HA := Sep.hid hA; clear hA
  obtain ⟨⟨b, vs⟩, hw⟩ := exL.open_ hw
  have hw := hw.open_ 1 rfl
  (try simp only [List.map_cons, List.map_nil, List.getD_cons_zero, List.getD_cons_succ, List.getD_nil, List.set_cons_zero, List.set_cons_succ, List.cons_append, List.nil_append, Act.eval, Array.getD_eq_getD_getElem?, List.getElem?_toArray, List.getElem?_cons_succ, List.getElem?_cons_zero, Option.getD_some, Value.cells] at hw); (try simp (disch := first | (simp; done) | (simp; omega)) only [Sep.mid_set, Sep.mid_set2, Sep.mid_set0, Sep.mid_splice, Sep.mid_splice0, List.set_cons_zero, List.set_cons_succ] at hw); (try simp only [Sep.splice, List.take_succ_cons, List.take_zero, List.drop_succ_cons, List.drop_zero, List.length_cons, List.length_nil, Nat.reduceAdd, List.cons_append, List.nil_append] at hw)
  have hpk := fun r l hl => ra_pick (p := p) (R := R) (x := ⟨b, vs⟩) (r := r) (l := l) hl hw
  have Hpk := Sep.hid hpk; clear hpk
  obtain ⟨m, hm⟩ : ∃ m, R.rows.length = m := ⟨_, rfl⟩
  have hm1000 : m ≤ 1000 := by rw [← hm]; exact Hb.out.2
  rw [hm] at hw
  have Hm := Sep.hid hm; clear hm
  (try replace hc0 := Sep.Holds.cells hw (i := 0) rfl); (try replace hc1 := Sep.Holds.cells hw (i := 1) rfl); (try replace hc2 := Sep.Holds.cells hw (i := 2) rfl); (try replace hc3 := Sep.Holds.cells hw (i := 3) rfl); (try replace hc4 := Sep.Holds.cells hw (i := 4) rfl); (try replace hc5 := Sep.Holds.cells hw (i := 5) rfl); (try replace hc6 := Sep.Holds.cells hw (i := 6) rfl)
  refine Sep.calls_post ?_
  intro Post_ hPost_
  have HP := Sep.hid hPost_
  clear hPost_
  go_enter Try.func30, Try.ntmps30
  go_wp2_with fail
  go_loopw [5] (fun i wr => ∃ k : Nat, k ≤ m ∧ i = .int .i64 k ∧ (∀ (j : Nat) (l : List Nat), j < k → R.rows[j]? = some l → t ∉ ints l) ∧ wr = w) (fun i _ => m - (intOf i).toNat)
  case atStart => exact ⟨0, Nat.zero_le _, rfl, fun j l hj => by omega, rfl⟩
  case round =>
    obtain ⟨k, hk, rfl, hno, rfl⟩ := hrel
    have Hno := Sep.hid hno; clear hno
    by_cases hlt : k < m
    · obtain ⟨l, hl⟩ : ∃ l, R.rows[k]? = some l := ⟨_, List.getElem?_eq_getElem (by rw [Hm.out]; exact hlt)⟩
      obtain ⟨a, c, hv, hvl, hw4⟩ := Hpk.out k l hl
      obtain ⟨nl, hnl⟩ : ∃ n, l.length = n := ⟨_, rfl⟩
      have hnl1000 : nl ≤ 1000 := by rw [← hnl]; exact row_len HW.out Hb.out.1 hl
      rw [hnl] at hv hw4
      replace hv : vs[k]? = some (.slice a nl c) := hv
      have hnl2 : (ints l).length = nl := by rw [ints_length]; exact hnl
      have Hnl := Sep.hid hnl2; have Hl := Sep.hid hl; have Hw4 := Sep.hid hw4
      clear hvl hw4 hnl hnl2 hl
      go_wp2_with fail
      go_loopw [6] (fun i wr2 => ∃ q : Nat, q ≤ nl ∧ i = .int .i64 q ∧ t ∉ (ints l).take q ∧ wr2 = wr) (fun i _ => nl - (intOf i).toNat)
      case atStart => exact ⟨0, Nat.zero_le _, rfl, by simp, rfl⟩
      case round =>
        obtain ⟨q, hq, rfl, hno2, rfl⟩ := hrel
        have Hno2 := Sep.hid hno2; clear hno2
        by_cases hql : q < nl
        · obtain ⟨y, hy⟩ : ∃ y, (ints l)[q]? = some y := ⟨_, List.getElem?_eq_getElem (by rw [Hnl.out]; exact hql)⟩
          obtain ⟨bo, oo, rfl, go⟩ := num_at (i := 4) Hw4.out rfl hy
          have Hy := Sep.hid hy; clear hy
          by_cases hyt : y = t
          · have Ha : Hid (A = (k : Int)) := Sep.hid (by rw [← HA.out]; exact in_of HW.out Hl.out (by rw [← hyt]; exact List.mem_of_getElem? Hy.out))
            have hyq : (y == t) = true := by simpa using hyt
            clear hyt
            go_wp2_with fail
            rw [Ha.out] at HP
            exact HP.out _ _ ⟨rfl, rfl⟩
          · have Hyt := Sep.hid hyt
            have hyq : (y == t) = false := by simpa using hyt
            clear hyt
            go_wp2_with fail
            go_roundw
            case rel => exact ⟨q + 1, by omega, by go_num, by rw [← take_snocI Hy.out, List.mem_append]; rintro (h | h); exact Hno2.out h; exact Hyt.out (List.mem_singleton.1 h).symm, (by first | trivial | rfl)⟩
            case measure => simp [intOf]; omega
        · have hnl3 : t ∉ ints l := by
            have := Hno2.out
            rwa [List.take_of_length_le (by rw [Hnl.out]; omega)] at this
          have Hn3 := Sep.hid hnl3; clear hnl3
          go_wp2_with fail
          go_roundw
          case rel =>
            refine ⟨k + 1, by omega, by go_num, fun j l' hj hl' => ?_, (by first | trivial | rfl)⟩
            by_cases hjk : j = k
            · subst hjk
              have h1 := Hl.out
              rw [hl'] at h1; cases h1
              exact Hn3.out
            · exact Hno.out j l' (by omega) hl'
          case measure => simp [intOf]; omega
    · have Ha : Hid (A = -1) := Sep.hid (by
        rw [← HA.out]
        refine in_none fun i l hl => Hno.out i l ?_ hl
        have := (List.getElem?_eq_some_iff.1 hl).1
        rw [Hm.out] at this; omega)
      go_wp2_with fail
      rw [Ha.out] at HP
      exact HP.out _ _ ⟨rfl, rfl⟩
theorem isRow_get {R : Ring} {r : Int} (h : R.isRow r = true) : ∃ k l, r = ((k : Nat) : Int) ∧ R.rows[k]? = some l ∧ R.row r = l := by
  unfold Ring.isRow at h
  simp at h
  refine ⟨r.toNat, R.rows[r.toNat]'(by omega), by omega, List.getElem?_eq_getElem (by omega), ?_⟩
  have : r = ((r.toNat : Nat) : Int) := by omega
  conv => lhs; rw [this]
  exact Ring.row_of (List.getElem?_eq_getElem (by omega))
theorem isRow_no {R : Ring} {r : Int} (h : R.isRow r = false) : R.row r = [] := by unfold Ring.row; rw [h]; rfl
set_option maxHeartbeats 1600000 in
theorem fFirst (p : Nat) (R : Ring) (r : Int) (e w : World) (X : HProp) (hw : Holds e w [X, IsRA p R]) :
    Calls Try.prog 29 #[.pointer (some ⟨p, 0, none⟩), .int .i64 r] w fun en w' => en = .returned (.int .i64 (R.first r)) ∧ w' = w := by
  have Hw0 := Sep.hid hw
  cases hr : R.isRow r with
  | false =>
    have hf : R.first r = -1 := by unfold Ring.first; rw [isRow_no hr]
    rw [hf]; clear hf
    have Hr := Sep.hid hr; clear hr hw
    refine Sep.calls_post ?_
    intro Post_ hPost_
    have HP := Sep.hid hPost_
    clear hPost_
    go_enter Try.func29, Try.ntmps29
    go_wp2_with fail
    refine (fRow p R r e _ _ Hw0.out).mono ?_
    rintro _ w_ ⟨rfl, rfl⟩
    rw [Hr.out]
    go_wp2_with fail
    exact HP.out _ _ ⟨rfl, rfl⟩
  | true =>
    obtain ⟨k, l, rfl, hl, hrow⟩ := isRow_get hr
    have Hr := Sep.hid hr; clear hr
    obtain ⟨⟨b, vs⟩, hw⟩ := exL.open_ hw
    have hw := hw.open_ 1 rfl
    (try simp only [List.map_cons, List.map_nil, List.getD_cons_zero, List.getD_cons_succ, List.getD_nil, List.set_cons_zero, List.set_cons_succ, List.cons_append, List.nil_append, Act.eval, Array.getD_eq_getD_getElem?, List.getElem?_toArray, List.getElem?_cons_succ, List.getElem?_cons_zero, Option.getD_some, Value.cells] at hw); (try simp (disch := first | (simp; done) | (simp; omega)) only [Sep.mid_set, Sep.mid_set2, Sep.mid_set0, Sep.mid_splice, Sep.mid_splice0, List.set_cons_zero, List.set_cons_succ] at hw); (try simp only [Sep.splice, List.take_succ_cons, List.take_zero, List.drop_succ_cons, List.drop_zero, List.length_cons, List.length_nil, Nat.reduceAdd, List.cons_append, List.nil_append] at hw)
    obtain ⟨a, c, hv, hvl, hw4⟩ := ra_pick (p := p) (R := R) (x := ⟨b, vs⟩) hl hw
    clear hw; have hw := hw4; clear hw4
    have hkm : k < R.rows.length := (List.getElem?_eq_some_iff.1 hl).1
    replace hv : vs[k]? = some (.slice a l.length c) := hv
    generalize R.rows.length = m at *
    clear hvl hl
    cases l with
    | nil =>
      have hf : R.first k = -1 := by unfold Ring.first; rw [hrow]
      rw [hf]; clear hf hrow
      (try replace hc0 := Sep.Holds.cells hw (i := 0) rfl); (try replace hc1 := Sep.Holds.cells hw (i := 1) rfl); (try replace hc2 := Sep.Holds.cells hw (i := 2) rfl); (try replace hc3 := Sep.Holds.cells hw (i := 3) rfl); (try replace hc4 := Sep.Holds.cells hw (i := 4) rfl); (try replace hc5 := Sep.Holds.cells hw (i := 5) rfl); (try replace hc6 := Sep.Holds.cells hw (i := 6) rfl)
      refine Sep.calls_post ?_
      intro Post_ hPost_
      have HP := Sep.hid hPost_
      clear hPost_
      go_enter Try.func29, Try.ntmps29
      go_wp2_with fail
      refine (fRow p R k e _ _ Hw0.out).mono ?_
      rintro _ w_ ⟨rfl, rfl⟩
      rw [Hr.out]
      go_wp2_with fail
      exact HP.out _ _ ⟨rfl, rfl⟩
    | cons y l =>
      have hf : R.first k = (y : Int) := by unfold Ring.first; rw [hrow]
      rw [hf]; clear hf hrow
      obtain ⟨bo, oo, rfl, go⟩ := num_at (i := 4) (k := 0) (x := (y : Int)) hw rfl rfl
      simp only [Nat.add_zero] at go
      have hne : ¬ (l.length : Int) + 1 = 0 := by omega
      (try replace hc0 := Sep.Holds.cells hw (i := 0) rfl); (try replace hc1 := Sep.Holds.cells hw (i := 1) rfl); (try replace hc2 := Sep.Holds.cells hw (i := 2) rfl); (try replace hc3 := Sep.Holds.cells hw (i := 3) rfl); (try replace hc4 := Sep.Holds.cells hw (i := 4) rfl); (try replace hc5 := Sep.Holds.cells hw (i := 5) rfl); (try replace hc6 := Sep.Holds.cells hw (i := 6) rfl)
      refine Sep.calls_post ?_
      intro Post_ hPost_
      have HP := Sep.hid hPost_
      clear hPost_
      go_enter Try.func29, Try.ntmps29
      go_wp2_with fail
      refine (fRow p R k e _ _ Hw0.out).mono ?_
      rintro _ w_ ⟨rfl, rfl⟩
      rw [Hr.out]
      go_wp2_with fail
      exact HP.out _ _ ⟨rfl, rfl⟩
set_option maxHeartbeats 1600000 in
theorem fList (p : Nat) (R : Ring) (r : Int) (e w : World) (X : HProp) (hw : Holds e w [X, IsRA p R]) :
    Calls Try.prog 28 #[.pointer (some ⟨p, 0, none⟩), .int .i64 r] w fun en w' => ∃ a c, en = .returned (.slice a (R.row r).length c) ∧ ReadsI w' a (ints (R.row r)) ∧ Holds e w' [X, IsRA p R] := by
  have Hw0 := Sep.hid hw
  cases hr : R.isRow r with
  | false =>
    rw [isRow_no hr]
    have Hr := Sep.hid hr; clear hr
    refine Sep.calls_post ?_
    intro Post_ hPost_
    have HP := Sep.hid hPost_
    clear hPost_
    go_enter Try.func28, Try.ntmps28
    go_wp2_with fail
    refine (fRow p R r e _ _ Hw0.out).mono ?_
    rintro _ w_ ⟨rfl, rfl⟩
    rw [Hr.out]
    go_wp2_with (refine wpList_on rfl (wp_bsl0 rfl hw ?_); intro b_ w_ hw_; clear hw; have hw := hw_; clear hw_; (try simp only [List.map_cons, List.map_nil, List.getD_cons_zero, List.getD_cons_succ, List.getD_nil, List.set_cons_zero, List.set_cons_succ, List.cons_append, List.nil_append, Act.eval, Array.getD_eq_getD_getElem?, List.getElem?_toArray, List.getElem?_cons_succ, List.getElem?_cons_zero, Option.getD_some, Value.cells] at hw); (try simp (disch := first | (simp; done) | (simp; omega)) only [Sep.mid_set, Sep.mid_set2, Sep.mid_set0, Sep.mid_splice, Sep.mid_splice0, List.set_cons_zero, List.set_cons_succ] at hw); (try simp only [Sep.splice, List.take_succ_cons, List.take_zero, List.drop_succ_cons, List.drop_zero, List.length_cons, List.length_nil, Nat.reduceAdd, List.cons_append, List.nil_append] at hw); (try replace hc0 := Sep.Holds.cells hw (i := 0) rfl); (try replace hc1 := Sep.Holds.cells hw (i := 1) rfl); (try replace hc2 := Sep.Holds.cells hw (i := 2) rfl); (try replace hc3 := Sep.Holds.cells hw (i := 3) rfl); (try replace hc4 := Sep.Holds.cells hw (i := 4) rfl); (try replace hc5 := Sep.Holds.cells hw (i := 5) rfl); (try replace hc6 := Sep.Holds.cells hw (i := 6) rfl))
    exact HP.out _ _ ⟨_, _, rfl, fun k x hx => by simp [ints] at hx, hw.sel [0, 1] (by decide)⟩
  | true =>
    obtain ⟨k, l, rfl, hl, hrow⟩ := isRow_get hr
    have Hr := Sep.hid hr; clear hr
    rw [hrow]; clear hrow
    obtain ⟨⟨b, vs⟩, hw⟩ := exL.open_ hw
    have hw := hw.open_ 1 rfl
    (try simp only [List.map_cons, List.map_nil, List.getD_cons_zero, List.getD_cons_succ, List.getD_nil, List.set_cons_zero, List.set_cons_succ, List.cons_append, List.nil_append, Act.eval, Array.getD_eq_getD_getElem?, List.getElem?_toArray, List.getElem?_cons_succ, List.getElem?_cons_zero, Option.getD_some, Value.cells] at hw); (try simp (disch := first | (simp; done) | (simp; omega)) only [Sep.mid_set, Sep.mid_set2, Sep.mid_set0, Sep.mid_splice, Sep.mid_splice0, List.set_cons_zero, List.set_cons_succ] at hw); (try simp only [Sep.splice, List.take_succ_cons, List.take_zero, List.drop_succ_cons, List.drop_zero, List.length_cons, List.length_nil, Nat.reduceAdd, List.cons_append, List.nil_append] at hw)
    obtain ⟨a, c, hv, hvl, hw4⟩ := ra_pick (p := p) (R := R) (x := ⟨b, vs⟩) hl hw
    clear hw; have hw := hw4; clear hw4
    have hkm : k < R.rows.length := (List.getElem?_eq_some_iff.1 hl).1
    replace hv : vs[k]? = some (.slice a l.length c) := hv
    have Hrd := Sep.hid (reads_of (i := 4) hw rfl)
    generalize R.rows.length = m at *
    clear hvl hl
    generalize l.length = nl at *
    (try replace hc0 := Sep.Holds.cells hw (i := 0) rfl); (try replace hc1 := Sep.Holds.cells hw (i := 1) rfl); (try replace hc2 := Sep.Holds.cells hw (i := 2) rfl); (try replace hc3 := Sep.Holds.cells hw (i := 3) rfl); (try replace hc4 := Sep.Holds.cells hw (i := 4) rfl); (try replace hc5 := Sep.Holds.cells hw (i := 5) rfl); (try replace hc6 := Sep.Holds.cells hw (i := 6) rfl)
    refine Sep.calls_post ?_
    intro Post_ hPost_
    have HP := Sep.hid hPost_
    clear hPost_
    go_enter Try.func28, Try.ntmps28
    go_wp2_with fail
    refine (fRow p R k e _ _ Hw0.out).mono ?_
    rintro _ w_ ⟨rfl, rfl⟩
    rw [Hr.out]
    go_wp2_with fail
    exact HP.out _ _ ⟨_, _, rfl, Hrd.out, Hw0.out⟩
end Go.Proofs.Ytmjpppemdjknoaa
