/-
  The reference's flight: New, Forget; a call is told otherwise.
-/
import Derived.Test.YtecdkajhcglpdaaFlRC
namespace Go.Proofs.Ytecdkajhcglpdaa
set_option linter.unusedSimpArgs false
set_option linter.unusedVariables false
open Go.RowKit Go.Sep Go.RingM

section
variable {P : Program} {ops : Array Oper} {Q : Exit → Act → World → Prop} {K : Act → World → Prop} {a : Act} {e w : World} {rest : List Oper} {o : Oper} {L : List HProp}
/-- A cell of a slice that is held is stored to. -/
theorem wp_storeSl {T T2 : TypeId} {x y : Operand} {z v : Value} {k b off n cap i j sz : Nat} {cs : List Value} [ti : TI P T z 1 k] (ho : o.op = .store T x y) (hx : a.eval x = .pointer (some ⟨b, off + j, none⟩)) (hy : a.eval y = v)
    (hw : Holds e w L) (hi : L[i]? = some (Sl T2 sz (.slice (some ⟨b, off, none⟩) n cap) n cs)) (hj : j < cs.length) (h1 : v.oneCell' = true)
    (h : ∀ w', Holds e w' (L.set i (Sl T2 sz (.slice (some ⟨b, off, none⟩) n cap) n (cs.set j v))) → K (a.put o.dst undef) w') : o.wp P a w K Q := by
  have hln : cs.length = n * sz := hw.fact hi (fun _ h => h.1)
  have hil : i < L.length := (List.getElem?_eq_some_iff.1 hi).1
  rcases hw.openSl hi with ⟨h2, _⟩ | ⟨b', cap', pre, post, hv, g1, g2, g3, hw'⟩
  · cases h2
  · cases hv
    refine wp_store1 (v := v) (i := i) (cs := mid pre cs post) (t := T2) ho hx hy hw' (List.getElem?_set_self hil) (by rw [mid_length]; omega) h1 (fun w' hw2 => h w' ?_)
    rw [List.set_set, mid_set _ _ _ _ _ hj] at hw2
    have h3 := Holds.closeSl (i := i) (sz := sz) (n := n) (cap := cap) (pre := pre) (cs := cs.set j v) (post := post) hw2 (List.getElem?_set_self hil) (by rw [List.length_set]; exact hln) g1 g2 g3
    rwa [List.set_set] at h3
end
theorem encCs_set {cs : List CallV} {vs : List Value} (h : vs.length = cs.length) {k j : Nat} {c c' : CallV} {v v' x : Value} (hc : cs[k]? = some c) (hv : vs[k]? = some v) (hj : j < 4) (hx : (encC c v).set j x = encC c' v') : (encCs cs vs).set (k * 4 + j) x = encCs (cs.set k c') (vs.set k v') := by
  unfold encCs
  induction cs generalizing vs k with
  | nil => simp at hc
  | cons d cs ih =>
    cases vs with
    | nil => simp at hv
    | cons u vs =>
      cases k with
      | zero =>
        simp at hc hv; subst hc hv
        rw [List.zipWith_cons_cons, List.flatten_cons, List.set_append_left _ _ (by simp [encC]; omega)]
        simp [hx]
      | succ k =>
        have h1 := ih (vs := vs) (by simpa using h) (k := k) (by simpa using hc) (by simpa using hv)
        rw [List.zipWith_cons_cons, List.flatten_cons, List.set_append_right _ _ (by simp [encC]; omega), List.set_cons_succ, List.set_cons_succ, List.zipWith_cons_cons, List.flatten_cons, ← h1]
        congr 2
        simp [encC]; omega
theorem joinedOf_set {cs : List CallV} {vs : List Value} (h : vs.length = cs.length) {k : Nat} {c' : CallV} {v' : Value} : (joinedOf vs cs).set k (IsInts v' c'.joined) = joinedOf (vs.set k v') (cs.set k c') := by
  apply List.ext_getElem?
  intro q
  unfold joinedOf
  simp only [List.getElem?_set, List.getElem?_zipWith, List.length_zipWith, h, Nat.min_self]
  by_cases hq : k = q
  · subst hq
    by_cases hl : k < cs.length
    · simp [hl]
    · simp [hl]
  · simp [hq]
theorem calls_at {e w : World} {L : List HProp} {i n ca : Nat} {a : Option Addr} {cs : List CallV} {vs : List Value} (hw : Holds e w L) (hi : L[i]? = some (Sl 44 4 (.slice a n ca) n (encCs cs vs))) (hlen : vs.length = cs.length) : ∀ k c, cs[k]? = some c → CallAt w a k c := by
  intro k c hc
  have hk : k < vs.length := by rw [hlen]; exact (List.getElem?_eq_some_iff.1 hc).1
  obtain ⟨b, off, h⟩ := call_at hw hi hlen hc (List.getElem?_eq_getElem hk)
  exact ⟨b, off, _, h⟩
set_option maxHeartbeats 800000 in
theorem rfNew_ok (n : Nat) (n1 : 1 ≤ n) (n2 : n ≤ 1000) (e w : World) (X : HProp) (hw : Holds e w [X]) :
    Calls Try.prog 8 #[.int .i64 (n : Int)] w fun en w' => ∃ p, en = .returned (.tuple #[.pointer (some ⟨p, 0, none⟩), .int .i64 0]) ∧ Holds e w' [X, IsRF p n []] := by
  refine Sep.calls_post ?_
  intro Post_ hPost_
  have HP := Sep.hid hPost_
  clear hPost_
  go_enter Try.func8, Try.ntmps8
  go_wp2_with (refine wpList_on rfl (wp_box rfl hw ?_); intro b_ w_ hw_; clear hw; have hw := hw_; clear hw_; (try simp only [List.map_cons, List.map_nil, List.getD_cons_zero, List.getD_cons_succ, List.getD_nil, List.set_cons_zero, List.set_cons_succ, List.cons_append, List.nil_append, Act.eval, Array.getD_eq_getD_getElem?, List.getElem?_toArray, List.getElem?_cons_succ, List.getElem?_cons_zero, Option.getD_some, Value.cells] at hw); (try simp (disch := first | (simp; done) | (simp; omega)) only [Sep.mid_set, Sep.mid_set2, Sep.mid_set0, Sep.mid_splice, Sep.mid_splice0, List.set_cons_zero, List.set_cons_succ] at hw); (try simp only [Sep.splice, List.take_succ_cons, List.take_zero, List.drop_succ_cons, List.drop_zero, List.length_cons, List.length_nil, Nat.reduceAdd, List.cons_append, List.nil_append] at hw); (try replace hc0 := Sep.Holds.cells hw (i := 0) rfl); (try replace hc1 := Sep.Holds.cells hw (i := 1) rfl); (try replace hc2 := Sep.Holds.cells hw (i := 2) rfl); (try replace hc3 := Sep.Holds.cells hw (i := 3) rfl); (try replace hc4 := Sep.Holds.cells hw (i := 4) rfl); (try replace hc5 := Sep.Holds.cells hw (i := 5) rfl); (try replace hc6 := Sep.Holds.cells hw (i := 6) rfl))
  refine HP.out _ _ ⟨_, rfl, ?_⟩
  have h1 := hw.addEmp (X := Sl 44 4 (.slice none 0 0) 0 (encCs [] [])) (Sl.nil _ _ _)
  have h2 := h1.addEmp (X := sepL (joinedOf [] [])) (by exact ⟨fun _ _ => none, by simp [joinedOf], by simp, by simp⟩)
  exact exL.mk (f := rfParts _ n []) ⟨none, 0, []⟩ (h2.addFct (p := ([] : List Value).length = ([] : List CallV).length) rfl)
set_option maxHeartbeats 800000 in
theorem rfNew_no (n : Int) (h : n < 1 ∨ 1000 < n) (w : World) :
    Calls Try.prog 8 #[.int .i64 n] w fun en w' => en = .returned (.tuple #[.pointer none, .int .i64 1]) ∧ w' = w := by
  by_cases h1 : n < 1
  · clear h
    refine Sep.calls_post ?_
    intro Post_ hPost_
    have HP := Sep.hid hPost_
    clear hPost_
    go_enter Try.func8, Try.ntmps8
    go_wp2_with fail
    exact HP.out _ _ ⟨rfl, rfl⟩
  · have h2 : 1000 < n := by omega
    clear h
    refine Sep.calls_post ?_
    intro Post_ hPost_
    have HP := Sep.hid hPost_
    clear hPost_
    go_enter Try.func8, Try.ntmps8
    go_wp2_with fail
    exact HP.out _ _ ⟨rfl, rfl⟩
set_option maxHeartbeats 1600000 in
theorem rfForget_no (p n : Nat) (cs : List CallV) (k : Int) (hcl : cs.length ≤ 100000) (hof : ofI cs k = -1) (e w : World) (X : HProp) (hw : Holds e w [X, IsRF p n cs]) :
    Calls Try.prog 12 #[.pointer (some ⟨p, 0, none⟩), .int .i64 k] w fun en w' => en = .returned (.bool false) ∧ Holds e w' [X, IsRF p n cs] := by
  have Hw0 := Sep.hid hw
  have Hof := Sep.hid hof; clear hof
  obtain ⟨⟨a, cap, vs⟩, hw⟩ := exL.open_ hw
  have hw := hw.open_ 1 rfl
  (try simp only [List.map_cons, List.map_nil, List.getD_cons_zero, List.getD_cons_succ, List.getD_nil, List.set_cons_zero, List.set_cons_succ, List.cons_append, List.nil_append, Act.eval, Array.getD_eq_getD_getElem?, List.getElem?_toArray, List.getElem?_cons_succ, List.getElem?_cons_zero, Option.getD_some, Value.cells] at hw); (try simp (disch := first | (simp; done) | (simp; omega)) only [Sep.mid_set, Sep.mid_set2, Sep.mid_set0, Sep.mid_splice, Sep.mid_splice0, List.set_cons_zero, List.set_cons_succ] at hw); (try simp only [Sep.splice, List.take_succ_cons, List.take_zero, List.drop_succ_cons, List.drop_zero, List.length_cons, List.length_nil, Nat.reduceAdd, List.cons_append, List.nil_append] at hw)
  obtain ⟨len, hlen'⟩ : ∃ n, cs.length = n := ⟨_, rfl⟩
  have Hlen := Sep.hid hlen'
  have Hvl := Sep.hid (Holds.fct (i := 4) rfl hw)
  rw [hlen'] at hw hcl
  clear hlen'
  replace hw := hw.sel [0, 1, 2, 3] (by decide)
  (try simp only [List.map_cons, List.map_nil, List.getD_cons_zero, List.getD_cons_succ, List.getD_nil, List.set_cons_zero, List.set_cons_succ, List.cons_append, List.nil_append, Act.eval, Array.getD_eq_getD_getElem?, List.getElem?_toArray, List.getElem?_cons_succ, List.getElem?_cons_zero, Option.getD_some, Value.cells] at hw); (try simp (disch := first | (simp; done) | (simp; omega)) only [Sep.mid_set, Sep.mid_set2, Sep.mid_set0, Sep.mid_splice, Sep.mid_splice0, List.set_cons_zero, List.set_cons_succ] at hw); (try simp only [Sep.splice, List.take_succ_cons, List.take_zero, List.drop_succ_cons, List.drop_zero, List.length_cons, List.length_nil, Nat.reduceAdd, List.cons_append, List.nil_append] at hw)
  (try replace hc0 := Sep.Holds.cells hw (i := 0) rfl); (try replace hc1 := Sep.Holds.cells hw (i := 1) rfl); (try replace hc2 := Sep.Holds.cells hw (i := 2) rfl); (try replace hc3 := Sep.Holds.cells hw (i := 3) rfl); (try replace hc4 := Sep.Holds.cells hw (i := 4) rfl); (try replace hc5 := Sep.Holds.cells hw (i := 5) rfl); (try replace hc6 := Sep.Holds.cells hw (i := 6) rfl)
  refine Sep.calls_post ?_
  intro Post_ hPost_
  have HP := Sep.hid hPost_
  clear hPost_
  go_enter Try.func12, Try.ntmps12
  go_wp2_with fail
  refine (rOf p n len cap a cs k Hlen hcl _ (hc1 0) (Sep.hid (calls_at (i := 2) hw rfl Hvl.out))).mono ?_
  rintro _ w_ ⟨rfl, rfl⟩
  rw [Hof.out]
  go_wp2_with fail
  exact HP.out _ _ ⟨rfl, Hw0.out⟩
set_option maxHeartbeats 1600000 in
theorem rfForget_ok (p n : Nat) (cs : List CallV) (k : Int) (i : Nat) (c : CallV) (hcl : cs.length ≤ 100000) (hc : cs[i]? = some c) (hof : ofI cs k = (i : Int)) (e w : World) (X : HProp) (hw : Holds e w [X, IsRF p n cs]) :
    Calls Try.prog 12 #[.pointer (some ⟨p, 0, none⟩), .int .i64 k] w fun en w' => en = .returned (.bool true) ∧ Holds e w' [X, IsRF p n (cs.set i { c with gone := true })] := by
  have Hof := Sep.hid hof; clear hof
  have Hc := Sep.hid hc; clear hc
  obtain ⟨⟨a, cap, vs⟩, hw⟩ := exL.open_ hw
  have hw := hw.open_ 1 rfl
  (try simp only [List.map_cons, List.map_nil, List.getD_cons_zero, List.getD_cons_succ, List.getD_nil, List.set_cons_zero, List.set_cons_succ, List.cons_append, List.nil_append, Act.eval, Array.getD_eq_getD_getElem?, List.getElem?_toArray, List.getElem?_cons_succ, List.getElem?_cons_zero, Option.getD_some, Value.cells] at hw); (try simp (disch := first | (simp; done) | (simp; omega)) only [Sep.mid_set, Sep.mid_set2, Sep.mid_set0, Sep.mid_splice, Sep.mid_splice0, List.set_cons_zero, List.set_cons_succ] at hw); (try simp only [Sep.splice, List.take_succ_cons, List.take_zero, List.drop_succ_cons, List.drop_zero, List.length_cons, List.length_nil, Nat.reduceAdd, List.cons_append, List.nil_append] at hw)
  obtain ⟨len, hlen'⟩ : ∃ n, cs.length = n := ⟨_, rfl⟩
  have Hlen := Sep.hid hlen'
  have Hvl := Sep.hid (Holds.fct (i := 4) rfl hw)
  rw [hlen'] at hw hcl
  clear hlen'
  replace hw := hw.sel [0, 1, 2, 3] (by decide)
  (try simp only [List.map_cons, List.map_nil, List.getD_cons_zero, List.getD_cons_succ, List.getD_nil, List.set_cons_zero, List.set_cons_succ, List.cons_append, List.nil_append, Act.eval, Array.getD_eq_getD_getElem?, List.getElem?_toArray, List.getElem?_cons_succ, List.getElem?_cons_zero, Option.getD_some, Value.cells] at hw); (try simp (disch := first | (simp; done) | (simp; omega)) only [Sep.mid_set, Sep.mid_set2, Sep.mid_set0, Sep.mid_splice, Sep.mid_splice0, List.set_cons_zero, List.set_cons_succ] at hw); (try simp only [Sep.splice, List.take_succ_cons, List.take_zero, List.drop_succ_cons, List.drop_zero, List.length_cons, List.length_nil, Nat.reduceAdd, List.cons_append, List.nil_append] at hw)
  (try replace hc0 := Sep.Holds.cells hw (i := 0) rfl); (try replace hc1 := Sep.Holds.cells hw (i := 1) rfl); (try replace hc2 := Sep.Holds.cells hw (i := 2) rfl); (try replace hc3 := Sep.Holds.cells hw (i := 3) rfl); (try replace hc4 := Sep.Holds.cells hw (i := 4) rfl); (try replace hc5 := Sep.Holds.cells hw (i := 5) rfl); (try replace hc6 := Sep.Holds.cells hw (i := 6) rfl)
  have hil : i < len := by have := (List.getElem?_eq_some_iff.1 Hc.out).1; rw [Hlen.out] at this; exact this
  obtain ⟨v, hv⟩ : ∃ v, vs[i]? = some v := ⟨_, List.getElem?_eq_getElem (by rw [Hvl.out, Hlen.out]; exact hil)⟩
  have Hv := Sep.hid hv; clear hv
  obtain ⟨b, off, rfl, h0, h1, h2, h3⟩ := call_at (i := 2) hw rfl Hvl.out Hc.out Hv.out
  have Hj : Hid (i * 4 + 2 < (encCs cs vs).length) := Sep.hid (by rw [encCs_length Hvl.out, Hlen.out]; omega)
  clear h0 h1 h2 h3
  (try replace hc0 := Sep.Holds.cells hw (i := 0) rfl); (try replace hc1 := Sep.Holds.cells hw (i := 1) rfl); (try replace hc2 := Sep.Holds.cells hw (i := 2) rfl); (try replace hc3 := Sep.Holds.cells hw (i := 3) rfl); (try replace hc4 := Sep.Holds.cells hw (i := 4) rfl); (try replace hc5 := Sep.Holds.cells hw (i := 5) rfl); (try replace hc6 := Sep.Holds.cells hw (i := 6) rfl)
  refine Sep.calls_post ?_
  intro Post_ hPost_
  have HP := Sep.hid hPost_
  clear hPost_
  go_enter Try.func12, Try.ntmps12
  go_wp2_with fail
  refine (rOf p n len cap (some ⟨b, off, none⟩) cs k Hlen hcl _ (hc1 0) (Sep.hid (calls_at (i := 2) hw rfl Hvl.out))).mono ?_
  rintro _ w_ ⟨rfl, rfl⟩
  rw [Hof.out]
  go_wp2_with (refine wpList_on rfl (wp_storeSl (i := 2) (j := i * 4 + 2) rfl rfl rfl hw rfl Hj.out rfl ?_); intro w_ hw_; clear hw; have hw := hw_; clear hw_; (try simp only [List.map_cons, List.map_nil, List.getD_cons_zero, List.getD_cons_succ, List.getD_nil, List.set_cons_zero, List.set_cons_succ, List.cons_append, List.nil_append, Act.eval, Array.getD_eq_getD_getElem?, List.getElem?_toArray, List.getElem?_cons_succ, List.getElem?_cons_zero, Option.getD_some, Value.cells] at hw); (try simp (disch := first | (simp; done) | (simp; omega)) only [Sep.mid_set, Sep.mid_set2, Sep.mid_set0, Sep.mid_splice, Sep.mid_splice0, List.set_cons_zero, List.set_cons_succ] at hw); (try simp only [Sep.splice, List.take_succ_cons, List.take_zero, List.drop_succ_cons, List.drop_zero, List.length_cons, List.length_nil, Nat.reduceAdd, List.cons_append, List.nil_append] at hw); (try replace hc0 := Sep.Holds.cells hw (i := 0) rfl); (try replace hc1 := Sep.Holds.cells hw (i := 1) rfl); (try replace hc2 := Sep.Holds.cells hw (i := 2) rfl); (try replace hc3 := Sep.Holds.cells hw (i := 3) rfl); (try replace hc4 := Sep.Holds.cells hw (i := 4) rfl); (try replace hc5 := Sep.Holds.cells hw (i := 5) rfl); (try replace hc6 := Sep.Holds.cells hw (i := 6) rfl))
  refine HP.out _ _ ⟨rfl, ?_⟩
  rw [encCs_set Hvl.out Hc.out Hv.out (j := 2) (by omega) (c' := { c with gone := true }) (v' := v) rfl, set_same Hv.out] at hw
  have hj : joinedOf vs cs = joinedOf vs (cs.set i { c with gone := true }) := by
    have := joinedOf_set (k := i) (c' := { c with gone := true }) (v' := v) Hvl.out
    rw [set_same Hv.out] at this
    rw [← this]
    exact (joinedOf_same Hc.out Hv.out).symm
  rw [hj] at hw
  refine exL.mk (f := rfParts p n (cs.set i { c with gone := true })) ⟨some ⟨b, off, none⟩, cap, vs⟩ ?_
  unfold rfParts
  rw [List.length_set, Hlen.out]
  exact hw.addFct (by rw [Hvl.out, Hlen.out])
end Go.Proofs.Ytecdkajhcglpdaa
