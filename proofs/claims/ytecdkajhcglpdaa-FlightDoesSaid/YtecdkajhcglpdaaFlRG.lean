/-
  The reference's flight: Do, where one joins, and where one leads.
-/
import Derived.Test.YtecdkajhcglpdaaFlRF
namespace Go.Proofs.Ytecdkajhcglpdaa
set_option linter.unusedSimpArgs false
set_option linter.unusedVariables false
open Go.RowKit Go.Sep Go.RingM

theorem isInts_at {l : List Int} {n : Nat} {v : Value} (h : l.length = n) : IsInts v l = Sl 3 1 v n (encI l) := by unfold IsInts; rw [h]
theorem vs_one {e w : World} {X A B : HProp} {cs : List CallV} {vs : List Value} (hlen : vs.length = cs.length) (hw : Holds e w [X, A, B, sepL (joinedOf vs cs)]) : ∀ v ∈ vs, v.oneCell' = true := by
  intro v hv
  obtain ⟨k, hk⟩ := List.mem_iff_getElem?.1 hv
  have hlt := (List.getElem?_eq_some_iff.1 hk).1
  obtain ⟨a, ca, h1, _⟩ := jo_pick hlen (List.getElem?_eq_getElem (show k < cs.length by omega)) hw
  rw [hk] at h1
  cases h1
  rfl
theorem encCs_one {cs : List CallV} {vs : List Value} (h : ∀ v ∈ vs, v.oneCell' = true) : ∀ v ∈ encCs cs vs, v.oneCell' = true := by
  unfold encCs
  induction cs generalizing vs with
  | nil => simp
  | cons c cs ih =>
    cases vs with
    | nil => simp
    | cons u us =>
      intro v hv
      rw [List.zipWith_cons_cons, List.flatten_cons] at hv
      rcases List.mem_append.1 hv with hv | hv
      · simp only [encC, List.mem_cons, List.not_mem_nil, or_false] at hv
        rcases hv with rfl | rfl | rfl | rfl
        · rfl
        · rfl
        · rfl
        · exact h _ List.mem_cons_self
      · exact ih (fun v hv => h v (List.mem_cons_of_mem _ hv)) v hv
theorem encCs_snoc {cs : List CallV} {vs : List Value} (h : vs.length = cs.length) (c : CallV) (v : Value) : encCs (cs ++ [c]) (vs ++ [v]) = encCs cs vs ++ encC c v := by
  unfold encCs
  rw [List.zipWith_append h.symm, List.flatten_append]
  simp
theorem joinedOf_snoc {cs : List CallV} {vs : List Value} (h : vs.length = cs.length) (c : CallV) (v : Value) : joinedOf (vs ++ [v]) (cs ++ [c]) = joinedOf vs cs ++ [IsInts v c.joined] := by
  unfold joinedOf
  rw [List.zipWith_append h]
  simp
theorem fl_joined {e w : World} {X : HProp} {p n len cap i nl a2c : Nat} {cs : List CallV} {vs : List Value} {c : CallV} {t : Int} {a a2 : Option Addr} (hvl : vs.length = cs.length) (hlen : cs.length = len) (hil : i < len) (hn : c.joined.length + 1 = nl)
    (hw : Holds e w [X, pt p [.slice a len cap, .int .i64 (n : Int)] 47, Sl 44 4 (.slice a len cap) len (encCs (cs.set i { c with joined := c.joined ++ [t] }) (vs.set i (.slice a2 nl a2c))), sepL ((joinedOf vs cs).set i emp), Sl 3 1 (.slice a2 nl a2c) nl (encI c.joined ++ [.int .i64 t])]) :
    Holds e w [X, IsRF p n (cs.set i { c with joined := c.joined ++ [t] })] := by
  have e0 : Sl 3 1 (.slice a2 nl a2c) nl (encI c.joined ++ [.int .i64 t]) = IsInts (.slice a2 nl a2c) (c.joined ++ [t]) := by rw [← hn]; exact sl_snoc _ _ _
  rw [e0] at hw
  have h1 : Holds e w [X, pt p [.slice a len cap, .int .i64 (n : Int)] 47, Sl 44 4 (.slice a len cap) len (encCs (cs.set i { c with joined := c.joined ++ [t] }) (vs.set i (.slice a2 nl a2c))), sepL ((joinedOf vs cs).set i (IsInts (.slice a2 nl a2c) (c.joined ++ [t])))] :=
    Holds.unpick (L := [X, pt p [.slice a len cap, .int .i64 (n : Int)] 47, Sl 44 4 (.slice a len cap) len (encCs (cs.set i { c with joined := c.joined ++ [t] }) (vs.set i (.slice a2 nl a2c))), sepL ((joinedOf vs cs).set i emp)]) (R := joinedOf vs cs) 3 i rfl (by rw [joinedOf_length hvl, hlen]; exact hil) hw
  have e1 : (joinedOf vs cs).set i (IsInts (.slice a2 nl a2c) (c.joined ++ [t])) = joinedOf (vs.set i (.slice a2 nl a2c)) (cs.set i { c with joined := c.joined ++ [t] }) := joinedOf_set (c' := { c with joined := c.joined ++ [t] }) hvl
  rw [e1] at h1
  refine exL.mk (f := rfParts p n (cs.set i { c with joined := c.joined ++ [t] })) ⟨a, cap, vs.set i (.slice a2 nl a2c)⟩ ?_
  unfold rfParts
  rw [List.length_set, hlen]
  exact h1.addFct (by rw [List.length_set, hvl, hlen])
set_option maxHeartbeats 4000000 in
theorem rfDo_push (p n : Nat) (cs : List CallV) (t k : Int) (h0 : 0 ≤ t) (h1 : t < n) (hcl : cs.length ≤ 100000) (hjl : Hid (∀ c ∈ cs, c.joined.length ≤ 1000000)) (hj : joinsC cs t = -1) (hl : ledI cs t = -1) (hof : ofI cs k = -1) (e w : World) (X : HProp) (hw : Holds e w [X, IsRF p n cs]) :
    Calls Try.prog 10 #[.pointer (some ⟨p, 0, none⟩), .int .i64 t, .int .i64 k] w fun en w' => en = .returned (.tuple #[.int .i64 t, .int .i64 0]) ∧ Holds e w' [X, IsRF p n (cs ++ [⟨t, k, false, []⟩])] := by
  have Hw0 := Sep.hid hw
  have Hj := Sep.hid hj; clear hj
  have Hl := Sep.hid hl; clear hl
  have Hof := Sep.hid hof; clear hof
  have Hcl := Sep.hid hcl
  obtain ⟨⟨a, cap, vs⟩, hw⟩ := exL.open_ hw
  have hw := hw.open_ 1 rfl
  (try simp only [List.map_cons, List.map_nil, List.getD_cons_zero, List.getD_cons_succ, List.getD_nil, List.set_cons_zero, List.set_cons_succ, List.cons_append, List.nil_append, Act.eval, Array.getD_eq_getD_getElem?, List.getElem?_toArray, List.getElem?_cons_succ, List.getElem?_cons_zero, Option.getD_some, Value.cells] at hw); (try simp (disch := first | (simp; done) | (simp; omega)) only [Sep.mid_set, Sep.mid_set2, Sep.mid_set0, Sep.mid_splice, Sep.mid_splice0, List.set_cons_zero, List.set_cons_succ] at hw); (try simp only [Sep.splice, List.take_succ_cons, List.take_zero, List.drop_succ_cons, List.drop_zero, List.length_cons, List.length_nil, Nat.reduceAdd, List.cons_append, List.nil_append] at hw)
  obtain ⟨len, hlen'⟩ : ∃ n, cs.length = n := ⟨_, rfl⟩
  have Hlen := Sep.hid hlen'
  have Hvl := Sep.hid (Holds.fct (i := 4) rfl hw)
  rw [hlen'] at hw hcl
  clear hlen'
  replace hw := hw.sel [0, 1, 2, 3] (by decide)
  (try simp only [List.map_cons, List.map_nil, List.getD_cons_zero, List.getD_cons_succ, List.getD_nil, List.set_cons_zero, List.set_cons_succ, List.cons_append, List.nil_append, Act.eval, Array.getD_eq_getD_getElem?, List.getElem?_toArray, List.getElem?_cons_succ, List.getElem?_cons_zero, Option.getD_some, Value.cells] at hw); (try simp (disch := first | (simp; done) | (simp; omega)) only [Sep.mid_set, Sep.mid_set2, Sep.mid_set0, Sep.mid_splice, Sep.mid_splice0, List.set_cons_zero, List.set_cons_succ] at hw); (try simp only [Sep.splice, List.take_succ_cons, List.take_zero, List.drop_succ_cons, List.drop_zero, List.length_cons, List.length_nil, Nat.reduceAdd, List.cons_append, List.nil_append] at hw)
  (try replace hc0 := Sep.Holds.cells hw (i := 0) rfl); (try replace hc1 := Sep.Holds.cells hw (i := 1) rfl); (try replace hc2 := Sep.Holds.cells hw (i := 2) rfl); (try replace hc3 := Sep.Holds.cells hw (i := 3) rfl); (try replace hc4 := Sep.Holds.cells hw (i := 4) rfl); (try replace hc5 := Sep.Holds.cells hw (i := 5) rfl); (try replace hc6 := Sep.Holds.cells hw (i := 6) rfl)
  clear hcl
  refine Sep.calls_post ?_
  intro Post_ hPost_
  have HP := Sep.hid hPost_
  clear hPost_
  go_enter Try.func10, Try.ntmps10
  go_wp2_with fail
  refine (rJoins p n cs t Hcl.out hjl e _ _ Hw0.out).mono ?_
  rintro _ w_ ⟨rfl, hw_⟩
  rw [Hj.out]
  clear hw Hw0 Hlen Hvl; (try clear hc0); (try clear hc1); (try clear hc2); (try clear hc3); (try clear hc4); (try clear hc5); (try clear hc6)
  have hw := hw_
  clear hw_
  have hcl := Hcl.out
  obtain ⟨⟨a, cap, vs⟩, hw⟩ := exL.open_ hw
  have hw := hw.open_ 1 rfl
  (try simp only [List.map_cons, List.map_nil, List.getD_cons_zero, List.getD_cons_succ, List.getD_nil, List.set_cons_zero, List.set_cons_succ, List.cons_append, List.nil_append, Act.eval, Array.getD_eq_getD_getElem?, List.getElem?_toArray, List.getElem?_cons_succ, List.getElem?_cons_zero, Option.getD_some, Value.cells] at hw); (try simp (disch := first | (simp; done) | (simp; omega)) only [Sep.mid_set, Sep.mid_set2, Sep.mid_set0, Sep.mid_splice, Sep.mid_splice0, List.set_cons_zero, List.set_cons_succ] at hw); (try simp only [Sep.splice, List.take_succ_cons, List.take_zero, List.drop_succ_cons, List.drop_zero, List.length_cons, List.length_nil, Nat.reduceAdd, List.cons_append, List.nil_append] at hw)
  obtain ⟨len, hlen'⟩ : ∃ n, cs.length = n := ⟨_, rfl⟩
  have Hlen := Sep.hid hlen'
  have Hvl := Sep.hid (Holds.fct (i := 4) rfl hw)
  rw [hlen'] at hw hcl
  clear hlen'
  replace hw := hw.sel [0, 1, 2, 3] (by decide)
  (try simp only [List.map_cons, List.map_nil, List.getD_cons_zero, List.getD_cons_succ, List.getD_nil, List.set_cons_zero, List.set_cons_succ, List.cons_append, List.nil_append, Act.eval, Array.getD_eq_getD_getElem?, List.getElem?_toArray, List.getElem?_cons_succ, List.getElem?_cons_zero, Option.getD_some, Value.cells] at hw); (try simp (disch := first | (simp; done) | (simp; omega)) only [Sep.mid_set, Sep.mid_set2, Sep.mid_set0, Sep.mid_splice, Sep.mid_splice0, List.set_cons_zero, List.set_cons_succ] at hw); (try simp only [Sep.splice, List.take_succ_cons, List.take_zero, List.drop_succ_cons, List.drop_zero, List.length_cons, List.length_nil, Nat.reduceAdd, List.cons_append, List.nil_append] at hw)
  (try replace hc0 := Sep.Holds.cells hw (i := 0) rfl); (try replace hc1 := Sep.Holds.cells hw (i := 1) rfl); (try replace hc2 := Sep.Holds.cells hw (i := 2) rfl); (try replace hc3 := Sep.Holds.cells hw (i := 3) rfl); (try replace hc4 := Sep.Holds.cells hw (i := 4) rfl); (try replace hc5 := Sep.Holds.cells hw (i := 5) rfl); (try replace hc6 := Sep.Holds.cells hw (i := 6) rfl)
  go_wp2_with fail
  refine (rLed p n len cap a cs t Hlen hcl _ (hc1 0) (Sep.hid (calls_at (i := 2) hw rfl Hvl.out))).mono ?_
  rintro _ w_ ⟨rfl, rfl⟩
  rw [Hl.out]
  go_wp2_with fail
  refine (rOf p n len cap a cs k Hlen hcl _ (hc1 0) (Sep.hid (calls_at (i := 2) hw rfl Hvl.out))).mono ?_
  rintro _ w_ ⟨rfl, rfl⟩
  rw [Hof.out]
  have Hone := Sep.hid (encCs_one (cs := cs) (vs_one Hvl.out hw))
  go_wp2_with (first | (refine wpList_on rfl (wp_bsl0 rfl hw ?_); intro b_ w_ hw_; replace hw_ := hw_.newSl (i := 4) rfl 4 0 rfl (by decide); clear hw; have hw := hw_; clear hw_; (try simp only [List.map_cons, List.map_nil, List.getD_cons_zero, List.getD_cons_succ, List.getD_nil, List.set_cons_zero, List.set_cons_succ, List.cons_append, List.nil_append, Act.eval, Array.getD_eq_getD_getElem?, List.getElem?_toArray, List.getElem?_cons_succ, List.getElem?_cons_zero, Option.getD_some, Value.cells] at hw); (try simp (disch := first | (simp; done) | (simp; omega)) only [Sep.mid_set, Sep.mid_set2, Sep.mid_set0, Sep.mid_splice, Sep.mid_splice0, List.set_cons_zero, List.set_cons_succ] at hw); (try simp only [Sep.splice, List.take_succ_cons, List.take_zero, List.drop_succ_cons, List.drop_zero, List.length_cons, List.length_nil, Nat.reduceAdd, List.cons_append, List.nil_append] at hw); (try replace hc0 := Sep.Holds.cells hw (i := 0) rfl); (try replace hc1 := Sep.Holds.cells hw (i := 1) rfl); (try replace hc2 := Sep.Holds.cells hw (i := 2) rfl); (try replace hc3 := Sep.Holds.cells hw (i := 3) rfl); (try replace hc4 := Sep.Holds.cells hw (i := 4) rfl); (try replace hc5 := Sep.Holds.cells hw (i := 5) rfl); (try replace hc6 := Sep.Holds.cells hw (i := 6) rfl)) | (at_builtin; refine wpList_on rfl (wp_appendSl (i := 4) (j := 2) (u := .slice a len cap) rfl rfl hw rfl rfl rfl Hone.out (by rfl) (by (try unfold maxLen); omega) (by (try unfold maxLen); omega) ?_); intro a2_ cap2_ w_ hw_; (try simp only [Nat.zero_add, List.nil_append] at hw_); clear hw; have hw := hw_; clear hw_; (try simp only [List.map_cons, List.map_nil, List.getD_cons_zero, List.getD_cons_succ, List.getD_nil, List.set_cons_zero, List.set_cons_succ, List.cons_append, List.nil_append, Act.eval, Array.getD_eq_getD_getElem?, List.getElem?_toArray, List.getElem?_cons_succ, List.getElem?_cons_zero, Option.getD_some, Value.cells] at hw); (try simp (disch := first | (simp; done) | (simp; omega)) only [Sep.mid_set, Sep.mid_set2, Sep.mid_set0, Sep.mid_splice, Sep.mid_splice0, List.set_cons_zero, List.set_cons_succ] at hw); (try simp only [Sep.splice, List.take_succ_cons, List.take_zero, List.drop_succ_cons, List.drop_zero, List.length_cons, List.length_nil, Nat.reduceAdd, List.cons_append, List.nil_append] at hw); (try replace hc0 := Sep.Holds.cells hw (i := 0) rfl); (try replace hc1 := Sep.Holds.cells hw (i := 1) rfl); (try replace hc2 := Sep.Holds.cells hw (i := 2) rfl); (try replace hc3 := Sep.Holds.cells hw (i := 3) rfl); (try replace hc4 := Sep.Holds.cells hw (i := 4) rfl); (try replace hc5 := Sep.Holds.cells hw (i := 5) rfl); (try replace hc6 := Sep.Holds.cells hw (i := 6) rfl)) | (refine wpList_on rfl (wp_bsl1 rfl rfl (by rfl) (by rfl) (by decide) hw ?_); intro b_ w_ hw_; clear hw; have hw := hw_; clear hw_; (try simp only [List.map_cons, List.map_nil, List.getD_cons_zero, List.getD_cons_succ, List.getD_nil, List.set_cons_zero, List.set_cons_succ, List.cons_append, List.nil_append, Act.eval, Array.getD_eq_getD_getElem?, List.getElem?_toArray, List.getElem?_cons_succ, List.getElem?_cons_zero, Option.getD_some, Value.cells] at hw); (try simp (disch := first | (simp; done) | (simp; omega)) only [Sep.mid_set, Sep.mid_set2, Sep.mid_set0, Sep.mid_splice, Sep.mid_splice0, List.set_cons_zero, List.set_cons_succ] at hw); (try simp only [Sep.splice, List.take_succ_cons, List.take_zero, List.drop_succ_cons, List.drop_zero, List.length_cons, List.length_nil, Nat.reduceAdd, List.cons_append, List.nil_append] at hw); (try replace hc0 := Sep.Holds.cells hw (i := 0) rfl); (try replace hc1 := Sep.Holds.cells hw (i := 1) rfl); (try replace hc2 := Sep.Holds.cells hw (i := 2) rfl); (try replace hc3 := Sep.Holds.cells hw (i := 3) rfl); (try replace hc4 := Sep.Holds.cells hw (i := 4) rfl); (try replace hc5 := Sep.Holds.cells hw (i := 5) rfl); (try replace hc6 := Sep.Holds.cells hw (i := 6) rfl)) | (at_builtin; refine wpList_on rfl (wp_appendPt (i := 4) (j := 5) rfl rfl hw rfl rfl rfl (by rfl) (by simp [Value.oneCell']) (by decide) (by rfl) (by (try unfold maxLen); omega) (by (try unfold maxLen); omega) ?_); intro b2_ cap2_ off2_ w_ hcap2_ hw_; clear hw; have hw := hw_; clear hw_; (try simp only [List.map_cons, List.map_nil, List.getD_cons_zero, List.getD_cons_succ, List.getD_nil, List.set_cons_zero, List.set_cons_succ, List.cons_append, List.nil_append, Act.eval, Array.getD_eq_getD_getElem?, List.getElem?_toArray, List.getElem?_cons_succ, List.getElem?_cons_zero, Option.getD_some, Value.cells] at hw); (try simp (disch := first | (simp; done) | (simp; omega)) only [Sep.mid_set, Sep.mid_set2, Sep.mid_set0, Sep.mid_splice, Sep.mid_splice0, List.set_cons_zero, List.set_cons_succ] at hw); (try simp only [Sep.splice, List.take_succ_cons, List.take_zero, List.drop_succ_cons, List.drop_zero, List.length_cons, List.length_nil, Nat.reduceAdd, List.cons_append, List.nil_append] at hw); (try replace hc0 := Sep.Holds.cells hw (i := 0) rfl); (try replace hc1 := Sep.Holds.cells hw (i := 1) rfl); (try replace hc2 := Sep.Holds.cells hw (i := 2) rfl); (try replace hc3 := Sep.Holds.cells hw (i := 3) rfl); (try replace hc4 := Sep.Holds.cells hw (i := 4) rfl); (try replace hc5 := Sep.Holds.cells hw (i := 5) rfl); (try replace hc6 := Sep.Holds.cells hw (i := 6) rfl)) | (refine wpList_on rfl (wp_store1 (v := _) rfl rfl rfl hw (i := 1) rfl (by simp [Sep.mid_length, Act.eval, Value.cells]; try omega) rfl ?_); intro w_ hw_; clear hw; have hw := hw_; clear hw_; (try simp only [List.map_cons, List.map_nil, List.getD_cons_zero, List.getD_cons_succ, List.getD_nil, List.set_cons_zero, List.set_cons_succ, List.cons_append, List.nil_append, Act.eval, Array.getD_eq_getD_getElem?, List.getElem?_toArray, List.getElem?_cons_succ, List.getElem?_cons_zero, Option.getD_some, Value.cells] at hw); (try simp (disch := first | (simp; done) | (simp; omega)) only [Sep.mid_set, Sep.mid_set2, Sep.mid_set0, Sep.mid_splice, Sep.mid_splice0, List.set_cons_zero, List.set_cons_succ] at hw); (try simp only [Sep.splice, List.take_succ_cons, List.take_zero, List.drop_succ_cons, List.drop_zero, List.length_cons, List.length_nil, Nat.reduceAdd, List.cons_append, List.nil_append] at hw); (try replace hc0 := Sep.Holds.cells hw (i := 0) rfl); (try replace hc1 := Sep.Holds.cells hw (i := 1) rfl); (try replace hc2 := Sep.Holds.cells hw (i := 2) rfl); (try replace hc3 := Sep.Holds.cells hw (i := 3) rfl); (try replace hc4 := Sep.Holds.cells hw (i := 4) rfl); (try replace hc5 := Sep.Holds.cells hw (i := 5) rfl); (try replace hc6 := Sep.Holds.cells hw (i := 6) rfl)))
  have hw := hw.sel [0, 1, 4, 3] (by decide)
  (try simp only [List.map_cons, List.map_nil, List.getD_cons_zero, List.getD_cons_succ, List.getD_nil, List.set_cons_zero, List.set_cons_succ, List.cons_append, List.nil_append, Act.eval, Array.getD_eq_getD_getElem?, List.getElem?_toArray, List.getElem?_cons_succ, List.getElem?_cons_zero, Option.getD_some, Value.cells] at hw); (try simp (disch := first | (simp; done) | (simp; omega)) only [Sep.mid_set, Sep.mid_set2, Sep.mid_set0, Sep.mid_splice, Sep.mid_splice0, List.set_cons_zero, List.set_cons_succ] at hw); (try simp only [Sep.splice, List.take_succ_cons, List.take_zero, List.drop_succ_cons, List.drop_zero, List.length_cons, List.length_nil, Nat.reduceAdd, List.cons_append, List.nil_append] at hw)
  refine HP.out _ _ ⟨rfl, ?_⟩
  have h2 := Holds.growRow 3 rfl (hw.addEmp (X := IsInts (.slice none 0 0) []) (Sl.nil _ _ _))
  refine exL.mk (f := rfParts p n (cs ++ [⟨t, k, false, []⟩])) ⟨some ⟨b2_, off2_, none⟩, cap2_, vs ++ [.slice none 0 0]⟩ ?_
  unfold rfParts
  rw [List.length_append, Hlen.out, encCs_snoc Hvl.out, joinedOf_snoc Hvl.out]
  exact Holds.addFct (by simp [Hvl.out, Hlen.out]) h2
set_option maxHeartbeats 8000000 in
theorem rfDo_join (p n : Nat) (cs : List CallV) (t k : Int) (i : Nat) (c : CallV) (h0 : 0 ≤ t) (h1 : t < n) (hcl : cs.length ≤ 100000) (hjl : Hid (∀ c ∈ cs, c.joined.length ≤ 1000000)) (hj : joinsC cs t = -1) (hl : ledI cs t = -1) (hof : ofI cs k = (i : Int)) (hc : cs[i]? = some c) (e w : World) (X : HProp) (hw : Holds e w [X, IsRF p n cs]) :
    Calls Try.prog 10 #[.pointer (some ⟨p, 0, none⟩), .int .i64 t, .int .i64 k] w fun en w' => en = .returned (.tuple #[.int .i64 c.of, .int .i64 0]) ∧ Holds e w' [X, IsRF p n (cs.set i { c with joined := c.joined ++ [t] })] := by
  have Hw0 := Sep.hid hw
  have Hj := Sep.hid hj; clear hj
  have Hl := Sep.hid hl; clear hl
  have Hof := Sep.hid hof; clear hof
  have Hcl := Sep.hid hcl
  have Hc := Sep.hid hc; clear hc
  obtain ⟨⟨a, cap, vs⟩, hw⟩ := exL.open_ hw
  have hw := hw.open_ 1 rfl
  (try simp only [List.map_cons, List.map_nil, List.getD_cons_zero, List.getD_cons_succ, List.getD_nil, List.set_cons_zero, List.set_cons_succ, List.cons_append, List.nil_append, Act.eval, Array.getD_eq_getD_getElem?, List.getElem?_toArray, List.getElem?_cons_succ, List.getElem?_cons_zero, Option.getD_some, Value.cells] at hw); (try simp (disch := first | (simp; done) | (simp; omega)) only [Sep.mid_set, Sep.mid_set2, Sep.mid_set0, Sep.mid_splice, Sep.mid_splice0, List.set_cons_zero, List.set_cons_succ] at hw); (try simp only [Sep.splice, List.take_succ_cons, List.take_zero, List.drop_succ_cons, List.drop_zero, List.length_cons, List.length_nil, Nat.reduceAdd, List.cons_append, List.nil_append] at hw)
  obtain ⟨len, hlen'⟩ : ∃ n, cs.length = n := ⟨_, rfl⟩
  have Hlen := Sep.hid hlen'
  have Hvl := Sep.hid (Holds.fct (i := 4) rfl hw)
  rw [hlen'] at hw hcl
  clear hlen'
  replace hw := hw.sel [0, 1, 2, 3] (by decide)
  (try simp only [List.map_cons, List.map_nil, List.getD_cons_zero, List.getD_cons_succ, List.getD_nil, List.set_cons_zero, List.set_cons_succ, List.cons_append, List.nil_append, Act.eval, Array.getD_eq_getD_getElem?, List.getElem?_toArray, List.getElem?_cons_succ, List.getElem?_cons_zero, Option.getD_some, Value.cells] at hw); (try simp (disch := first | (simp; done) | (simp; omega)) only [Sep.mid_set, Sep.mid_set2, Sep.mid_set0, Sep.mid_splice, Sep.mid_splice0, List.set_cons_zero, List.set_cons_succ] at hw); (try simp only [Sep.splice, List.take_succ_cons, List.take_zero, List.drop_succ_cons, List.drop_zero, List.length_cons, List.length_nil, Nat.reduceAdd, List.cons_append, List.nil_append] at hw)
  (try replace hc0 := Sep.Holds.cells hw (i := 0) rfl); (try replace hc1 := Sep.Holds.cells hw (i := 1) rfl); (try replace hc2 := Sep.Holds.cells hw (i := 2) rfl); (try replace hc3 := Sep.Holds.cells hw (i := 3) rfl); (try replace hc4 := Sep.Holds.cells hw (i := 4) rfl); (try replace hc5 := Sep.Holds.cells hw (i := 5) rfl); (try replace hc6 := Sep.Holds.cells hw (i := 6) rfl)
  clear hcl
  refine Sep.calls_post ?_
  intro Post_ hPost_
  have HP := Sep.hid hPost_
  clear hPost_
  go_enter Try.func10, Try.ntmps10
  go_wp2_with fail
  refine (rJoins p n cs t Hcl.out hjl e _ _ Hw0.out).mono ?_
  rintro _ w_ ⟨rfl, hw_⟩
  rw [Hj.out]
  clear hw Hw0 Hlen Hvl; (try clear hc0); (try clear hc1); (try clear hc2); (try clear hc3); (try clear hc4); (try clear hc5); (try clear hc6)
  have hw := hw_
  clear hw_
  have hcl := Hcl.out
  obtain ⟨⟨a, cap, vs⟩, hw⟩ := exL.open_ hw
  have hw := hw.open_ 1 rfl
  (try simp only [List.map_cons, List.map_nil, List.getD_cons_zero, List.getD_cons_succ, List.getD_nil, List.set_cons_zero, List.set_cons_succ, List.cons_append, List.nil_append, Act.eval, Array.getD_eq_getD_getElem?, List.getElem?_toArray, List.getElem?_cons_succ, List.getElem?_cons_zero, Option.getD_some, Value.cells] at hw); (try simp (disch := first | (simp; done) | (simp; omega)) only [Sep.mid_set, Sep.mid_set2, Sep.mid_set0, Sep.mid_splice, Sep.mid_splice0, List.set_cons_zero, List.set_cons_succ] at hw); (try simp only [Sep.splice, List.take_succ_cons, List.take_zero, List.drop_succ_cons, List.drop_zero, List.length_cons, List.length_nil, Nat.reduceAdd, List.cons_append, List.nil_append] at hw)
  obtain ⟨len, hlen'⟩ : ∃ n, cs.length = n := ⟨_, rfl⟩
  have Hlen := Sep.hid hlen'
  have Hvl := Sep.hid (Holds.fct (i := 4) rfl hw)
  rw [hlen'] at hw hcl
  clear hlen'
  replace hw := hw.sel [0, 1, 2, 3] (by decide)
  (try simp only [List.map_cons, List.map_nil, List.getD_cons_zero, List.getD_cons_succ, List.getD_nil, List.set_cons_zero, List.set_cons_succ, List.cons_append, List.nil_append, Act.eval, Array.getD_eq_getD_getElem?, List.getElem?_toArray, List.getElem?_cons_succ, List.getElem?_cons_zero, Option.getD_some, Value.cells] at hw); (try simp (disch := first | (simp; done) | (simp; omega)) only [Sep.mid_set, Sep.mid_set2, Sep.mid_set0, Sep.mid_splice, Sep.mid_splice0, List.set_cons_zero, List.set_cons_succ] at hw); (try simp only [Sep.splice, List.take_succ_cons, List.take_zero, List.drop_succ_cons, List.drop_zero, List.length_cons, List.length_nil, Nat.reduceAdd, List.cons_append, List.nil_append] at hw)
  (try replace hc0 := Sep.Holds.cells hw (i := 0) rfl); (try replace hc1 := Sep.Holds.cells hw (i := 1) rfl); (try replace hc2 := Sep.Holds.cells hw (i := 2) rfl); (try replace hc3 := Sep.Holds.cells hw (i := 3) rfl); (try replace hc4 := Sep.Holds.cells hw (i := 4) rfl); (try replace hc5 := Sep.Holds.cells hw (i := 5) rfl); (try replace hc6 := Sep.Holds.cells hw (i := 6) rfl)
  go_wp2_with fail
  refine (rLed p n len cap a cs t Hlen hcl _ (hc1 0) (Sep.hid (calls_at (i := 2) hw rfl Hvl.out))).mono ?_
  rintro _ w_ ⟨rfl, rfl⟩
  rw [Hl.out]
  go_wp2_with fail
  refine (rOf p n len cap a cs k Hlen hcl _ (hc1 0) (Sep.hid (calls_at (i := 2) hw rfl Hvl.out))).mono ?_
  rintro _ w_ ⟨rfl, rfl⟩
  rw [Hof.out]
  have hil : i < len := by have := (List.getElem?_eq_some_iff.1 Hc.out).1; rw [Hlen.out] at this; exact this
  have hjc := hjl.out c (List.mem_of_getElem? Hc.out)
  obtain ⟨ja, jc, hv, hw⟩ := jo_pick Hvl.out Hc.out hw
  have Hv := Sep.hid hv; clear hv
  obtain ⟨b, off, rfl, g0, g1, g2, g3⟩ := call_at (i := 2) hw rfl Hvl.out Hc.out Hv.out
  obtain ⟨nl, hnl⟩ : ∃ nl, c.joined.length = nl := ⟨_, rfl⟩
  have Hnl := Sep.hid hnl
  rw [hnl] at hjc g3 hw Hv
  clear hnl
  have Hcell : Hid (∀ w', Holds e w' [pt p [.slice (some ⟨b, off, none⟩) len cap, .int .i64 (n : Int)] 47, Sl 44 4 (.slice (some ⟨b, off, none⟩) len cap) len (encCs cs vs)] → w'.cell? ⟨b, off + i * 4 + 3, none⟩ = some (.slice ja nl jc)) := Sep.hid (fun w' hw' => by
    obtain ⟨b2, off2, hb2, _, _, _, h⟩ := call_at (i := 1) hw' rfl Hvl.out Hc.out Hv.out
    cases hb2; exact h)
  have Hjj : Hid (i * 4 + 3 < (encCs cs vs).length) := Sep.hid (by rw [encCs_length Hvl.out, Hlen.out]; omega)
  rw [isInts_at Hnl.out] at hw
  clear g0 g1 g2 g3
  (try replace hc0 := Sep.Holds.cells hw (i := 0) rfl); (try replace hc1 := Sep.Holds.cells hw (i := 1) rfl); (try replace hc2 := Sep.Holds.cells hw (i := 2) rfl); (try replace hc3 := Sep.Holds.cells hw (i := 3) rfl); (try replace hc4 := Sep.Holds.cells hw (i := 4) rfl); (try replace hc5 := Sep.Holds.cells hw (i := 5) rfl); (try replace hc6 := Sep.Holds.cells hw (i := 6) rfl)
  go_wp2_with fail
  refine wp_region_L [5, 14, 16, 17, 20] [(3, (fun w' => Holds e w' [pt p [.slice (some ⟨b, off, none⟩) len cap, .int .i64 (n : Int)] 47, Sl 44 4 (.slice (some ⟨b, off, none⟩) len cap) len (encCs cs vs)])), (9, (fun w' => Holds e w' [pt p [.slice (some ⟨b, off, none⟩) len cap, .int .i64 (n : Int)] 47, Sl 44 4 (.slice (some ⟨b, off, none⟩) len cap) len (encCs cs vs)])), (13, (fun w' => Holds e w' [pt p [.slice (some ⟨b, off, none⟩) len cap, .int .i64 (n : Int)] 47, Sl 44 4 (.slice (some ⟨b, off, none⟩) len cap) len (encCs cs vs)]))] (n := 21) (listed := (marks 21 0)) (by kernel_rfl) rfl (by kernel_rfl) ?conds1 ?_
  case conds1 =>
   intro c hc
   simp only [List.mem_cons, List.not_mem_nil, or_false] at hc
   rcases hc with rfl | rfl | rfl
   · exact (by replace hw := hw.drew; exact hw.sel [1, 2] (by decide))
   · exact (by replace hw := hw.drew; exact hw.sel [1, 2] (by decide))
   · exact (by replace hw := hw.drew; exact hw.sel [1, 2] (by decide))
  replace hw := hw.drew
  (try replace hc0 := Sep.Holds.cells hw (i := 0) rfl); (try replace hc1 := Sep.Holds.cells hw (i := 1) rfl); (try replace hc2 := Sep.Holds.cells hw (i := 2) rfl); (try replace hc3 := Sep.Holds.cells hw (i := 3) rfl); (try replace hc4 := Sep.Holds.cells hw (i := 4) rfl); (try replace hc5 := Sep.Holds.cells hw (i := 5) rfl); (try replace hc6 := Sep.Holds.cells hw (i := 6) rfl)
  refine wpL_q 0 ?_ rfl (Or.inl ⟨by rfl, fun w_ hS_ => ?_⟩) (marks 21 1) ?_
  rotate_left
  next => (go_simp; try (first | rfl | exact (Bool.not_not _).symm))
  try simp only [Act.put, List.setIfInBounds_toArray, List.set_cons_zero, List.set_cons_succ]
  refine wpL_q 1 ?_ rfl (Or.inl ⟨by rfl, fun w_ hS_ => ?_⟩) (marks 21 3) ?_
  rotate_left
  next => (go_simp; try (first | rfl | exact (Bool.not_not _).symm))
  try simp only [Act.put, List.setIfInBounds_toArray, List.set_cons_zero, List.set_cons_succ]
  refine wpL_q 2 ?_ rfl (Or.inl ⟨by rfl, fun w_ hS_ => ?_⟩) (marks 21 7) ?_
  rotate_left
  next => (go_simp; try (first | rfl | exact (Bool.not_not _).symm))
  try simp only [Act.put, List.setIfInBounds_toArray, List.set_cons_zero, List.set_cons_succ]
  refine wpL_m 3 ?_ rfl (.head _) (Or.inl ⟨by rfl, fun w_ hS_ => ?_⟩) (marks 21 15) ?_
  rotate_left
  next => (dsimp only at hS_; (try have q0 := Sep.Holds.cells hS_ (i := 0) rfl); (try have q1 := Sep.Holds.cells hS_ (i := 1) rfl); (try have q2 := Sep.Holds.cells hS_ (i := 2) rfl); (try have q3 := Sep.Holds.cells hS_ (i := 3) rfl); (try have q4 := Sep.Holds.cells hS_ (i := 4) rfl); (try have q5 := Sep.Holds.cells hS_ (i := 5) rfl); (try have q6 := Sep.Holds.cells hS_ (i := 6) rfl); first | (have g3 := Hcell.out _ hS_; go_simp; (try rfl); done) | (go_simp; try (first | rfl | exact (Bool.not_not _).symm)))
  try simp only [Act.put, List.setIfInBounds_toArray, List.set_cons_zero, List.set_cons_succ]
  refine wpL_q 4 ?_ rfl (Or.inl ⟨by rfl, fun w_ hS_ => ?_⟩) (marks 21 31) ?_
  rotate_left
  next => (go_simp; try (first | rfl | exact (Bool.not_not _).symm))
  try simp only [Act.put, List.setIfInBounds_toArray, List.set_cons_zero, List.set_cons_succ]
  refine wpL_q 6 ?_ rfl (Or.inl ⟨by rfl, fun w_ hS_ => ?_⟩) (marks 21 95) ?_
  rotate_left
  next => (go_simp; try (first | rfl | exact (Bool.not_not _).symm))
  try simp only [Act.put, List.setIfInBounds_toArray, List.set_cons_zero, List.set_cons_succ]
  refine wpL_q 7 ?_ rfl (Or.inl ⟨by rfl, fun w_ hS_ => ?_⟩) (marks 21 223) ?_
  rotate_left
  next => (go_simp; try (first | rfl | exact (Bool.not_not _).symm))
  try simp only [Act.put, List.setIfInBounds_toArray, List.set_cons_zero, List.set_cons_succ]
  refine wpL_q 8 ?_ rfl (Or.inl ⟨by rfl, fun w_ hS_ => ?_⟩) (marks 21 479) ?_
  rotate_left
  next => (go_simp; try (first | rfl | exact (Bool.not_not _).symm))
  try simp only [Act.put, List.setIfInBounds_toArray, List.set_cons_zero, List.set_cons_succ]
  refine wpL_m 9 ?_ rfl (.tail _ (.head _)) (Or.inl ⟨by rfl, fun w_ hS_ => ?_⟩) (marks 21 991) ?_
  rotate_left
  next => (dsimp only at hS_; (try have q0 := Sep.Holds.cells hS_ (i := 0) rfl); (try have q1 := Sep.Holds.cells hS_ (i := 1) rfl); (try have q2 := Sep.Holds.cells hS_ (i := 2) rfl); (try have q3 := Sep.Holds.cells hS_ (i := 3) rfl); (try have q4 := Sep.Holds.cells hS_ (i := 4) rfl); (try have q5 := Sep.Holds.cells hS_ (i := 5) rfl); (try have q6 := Sep.Holds.cells hS_ (i := 6) rfl); first | (have g3 := Hcell.out _ hS_; go_simp; (try rfl); done) | (go_simp; try (first | rfl | exact (Bool.not_not _).symm)))
  try simp only [Act.put, List.setIfInBounds_toArray, List.set_cons_zero, List.set_cons_succ]
  refine wpL_q 10 ?_ rfl (Or.inl ⟨by rfl, fun w_ hS_ => ?_⟩) (marks 21 2015) ?_
  rotate_left
  next => (go_simp; try (first | rfl | exact (Bool.not_not _).symm))
  try simp only [Act.put, List.setIfInBounds_toArray, List.set_cons_zero, List.set_cons_succ]
  refine wpL_q 11 ?_ rfl (Or.inl ⟨by rfl, fun w_ hS_ => ?_⟩) (marks 21 4063) ?_
  rotate_left
  next => (go_simp; try (first | rfl | exact (Bool.not_not _).symm))
  try simp only [Act.put, List.setIfInBounds_toArray, List.set_cons_zero, List.set_cons_succ]
  refine wpL_q 12 ?_ rfl (Or.inl ⟨by rfl, fun w_ hS_ => ?_⟩) (marks 21 8159) ?_
  rotate_left
  next => (go_simp; try (first | rfl | exact (Bool.not_not _).symm))
  try simp only [Act.put, List.setIfInBounds_toArray, List.set_cons_zero, List.set_cons_succ]
  refine wpL_m 13 ?_ rfl (.tail _ (.tail _ (.head _))) (Or.inl ⟨by rfl, fun w_ hS_ => ?_⟩) (marks 21 16351) ?_
  rotate_left
  next => (dsimp only at hS_; (try have q0 := Sep.Holds.cells hS_ (i := 0) rfl); (try have q1 := Sep.Holds.cells hS_ (i := 1) rfl); (try have q2 := Sep.Holds.cells hS_ (i := 2) rfl); (try have q3 := Sep.Holds.cells hS_ (i := 3) rfl); (try have q4 := Sep.Holds.cells hS_ (i := 4) rfl); (try have q5 := Sep.Holds.cells hS_ (i := 5) rfl); (try have q6 := Sep.Holds.cells hS_ (i := 6) rfl); first | (have g3 := Hcell.out _ hS_; go_simp; (try rfl); done) | (go_simp; try (first | rfl | exact (Bool.not_not _).symm)))
  try simp only [Act.put, List.setIfInBounds_toArray, List.set_cons_zero, List.set_cons_succ]
  refine wpL_q 15 ?_ rfl (Or.inl ⟨by rfl, fun w_ hS_ => ?_⟩) (marks 21 49119) ?_
  rotate_left
  next => (go_simp; try (first | rfl | exact (Bool.not_not _).symm))
  try simp only [Act.put, List.setIfInBounds_toArray, List.set_cons_zero, List.set_cons_succ]
  refine wpL_all (rs := [5, 16]) (by kernel_rfl) (by decide) ?_
  intro i hi
  simp only [List.mem_cons, List.not_mem_nil, or_false] at hi
  rcases hi with rfl | rfl
  · refine ⟨_, _, rfl, by rfl, ?_⟩
    (refine wp_bsl0 rfl hw ?_; intro b_ w_ hw_; replace hw_ := hw_.newSl (i := 5) rfl 1 0 rfl (by decide); clear hw; have hw := hw_; clear hw_; (try simp only [List.map_cons, List.map_nil, List.getD_cons_zero, List.getD_cons_succ, List.getD_nil, List.set_cons_zero, List.set_cons_succ, List.cons_append, List.nil_append, Act.eval, Array.getD_eq_getD_getElem?, List.getElem?_toArray, List.getElem?_cons_succ, List.getElem?_cons_zero, Option.getD_some, Value.cells] at hw); (try simp (disch := first | (simp; done) | (simp; omega)) only [Sep.mid_set, Sep.mid_set2, Sep.mid_set0, Sep.mid_splice, Sep.mid_splice0, List.set_cons_zero, List.set_cons_succ] at hw); (try simp only [Sep.splice, List.take_succ_cons, List.take_zero, List.drop_succ_cons, List.drop_zero, List.length_cons, List.length_nil, Nat.reduceAdd, List.cons_append, List.nil_append] at hw); (try replace hc0 := Sep.Holds.cells hw (i := 0) rfl); (try replace hc1 := Sep.Holds.cells hw (i := 1) rfl); (try replace hc2 := Sep.Holds.cells hw (i := 2) rfl); (try replace hc3 := Sep.Holds.cells hw (i := 3) rfl); (try replace hc4 := Sep.Holds.cells hw (i := 4) rfl); (try replace hc5 := Sep.Holds.cells hw (i := 5) rfl); (try replace hc6 := Sep.Holds.cells hw (i := 6) rfl))
    refine ⟨(SL.keep (by exact hw.sel [1, 2] (by decide)) (SL.keep (by exact hw.sel [1, 2] (by decide)) (SL.keep (by exact hw.sel [1, 2] (by decide)) SL.nil))), ?_⟩
    try simp only [Act.put, List.setIfInBounds_toArray, List.set_cons_zero, List.set_cons_succ]
    refine wpL_all (rs := [14, 16]) (by kernel_rfl) (by decide) ?_
    intro i hi
    simp only [List.mem_cons, List.not_mem_nil, or_false] at hi
    rcases hi with rfl | rfl
    · refine ⟨_, _, rfl, by rfl, ?_⟩
      (refine wp_appendSl (i := 5) (j := 4) (u := .slice ja nl jc) (m := nl) (news := encI c.joined) rfl rfl hw rfl rfl rfl (by first | exact encI_one _ | simp [Value.oneCell', Value.cells]) (by rfl) (by (try unfold maxLen); omega) (by (try unfold maxLen); omega) ?_; intro a2_ cap2_ w_ hw_; clear hw; have hw := hw_; clear hw_; (try simp only [List.map_cons, List.map_nil, List.getD_cons_zero, List.getD_cons_succ, List.getD_nil, List.set_cons_zero, List.set_cons_succ, List.cons_append, List.nil_append, Act.eval, Array.getD_eq_getD_getElem?, List.getElem?_toArray, List.getElem?_cons_succ, List.getElem?_cons_zero, Option.getD_some, Value.cells] at hw); (try simp (disch := first | (simp; done) | (simp; omega)) only [Sep.mid_set, Sep.mid_set2, Sep.mid_set0, Sep.mid_splice, Sep.mid_splice0, List.set_cons_zero, List.set_cons_succ] at hw); (try simp only [Sep.splice, List.take_succ_cons, List.take_zero, List.drop_succ_cons, List.drop_zero, List.length_cons, List.length_nil, Nat.reduceAdd, List.cons_append, List.nil_append] at hw); (try replace hc0 := Sep.Holds.cells hw (i := 0) rfl); (try replace hc1 := Sep.Holds.cells hw (i := 1) rfl); (try replace hc2 := Sep.Holds.cells hw (i := 2) rfl); (try replace hc3 := Sep.Holds.cells hw (i := 3) rfl); (try replace hc4 := Sep.Holds.cells hw (i := 4) rfl); (try replace hc5 := Sep.Holds.cells hw (i := 5) rfl); (try replace hc6 := Sep.Holds.cells hw (i := 6) rfl))
      refine ⟨(SL.keep (by exact hw.sel [1, 2] (by decide)) (SL.drop 14 (by kernel_rfl) (SL.drop 14 (by kernel_rfl) SL.nil))), ?_⟩
      try simp only [Act.put, List.setIfInBounds_toArray, List.set_cons_zero, List.set_cons_succ]
      refine wpL_o 16 rfl (by rfl) (marks 21 131071) ?_
      (refine wp_bsl1 rfl rfl (by rfl) (by rfl) (by decide) hw ?_; intro b_ w_ hw_; replace hw_ := hw_.newSl (i := 6) rfl 1 1 rfl (by decide); clear hw; have hw := hw_; clear hw_; (try simp only [List.map_cons, List.map_nil, List.getD_cons_zero, List.getD_cons_succ, List.getD_nil, List.set_cons_zero, List.set_cons_succ, List.cons_append, List.nil_append, Act.eval, Array.getD_eq_getD_getElem?, List.getElem?_toArray, List.getElem?_cons_succ, List.getElem?_cons_zero, Option.getD_some, Value.cells] at hw); (try simp (disch := first | (simp; done) | (simp; omega)) only [Sep.mid_set, Sep.mid_set2, Sep.mid_set0, Sep.mid_splice, Sep.mid_splice0, List.set_cons_zero, List.set_cons_succ] at hw); (try simp only [Sep.splice, List.take_succ_cons, List.take_zero, List.drop_succ_cons, List.drop_zero, List.length_cons, List.length_nil, Nat.reduceAdd, List.cons_append, List.nil_append] at hw); (try replace hc0 := Sep.Holds.cells hw (i := 0) rfl); (try replace hc1 := Sep.Holds.cells hw (i := 1) rfl); (try replace hc2 := Sep.Holds.cells hw (i := 2) rfl); (try replace hc3 := Sep.Holds.cells hw (i := 3) rfl); (try replace hc4 := Sep.Holds.cells hw (i := 4) rfl); (try replace hc5 := Sep.Holds.cells hw (i := 5) rfl); (try replace hc6 := Sep.Holds.cells hw (i := 6) rfl))
      refine ⟨(SL.keep (by exact hw.sel [1, 2] (by decide)) (SL.drop 14 (by kernel_rfl) (SL.drop 14 (by kernel_rfl) SL.nil))), ?_⟩
      try simp only [Act.put, List.setIfInBounds_toArray, List.set_cons_zero, List.set_cons_succ]
      refine wpL_o 17 rfl (by rfl) (marks 21 262143) ?_
      (refine wp_appendSl (i := 5) (j := 6) (n := 0 + nl) (m := 1) (news := [.int .i64 t]) rfl rfl hw rfl rfl rfl (by first | exact encI_one _ | simp [Value.oneCell', Value.cells]) (by rfl) (by (try unfold maxLen); omega) (by (try unfold maxLen); omega) ?_; intro a2_ cap2_ w_ hw_; clear hw; have hw := hw_; clear hw_; (try simp only [List.map_cons, List.map_nil, List.getD_cons_zero, List.getD_cons_succ, List.getD_nil, List.set_cons_zero, List.set_cons_succ, List.cons_append, List.nil_append, Act.eval, Array.getD_eq_getD_getElem?, List.getElem?_toArray, List.getElem?_cons_succ, List.getElem?_cons_zero, Option.getD_some, Value.cells] at hw); (try simp (disch := first | (simp; done) | (simp; omega)) only [Sep.mid_set, Sep.mid_set2, Sep.mid_set0, Sep.mid_splice, Sep.mid_splice0, List.set_cons_zero, List.set_cons_succ] at hw); (try simp only [Sep.splice, List.take_succ_cons, List.take_zero, List.drop_succ_cons, List.drop_zero, List.length_cons, List.length_nil, Nat.reduceAdd, List.cons_append, List.nil_append] at hw); (try replace hc0 := Sep.Holds.cells hw (i := 0) rfl); (try replace hc1 := Sep.Holds.cells hw (i := 1) rfl); (try replace hc2 := Sep.Holds.cells hw (i := 2) rfl); (try replace hc3 := Sep.Holds.cells hw (i := 3) rfl); (try replace hc4 := Sep.Holds.cells hw (i := 4) rfl); (try replace hc5 := Sep.Holds.cells hw (i := 5) rfl); (try replace hc6 := Sep.Holds.cells hw (i := 6) rfl))
      refine ⟨(SL.keep (by exact hw.sel [1, 2] (by decide)) (SL.drop 14 (by kernel_rfl) (SL.drop 14 (by kernel_rfl) SL.nil))), ?_⟩
      try simp only [Act.put, List.setIfInBounds_toArray, List.set_cons_zero, List.set_cons_succ]
      refine wpL_q 18 ?_ rfl (Or.inl ⟨by rfl, fun w_ hS_ => ?_⟩) (marks 21 524287) ?_
      rotate_left
      next => (go_simp; try (first | rfl | exact (Bool.not_not _).symm))
      try simp only [Act.put, List.setIfInBounds_toArray, List.set_cons_zero, List.set_cons_succ]
      refine wpL_q 19 ?_ rfl (Or.inl ⟨by rfl, fun w_ hS_ => ?_⟩) (marks 21 1048575) ?_
      rotate_left
      next => (go_simp; try (first | rfl | exact (Bool.not_not _).symm))
      try simp only [Act.put, List.setIfInBounds_toArray, List.set_cons_zero, List.set_cons_succ]
      refine wpL_o 20 rfl (by rfl) (marks 21 2097151) ?_
      (refine wp_storeSl (i := 2) (j := i * 4 + 3) rfl rfl rfl hw rfl Hjj.out rfl ?_; intro w_ hw_; clear hw; have hw := hw_; clear hw_; (try simp only [List.map_cons, List.map_nil, List.getD_cons_zero, List.getD_cons_succ, List.getD_nil, List.set_cons_zero, List.set_cons_succ, List.cons_append, List.nil_append, Act.eval, Array.getD_eq_getD_getElem?, List.getElem?_toArray, List.getElem?_cons_succ, List.getElem?_cons_zero, Option.getD_some, Value.cells] at hw); (try simp (disch := first | (simp; done) | (simp; omega)) only [Sep.mid_set, Sep.mid_set2, Sep.mid_set0, Sep.mid_splice, Sep.mid_splice0, List.set_cons_zero, List.set_cons_succ] at hw); (try simp only [Sep.splice, List.take_succ_cons, List.take_zero, List.drop_succ_cons, List.drop_zero, List.length_cons, List.length_nil, Nat.reduceAdd, List.cons_append, List.nil_append] at hw); (try replace hc0 := Sep.Holds.cells hw (i := 0) rfl); (try replace hc1 := Sep.Holds.cells hw (i := 1) rfl); (try replace hc2 := Sep.Holds.cells hw (i := 2) rfl); (try replace hc3 := Sep.Holds.cells hw (i := 3) rfl); (try replace hc4 := Sep.Holds.cells hw (i := 4) rfl); (try replace hc5 := Sep.Holds.cells hw (i := 5) rfl); (try replace hc6 := Sep.Holds.cells hw (i := 6) rfl))
      refine ⟨(SL.drop 20 (by kernel_rfl) (SL.drop 14 (by kernel_rfl) (SL.drop 14 (by kernel_rfl) SL.nil))), ?_⟩
      try simp only [Act.put, List.setIfInBounds_toArray, List.set_cons_zero, List.set_cons_succ]
      refine wpL_done (by kernel_rfl) ?_ _
      (replace hw := hw.sel [0, 1, 2, 3, 5] (by decide); (try simp only [List.map_cons, List.map_nil, List.getD_cons_zero, List.getD_cons_succ, List.getD_nil, List.set_cons_zero, List.set_cons_succ, List.cons_append, List.nil_append, Act.eval, Array.getD_eq_getD_getElem?, List.getElem?_toArray, List.getElem?_cons_succ, List.getElem?_cons_zero, Option.getD_some, Value.cells] at hw); (try simp (disch := first | (simp; done) | (simp; omega)) only [Sep.mid_set, Sep.mid_set2, Sep.mid_set0, Sep.mid_splice, Sep.mid_splice0, List.set_cons_zero, List.set_cons_succ] at hw); (try simp only [Sep.splice, List.take_succ_cons, List.take_zero, List.drop_succ_cons, List.drop_zero, List.length_cons, List.length_nil, Nat.reduceAdd, List.cons_append, List.nil_append] at hw))
      rw [encCs_set Hvl.out Hc.out Hv.out (j := 3) (by omega) (c' := { c with joined := c.joined ++ [t] }) (v' := .slice a2_ (0 + nl + 1) cap2_) rfl] at hw
      obtain ⟨b2, off2, hb2, g0, _, _, _⟩ := call_at (i := 2) hw rfl (by rw [List.length_set, List.length_set]; exact Hvl.out) (List.getElem?_set_self (by rw [Hlen.out]; exact hil)) (List.getElem?_set_self (by rw [Hvl.out, Hlen.out]; exact hil))
      cases hb2
      (try replace hc0 := Sep.Holds.cells hw (i := 0) rfl); (try replace hc1 := Sep.Holds.cells hw (i := 1) rfl); (try replace hc2 := Sep.Holds.cells hw (i := 2) rfl); (try replace hc3 := Sep.Holds.cells hw (i := 3) rfl); (try replace hc4 := Sep.Holds.cells hw (i := 4) rfl); (try replace hc5 := Sep.Holds.cells hw (i := 5) rfl); (try replace hc6 := Sep.Holds.cells hw (i := 6) rfl)
      go_wp2_with fail
      exact HP.out _ _ ⟨rfl, fl_joined (cap := cap) Hvl.out Hlen.out hil (by rw [Hnl.out]; omega) hw⟩
    · refine ⟨_, _, rfl, by rfl, ?_⟩
      (refine wp_bsl1 rfl rfl (by rfl) (by rfl) (by decide) hw ?_; intro b_ w_ hw_; replace hw_ := hw_.newSl (i := 6) rfl 1 1 rfl (by decide); clear hw; have hw := hw_; clear hw_; (try simp only [List.map_cons, List.map_nil, List.getD_cons_zero, List.getD_cons_succ, List.getD_nil, List.set_cons_zero, List.set_cons_succ, List.cons_append, List.nil_append, Act.eval, Array.getD_eq_getD_getElem?, List.getElem?_toArray, List.getElem?_cons_succ, List.getElem?_cons_zero, Option.getD_some, Value.cells] at hw); (try simp (disch := first | (simp; done) | (simp; omega)) only [Sep.mid_set, Sep.mid_set2, Sep.mid_set0, Sep.mid_splice, Sep.mid_splice0, List.set_cons_zero, List.set_cons_succ] at hw); (try simp only [Sep.splice, List.take_succ_cons, List.take_zero, List.drop_succ_cons, List.drop_zero, List.length_cons, List.length_nil, Nat.reduceAdd, List.cons_append, List.nil_append] at hw); (try replace hc0 := Sep.Holds.cells hw (i := 0) rfl); (try replace hc1 := Sep.Holds.cells hw (i := 1) rfl); (try replace hc2 := Sep.Holds.cells hw (i := 2) rfl); (try replace hc3 := Sep.Holds.cells hw (i := 3) rfl); (try replace hc4 := Sep.Holds.cells hw (i := 4) rfl); (try replace hc5 := Sep.Holds.cells hw (i := 5) rfl); (try replace hc6 := Sep.Holds.cells hw (i := 6) rfl))
      refine ⟨(SL.keep (by exact hw.sel [1, 2] (by decide)) (SL.keep (by exact hw.sel [1, 2] (by decide)) (SL.keep (by exact hw.sel [1, 2] (by decide)) SL.nil))), ?_⟩
      try simp only [Act.put, List.setIfInBounds_toArray, List.set_cons_zero, List.set_cons_succ]
      refine wpL_o 14 rfl (by rfl) (marks 21 131071) ?_
      (refine wp_appendSl (i := 5) (j := 4) (u := .slice ja nl jc) (m := nl) (news := encI c.joined) rfl rfl hw rfl rfl rfl (by first | exact encI_one _ | simp [Value.oneCell', Value.cells]) (by rfl) (by (try unfold maxLen); omega) (by (try unfold maxLen); omega) ?_; intro a2_ cap2_ w_ hw_; clear hw; have hw := hw_; clear hw_; (try simp only [List.map_cons, List.map_nil, List.getD_cons_zero, List.getD_cons_succ, List.getD_nil, List.set_cons_zero, List.set_cons_succ, List.cons_append, List.nil_append, Act.eval, Array.getD_eq_getD_getElem?, List.getElem?_toArray, List.getElem?_cons_succ, List.getElem?_cons_zero, Option.getD_some, Value.cells] at hw); (try simp (disch := first | (simp; done) | (simp; omega)) only [Sep.mid_set, Sep.mid_set2, Sep.mid_set0, Sep.mid_splice, Sep.mid_splice0, List.set_cons_zero, List.set_cons_succ] at hw); (try simp only [Sep.splice, List.take_succ_cons, List.take_zero, List.drop_succ_cons, List.drop_zero, List.length_cons, List.length_nil, Nat.reduceAdd, List.cons_append, List.nil_append] at hw); (try replace hc0 := Sep.Holds.cells hw (i := 0) rfl); (try replace hc1 := Sep.Holds.cells hw (i := 1) rfl); (try replace hc2 := Sep.Holds.cells hw (i := 2) rfl); (try replace hc3 := Sep.Holds.cells hw (i := 3) rfl); (try replace hc4 := Sep.Holds.cells hw (i := 4) rfl); (try replace hc5 := Sep.Holds.cells hw (i := 5) rfl); (try replace hc6 := Sep.Holds.cells hw (i := 6) rfl))
      refine ⟨(SL.keep (by exact hw.sel [1, 2] (by decide)) (SL.drop 14 (by kernel_rfl) (SL.drop 14 (by kernel_rfl) SL.nil))), ?_⟩
      try simp only [Act.put, List.setIfInBounds_toArray, List.set_cons_zero, List.set_cons_succ]
      refine wpL_o 17 rfl (by rfl) (marks 21 262143) ?_
      (refine wp_appendSl (i := 5) (j := 6) (n := 0 + nl) (m := 1) (news := [.int .i64 t]) rfl rfl hw rfl rfl rfl (by first | exact encI_one _ | simp [Value.oneCell', Value.cells]) (by rfl) (by (try unfold maxLen); omega) (by (try unfold maxLen); omega) ?_; intro a2_ cap2_ w_ hw_; clear hw; have hw := hw_; clear hw_; (try simp only [List.map_cons, List.map_nil, List.getD_cons_zero, List.getD_cons_succ, List.getD_nil, List.set_cons_zero, List.set_cons_succ, List.cons_append, List.nil_append, Act.eval, Array.getD_eq_getD_getElem?, List.getElem?_toArray, List.getElem?_cons_succ, List.getElem?_cons_zero, Option.getD_some, Value.cells] at hw); (try simp (disch := first | (simp; done) | (simp; omega)) only [Sep.mid_set, Sep.mid_set2, Sep.mid_set0, Sep.mid_splice, Sep.mid_splice0, List.set_cons_zero, List.set_cons_succ] at hw); (try simp only [Sep.splice, List.take_succ_cons, List.take_zero, List.drop_succ_cons, List.drop_zero, List.length_cons, List.length_nil, Nat.reduceAdd, List.cons_append, List.nil_append] at hw); (try replace hc0 := Sep.Holds.cells hw (i := 0) rfl); (try replace hc1 := Sep.Holds.cells hw (i := 1) rfl); (try replace hc2 := Sep.Holds.cells hw (i := 2) rfl); (try replace hc3 := Sep.Holds.cells hw (i := 3) rfl); (try replace hc4 := Sep.Holds.cells hw (i := 4) rfl); (try replace hc5 := Sep.Holds.cells hw (i := 5) rfl); (try replace hc6 := Sep.Holds.cells hw (i := 6) rfl))
      refine ⟨(SL.keep (by exact hw.sel [1, 2] (by decide)) (SL.drop 14 (by kernel_rfl) (SL.drop 14 (by kernel_rfl) SL.nil))), ?_⟩
      try simp only [Act.put, List.setIfInBounds_toArray, List.set_cons_zero, List.set_cons_succ]
      refine wpL_q 18 ?_ rfl (Or.inl ⟨by rfl, fun w_ hS_ => ?_⟩) (marks 21 524287) ?_
      rotate_left
      next => (go_simp; try (first | rfl | exact (Bool.not_not _).symm))
      try simp only [Act.put, List.setIfInBounds_toArray, List.set_cons_zero, List.set_cons_succ]
      refine wpL_q 19 ?_ rfl (Or.inl ⟨by rfl, fun w_ hS_ => ?_⟩) (marks 21 1048575) ?_
      rotate_left
      next => (go_simp; try (first | rfl | exact (Bool.not_not _).symm))
      try simp only [Act.put, List.setIfInBounds_toArray, List.set_cons_zero, List.set_cons_succ]
      refine wpL_o 20 rfl (by rfl) (marks 21 2097151) ?_
      (refine wp_storeSl (i := 2) (j := i * 4 + 3) rfl rfl rfl hw rfl Hjj.out rfl ?_; intro w_ hw_; clear hw; have hw := hw_; clear hw_; (try simp only [List.map_cons, List.map_nil, List.getD_cons_zero, List.getD_cons_succ, List.getD_nil, List.set_cons_zero, List.set_cons_succ, List.cons_append, List.nil_append, Act.eval, Array.getD_eq_getD_getElem?, List.getElem?_toArray, List.getElem?_cons_succ, List.getElem?_cons_zero, Option.getD_some, Value.cells] at hw); (try simp (disch := first | (simp; done) | (simp; omega)) only [Sep.mid_set, Sep.mid_set2, Sep.mid_set0, Sep.mid_splice, Sep.mid_splice0, List.set_cons_zero, List.set_cons_succ] at hw); (try simp only [Sep.splice, List.take_succ_cons, List.take_zero, List.drop_succ_cons, List.drop_zero, List.length_cons, List.length_nil, Nat.reduceAdd, List.cons_append, List.nil_append] at hw); (try replace hc0 := Sep.Holds.cells hw (i := 0) rfl); (try replace hc1 := Sep.Holds.cells hw (i := 1) rfl); (try replace hc2 := Sep.Holds.cells hw (i := 2) rfl); (try replace hc3 := Sep.Holds.cells hw (i := 3) rfl); (try replace hc4 := Sep.Holds.cells hw (i := 4) rfl); (try replace hc5 := Sep.Holds.cells hw (i := 5) rfl); (try replace hc6 := Sep.Holds.cells hw (i := 6) rfl))
      refine ⟨(SL.drop 20 (by kernel_rfl) (SL.drop 14 (by kernel_rfl) (SL.drop 14 (by kernel_rfl) SL.nil))), ?_⟩
      try simp only [Act.put, List.setIfInBounds_toArray, List.set_cons_zero, List.set_cons_succ]
      refine wpL_done (by kernel_rfl) ?_ _
      (replace hw := hw.sel [0, 1, 2, 3, 5] (by decide); (try simp only [List.map_cons, List.map_nil, List.getD_cons_zero, List.getD_cons_succ, List.getD_nil, List.set_cons_zero, List.set_cons_succ, List.cons_append, List.nil_append, Act.eval, Array.getD_eq_getD_getElem?, List.getElem?_toArray, List.getElem?_cons_succ, List.getElem?_cons_zero, Option.getD_some, Value.cells] at hw); (try simp (disch := first | (simp; done) | (simp; omega)) only [Sep.mid_set, Sep.mid_set2, Sep.mid_set0, Sep.mid_splice, Sep.mid_splice0, List.set_cons_zero, List.set_cons_succ] at hw); (try simp only [Sep.splice, List.take_succ_cons, List.take_zero, List.drop_succ_cons, List.drop_zero, List.length_cons, List.length_nil, Nat.reduceAdd, List.cons_append, List.nil_append] at hw))
      rw [encCs_set Hvl.out Hc.out Hv.out (j := 3) (by omega) (c' := { c with joined := c.joined ++ [t] }) (v' := .slice a2_ (0 + nl + 1) cap2_) rfl] at hw
      obtain ⟨b2, off2, hb2, g0, _, _, _⟩ := call_at (i := 2) hw rfl (by rw [List.length_set, List.length_set]; exact Hvl.out) (List.getElem?_set_self (by rw [Hlen.out]; exact hil)) (List.getElem?_set_self (by rw [Hvl.out, Hlen.out]; exact hil))
      cases hb2
      (try replace hc0 := Sep.Holds.cells hw (i := 0) rfl); (try replace hc1 := Sep.Holds.cells hw (i := 1) rfl); (try replace hc2 := Sep.Holds.cells hw (i := 2) rfl); (try replace hc3 := Sep.Holds.cells hw (i := 3) rfl); (try replace hc4 := Sep.Holds.cells hw (i := 4) rfl); (try replace hc5 := Sep.Holds.cells hw (i := 5) rfl); (try replace hc6 := Sep.Holds.cells hw (i := 6) rfl)
      go_wp2_with fail
      exact HP.out _ _ ⟨rfl, fl_joined (cap := cap) Hvl.out Hlen.out hil (by rw [Hnl.out]; omega) hw⟩
  · refine ⟨_, _, rfl, by rfl, ?_⟩
    (refine wp_bsl1 rfl rfl (by rfl) (by rfl) (by decide) hw ?_; intro b_ w_ hw_; replace hw_ := hw_.newSl (i := 5) rfl 1 1 rfl (by decide); clear hw; have hw := hw_; clear hw_; (try simp only [List.map_cons, List.map_nil, List.getD_cons_zero, List.getD_cons_succ, List.getD_nil, List.set_cons_zero, List.set_cons_succ, List.cons_append, List.nil_append, Act.eval, Array.getD_eq_getD_getElem?, List.getElem?_toArray, List.getElem?_cons_succ, List.getElem?_cons_zero, Option.getD_some, Value.cells] at hw); (try simp (disch := first | (simp; done) | (simp; omega)) only [Sep.mid_set, Sep.mid_set2, Sep.mid_set0, Sep.mid_splice, Sep.mid_splice0, List.set_cons_zero, List.set_cons_succ] at hw); (try simp only [Sep.splice, List.take_succ_cons, List.take_zero, List.drop_succ_cons, List.drop_zero, List.length_cons, List.length_nil, Nat.reduceAdd, List.cons_append, List.nil_append] at hw); (try replace hc0 := Sep.Holds.cells hw (i := 0) rfl); (try replace hc1 := Sep.Holds.cells hw (i := 1) rfl); (try replace hc2 := Sep.Holds.cells hw (i := 2) rfl); (try replace hc3 := Sep.Holds.cells hw (i := 3) rfl); (try replace hc4 := Sep.Holds.cells hw (i := 4) rfl); (try replace hc5 := Sep.Holds.cells hw (i := 5) rfl); (try replace hc6 := Sep.Holds.cells hw (i := 6) rfl))
    refine ⟨(SL.keep (by exact hw.sel [1, 2] (by decide)) (SL.keep (by exact hw.sel [1, 2] (by decide)) (SL.keep (by exact hw.sel [1, 2] (by decide)) SL.nil))), ?_⟩
    try simp only [Act.put, List.setIfInBounds_toArray, List.set_cons_zero, List.set_cons_succ]
    refine wpL_o 5 rfl (by rfl) (marks 21 114687) ?_
    (refine wp_bsl0 rfl hw ?_; intro b_ w_ hw_; replace hw_ := hw_.newSl (i := 6) rfl 1 0 rfl (by decide); clear hw; have hw := hw_; clear hw_; (try simp only [List.map_cons, List.map_nil, List.getD_cons_zero, List.getD_cons_succ, List.getD_nil, List.set_cons_zero, List.set_cons_succ, List.cons_append, List.nil_append, Act.eval, Array.getD_eq_getD_getElem?, List.getElem?_toArray, List.getElem?_cons_succ, List.getElem?_cons_zero, Option.getD_some, Value.cells] at hw); (try simp (disch := first | (simp; done) | (simp; omega)) only [Sep.mid_set, Sep.mid_set2, Sep.mid_set0, Sep.mid_splice, Sep.mid_splice0, List.set_cons_zero, List.set_cons_succ] at hw); (try simp only [Sep.splice, List.take_succ_cons, List.take_zero, List.drop_succ_cons, List.drop_zero, List.length_cons, List.length_nil, Nat.reduceAdd, List.cons_append, List.nil_append] at hw); (try replace hc0 := Sep.Holds.cells hw (i := 0) rfl); (try replace hc1 := Sep.Holds.cells hw (i := 1) rfl); (try replace hc2 := Sep.Holds.cells hw (i := 2) rfl); (try replace hc3 := Sep.Holds.cells hw (i := 3) rfl); (try replace hc4 := Sep.Holds.cells hw (i := 4) rfl); (try replace hc5 := Sep.Holds.cells hw (i := 5) rfl); (try replace hc6 := Sep.Holds.cells hw (i := 6) rfl))
    refine ⟨(SL.keep (by exact hw.sel [1, 2] (by decide)) (SL.keep (by exact hw.sel [1, 2] (by decide)) (SL.keep (by exact hw.sel [1, 2] (by decide)) SL.nil))), ?_⟩
    try simp only [Act.put, List.setIfInBounds_toArray, List.set_cons_zero, List.set_cons_succ]
    refine wpL_o 14 rfl (by rfl) (marks 21 131071) ?_
    (refine wp_appendSl (i := 6) (j := 4) (u := .slice ja nl jc) (m := nl) (news := encI c.joined) rfl rfl hw rfl rfl rfl (by first | exact encI_one _ | simp [Value.oneCell', Value.cells]) (by rfl) (by (try unfold maxLen); omega) (by (try unfold maxLen); omega) ?_; intro a2_ cap2_ w_ hw_; clear hw; have hw := hw_; clear hw_; (try simp only [List.map_cons, List.map_nil, List.getD_cons_zero, List.getD_cons_succ, List.getD_nil, List.set_cons_zero, List.set_cons_succ, List.cons_append, List.nil_append, Act.eval, Array.getD_eq_getD_getElem?, List.getElem?_toArray, List.getElem?_cons_succ, List.getElem?_cons_zero, Option.getD_some, Value.cells] at hw); (try simp (disch := first | (simp; done) | (simp; omega)) only [Sep.mid_set, Sep.mid_set2, Sep.mid_set0, Sep.mid_splice, Sep.mid_splice0, List.set_cons_zero, List.set_cons_succ] at hw); (try simp only [Sep.splice, List.take_succ_cons, List.take_zero, List.drop_succ_cons, List.drop_zero, List.length_cons, List.length_nil, Nat.reduceAdd, List.cons_append, List.nil_append] at hw); (try replace hc0 := Sep.Holds.cells hw (i := 0) rfl); (try replace hc1 := Sep.Holds.cells hw (i := 1) rfl); (try replace hc2 := Sep.Holds.cells hw (i := 2) rfl); (try replace hc3 := Sep.Holds.cells hw (i := 3) rfl); (try replace hc4 := Sep.Holds.cells hw (i := 4) rfl); (try replace hc5 := Sep.Holds.cells hw (i := 5) rfl); (try replace hc6 := Sep.Holds.cells hw (i := 6) rfl))
    refine ⟨(SL.keep (by exact hw.sel [1, 2] (by decide)) (SL.drop 14 (by kernel_rfl) (SL.drop 14 (by kernel_rfl) SL.nil))), ?_⟩
    try simp only [Act.put, List.setIfInBounds_toArray, List.set_cons_zero, List.set_cons_succ]
    refine wpL_o 17 rfl (by rfl) (marks 21 262143) ?_
    (refine wp_appendSl (i := 6) (j := 5) (n := 0 + nl) (m := 1) (news := [.int .i64 t]) rfl rfl hw rfl rfl rfl (by first | exact encI_one _ | simp [Value.oneCell', Value.cells]) (by rfl) (by (try unfold maxLen); omega) (by (try unfold maxLen); omega) ?_; intro a2_ cap2_ w_ hw_; clear hw; have hw := hw_; clear hw_; (try simp only [List.map_cons, List.map_nil, List.getD_cons_zero, List.getD_cons_succ, List.getD_nil, List.set_cons_zero, List.set_cons_succ, List.cons_append, List.nil_append, Act.eval, Array.getD_eq_getD_getElem?, List.getElem?_toArray, List.getElem?_cons_succ, List.getElem?_cons_zero, Option.getD_some, Value.cells] at hw); (try simp (disch := first | (simp; done) | (simp; omega)) only [Sep.mid_set, Sep.mid_set2, Sep.mid_set0, Sep.mid_splice, Sep.mid_splice0, List.set_cons_zero, List.set_cons_succ] at hw); (try simp only [Sep.splice, List.take_succ_cons, List.take_zero, List.drop_succ_cons, List.drop_zero, List.length_cons, List.length_nil, Nat.reduceAdd, List.cons_append, List.nil_append] at hw); (try replace hc0 := Sep.Holds.cells hw (i := 0) rfl); (try replace hc1 := Sep.Holds.cells hw (i := 1) rfl); (try replace hc2 := Sep.Holds.cells hw (i := 2) rfl); (try replace hc3 := Sep.Holds.cells hw (i := 3) rfl); (try replace hc4 := Sep.Holds.cells hw (i := 4) rfl); (try replace hc5 := Sep.Holds.cells hw (i := 5) rfl); (try replace hc6 := Sep.Holds.cells hw (i := 6) rfl))
    refine ⟨(SL.keep (by exact hw.sel [1, 2] (by decide)) (SL.drop 14 (by kernel_rfl) (SL.drop 14 (by kernel_rfl) SL.nil))), ?_⟩
    try simp only [Act.put, List.setIfInBounds_toArray, List.set_cons_zero, List.set_cons_succ]
    refine wpL_q 18 ?_ rfl (Or.inl ⟨by rfl, fun w_ hS_ => ?_⟩) (marks 21 524287) ?_
    rotate_left
    next => (go_simp; try (first | rfl | exact (Bool.not_not _).symm))
    try simp only [Act.put, List.setIfInBounds_toArray, List.set_cons_zero, List.set_cons_succ]
    refine wpL_q 19 ?_ rfl (Or.inl ⟨by rfl, fun w_ hS_ => ?_⟩) (marks 21 1048575) ?_
    rotate_left
    next => (go_simp; try (first | rfl | exact (Bool.not_not _).symm))
    try simp only [Act.put, List.setIfInBounds_toArray, List.set_cons_zero, List.set_cons_succ]
    refine wpL_o 20 rfl (by rfl) (marks 21 2097151) ?_
    (refine wp_storeSl (i := 2) (j := i * 4 + 3) rfl rfl rfl hw rfl Hjj.out rfl ?_; intro w_ hw_; clear hw; have hw := hw_; clear hw_; (try simp only [List.map_cons, List.map_nil, List.getD_cons_zero, List.getD_cons_succ, List.getD_nil, List.set_cons_zero, List.set_cons_succ, List.cons_append, List.nil_append, Act.eval, Array.getD_eq_getD_getElem?, List.getElem?_toArray, List.getElem?_cons_succ, List.getElem?_cons_zero, Option.getD_some, Value.cells] at hw); (try simp (disch := first | (simp; done) | (simp; omega)) only [Sep.mid_set, Sep.mid_set2, Sep.mid_set0, Sep.mid_splice, Sep.mid_splice0, List.set_cons_zero, List.set_cons_succ] at hw); (try simp only [Sep.splice, List.take_succ_cons, List.take_zero, List.drop_succ_cons, List.drop_zero, List.length_cons, List.length_nil, Nat.reduceAdd, List.cons_append, List.nil_append] at hw); (try replace hc0 := Sep.Holds.cells hw (i := 0) rfl); (try replace hc1 := Sep.Holds.cells hw (i := 1) rfl); (try replace hc2 := Sep.Holds.cells hw (i := 2) rfl); (try replace hc3 := Sep.Holds.cells hw (i := 3) rfl); (try replace hc4 := Sep.Holds.cells hw (i := 4) rfl); (try replace hc5 := Sep.Holds.cells hw (i := 5) rfl); (try replace hc6 := Sep.Holds.cells hw (i := 6) rfl))
    refine ⟨(SL.drop 20 (by kernel_rfl) (SL.drop 14 (by kernel_rfl) (SL.drop 14 (by kernel_rfl) SL.nil))), ?_⟩
    try simp only [Act.put, List.setIfInBounds_toArray, List.set_cons_zero, List.set_cons_succ]
    refine wpL_done (by kernel_rfl) ?_ _
    (replace hw := hw.sel [0, 1, 2, 3, 6] (by decide); (try simp only [List.map_cons, List.map_nil, List.getD_cons_zero, List.getD_cons_succ, List.getD_nil, List.set_cons_zero, List.set_cons_succ, List.cons_append, List.nil_append, Act.eval, Array.getD_eq_getD_getElem?, List.getElem?_toArray, List.getElem?_cons_succ, List.getElem?_cons_zero, Option.getD_some, Value.cells] at hw); (try simp (disch := first | (simp; done) | (simp; omega)) only [Sep.mid_set, Sep.mid_set2, Sep.mid_set0, Sep.mid_splice, Sep.mid_splice0, List.set_cons_zero, List.set_cons_succ] at hw); (try simp only [Sep.splice, List.take_succ_cons, List.take_zero, List.drop_succ_cons, List.drop_zero, List.length_cons, List.length_nil, Nat.reduceAdd, List.cons_append, List.nil_append] at hw))
    rw [encCs_set Hvl.out Hc.out Hv.out (j := 3) (by omega) (c' := { c with joined := c.joined ++ [t] }) (v' := .slice a2_ (0 + nl + 1) cap2_) rfl] at hw
    obtain ⟨b2, off2, hb2, g0, _, _, _⟩ := call_at (i := 2) hw rfl (by rw [List.length_set, List.length_set]; exact Hvl.out) (List.getElem?_set_self (by rw [Hlen.out]; exact hil)) (List.getElem?_set_self (by rw [Hvl.out, Hlen.out]; exact hil))
    cases hb2
    (try replace hc0 := Sep.Holds.cells hw (i := 0) rfl); (try replace hc1 := Sep.Holds.cells hw (i := 1) rfl); (try replace hc2 := Sep.Holds.cells hw (i := 2) rfl); (try replace hc3 := Sep.Holds.cells hw (i := 3) rfl); (try replace hc4 := Sep.Holds.cells hw (i := 4) rfl); (try replace hc5 := Sep.Holds.cells hw (i := 5) rfl); (try replace hc6 := Sep.Holds.cells hw (i := 6) rfl)
    go_wp2_with fail
    exact HP.out _ _ ⟨rfl, fl_joined (cap := cap) Hvl.out Hlen.out hil (by rw [Hnl.out]; omega) hw⟩
end Go.Proofs.Ytecdkajhcglpdaa
