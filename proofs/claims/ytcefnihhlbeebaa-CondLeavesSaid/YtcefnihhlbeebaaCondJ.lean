/-
  The walks of a condition's Signal and Broadcast: loops over told.
-/
import Derived.Test.YtcefnihhlbeebaaCondI
namespace Go.Proofs.Ytcefnihhlbeebaa
set_option linter.unusedSimpArgs false
set_option linter.unusedVariables false
open Go.RowKit Go.Sep Go.RingM
attribute [local go_sem] Oper.semAt_some

set_option maxHeartbeats 400000 in
theorem oTold (p : Nat) (e w : World) (X : HProp) (hw : Holds e w [X]) :
    Calls Try.prog 22 #[.pointer (some ⟨p, 0, none⟩)] w fun en w' => ∃ bx, en = .returned (.func (.func 27) #[] #[.pointer (some ⟨bx, 0, none⟩)]) ∧ Holds e w' [X, pt bx [.pointer (some ⟨p, 0, none⟩)] 24] := by
  have hmf : ∀ (fn : Fn) (first cap : Array Value) (w : World), (Instr.makeFunc fn first cap).run Try.prog w = .ok (.func fn first cap) w := fun _ _ _ _ => rfl
  refine Sep.calls_post ?_
  intro Post_ hPost_
  have HP := Sep.hid hPost_
  clear hPost_
  go_enter Try.func22, Try.ntmps22
  go_wp2_with (refine wpList_on rfl (wp_box rfl hw ?_); intro b_ w_ hw_; clear hw; have hw := hw_; clear hw_; (try simp only [List.map_cons, List.map_nil, List.getD_cons_zero, List.getD_cons_succ, List.getD_nil, List.set_cons_zero, List.set_cons_succ, List.cons_append, List.nil_append, Act.eval, Array.getD_eq_getD_getElem?, List.getElem?_toArray, List.getElem?_cons_succ, List.getElem?_cons_zero, Option.getD_some, Value.cells] at hw); (try simp (disch := first | (simp; done) | (simp; omega)) only [Sep.mid_set, Sep.mid_set2, Sep.mid_set0, Sep.mid_splice, Sep.mid_splice0, List.set_cons_zero, List.set_cons_succ] at hw); (try simp only [Sep.splice, List.take_succ_cons, List.take_zero, List.drop_succ_cons, List.drop_zero, List.length_cons, List.length_nil, Nat.reduceAdd, List.cons_append, List.nil_append] at hw); (try replace hc0 := Sep.Holds.cells hw (i := 0) rfl); (try replace hc1 := Sep.Holds.cells hw (i := 1) rfl); (try replace hc2 := Sep.Holds.cells hw (i := 2) rfl); (try replace hc3 := Sep.Holds.cells hw (i := 3) rfl); (try replace hc4 := Sep.Holds.cells hw (i := 4) rfl); (try replace hc5 := Sep.Holds.cells hw (i := 5) rfl); (try replace hc6 := Sep.Holds.cells hw (i := 6) rfl))
  exact HP.out _ _ ⟨_, rfl, hw⟩
structure Gv where
  v : Value
set_option maxHeartbeats 4000000 in
theorem oBroadcast (p : Nat) (M : CM) (e w : World) (X : HProp) (hw : Holds e w [X, IsCond p M]) :
    Calls Try.prog 17 #[.pointer (some ⟨p, 0, none⟩)] w fun en w' => ∃ v, en = .returned v ∧ Holds e w' [X, IsCond p M.bcast.2, IsTolds 50 v M.bcast.1] := by
  have Hlen := Sep.hid (cond_ok (i := 1) rfl hw)
  refine Sep.calls_post ?_
  intro Post_ hPost_
  have HP := Sep.hid hPost_
  clear hPost_
  refine calls_of_wp_marks Try.func17 rfl ?_
  simp only [Try.ntmps17, List.size_toArray, List.length_cons, List.length_nil, Nat.reduceAdd, Nat.reduceSub, Array.replicate_succ, Array.replicate_zero, List.push_toArray, List.append_toArray, List.nil_append, List.cons_append]
  go_wp2_with (refine wpList_on rfl (wp_alloc rfl hw ?_); intro b_ w_ hw_; clear hw; have hw := hw_; clear hw_; (try simp only [List.map_cons, List.map_nil, List.getD_cons_zero, List.getD_cons_succ, List.getD_nil, List.set_cons_zero, List.set_cons_succ, List.cons_append, List.nil_append, Act.eval, Array.getD_eq_getD_getElem?, List.getElem?_toArray, List.getElem?_cons_succ, List.getElem?_cons_zero, Option.getD_some, Value.cells] at hw); (try simp (disch := first | (simp; done) | (simp; omega)) only [Sep.mid_set, Sep.mid_set2, Sep.mid_set0, Sep.mid_splice, Sep.mid_splice0, List.set_cons_zero, List.set_cons_succ] at hw); (try simp only [Sep.splice, List.take_succ_cons, List.take_zero, List.drop_succ_cons, List.drop_zero, List.length_cons, List.length_nil, Nat.reduceAdd, List.cons_append, List.nil_append] at hw); (try replace hc0 := Sep.Holds.cells hw (i := 0) rfl); (try replace hc1 := Sep.Holds.cells hw (i := 1) rfl); (try replace hc2 := Sep.Holds.cells hw (i := 2) rfl); (try replace hc3 := Sep.Holds.cells hw (i := 3) rfl); (try replace hc4 := Sep.Holds.cells hw (i := 4) rfl); (try replace hc5 := Sep.Holds.cells hw (i := 5) rfl); (try replace hc6 := Sep.Holds.cells hw (i := 6) rfl))
  refine (oTold p e _ _ hw.focus0).mono ?_
  rintro en_ w_ ⟨bx, rfl, hw_⟩
  clear hw; (try clear hc0); (try clear hc1); (try clear hc2); (try clear hc3); (try clear hc4); (try clear hc5); (try clear hc6); have hw := Holds.unfocus0 hw_; clear hw_
  (try simp only [List.map_cons, List.map_nil, List.getD_cons_zero, List.getD_cons_succ, List.getD_nil, List.set_cons_zero, List.set_cons_succ, List.cons_append, List.nil_append, Act.eval, Array.getD_eq_getD_getElem?, List.getElem?_toArray, List.getElem?_cons_succ, List.getElem?_cons_zero, Option.getD_some, Value.cells] at hw); (try simp (disch := first | (simp; done) | (simp; omega)) only [Sep.mid_set, Sep.mid_set2, Sep.mid_set0, Sep.mid_splice, Sep.mid_splice0, List.set_cons_zero, List.set_cons_succ] at hw); (try simp only [Sep.splice, List.take_succ_cons, List.take_zero, List.drop_succ_cons, List.drop_zero, List.length_cons, List.length_nil, Nat.reduceAdd, List.cons_append, List.nil_append] at hw)
  go_wp2_with fail
  refine wp_rangeFunc (gf := 27) rfl enters27 hw ?_
  intro fn l D rec w1 hrec hw1
  have Hrec := Sep.hid hrec; clear hrec
  clear hw; (try clear hc0); (try clear hc1); (try clear hc2); (try clear hc3); (try clear hc4); (try clear hc5); (try clear hc6)
  have hw1 := (hw1.addEmp (X := IsTolds 50 (.slice none 0 0) []) (Sl.nil _ _ _)).sel [0, 2, 6, 4, 5, 3, 1] (by decide)
  simp only [List.map_cons, List.map_nil, List.getD_cons_zero, List.getD_cons_succ, List.cons_append, List.nil_append] at hw1
  have hw1 := exL.mk (f := fun g : Gv => [X, pt b_ [g.v] 33, IsTolds 50 g.v [], pto D (.deferred (some [])), pto l (.loop (rec .ready none))]) (X := sepL [pt bx [.pointer (some ⟨p, 0, none⟩)] 24, IsCond p M]) ⟨.slice none 0 0⟩ ((Holds.group [pt bx [.pointer (some ⟨p, 0, none⟩)] 24, IsCond p M] _ (hw1.sel [5, 6, 0, 1, 2, 3, 4] (by decide))))
  have hw1 := (Holds.ungroup [pt bx [.pointer (some ⟨p, 0, none⟩)] 24, IsCond p M] [_] hw1).sel [2, 0, 1] (by decide)
  refine (told1_in p bx l M e (fun pre => exL (fun g : Gv => [X, pt b_ [g.v] 33, IsTolds 50 g.v pre, pto D (.deferred (some [])), pto l (.loop (rec .ready none))])) (fun _ => fct False) ?_ w1 hw1).mono ?_
  · intro pre x C w2 hp hw2
    obtain ⟨⟨v⟩, hw2⟩ := hw2.open' (i := 1) rfl
    have hw2 := hw2.open_ 1 rfl
    simp only [List.set_cons_zero, List.set_cons_succ, List.cons_append, List.nil_append] at hw2
    obtain ⟨va, vc, rfl⟩ := Sl.value (i := 3) rfl hw2
    have Hpl : Hid (pre.length + 1 ≤ 1000) := Sep.hid (by
      have h1 := hp.length_le
      have h2 := Hlen.out.2.1
      have h3 := Hlen.out.2.2
      rw [List.length_append, List.length_singleton] at h1
      omega)
    refine yield_at Hrec.out hw2 (i := 5) rfl rfl ?_
    clear hw1 hp Hlen Hrec
    have hw : Holds e w2 [C, X, pt b_ [.slice va pre.length vc] 33, Sl 50 2 (.slice va pre.length vc) pre.length (encT pre), pto D (.deferred (some [])), pto l (.loop (rec .ready none))] := hw2
    clear hw2
    go_simp
    gi_wp2_with (first | (refine wpListIn_on (by first | exact Wide.round _ | exact Wide.wide) rfl rfl (wp_alloc rfl hw ?_); intro b_ w_ hw_; clear hw; have hw := hw_; clear hw_; (try simp only [List.map_cons, List.map_nil, List.getD_cons_zero, List.getD_cons_succ, List.getD_nil, List.set_cons_zero, List.set_cons_succ, List.cons_append, List.nil_append, Act.eval, Array.getD_eq_getD_getElem?, List.getElem?_toArray, List.getElem?_cons_succ, List.getElem?_cons_zero, Option.getD_some, Value.cells] at hw); (try simp (disch := first | (simp; done) | (simp; omega)) only [Sep.mid_set, Sep.mid_set2, Sep.mid_set0, Sep.mid_splice, Sep.mid_splice0, List.set_cons_zero, List.set_cons_succ] at hw); (try simp only [Sep.splice, List.take_succ_cons, List.take_zero, List.drop_succ_cons, List.drop_zero, List.length_cons, List.length_nil, Nat.reduceAdd, List.cons_append, List.nil_append] at hw); (try replace hc0 := Sep.Holds.cells hw (i := 0) rfl); (try replace hc1 := Sep.Holds.cells hw (i := 1) rfl); (try replace hc2 := Sep.Holds.cells hw (i := 2) rfl); (try replace hc3 := Sep.Holds.cells hw (i := 3) rfl); (try replace hc4 := Sep.Holds.cells hw (i := 4) rfl); (try replace hc5 := Sep.Holds.cells hw (i := 5) rfl); (try replace hc6 := Sep.Holds.cells hw (i := 6) rfl)) | (refine wpListIn_on (by first | exact Wide.round _ | exact Wide.wide) rfl rfl (wp_storeAll (vs := [.int .i64 x.1, .int .i64 x.2]) rfl rfl (by rfl) hw (i := 6) rfl rfl rfl (by simp [Value.oneCell']) ?_); intro w_ hw_; clear hw; have hw := hw_; clear hw_; (try simp only [List.map_cons, List.map_nil, List.getD_cons_zero, List.getD_cons_succ, List.getD_nil, List.set_cons_zero, List.set_cons_succ, List.cons_append, List.nil_append, Act.eval, Array.getD_eq_getD_getElem?, List.getElem?_toArray, List.getElem?_cons_succ, List.getElem?_cons_zero, Option.getD_some, Value.cells] at hw); (try simp (disch := first | (simp; done) | (simp; omega)) only [Sep.mid_set, Sep.mid_set2, Sep.mid_set0, Sep.mid_splice, Sep.mid_splice0, List.set_cons_zero, List.set_cons_succ] at hw); (try simp only [Sep.splice, List.take_succ_cons, List.take_zero, List.drop_succ_cons, List.drop_zero, List.length_cons, List.length_nil, Nat.reduceAdd, List.cons_append, List.nil_append] at hw); (try replace hc0 := Sep.Holds.cells hw (i := 0) rfl); (try replace hc1 := Sep.Holds.cells hw (i := 1) rfl); (try replace hc2 := Sep.Holds.cells hw (i := 2) rfl); (try replace hc3 := Sep.Holds.cells hw (i := 3) rfl); (try replace hc4 := Sep.Holds.cells hw (i := 4) rfl); (try replace hc5 := Sep.Holds.cells hw (i := 5) rfl); (try replace hc6 := Sep.Holds.cells hw (i := 6) rfl)))
    refine ⟨_, 5, hw, rfl, fun w3 hw3 => ?_⟩
    clear hw; (try clear hc0); (try clear hc1); (try clear hc2); (try clear hc3); (try clear hc4); (try clear hc5); (try clear hc6)
    have hw := hw3; clear hw3
    simp only [List.set_cons_zero, List.set_cons_succ] at hw
    (try replace hc0 := Sep.Holds.cells hw (i := 0) rfl); (try replace hc1 := Sep.Holds.cells hw (i := 1) rfl); (try replace hc2 := Sep.Holds.cells hw (i := 2) rfl); (try replace hc3 := Sep.Holds.cells hw (i := 3) rfl); (try replace hc4 := Sep.Holds.cells hw (i := 4) rfl); (try replace hc5 := Sep.Holds.cells hw (i := 5) rfl); (try replace hc6 := Sep.Holds.cells hw (i := 6) rfl)
    gi_wp2_with (first | (refine wpListIn_on (by first | exact Wide.round _ | exact Wide.wide) rfl rfl (wp_bsl1 rfl rfl (by rfl) (by rfl) (by decide) hw ?_); intro b_ w_ hw_; clear hw; have hw := hw_; clear hw_; (try simp only [List.map_cons, List.map_nil, List.getD_cons_zero, List.getD_cons_succ, List.getD_nil, List.set_cons_zero, List.set_cons_succ, List.cons_append, List.nil_append, Act.eval, Array.getD_eq_getD_getElem?, List.getElem?_toArray, List.getElem?_cons_succ, List.getElem?_cons_zero, Option.getD_some, Value.cells] at hw); (try simp (disch := first | (simp; done) | (simp; omega)) only [Sep.mid_set, Sep.mid_set2, Sep.mid_set0, Sep.mid_splice, Sep.mid_splice0, List.set_cons_zero, List.set_cons_succ] at hw); (try simp only [Sep.splice, List.take_succ_cons, List.take_zero, List.drop_succ_cons, List.drop_zero, List.length_cons, List.length_nil, Nat.reduceAdd, List.cons_append, List.nil_append] at hw); (try replace hc0 := Sep.Holds.cells hw (i := 0) rfl); (try replace hc1 := Sep.Holds.cells hw (i := 1) rfl); (try replace hc2 := Sep.Holds.cells hw (i := 2) rfl); (try replace hc3 := Sep.Holds.cells hw (i := 3) rfl); (try replace hc4 := Sep.Holds.cells hw (i := 4) rfl); (try replace hc5 := Sep.Holds.cells hw (i := 5) rfl); (try replace hc6 := Sep.Holds.cells hw (i := 6) rfl)) | (gi_at_builtin; refine wpListIn_on (by first | exact Wide.round _ | exact Wide.wide) rfl rfl (wp_appendPt (i := 3) (j := 7) rfl rfl hw rfl rfl rfl (by rfl) (by simp [Value.oneCell']) (by decide) (by rfl) (by have := Hpl.out; (try unfold maxLen); omega) (by have := Hpl.out; (try unfold maxLen); omega) ?_); intro b2_ cap2_ off2_ w_ hcap2_ hw_; clear hw; have hw := hw_; clear hw_; (try simp only [List.map_cons, List.map_nil, List.getD_cons_zero, List.getD_cons_succ, List.getD_nil, List.set_cons_zero, List.set_cons_succ, List.cons_append, List.nil_append, Act.eval, Array.getD_eq_getD_getElem?, List.getElem?_toArray, List.getElem?_cons_succ, List.getElem?_cons_zero, Option.getD_some, Value.cells] at hw); (try simp (disch := first | (simp; done) | (simp; omega)) only [Sep.mid_set, Sep.mid_set2, Sep.mid_set0, Sep.mid_splice, Sep.mid_splice0, List.set_cons_zero, List.set_cons_succ] at hw); (try simp only [Sep.splice, List.take_succ_cons, List.take_zero, List.drop_succ_cons, List.drop_zero, List.length_cons, List.length_nil, Nat.reduceAdd, List.cons_append, List.nil_append] at hw); (try replace hc0 := Sep.Holds.cells hw (i := 0) rfl); (try replace hc1 := Sep.Holds.cells hw (i := 1) rfl); (try replace hc2 := Sep.Holds.cells hw (i := 2) rfl); (try replace hc3 := Sep.Holds.cells hw (i := 3) rfl); (try replace hc4 := Sep.Holds.cells hw (i := 4) rfl); (try replace hc5 := Sep.Holds.cells hw (i := 5) rfl); (try replace hc6 := Sep.Holds.cells hw (i := 6) rfl)) | (refine wpListIn_on (by first | exact Wide.round _ | exact Wide.wide) rfl rfl (wp_store1 (v := _) rfl rfl rfl hw (i := 2) rfl (by simp [Sep.mid_length, Act.eval, Value.cells]; try omega) rfl ?_); intro w_ hw_; clear hw; have hw := hw_; clear hw_; (try simp only [List.map_cons, List.map_nil, List.getD_cons_zero, List.getD_cons_succ, List.getD_nil, List.set_cons_zero, List.set_cons_succ, List.cons_append, List.nil_append, Act.eval, Array.getD_eq_getD_getElem?, List.getElem?_toArray, List.getElem?_cons_succ, List.getElem?_cons_zero, Option.getD_some, Value.cells] at hw); (try simp (disch := first | (simp; done) | (simp; omega)) only [Sep.mid_set, Sep.mid_set2, Sep.mid_set0, Sep.mid_splice, Sep.mid_splice0, List.set_cons_zero, List.set_cons_succ] at hw); (try simp only [Sep.splice, List.take_succ_cons, List.take_zero, List.drop_succ_cons, List.drop_zero, List.length_cons, List.length_nil, Nat.reduceAdd, List.cons_append, List.nil_append] at hw); (try replace hc0 := Sep.Holds.cells hw (i := 0) rfl); (try replace hc1 := Sep.Holds.cells hw (i := 1) rfl); (try replace hc2 := Sep.Holds.cells hw (i := 2) rfl); (try replace hc3 := Sep.Holds.cells hw (i := 3) rfl); (try replace hc4 := Sep.Holds.cells hw (i := 4) rfl); (try replace hc5 := Sep.Holds.cells hw (i := 5) rfl); (try replace hc6 := Sep.Holds.cells hw (i := 6) rfl)))
    refine ⟨_, 5, hw, rfl, fun w4 hw4 => .inl ⟨rfl, ?_⟩⟩
    have h := hw4.sel [0, 1, 2, 3, 4, 5] (by decide)
    have e1 := tolds_snoc 50 (.slice (some ⟨b2_, off2_, none⟩) (pre.length + 1) cap2_) pre x
    refine exL.mk (f := fun g : Gv => [X, pt _ [g.v] 33, IsTolds 50 g.v (pre ++ [x]), pto D (.deferred (some [])), pto l (.loop (rec .ready none))]) ⟨.slice (some ⟨b2_, off2_, none⟩) (pre.length + 1) cap2_⟩ ?_
    dsimp only
    rw [← e1]
    exact h
  · rintro en_ w3 ⟨⟨u, rfl⟩, hw3 | ⟨us, x, vs, _, hw3⟩⟩
    · refine ⟨⟨u, rfl⟩, ?_⟩
      obtain ⟨⟨v⟩, hw3⟩ := hw3.open' (i := 0) rfl
      have hw3 := hw3.open_ 0 rfl
      simp only [List.set_cons_zero, List.set_cons_succ, List.cons_append, List.nil_append] at hw3
      refine ⟨_, 6, .ready, none, hw3, rfl, by simp, fun w4 hw4 => ?_⟩
      dsimp only
      clear hw1 hw3 Hlen Hrec
      have hw := hw4; clear hw4
      simp only [List.set_cons_zero, List.set_cons_succ] at hw
      (try replace hc0 := Sep.Holds.cells hw (i := 0) rfl); (try replace hc1 := Sep.Holds.cells hw (i := 1) rfl); (try replace hc2 := Sep.Holds.cells hw (i := 2) rfl); (try replace hc3 := Sep.Holds.cells hw (i := 3) rfl); (try replace hc4 := Sep.Holds.cells hw (i := 4) rfl); (try replace hc5 := Sep.Holds.cells hw (i := 5) rfl); (try replace hc6 := Sep.Holds.cells hw (i := 6) rfl)
      go_wp2_with fail
      refine leaves_mark hw (i := 5) rfl (fun w5 hw5 => ⟨_, results_tmp rfl _ _ _, HP.out _ _ ⟨_, rfl, ?_⟩⟩)
      exact hw5.sel [0, 2, 4] (by decide)
    · exact (Holds.fct (i := 0) rfl hw3).elim
set_option maxHeartbeats 4000000 in
theorem oSignal (p : Nat) (M : CM) (e w : World) (X : HProp) (hw : Holds e w [X, IsCond p M]) :
    Calls Try.prog 16 #[.pointer (some ⟨p, 0, none⟩)] w fun en w' => ∃ v, en = .returned v ∧ Holds e w' [X, IsCond p M.signal.2, IsTolds 50 v M.signal.1] := by
  refine Sep.calls_post ?_
  intro Post_ hPost_
  have HP := Sep.hid hPost_
  clear hPost_
  refine calls_of_wp_marks Try.func16 rfl ?_
  simp only [Try.ntmps16, List.size_toArray, List.length_cons, List.length_nil, Nat.reduceAdd, Nat.reduceSub, Array.replicate_succ, Array.replicate_zero, List.push_toArray, List.append_toArray, List.nil_append, List.cons_append]
  go_wp2_with (refine wpList_on rfl (wp_alloc rfl hw ?_); intro b_ w_ hw_; clear hw; have hw := hw_; clear hw_; (try simp only [List.map_cons, List.map_nil, List.getD_cons_zero, List.getD_cons_succ, List.getD_nil, List.set_cons_zero, List.set_cons_succ, List.cons_append, List.nil_append, Act.eval, Array.getD_eq_getD_getElem?, List.getElem?_toArray, List.getElem?_cons_succ, List.getElem?_cons_zero, Option.getD_some, Value.cells] at hw); (try simp (disch := first | (simp; done) | (simp; omega)) only [Sep.mid_set, Sep.mid_set2, Sep.mid_set0, Sep.mid_splice, Sep.mid_splice0, List.set_cons_zero, List.set_cons_succ] at hw); (try simp only [Sep.splice, List.take_succ_cons, List.take_zero, List.drop_succ_cons, List.drop_zero, List.length_cons, List.length_nil, Nat.reduceAdd, List.cons_append, List.nil_append] at hw); (try replace hc0 := Sep.Holds.cells hw (i := 0) rfl); (try replace hc1 := Sep.Holds.cells hw (i := 1) rfl); (try replace hc2 := Sep.Holds.cells hw (i := 2) rfl); (try replace hc3 := Sep.Holds.cells hw (i := 3) rfl); (try replace hc4 := Sep.Holds.cells hw (i := 4) rfl); (try replace hc5 := Sep.Holds.cells hw (i := 5) rfl); (try replace hc6 := Sep.Holds.cells hw (i := 6) rfl))
  refine (oTold p e _ _ hw.focus0).mono ?_
  rintro en_ w_ ⟨bx, rfl, hw_⟩
  clear hw; (try clear hc0); (try clear hc1); (try clear hc2); (try clear hc3); (try clear hc4); (try clear hc5); (try clear hc6); have hw := Holds.unfocus0 hw_; clear hw_
  (try simp only [List.map_cons, List.map_nil, List.getD_cons_zero, List.getD_cons_succ, List.getD_nil, List.set_cons_zero, List.set_cons_succ, List.cons_append, List.nil_append, Act.eval, Array.getD_eq_getD_getElem?, List.getElem?_toArray, List.getElem?_cons_succ, List.getElem?_cons_zero, Option.getD_some, Value.cells] at hw); (try simp (disch := first | (simp; done) | (simp; omega)) only [Sep.mid_set, Sep.mid_set2, Sep.mid_set0, Sep.mid_splice, Sep.mid_splice0, List.set_cons_zero, List.set_cons_succ] at hw); (try simp only [Sep.splice, List.take_succ_cons, List.take_zero, List.drop_succ_cons, List.drop_zero, List.length_cons, List.length_nil, Nat.reduceAdd, List.cons_append, List.nil_append] at hw)
  go_wp2_with fail
  refine wp_rangeFunc (gf := 27) rfl enters27 hw ?_
  intro fn l D rec w1 hrec hw1
  have Hrec := Sep.hid hrec; clear hrec
  clear hw; (try clear hc0); (try clear hc1); (try clear hc2); (try clear hc3); (try clear hc4); (try clear hc5); (try clear hc6)
  have hw1 := (Holds.group [X, pt b_ [.slice none 0 0] 33, pto D (.deferred (some [])), pto l (.loop (rec .ready none)), fct (([] : List Told) = [])] [pt bx [.pointer (some ⟨p, 0, none⟩)] 24, IsCond p M] ((hw1.addFct (p := ([] : List Told) = []) rfl).sel [0, 2, 4, 5, 6, 3, 1] (by decide)))
  refine (told1_in p bx l M e (fun pre => sepL [X, pt b_ [.slice none 0 0] 33, pto D (.deferred (some [])), pto l (.loop (rec .ready none)), fct (pre = [])]) (fun pre => exL (fun g : Gv => [X, pt b_ [g.v] 33, IsTolds 50 g.v pre, pto D (.deferred (some [])), pto l (.loop (rec .done (some .ret))), fct (pre.length = 1)])) ?_ w1 hw1).mono ?_
  · intro pre x C w2 hp hw2
    have hw2 := hw2.open_ 1 rfl
    simp only [List.set_cons_zero, List.set_cons_succ, List.cons_append, List.nil_append] at hw2
    obtain rfl := Holds.fct (i := 5) rfl hw2
    have hw2 := hw2.sel [0, 1, 2, 3, 4] (by decide)
    simp only [List.map_cons, List.map_nil, List.getD_cons_zero, List.getD_cons_succ, List.cons_append, List.nil_append] at hw2
    refine yield_at Hrec.out hw2 (i := 4) rfl rfl ?_
    clear hw1 hp Hrec
    have hw := hw2
    clear hw2
    go_simp
    gi_wp2_with (first | (refine wpListIn_on (by first | exact Wide.round _ | exact Wide.wide) rfl rfl (wp_alloc rfl hw ?_); intro b_ w_ hw_; clear hw; have hw := hw_; clear hw_; (try simp only [List.map_cons, List.map_nil, List.getD_cons_zero, List.getD_cons_succ, List.getD_nil, List.set_cons_zero, List.set_cons_succ, List.cons_append, List.nil_append, Act.eval, Array.getD_eq_getD_getElem?, List.getElem?_toArray, List.getElem?_cons_succ, List.getElem?_cons_zero, Option.getD_some, Value.cells] at hw); (try simp (disch := first | (simp; done) | (simp; omega)) only [Sep.mid_set, Sep.mid_set2, Sep.mid_set0, Sep.mid_splice, Sep.mid_splice0, List.set_cons_zero, List.set_cons_succ] at hw); (try simp only [Sep.splice, List.take_succ_cons, List.take_zero, List.drop_succ_cons, List.drop_zero, List.length_cons, List.length_nil, Nat.reduceAdd, List.cons_append, List.nil_append] at hw); (try replace hc0 := Sep.Holds.cells hw (i := 0) rfl); (try replace hc1 := Sep.Holds.cells hw (i := 1) rfl); (try replace hc2 := Sep.Holds.cells hw (i := 2) rfl); (try replace hc3 := Sep.Holds.cells hw (i := 3) rfl); (try replace hc4 := Sep.Holds.cells hw (i := 4) rfl); (try replace hc5 := Sep.Holds.cells hw (i := 5) rfl); (try replace hc6 := Sep.Holds.cells hw (i := 6) rfl)) | (refine wpListIn_on (by first | exact Wide.round _ | exact Wide.wide) rfl rfl (wp_storeAll (vs := [.int .i64 x.1, .int .i64 x.2]) rfl rfl (by rfl) hw (i := 5) rfl rfl rfl (by simp [Value.oneCell']) ?_); intro w_ hw_; clear hw; have hw := hw_; clear hw_; (try simp only [List.map_cons, List.map_nil, List.getD_cons_zero, List.getD_cons_succ, List.getD_nil, List.set_cons_zero, List.set_cons_succ, List.cons_append, List.nil_append, Act.eval, Array.getD_eq_getD_getElem?, List.getElem?_toArray, List.getElem?_cons_succ, List.getElem?_cons_zero, Option.getD_some, Value.cells] at hw); (try simp (disch := first | (simp; done) | (simp; omega)) only [Sep.mid_set, Sep.mid_set2, Sep.mid_set0, Sep.mid_splice, Sep.mid_splice0, List.set_cons_zero, List.set_cons_succ] at hw); (try simp only [Sep.splice, List.take_succ_cons, List.take_zero, List.drop_succ_cons, List.drop_zero, List.length_cons, List.length_nil, Nat.reduceAdd, List.cons_append, List.nil_append] at hw); (try replace hc0 := Sep.Holds.cells hw (i := 0) rfl); (try replace hc1 := Sep.Holds.cells hw (i := 1) rfl); (try replace hc2 := Sep.Holds.cells hw (i := 2) rfl); (try replace hc3 := Sep.Holds.cells hw (i := 3) rfl); (try replace hc4 := Sep.Holds.cells hw (i := 4) rfl); (try replace hc5 := Sep.Holds.cells hw (i := 5) rfl); (try replace hc6 := Sep.Holds.cells hw (i := 6) rfl)))
    refine ⟨_, 4, hw, rfl, fun w3 hw3 => ?_⟩
    clear hw; (try clear hc0); (try clear hc1); (try clear hc2); (try clear hc3); (try clear hc4); (try clear hc5); (try clear hc6)
    have hw := hw3; clear hw3
    simp only [List.set_cons_zero, List.set_cons_succ] at hw
    (try replace hc0 := Sep.Holds.cells hw (i := 0) rfl); (try replace hc1 := Sep.Holds.cells hw (i := 1) rfl); (try replace hc2 := Sep.Holds.cells hw (i := 2) rfl); (try replace hc3 := Sep.Holds.cells hw (i := 3) rfl); (try replace hc4 := Sep.Holds.cells hw (i := 4) rfl); (try replace hc5 := Sep.Holds.cells hw (i := 5) rfl); (try replace hc6 := Sep.Holds.cells hw (i := 6) rfl)
    gi_wp2_with (first | (refine wpListIn_on (by first | exact Wide.round _ | exact Wide.wide) rfl rfl (wp_bsl1 rfl rfl (by rfl) (by rfl) (by decide) hw ?_); intro b_ w_ hw_; clear hw; have hw := hw_; clear hw_; (try simp only [List.map_cons, List.map_nil, List.getD_cons_zero, List.getD_cons_succ, List.getD_nil, List.set_cons_zero, List.set_cons_succ, List.cons_append, List.nil_append, Act.eval, Array.getD_eq_getD_getElem?, List.getElem?_toArray, List.getElem?_cons_succ, List.getElem?_cons_zero, Option.getD_some, Value.cells] at hw); (try simp (disch := first | (simp; done) | (simp; omega)) only [Sep.mid_set, Sep.mid_set2, Sep.mid_set0, Sep.mid_splice, Sep.mid_splice0, List.set_cons_zero, List.set_cons_succ] at hw); (try simp only [Sep.splice, List.take_succ_cons, List.take_zero, List.drop_succ_cons, List.drop_zero, List.length_cons, List.length_nil, Nat.reduceAdd, List.cons_append, List.nil_append] at hw); (try replace hc0 := Sep.Holds.cells hw (i := 0) rfl); (try replace hc1 := Sep.Holds.cells hw (i := 1) rfl); (try replace hc2 := Sep.Holds.cells hw (i := 2) rfl); (try replace hc3 := Sep.Holds.cells hw (i := 3) rfl); (try replace hc4 := Sep.Holds.cells hw (i := 4) rfl); (try replace hc5 := Sep.Holds.cells hw (i := 5) rfl); (try replace hc6 := Sep.Holds.cells hw (i := 6) rfl)) | (refine wpListIn_on (by first | exact Wide.round _ | exact Wide.wide) rfl rfl (wp_store1 (v := _) rfl rfl rfl hw (i := 2) rfl (by simp [Sep.mid_length, Act.eval, Value.cells]; try omega) rfl ?_); intro w_ hw_; clear hw; have hw := hw_; clear hw_; (try simp only [List.map_cons, List.map_nil, List.getD_cons_zero, List.getD_cons_succ, List.getD_nil, List.set_cons_zero, List.set_cons_succ, List.cons_append, List.nil_append, Act.eval, Array.getD_eq_getD_getElem?, List.getElem?_toArray, List.getElem?_cons_succ, List.getElem?_cons_zero, Option.getD_some, Value.cells] at hw); (try simp (disch := first | (simp; done) | (simp; omega)) only [Sep.mid_set, Sep.mid_set2, Sep.mid_set0, Sep.mid_splice, Sep.mid_splice0, List.set_cons_zero, List.set_cons_succ] at hw); (try simp only [Sep.splice, List.take_succ_cons, List.take_zero, List.drop_succ_cons, List.drop_zero, List.length_cons, List.length_nil, Nat.reduceAdd, List.cons_append, List.nil_append] at hw); (try replace hc0 := Sep.Holds.cells hw (i := 0) rfl); (try replace hc1 := Sep.Holds.cells hw (i := 1) rfl); (try replace hc2 := Sep.Holds.cells hw (i := 2) rfl); (try replace hc3 := Sep.Holds.cells hw (i := 3) rfl); (try replace hc4 := Sep.Holds.cells hw (i := 4) rfl); (try replace hc5 := Sep.Holds.cells hw (i := 5) rfl); (try replace hc6 := Sep.Holds.cells hw (i := 6) rfl)))
    refine ⟨_, 4, hw, rfl, fun w4 hw4 => .inr ⟨rfl, ?_⟩⟩
    have h := (hw4.newSl (i := 6) (T := 50) rfl 2 1 rfl (by decide)).sel [0, 1, 2, 6, 3, 4] (by decide)
    exact exL.mk (f := fun g : Gv => [X, pt _ [g.v] 33, IsTolds 50 g.v [x], pto D (.deferred (some [])), pto l (.loop (rec .done (some .ret))), fct True]) ⟨_⟩ (h.addFct trivial)
  · rintro en_ w3 ⟨⟨u, rfl⟩, hw3 | ⟨us, x, vs, hM, hw3⟩⟩
    · refine ⟨⟨u, rfl⟩, ?_⟩
      have hw3 := hw3.open_ 0 rfl
      simp only [List.set_cons_zero, List.set_cons_succ, List.cons_append, List.nil_append] at hw3
      have Hnil := Sep.hid (Holds.fct (i := 6) rfl hw3)
      refine ⟨_, 5, .ready, none, hw3, rfl, by simp, fun w4 hw4 => ?_⟩
      dsimp only
      clear hw1 hw3 Hrec
      have hw := hw4; clear hw4
      simp only [List.set_cons_zero, List.set_cons_succ] at hw
      (try replace hc0 := Sep.Holds.cells hw (i := 0) rfl); (try replace hc1 := Sep.Holds.cells hw (i := 1) rfl); (try replace hc2 := Sep.Holds.cells hw (i := 2) rfl); (try replace hc3 := Sep.Holds.cells hw (i := 3) rfl); (try replace hc4 := Sep.Holds.cells hw (i := 4) rfl); (try replace hc5 := Sep.Holds.cells hw (i := 5) rfl); (try replace hc6 := Sep.Holds.cells hw (i := 6) rfl)
      go_wp2_with (first | (refine wpList_on rfl (wp_store1 (v := _) rfl rfl rfl hw (i := 3) rfl (by simp [Sep.mid_length, Act.eval, Value.cells]; try omega) rfl ?_); intro w_ hw_; clear hw; have hw := hw_; clear hw_; (try simp only [List.map_cons, List.map_nil, List.getD_cons_zero, List.getD_cons_succ, List.getD_nil, List.set_cons_zero, List.set_cons_succ, List.cons_append, List.nil_append, Act.eval, Array.getD_eq_getD_getElem?, List.getElem?_toArray, List.getElem?_cons_succ, List.getElem?_cons_zero, Option.getD_some, Value.cells] at hw); (try simp (disch := first | (simp; done) | (simp; omega)) only [Sep.mid_set, Sep.mid_set2, Sep.mid_set0, Sep.mid_splice, Sep.mid_splice0, List.set_cons_zero, List.set_cons_succ] at hw); (try simp only [Sep.splice, List.take_succ_cons, List.take_zero, List.drop_succ_cons, List.drop_zero, List.length_cons, List.length_nil, Nat.reduceAdd, List.cons_append, List.nil_append] at hw); (try replace hc0 := Sep.Holds.cells hw (i := 0) rfl); (try replace hc1 := Sep.Holds.cells hw (i := 1) rfl); (try replace hc2 := Sep.Holds.cells hw (i := 2) rfl); (try replace hc3 := Sep.Holds.cells hw (i := 3) rfl); (try replace hc4 := Sep.Holds.cells hw (i := 4) rfl); (try replace hc5 := Sep.Holds.cells hw (i := 5) rfl); (try replace hc6 := Sep.Holds.cells hw (i := 6) rfl)))
      refine leaves_mark hw (i := 4) rfl (fun w5 hw5 => ⟨_, res_cell1 (ty := 33) rfl rfl hw5 (i := 3) rfl, HP.out _ _ ⟨_, rfl, ?_⟩⟩)
      have h := (hw5.sel [0, 2] (by decide)).addEmp (X := IsTolds 50 (.slice none 0 0) []) (Sl.nil _ _ _)
      unfold CM.signal
      rw [Hnil.out]
      exact h
    · refine ⟨⟨u, rfl⟩, ?_⟩
      obtain ⟨⟨v⟩, hw3⟩ := hw3.open' (i := 0) rfl
      have hw3 := hw3.open_ 0 rfl
      simp only [List.set_cons_zero, List.set_cons_succ, List.cons_append, List.nil_append] at hw3
      have h1 := Holds.fct (i := 7) rfl hw3
      obtain rfl : us = [] := by
        cases us with
        | nil => rfl
        | cons y us => simp at h1
      have HM := Sep.hid hM; clear hM h1
      refine ⟨_, 6, .done, some .ret, hw3, rfl, by simp, fun w4 hw4 => ?_⟩
      dsimp only
      clear hw1 hw3 Hrec
      have hw := hw4; clear hw4
      simp only [List.set_cons_zero, List.set_cons_succ] at hw
      (try replace hc0 := Sep.Holds.cells hw (i := 0) rfl); (try replace hc1 := Sep.Holds.cells hw (i := 1) rfl); (try replace hc2 := Sep.Holds.cells hw (i := 2) rfl); (try replace hc3 := Sep.Holds.cells hw (i := 3) rfl); (try replace hc4 := Sep.Holds.cells hw (i := 4) rfl); (try replace hc5 := Sep.Holds.cells hw (i := 5) rfl); (try replace hc6 := Sep.Holds.cells hw (i := 6) rfl)
      go_wp2_with fail
      refine leaves_mark hw (i := 5) rfl (fun w5 hw5 => ⟨_, res_cell1 (ty := 33) rfl rfl hw5 (i := 3) rfl, HP.out _ _ ⟨_, rfl, ?_⟩⟩)
      unfold CM.signal
      rw [HM.out]
      exact hw5.sel [0, 2, 4] (by decide)
end Go.Proofs.Ytcefnihhlbeebaa
