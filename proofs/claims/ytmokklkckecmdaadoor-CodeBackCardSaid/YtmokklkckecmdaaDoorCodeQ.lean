/-
  The walk of awake: the calls whose answers the document fixes.
-/
import Derived.Test.YtmokklkckecmdaaDoorCodeP
namespace Go.Proofs.YtmokklkckecmdaaDoor
set_option linter.unusedSimpArgs false
set_option linter.unusedVariables false
open Go.RowKit Go.Sep

theorem RdA.at {e : World} {A : HProp} {M : List HProp} {a : Option Addr} {l : List Deed} (h : RdA e A a l) : ∀ (j : Nat), M[j]? = some A → RdA e (sepL M) a l := by
  intro j hj w L i hw hi
  have hil := (List.getElem?_eq_some_iff.1 hi).1
  cases M with
  | nil => cases hj
  | cons B M =>
    cases j with
    | zero => cases hj; exact h w _ i (hw.open_ i hi) (by rw [List.getElem?_append_left (by simpa using hil), List.getElem?_set_self hil])
    | succ j => exact h w _ (L.length + j) (hw.open_ i hi) (by rw [List.getElem?_append_right (by simp)]; simpa using hj)
theorem RdB.at {e : World} {A : HProp} {M : List HProp} {a : Option Addr} {l : List Int} (h : RdB e A a l) : ∀ (j : Nat), M[j]? = some A → RdB e (sepL M) a l := by
  intro j hj w L i hw hi
  have hil := (List.getElem?_eq_some_iff.1 hi).1
  cases M with
  | nil => cases hj
  | cons B M =>
    cases j with
    | zero => cases hj; exact h w _ i (hw.open_ i hi) (by rw [List.getElem?_append_left (by simpa using hil), List.getElem?_set_self hil])
    | succ j => exact h w _ (L.length + j) (hw.open_ i hi) (by rw [List.getElem?_append_right (by simp)]; simpa using hj)
theorem RdB.take {e : World} {X : HProp} {a : Option Addr} {l : List Int} (h : RdB e X a l) (k : Nat) : RdB e X a (l.take k) := by
  intro w L i hw hi j x hj
  rw [List.getElem?_take] at hj
  split at hj
  · exact h w L i hw hi j x hj
  · cases hj
def x0 : Deed := ⟨1, 2, 0, -1⟩
def b0 : List Int := [1, 1, 2, 0, 255, 255, 255, 255, 255, 255, 255, 255]
theorem bytes_x0 : bytesP [x0] = b0 := by decide +kernel
theorem may_x0 : mayP [x0] = true := by decide +kernel
theorem read_b0 : readP (b0 ++ [9]) = ([x0], 12, 0) := by decide +kernel
theorem read_10 : readP [1, 0] = ([], 0, 8) := by decide +kernel
theorem read_0 : readP [0] = ([], 0, 7) := by decide +kernel
theorem may_nil : mayP [] = false := by decide +kernel
def BysB (l : List Int) : Bool := l.all fun x => decide (0 ≤ x ∧ x ≤ 255)
theorem bys_of {l : List Int} (h : BysB l = true) : Bys l := by
  intro x hx
  have := List.all_eq_true.1 h x hx
  simpa using this
set_option maxRecDepth 20000 in
set_option maxHeartbeats 8000000 in
theorem awake_ok (e w : World) (X : HProp) (hT : Tops e X) (hw : Holds e w [X]) :
    Calls Tryd.prog 6 #[] w fun en w' => en = .returned (.bool true) ∧ Holds e w' [X] := by
  have HT := Sep.hid hT; clear hT
  refine Sep.calls_post ?_
  intro Post_ hPost_
  have HP := Sep.hid hPost_
  clear hPost_
  go_enter Tryd.func6, Tryd.ntmps6
  go_wp2_with (first | (refine wpList_on rfl (wp_bsl1 rfl rfl (by rfl) (by rfl) (by decide) hw ?_); intro b_ w_ hw_; replace hw_ := hw_.newSl (i := 1) rfl 4 1 rfl (by decide); clear hw; have hw := hw_; clear hw_; (try simp only [List.map_cons, List.map_nil, List.getD_cons_zero, List.getD_cons_succ, List.getD_nil, List.set_cons_zero, List.set_cons_succ, List.cons_append, List.nil_append, Act.eval, Array.getD_eq_getD_getElem?, List.getElem?_toArray, List.getElem?_cons_succ, List.getElem?_cons_zero, Option.getD_some, Value.cells] at hw); (try simp (disch := first | (simp; done) | (simp; omega)) only [Sep.mid_set, Sep.mid_set2, Sep.mid_set0, Sep.mid_splice, Sep.mid_splice0, List.set_cons_zero, List.set_cons_succ] at hw); (try simp only [Sep.splice, List.take_succ_cons, List.take_zero, List.drop_succ_cons, List.drop_zero, List.length_cons, List.length_nil, Nat.reduceAdd, List.cons_append, List.nil_append] at hw); (try replace hc0 := Sep.Holds.cells hw (i := 0) rfl); (try replace hc1 := Sep.Holds.cells hw (i := 1) rfl); (try replace hc2 := Sep.Holds.cells hw (i := 2) rfl); (try replace hc3 := Sep.Holds.cells hw (i := 3) rfl); (try replace hc4 := Sep.Holds.cells hw (i := 4) rfl); (try replace hc5 := Sep.Holds.cells hw (i := 5) rfl); (try replace hc6 := Sep.Holds.cells hw (i := 6) rfl)))
  have hw : Holds e _ [X, Sl 23 4 (.slice (some ⟨b_, 0, none⟩) 1 1) 1 (encAs [x0])] := hw
  refine (oBytes [x0] 1 1 (some ⟨b_, 0, none⟩) (Sep.hid rfl) e _ _ HT.out.sep (rdA.at 1 rfl) may_x0 hw.focus0).mono ?_
  rintro _ w_ ⟨v1, rfl, hw_⟩
  rw [bytes_x0] at hw_
  clear hw; (try clear hc0); (try clear hc1); (try clear hc2); (try clear hc3); (try clear hc4); (try clear hc5); (try clear hc6); have hw := Holds.unfocus0 hw_; clear hw_; (try simp only [List.map_cons, List.map_nil, List.getD_cons_zero, List.getD_cons_succ, List.getD_nil, List.set_cons_zero, List.set_cons_succ, List.cons_append, List.nil_append, Act.eval, Array.getD_eq_getD_getElem?, List.getElem?_toArray, List.getElem?_cons_succ, List.getElem?_cons_zero, Option.getD_some, Value.cells] at hw); (try simp (disch := first | (simp; done) | (simp; omega)) only [Sep.mid_set, Sep.mid_set2, Sep.mid_set0, Sep.mid_splice, Sep.mid_splice0, List.set_cons_zero, List.set_cons_succ] at hw); (try simp only [Sep.splice, List.take_succ_cons, List.take_zero, List.drop_succ_cons, List.drop_zero, List.length_cons, List.length_nil, Nat.reduceAdd, List.cons_append, List.nil_append] at hw)
  have hw : Holds e w_ [X, Sl 23 4 (.slice (some ⟨b_, 0, none⟩) 1 1) 1 (encAs [x0]), Sl 5 1 v1 12 (encB b0)] := hw
  obtain ⟨a1, k1, rfl⟩ := Sl.value (i := 2) rfl hw
  generalize hA : encAs [x0] = A at *
  have HA := Sep.hid hA; clear hA
  generalize hB : encB b0 = B at *
  have HB := Sep.hid hB; clear hB
  go_wp2_with (first | (refine wpList_on rfl (wp_bsl0 rfl hw ?_); intro b_ w_ hw_; replace hw_ := hw_.newSl (i := 3) rfl 1 0 rfl (by decide); clear hw; have hw := hw_; clear hw_; (try simp only [List.map_cons, List.map_nil, List.getD_cons_zero, List.getD_cons_succ, List.getD_nil, List.set_cons_zero, List.set_cons_succ, List.cons_append, List.nil_append, Act.eval, Array.getD_eq_getD_getElem?, List.getElem?_toArray, List.getElem?_cons_succ, List.getElem?_cons_zero, Option.getD_some, Value.cells] at hw); (try simp (disch := first | (simp; done) | (simp; omega)) only [Sep.mid_set, Sep.mid_set2, Sep.mid_set0, Sep.mid_splice, Sep.mid_splice0, List.set_cons_zero, List.set_cons_succ] at hw); (try simp only [Sep.splice, List.take_succ_cons, List.take_zero, List.drop_succ_cons, List.drop_zero, List.length_cons, List.length_nil, Nat.reduceAdd, List.cons_append, List.nil_append] at hw); (try replace hc0 := Sep.Holds.cells hw (i := 0) rfl); (try replace hc1 := Sep.Holds.cells hw (i := 1) rfl); (try replace hc2 := Sep.Holds.cells hw (i := 2) rfl); (try replace hc3 := Sep.Holds.cells hw (i := 3) rfl); (try replace hc4 := Sep.Holds.cells hw (i := 4) rfl); (try replace hc5 := Sep.Holds.cells hw (i := 5) rfl); (try replace hc6 := Sep.Holds.cells hw (i := 6) rfl)) | (at_builtin; refine wpList_on rfl (wp_appendSl (i := 3) (j := 2) (u := .slice a1 12 k1) rfl rfl hw rfl rfl rfl (by rw [← HB.out]; exact encB_one _) (by rfl) (by (try unfold maxLen); omega) (by (try unfold maxLen); omega) ?_); intro a2_ cap2_ w_ hw_; (try simp only [Nat.zero_add, List.nil_append] at hw_); clear hw; have hw := hw_; clear hw_; (try simp only [List.map_cons, List.map_nil, List.getD_cons_zero, List.getD_cons_succ, List.getD_nil, List.set_cons_zero, List.set_cons_succ, List.cons_append, List.nil_append, Act.eval, Array.getD_eq_getD_getElem?, List.getElem?_toArray, List.getElem?_cons_succ, List.getElem?_cons_zero, Option.getD_some, Value.cells] at hw); (try simp (disch := first | (simp; done) | (simp; omega)) only [Sep.mid_set, Sep.mid_set2, Sep.mid_set0, Sep.mid_splice, Sep.mid_splice0, List.set_cons_zero, List.set_cons_succ] at hw); (try simp only [Sep.splice, List.take_succ_cons, List.take_zero, List.drop_succ_cons, List.drop_zero, List.length_cons, List.length_nil, Nat.reduceAdd, List.cons_append, List.nil_append] at hw); (try replace hc0 := Sep.Holds.cells hw (i := 0) rfl); (try replace hc1 := Sep.Holds.cells hw (i := 1) rfl); (try replace hc2 := Sep.Holds.cells hw (i := 2) rfl); (try replace hc3 := Sep.Holds.cells hw (i := 3) rfl); (try replace hc4 := Sep.Holds.cells hw (i := 4) rfl); (try replace hc5 := Sep.Holds.cells hw (i := 5) rfl); (try replace hc6 := Sep.Holds.cells hw (i := 6) rfl)) | (refine wpList_on rfl (wp_bsl1 rfl rfl (by rfl) (by rfl) (by decide) hw ?_); intro b_ w_ hw_; clear hw; have hw := hw_; clear hw_; (try simp only [List.map_cons, List.map_nil, List.getD_cons_zero, List.getD_cons_succ, List.getD_nil, List.set_cons_zero, List.set_cons_succ, List.cons_append, List.nil_append, Act.eval, Array.getD_eq_getD_getElem?, List.getElem?_toArray, List.getElem?_cons_succ, List.getElem?_cons_zero, Option.getD_some, Value.cells] at hw); (try simp (disch := first | (simp; done) | (simp; omega)) only [Sep.mid_set, Sep.mid_set2, Sep.mid_set0, Sep.mid_splice, Sep.mid_splice0, List.set_cons_zero, List.set_cons_succ] at hw); (try simp only [Sep.splice, List.take_succ_cons, List.take_zero, List.drop_succ_cons, List.drop_zero, List.length_cons, List.length_nil, Nat.reduceAdd, List.cons_append, List.nil_append] at hw); (try replace hc0 := Sep.Holds.cells hw (i := 0) rfl); (try replace hc1 := Sep.Holds.cells hw (i := 1) rfl); (try replace hc2 := Sep.Holds.cells hw (i := 2) rfl); (try replace hc3 := Sep.Holds.cells hw (i := 3) rfl); (try replace hc4 := Sep.Holds.cells hw (i := 4) rfl); (try replace hc5 := Sep.Holds.cells hw (i := 5) rfl); (try replace hc6 := Sep.Holds.cells hw (i := 6) rfl)) | (at_builtin; refine wpList_on rfl (wp_appendPt (i := 3) (j := 4) rfl rfl hw rfl rfl rfl (by rfl) (by simp [Value.oneCell']) (by decide) (by rfl) (by (try unfold maxLen); omega) (by (try unfold maxLen); omega) ?_); intro b2_ cap2_ off2_ w_ hcap2_ hw_; clear hw; have hw := hw_; clear hw_; (try simp only [List.map_cons, List.map_nil, List.getD_cons_zero, List.getD_cons_succ, List.getD_nil, List.set_cons_zero, List.set_cons_succ, List.cons_append, List.nil_append, Act.eval, Array.getD_eq_getD_getElem?, List.getElem?_toArray, List.getElem?_cons_succ, List.getElem?_cons_zero, Option.getD_some, Value.cells] at hw); (try simp (disch := first | (simp; done) | (simp; omega)) only [Sep.mid_set, Sep.mid_set2, Sep.mid_set0, Sep.mid_splice, Sep.mid_splice0, List.set_cons_zero, List.set_cons_succ] at hw); (try simp only [Sep.splice, List.take_succ_cons, List.take_zero, List.drop_succ_cons, List.drop_zero, List.length_cons, List.length_nil, Nat.reduceAdd, List.cons_append, List.nil_append] at hw); (try replace hc0 := Sep.Holds.cells hw (i := 0) rfl); (try replace hc1 := Sep.Holds.cells hw (i := 1) rfl); (try replace hc2 := Sep.Holds.cells hw (i := 2) rfl); (try replace hc3 := Sep.Holds.cells hw (i := 3) rfl); (try replace hc4 := Sep.Holds.cells hw (i := 4) rfl); (try replace hc5 := Sep.Holds.cells hw (i := 5) rfl); (try replace hc6 := Sep.Holds.cells hw (i := 6) rfl)))
  rw [show B ++ [.int .u8 9] = encB (b0 ++ [9]) by rw [encB_append, HB.out]; rfl] at hw
  refine (oRead (b0 ++ [9]) 13 cap2_ _ (Sep.hid rfl) (by omega) (bys_of (by decide)) e _ _ HT.out.sep (rdB.at 3 rfl) hw.focus0).mono ?_
  rintro _ w_ ⟨v2, rfl, hw_⟩
  rw [read_b0] at hw_ ⊢
  rw [show IsAs 23 v2 [x0] = Sl 23 4 v2 1 A by rw [← HA.out]; rfl] at hw_
  clear hw; (try clear hc0); (try clear hc1); (try clear hc2); (try clear hc3); (try clear hc4); (try clear hc5); (try clear hc6); have hw := Holds.unfocus0 hw_; clear hw_; (try simp only [List.map_cons, List.map_nil, List.getD_cons_zero, List.getD_cons_succ, List.getD_nil, List.set_cons_zero, List.set_cons_succ, List.cons_append, List.nil_append, Act.eval, Array.getD_eq_getD_getElem?, List.getElem?_toArray, List.getElem?_cons_succ, List.getElem?_cons_zero, Option.getD_some, Value.cells] at hw); (try simp (disch := first | (simp; done) | (simp; omega)) only [Sep.mid_set, Sep.mid_set2, Sep.mid_set0, Sep.mid_splice, Sep.mid_splice0, List.set_cons_zero, List.set_cons_succ] at hw); (try simp only [Sep.splice, List.take_succ_cons, List.take_zero, List.drop_succ_cons, List.drop_zero, List.length_cons, List.length_nil, Nat.reduceAdd, List.cons_append, List.nil_append] at hw)
  obtain ⟨a2, k2, rfl⟩ := Sl.value (i := 5) rfl hw
  have hw := hw.sel [0, 1, 2, 5] (by decide)
  (try simp only [List.map_cons, List.map_nil, List.getD_cons_zero, List.getD_cons_succ, List.getD_nil, List.set_cons_zero, List.set_cons_succ, List.cons_append, List.nil_append, Act.eval, Array.getD_eq_getD_getElem?, List.getElem?_toArray, List.getElem?_cons_succ, List.getElem?_cons_zero, Option.getD_some, Value.cells] at hw); (try simp (disch := first | (simp; done) | (simp; omega)) only [Sep.mid_set, Sep.mid_set2, Sep.mid_set0, Sep.mid_splice, Sep.mid_splice0, List.set_cons_zero, List.set_cons_succ] at hw); (try simp only [Sep.splice, List.take_succ_cons, List.take_zero, List.drop_succ_cons, List.drop_zero, List.length_cons, List.length_nil, Nat.reduceAdd, List.cons_append, List.nil_append] at hw)
  (try clear hc0); (try clear hc1); (try clear hc2); (try clear hc3); (try clear hc4); (try clear hc5); (try clear hc6)
  go_wp2_with (first | (refine wpList_on rfl (wp_buildSlice [.int .u8 1, .int .u8 0] rfl hw (by decide) (by go_simp) rfl ?_); intro b4_ w_ hw_; clear hw; have hw := hw_; clear hw_; (try simp only [List.map_cons, List.map_nil, List.getD_cons_zero, List.getD_cons_succ, List.getD_nil, List.set_cons_zero, List.set_cons_succ, List.cons_append, List.nil_append, Act.eval, Array.getD_eq_getD_getElem?, List.getElem?_toArray, List.getElem?_cons_succ, List.getElem?_cons_zero, Option.getD_some, Value.cells] at hw); (try simp (disch := first | (simp; done) | (simp; omega)) only [Sep.mid_set, Sep.mid_set2, Sep.mid_set0, Sep.mid_splice, Sep.mid_splice0, List.set_cons_zero, List.set_cons_succ] at hw); (try simp only [Sep.splice, List.take_succ_cons, List.take_zero, List.drop_succ_cons, List.drop_zero, List.length_cons, List.length_nil, Nat.reduceAdd, List.cons_append, List.nil_append] at hw); (try replace hc0 := Sep.Holds.cells hw (i := 0) rfl); (try replace hc1 := Sep.Holds.cells hw (i := 1) rfl); (try replace hc2 := Sep.Holds.cells hw (i := 2) rfl); (try replace hc3 := Sep.Holds.cells hw (i := 3) rfl); (try replace hc4 := Sep.Holds.cells hw (i := 4) rfl); (try replace hc5 := Sep.Holds.cells hw (i := 5) rfl); (try replace hc6 := Sep.Holds.cells hw (i := 6) rfl)))
  have hw := hw.newSl (i := 4) rfl 1 2 rfl (by decide)
  refine (oRead [1, 0] 2 2 _ (Sep.hid rfl) (by omega) (bys_of (by decide)) e _ _ HT.out.sep ((rdB (l := [1, 0])).at 4 rfl) hw.focus0).mono ?_
  rintro _ w_ ⟨v3, rfl, hw_⟩
  rw [read_10] at hw_ ⊢
  clear hw; (try clear hc0); (try clear hc1); (try clear hc2); (try clear hc3); (try clear hc4); (try clear hc5); (try clear hc6); have hw := Holds.unfocus0 hw_; clear hw_; (try simp only [List.map_cons, List.map_nil, List.getD_cons_zero, List.getD_cons_succ, List.getD_nil, List.set_cons_zero, List.set_cons_succ, List.cons_append, List.nil_append, Act.eval, Array.getD_eq_getD_getElem?, List.getElem?_toArray, List.getElem?_cons_succ, List.getElem?_cons_zero, Option.getD_some, Value.cells] at hw); (try simp (disch := first | (simp; done) | (simp; omega)) only [Sep.mid_set, Sep.mid_set2, Sep.mid_set0, Sep.mid_splice, Sep.mid_splice0, List.set_cons_zero, List.set_cons_succ] at hw); (try simp only [Sep.splice, List.take_succ_cons, List.take_zero, List.drop_succ_cons, List.drop_zero, List.length_cons, List.length_nil, Nat.reduceAdd, List.cons_append, List.nil_append] at hw)
  have hw := hw.sel [0, 1, 2, 3] (by decide)
  (try simp only [List.map_cons, List.map_nil, List.getD_cons_zero, List.getD_cons_succ, List.getD_nil, List.set_cons_zero, List.set_cons_succ, List.cons_append, List.nil_append, Act.eval, Array.getD_eq_getD_getElem?, List.getElem?_toArray, List.getElem?_cons_succ, List.getElem?_cons_zero, Option.getD_some, Value.cells] at hw); (try simp (disch := first | (simp; done) | (simp; omega)) only [Sep.mid_set, Sep.mid_set2, Sep.mid_set0, Sep.mid_splice, Sep.mid_splice0, List.set_cons_zero, List.set_cons_succ] at hw); (try simp only [Sep.splice, List.take_succ_cons, List.take_zero, List.drop_succ_cons, List.drop_zero, List.length_cons, List.length_nil, Nat.reduceAdd, List.cons_append, List.nil_append] at hw)
  go_wp2_with (first | (refine wpList_on rfl (wp_bsl1 rfl rfl (by rfl) (by rfl) (by decide) hw ?_); intro b_ w_ hw_; replace hw_ := hw_.newSl (i := 4) rfl 1 1 rfl (by decide); clear hw; have hw := hw_; clear hw_; (try simp only [List.map_cons, List.map_nil, List.getD_cons_zero, List.getD_cons_succ, List.getD_nil, List.set_cons_zero, List.set_cons_succ, List.cons_append, List.nil_append, Act.eval, Array.getD_eq_getD_getElem?, List.getElem?_toArray, List.getElem?_cons_succ, List.getElem?_cons_zero, Option.getD_some, Value.cells] at hw); (try simp (disch := first | (simp; done) | (simp; omega)) only [Sep.mid_set, Sep.mid_set2, Sep.mid_set0, Sep.mid_splice, Sep.mid_splice0, List.set_cons_zero, List.set_cons_succ] at hw); (try simp only [Sep.splice, List.take_succ_cons, List.take_zero, List.drop_succ_cons, List.drop_zero, List.length_cons, List.length_nil, Nat.reduceAdd, List.cons_append, List.nil_append] at hw); (try replace hc0 := Sep.Holds.cells hw (i := 0) rfl); (try replace hc1 := Sep.Holds.cells hw (i := 1) rfl); (try replace hc2 := Sep.Holds.cells hw (i := 2) rfl); (try replace hc3 := Sep.Holds.cells hw (i := 3) rfl); (try replace hc4 := Sep.Holds.cells hw (i := 4) rfl); (try replace hc5 := Sep.Holds.cells hw (i := 5) rfl); (try replace hc6 := Sep.Holds.cells hw (i := 6) rfl)))
  refine (oRead [0] 1 1 _ (Sep.hid rfl) (by omega) (bys_of (by decide)) e _ _ HT.out.sep ((rdB (l := [0])).at 4 rfl) hw.focus0).mono ?_
  rintro _ w_ ⟨v4, rfl, hw_⟩
  rw [read_0] at hw_ ⊢
  clear hw; (try clear hc0); (try clear hc1); (try clear hc2); (try clear hc3); (try clear hc4); (try clear hc5); (try clear hc6); have hw := Holds.unfocus0 hw_; clear hw_; (try simp only [List.map_cons, List.map_nil, List.getD_cons_zero, List.getD_cons_succ, List.getD_nil, List.set_cons_zero, List.set_cons_succ, List.cons_append, List.nil_append, Act.eval, Array.getD_eq_getD_getElem?, List.getElem?_toArray, List.getElem?_cons_succ, List.getElem?_cons_zero, Option.getD_some, Value.cells] at hw); (try simp (disch := first | (simp; done) | (simp; omega)) only [Sep.mid_set, Sep.mid_set2, Sep.mid_set0, Sep.mid_splice, Sep.mid_splice0, List.set_cons_zero, List.set_cons_succ] at hw); (try simp only [Sep.splice, List.take_succ_cons, List.take_zero, List.drop_succ_cons, List.drop_zero, List.length_cons, List.length_nil, Nat.reduceAdd, List.cons_append, List.nil_append] at hw)
  have hw := hw.sel [0, 1, 2, 3] (by decide)
  (try simp only [List.map_cons, List.map_nil, List.getD_cons_zero, List.getD_cons_succ, List.getD_nil, List.set_cons_zero, List.set_cons_succ, List.cons_append, List.nil_append, Act.eval, Array.getD_eq_getD_getElem?, List.getElem?_toArray, List.getElem?_cons_succ, List.getElem?_cons_zero, Option.getD_some, Value.cells] at hw); (try simp (disch := first | (simp; done) | (simp; omega)) only [Sep.mid_set, Sep.mid_set2, Sep.mid_set0, Sep.mid_splice, Sep.mid_splice0, List.set_cons_zero, List.set_cons_succ] at hw); (try simp only [Sep.splice, List.take_succ_cons, List.take_zero, List.drop_succ_cons, List.drop_zero, List.length_cons, List.length_nil, Nat.reduceAdd, List.cons_append, List.nil_append] at hw)
  go_wp2_with fail
  refine (oBytes_no [] 0 0 none (Sep.hid rfl) e _ _ HT.out.sep (fun _ _ _ _ _ k x hx => by cases hx) may_nil hw.focus0).mono ?_
  rintro _ w_ ⟨rfl, hw_⟩
  clear hw; (try clear hc0); (try clear hc1); (try clear hc2); (try clear hc3); (try clear hc4); (try clear hc5); (try clear hc6); have hw := Holds.unfocus0 hw_; clear hw_; (try simp only [List.map_cons, List.map_nil, List.getD_cons_zero, List.getD_cons_succ, List.getD_nil, List.set_cons_zero, List.set_cons_succ, List.cons_append, List.nil_append, Act.eval, Array.getD_eq_getD_getElem?, List.getElem?_toArray, List.getElem?_cons_succ, List.getElem?_cons_zero, Option.getD_some, Value.cells] at hw); (try simp (disch := first | (simp; done) | (simp; omega)) only [Sep.mid_set, Sep.mid_set2, Sep.mid_set0, Sep.mid_splice, Sep.mid_splice0, List.set_cons_zero, List.set_cons_succ] at hw); (try simp only [Sep.splice, List.take_succ_cons, List.take_zero, List.drop_succ_cons, List.drop_zero, List.length_cons, List.length_nil, Nat.reduceAdd, List.cons_append, List.nil_append] at hw)
  go_wp2_with fail
  have hw := (hw.allocCells (encB b0) 5).newSl (i := 4) rfl 1 12 rfl (by decide)
  (try simp only [List.map_cons, List.map_nil, List.getD_cons_zero, List.getD_cons_succ, List.getD_nil, List.set_cons_zero, List.set_cons_succ, List.cons_append, List.nil_append, Act.eval, Array.getD_eq_getD_getElem?, List.getElem?_toArray, List.getElem?_cons_succ, List.getElem?_cons_zero, Option.getD_some, Value.cells] at hw); (try simp (disch := first | (simp; done) | (simp; omega)) only [Sep.mid_set, Sep.mid_set2, Sep.mid_set0, Sep.mid_splice, Sep.mid_splice0, List.set_cons_zero, List.set_cons_succ] at hw); (try simp only [Sep.splice, List.take_succ_cons, List.take_zero, List.drop_succ_cons, List.drop_zero, List.length_cons, List.length_nil, Nat.reduceAdd, List.cons_append, List.nil_append] at hw)
  refine (sameB a1 _ b0 b0 12 12 k1 12 rfl rfl (by decide) _ (readsB (i := 2) hw (by rw [HB.out]; rfl)) (readsB (i := 4) hw rfl)).mono ?_
  rintro _ w_ ⟨rfl, hd_⟩
  have hw := (hw.drewTo hd_).sel [0, 1, 2, 3] (by decide)
  clear hd_
  (try simp only [List.map_cons, List.map_nil, List.getD_cons_zero, List.getD_cons_succ, List.getD_nil, List.set_cons_zero, List.set_cons_succ, List.cons_append, List.nil_append, Act.eval, Array.getD_eq_getD_getElem?, List.getElem?_toArray, List.getElem?_cons_succ, List.getElem?_cons_zero, Option.getD_some, Value.cells] at hw); (try simp (disch := first | (simp; done) | (simp; omega)) only [Sep.mid_set, Sep.mid_set2, Sep.mid_set0, Sep.mid_splice, Sep.mid_splice0, List.set_cons_zero, List.set_cons_succ] at hw); (try simp only [Sep.splice, List.take_succ_cons, List.take_zero, List.drop_succ_cons, List.drop_zero, List.length_cons, List.length_nil, Nat.reduceAdd, List.cons_append, List.nil_append] at hw)
  rw [show decide (b0 = b0) = true by decide]
  rw [← HA.out] at hw
  go_wp2_with fail
  refine (own_calls [x0] 1 k2 a2 (Sep.hid rfl) (by decide) e _ _ (rdA.at 3 rfl) hw.focus0).mono ?_
  rintro _ w_ ⟨u1, rfl, hw_⟩
  clear hw; (try clear hc0); (try clear hc1); (try clear hc2); (try clear hc3); (try clear hc4); (try clear hc5); (try clear hc6); have hw := Holds.unfocus0 hw_; clear hw_; (try simp only [List.map_cons, List.map_nil, List.getD_cons_zero, List.getD_cons_succ, List.getD_nil, List.set_cons_zero, List.set_cons_succ, List.cons_append, List.nil_append, Act.eval, Array.getD_eq_getD_getElem?, List.getElem?_toArray, List.getElem?_cons_succ, List.getElem?_cons_zero, Option.getD_some, Value.cells] at hw); (try simp (disch := first | (simp; done) | (simp; omega)) only [Sep.mid_set, Sep.mid_set2, Sep.mid_set0, Sep.mid_splice, Sep.mid_splice0, List.set_cons_zero, List.set_cons_succ] at hw); (try simp only [Sep.splice, List.take_succ_cons, List.take_zero, List.drop_succ_cons, List.drop_zero, List.length_cons, List.length_nil, Nat.reduceAdd, List.cons_append, List.nil_append] at hw)
  go_wp2_with fail
  refine (own_calls [x0] 1 1 _ (Sep.hid rfl) (by decide) e _ _ (rdA.at 1 rfl) hw.focus0).mono ?_
  rintro _ w_ ⟨u2, rfl, hw_⟩
  clear hw; (try clear hc0); (try clear hc1); (try clear hc2); (try clear hc3); (try clear hc4); (try clear hc5); (try clear hc6); have hw := Holds.unfocus0 hw_; clear hw_; (try simp only [List.map_cons, List.map_nil, List.getD_cons_zero, List.getD_cons_succ, List.getD_nil, List.set_cons_zero, List.set_cons_succ, List.cons_append, List.nil_append, Act.eval, Array.getD_eq_getD_getElem?, List.getElem?_toArray, List.getElem?_cons_succ, List.getElem?_cons_zero, Option.getD_some, Value.cells] at hw); (try simp (disch := first | (simp; done) | (simp; omega)) only [Sep.mid_set, Sep.mid_set2, Sep.mid_set0, Sep.mid_splice, Sep.mid_splice0, List.set_cons_zero, List.set_cons_succ] at hw); (try simp only [Sep.splice, List.take_succ_cons, List.take_zero, List.drop_succ_cons, List.drop_zero, List.length_cons, List.length_nil, Nat.reduceAdd, List.cons_append, List.nil_append] at hw)
  obtain ⟨ua1, uk1, rfl⟩ := Sl.value (i := 4) rfl hw
  obtain ⟨ua2, uk2, rfl⟩ := Sl.value (i := 5) rfl hw
  go_wp2_with fail
  refine (sameA ua1 ua2 [x0] [x0] 1 1 uk1 uk2 rfl rfl (by decide) _ (readsA (i := 4) hw rfl) (readsA (i := 5) hw rfl)).mono ?_
  rintro _ w_ ⟨rfl, hd_⟩
  have hw := (hw.drewTo hd_).sel [0, 1, 2, 3] (by decide)
  clear hd_
  (try simp only [List.map_cons, List.map_nil, List.getD_cons_zero, List.getD_cons_succ, List.getD_nil, List.set_cons_zero, List.set_cons_succ, List.cons_append, List.nil_append, Act.eval, Array.getD_eq_getD_getElem?, List.getElem?_toArray, List.getElem?_cons_succ, List.getElem?_cons_zero, Option.getD_some, Value.cells] at hw); (try simp (disch := first | (simp; done) | (simp; omega)) only [Sep.mid_set, Sep.mid_set2, Sep.mid_set0, Sep.mid_splice, Sep.mid_splice0, List.set_cons_zero, List.set_cons_succ] at hw); (try simp only [Sep.splice, List.take_succ_cons, List.take_zero, List.drop_succ_cons, List.drop_zero, List.length_cons, List.length_nil, Nat.reduceAdd, List.cons_append, List.nil_append] at hw)
  rw [show decide ([x0] = [x0]) = true by decide]
  go_wp2_with fail
  refine (oMay [x0] 1 1 _ (Sep.hid rfl) e _ _ HT.out.sep (rdA.at 1 rfl) hw.focus0).mono ?_
  rintro _ w_ ⟨rfl, hw_⟩
  rw [may_x0]
  clear hw; (try clear hc0); (try clear hc1); (try clear hc2); (try clear hc3); (try clear hc4); (try clear hc5); (try clear hc6); have hw := Holds.unfocus0 hw_; clear hw_; (try simp only [List.map_cons, List.map_nil, List.getD_cons_zero, List.getD_cons_succ, List.getD_nil, List.set_cons_zero, List.set_cons_succ, List.cons_append, List.nil_append, Act.eval, Array.getD_eq_getD_getElem?, List.getElem?_toArray, List.getElem?_cons_succ, List.getElem?_cons_zero, Option.getD_some, Value.cells] at hw); (try simp (disch := first | (simp; done) | (simp; omega)) only [Sep.mid_set, Sep.mid_set2, Sep.mid_set0, Sep.mid_splice, Sep.mid_splice0, List.set_cons_zero, List.set_cons_succ] at hw); (try simp only [Sep.splice, List.take_succ_cons, List.take_zero, List.drop_succ_cons, List.drop_zero, List.length_cons, List.length_nil, Nat.reduceAdd, List.cons_append, List.nil_append] at hw)
  go_wp2_with fail
  refine (oForm 36 _).mono ?_
  rintro _ _ ⟨rfl, rfl⟩
  rw [show strOf (formP 36) = (⟨#[114, 114, 111]⟩ : ByteArray) from rfl]
  go_wp2_with fail
  refine (oForm 47 _).mono ?_
  rintro _ _ ⟨rfl, rfl⟩
  rw [show strOf (formP 47) = (⟨#[]⟩ : ByteArray) from rfl]
  go_wp2_with fail
  refine (oRight ⟨4, 0, 0, 3⟩ 3 e _ _ HT.out.sep hw.focus0).mono ?_
  rintro _ w_ ⟨rfl, hw_⟩
  rw [show rightP ⟨4, 0, 0, 3⟩ 3 = true by decide +kernel]
  clear hw; (try clear hc0); (try clear hc1); (try clear hc2); (try clear hc3); (try clear hc4); (try clear hc5); (try clear hc6); have hw := Holds.unfocus0 hw_; clear hw_; (try simp only [List.map_cons, List.map_nil, List.getD_cons_zero, List.getD_cons_succ, List.getD_nil, List.set_cons_zero, List.set_cons_succ, List.cons_append, List.nil_append, Act.eval, Array.getD_eq_getD_getElem?, List.getElem?_toArray, List.getElem?_cons_succ, List.getElem?_cons_zero, Option.getD_some, Value.cells] at hw); (try simp (disch := first | (simp; done) | (simp; omega)) only [Sep.mid_set, Sep.mid_set2, Sep.mid_set0, Sep.mid_splice, Sep.mid_splice0, List.set_cons_zero, List.set_cons_succ] at hw); (try simp only [Sep.splice, List.take_succ_cons, List.take_zero, List.drop_succ_cons, List.drop_zero, List.length_cons, List.length_nil, Nat.reduceAdd, List.cons_append, List.nil_append] at hw)
  go_wp2_with fail
  refine (oRight ⟨4, 0, 0, 4⟩ 3 e _ _ HT.out.sep hw.focus0).mono ?_
  rintro _ w_ ⟨rfl, hw_⟩
  rw [show rightP ⟨4, 0, 0, 4⟩ 3 = false by decide +kernel]
  clear hw; (try clear hc0); (try clear hc1); (try clear hc2); (try clear hc3); (try clear hc4); (try clear hc5); (try clear hc6); have hw := Holds.unfocus0 hw_; clear hw_; (try simp only [List.map_cons, List.map_nil, List.getD_cons_zero, List.getD_cons_succ, List.getD_nil, List.set_cons_zero, List.set_cons_succ, List.cons_append, List.nil_append, Act.eval, Array.getD_eq_getD_getElem?, List.getElem?_toArray, List.getElem?_cons_succ, List.getElem?_cons_zero, Option.getD_some, Value.cells] at hw); (try simp (disch := first | (simp; done) | (simp; omega)) only [Sep.mid_set, Sep.mid_set2, Sep.mid_set0, Sep.mid_splice, Sep.mid_splice0, List.set_cons_zero, List.set_cons_succ] at hw); (try simp only [Sep.splice, List.take_succ_cons, List.take_zero, List.drop_succ_cons, List.drop_zero, List.length_cons, List.length_nil, Nat.reduceAdd, List.cons_append, List.nil_append] at hw)
  go_wp2_with fail
  refine (oSame _ a2 [x0] [x0] 1 1 1 k2 rfl rfl (by decide) _ (readsA (i := 1) hw rfl) (readsA (i := 3) hw rfl)).mono ?_
  rintro _ w_ ⟨rfl, hd_⟩
  have hw := hw.drewTo hd_
  clear hd_
  rw [show decide ([x0] = [x0]) = true by decide]
  go_wp2_with fail
  refine (oSame _ none [x0] [] 1 0 1 0 rfl rfl (by decide) _ (readsA (i := 1) hw rfl) (fun k x hx => by cases hx)).mono ?_
  rintro _ w_ ⟨rfl, hd_⟩
  have hw := hw.drewTo hd_
  clear hd_
  rw [show decide ([x0] = []) = false by decide]
  go_wp2_with fail
  exact HP.out _ _ ⟨rfl, hw.sel [0] (by decide)⟩
end Go.Proofs.YtmokklkckecmdaaDoor
