/-
  Who waits, told in a slice of its own.
-/
import Derived.Test.YtcefnihhlbeebaaTold
namespace Go.Proofs.Ytcefnihhlbeebaa
set_option linter.unusedSimpArgs false
set_option linter.unusedVariables false
open Go.RowKit Go.Sep Go.RingM
set_option maxHeartbeats 4000000 in
theorem oWaiting (p : Nat) (M : CM) (e w : World) (X : HProp) (hw : Holds e w [X, IsCond p M]) :
    Calls Try.prog 15 #[.pointer (some ⟨p, 0, none⟩)] w fun en w' => ∃ v, en = .returned v ∧ Holds e w' [X, IsCond p M, IsTolds 50 v M.w] := by
  have Hlen := Sep.hid (cond_ok (i := 1) rfl hw)
  obtain ⟨⟨r, b, ks⟩, hw⟩ := exL.open_ hw
  have hw := hw.open_ 1 rfl
  (try simp only [List.map_cons, List.map_nil, List.getD_cons_zero, List.getD_cons_succ, List.getD_nil, List.set_cons_zero, List.set_cons_succ, List.cons_append, List.nil_append, Act.eval, Array.getD_eq_getD_getElem?, List.getElem?_toArray, List.getElem?_cons_succ, List.getElem?_cons_zero, Option.getD_some, Value.cells] at hw); (try simp (disch := first | (simp; done) | (simp; omega)) only [Sep.mid_set, Sep.mid_set2, Sep.mid_set0, Sep.mid_splice, Sep.mid_splice0, List.set_cons_zero, List.set_cons_succ] at hw); (try simp only [Sep.splice, List.take_succ_cons, List.take_zero, List.drop_succ_cons, List.drop_zero, List.length_cons, List.length_nil, Nat.reduceAdd, List.cons_append, List.nil_append] at hw)
  have Hf := Sep.hid (Holds.fct (i := 4) rfl hw)
  replace hw := hw.sel [0, 1, 2, 3] (by decide)
  (try simp only [List.map_cons, List.map_nil, List.getD_cons_zero, List.getD_cons_succ, List.getD_nil, List.set_cons_zero, List.set_cons_succ, List.cons_append, List.nil_append, Act.eval, Array.getD_eq_getD_getElem?, List.getElem?_toArray, List.getElem?_cons_succ, List.getElem?_cons_zero, Option.getD_some, Value.cells] at hw); (try simp (disch := first | (simp; done) | (simp; omega)) only [Sep.mid_set, Sep.mid_set2, Sep.mid_set0, Sep.mid_splice, Sep.mid_splice0, List.set_cons_zero, List.set_cons_succ] at hw); (try simp only [Sep.splice, List.take_succ_cons, List.take_zero, List.drop_succ_cons, List.drop_zero, List.length_cons, List.length_nil, Nat.reduceAdd, List.cons_append, List.nil_append] at hw)
  (try replace hc0 := Sep.Holds.cells hw (i := 0) rfl); (try replace hc1 := Sep.Holds.cells hw (i := 1) rfl); (try replace hc2 := Sep.Holds.cells hw (i := 2) rfl); (try replace hc3 := Sep.Holds.cells hw (i := 3) rfl); (try replace hc4 := Sep.Holds.cells hw (i := 4) rfl); (try replace hc5 := Sep.Holds.cells hw (i := 5) rfl); (try replace hc6 := Sep.Holds.cells hw (i := 6) rfl)
  refine Sep.calls_post ?_
  intro Post_ hPost_
  have HP := Sep.hid hPost_
  clear hPost_
  go_enter Try.func15, Try.ntmps15
  go_wp2_with fail
  refine (wList r M.n [ts M.w] 0 e _ _ (hw.focus1 2 rfl)).mono ?_
  rintro en_ w_ ⟨v, rfl, hw_⟩
  clear hw; (try clear hc0); (try clear hc1); (try clear hc2); (try clear hc3); (try clear hc4); (try clear hc5); (try clear hc6); have hw := Holds.unfocus1 2 (by simp) hw_; clear hw_
  (try simp only [List.map_cons, List.map_nil, List.getD_cons_zero, List.getD_cons_succ, List.getD_nil, List.set_cons_zero, List.set_cons_succ, List.cons_append, List.nil_append, Act.eval, Array.getD_eq_getD_getElem?, List.getElem?_toArray, List.getElem?_cons_succ, List.getElem?_cons_zero, Option.getD_some, Value.cells] at hw); (try simp (disch := first | (simp; done) | (simp; omega)) only [Sep.mid_set, Sep.mid_set2, Sep.mid_set0, Sep.mid_splice, Sep.mid_splice0, List.set_cons_zero, List.set_cons_succ] at hw); (try simp only [Sep.splice, List.take_succ_cons, List.take_zero, List.drop_succ_cons, List.drop_zero, List.length_cons, List.length_nil, Nat.reduceAdd, List.cons_append, List.nil_append] at hw)
  obtain ⟨n', hn'⟩ : ∃ n', M.w.length = n' := ⟨_, rfl⟩
  have hw : Holds e w_ [X, pt p [.pointer (some ⟨r, 0, none⟩), .slice (some ⟨b, 0, none⟩) M.n M.n] 59, IsRows r M.n [ts M.w], pt b (encI ks) 3, Sl 3 1 v n' (encI (ts M.w))] := by
    have e1 : (ts M.w).length = n' := by rw [← hn']; exact List.length_map _
    have h2 : IsInts v (ts M.w) = Sl 3 1 v n' (encI (ts M.w)) := by unfold IsInts; rw [e1]
    rw [← h2]; exact hw
  have hn1 : n' ≤ 1000 := by have h1 := Hlen.out.2.1; have h2 := Hlen.out.2.2; omega
  have Hn' := Sep.hid hn'; clear hn' Hlen
  obtain ⟨a, ca, rfl⟩ := Sl.value (i := 4) rfl hw
  have hw := hw.addEmp (X := Sl 50 2 (.slice none 0 0) 0 (encT [])) (Sl.nil _ _ _)
  (try simp only [List.map_cons, List.map_nil, List.getD_cons_zero, List.getD_cons_succ, List.getD_nil, List.set_cons_zero, List.set_cons_succ, List.cons_append, List.nil_append, Act.eval, Array.getD_eq_getD_getElem?, List.getElem?_toArray, List.getElem?_cons_succ, List.getElem?_cons_zero, Option.getD_some, Value.cells] at hw); (try simp (disch := first | (simp; done) | (simp; omega)) only [Sep.mid_set, Sep.mid_set2, Sep.mid_set0, Sep.mid_splice, Sep.mid_splice0, List.set_cons_zero, List.set_cons_succ] at hw); (try simp only [Sep.splice, List.take_succ_cons, List.take_zero, List.drop_succ_cons, List.drop_zero, List.length_cons, List.length_nil, Nat.reduceAdd, List.cons_append, List.nil_append] at hw)
  go_wp2_with fail
  have Hw0 := Sep.hid hw; clear hw; (try clear hc0); (try clear hc1); (try clear hc2); (try clear hc3); (try clear hc4); (try clear hc5); (try clear hc6)
  go_loopw [12, 3] (fun i o wr => ∃ (k : Nat) (c : List Told), k ≤ n' ∧ i = .int .i64 k ∧ c = M.w.take k ∧ c.length = k ∧ Holds e wr [X, pt p [.pointer (some ⟨r, 0, none⟩), .slice (some ⟨b, 0, none⟩) M.n M.n] 59, IsRows r M.n [ts M.w], pt b (encI ks) 3, Sl 3 1 (.slice a n' ca) n' (encI (ts M.w)), Sl 50 2 o k (encT c)]) (fun i _ _ => n' - (intOf i).toNat)
  case atStart => exact ⟨0, [], Nat.zero_le _, rfl, rfl, rfl, Hw0.out⟩
  case round =>
    clear Hw0
    obtain ⟨k, c, hk, rfl, hc, hck, hw⟩ := hrel
    have Hc := Sep.hid hc; clear hc
    have Hck := Sep.hid hck; clear hck
    obtain ⟨oa, oc, rfl⟩ := Sl.value (i := 5) rfl hw
    by_cases hlt : k < n'
    · obtain ⟨⟨t, kk⟩, hx⟩ : ∃ x, M.w[k]? = some x := ⟨_, List.getElem?_eq_getElem (by rw [Hn'.out]; exact hlt)⟩
      have hmem := List.mem_of_getElem? hx
      have hp := Hf.out.1.pos t (ts_mem hmem)
      obtain ⟨q, rfl⟩ : ∃ q : Nat, t = q := ⟨t.toNat, by omega⟩
      have hqn : q < M.n := by omega
      have hlk := encI_get (Hf.out.2.2 ((q : Int), kk) hmem)
      simp only [Int.toNat_natCast] at hlk
      obtain ⟨ba, off, rfl, gx⟩ := int_at (i := 4) (k := k) (x := (q : Int)) hw rfl (by unfold ts; rw [List.getElem?_map, hx]; rfl)
      have Hx := Sep.hid hx; clear hx hp hmem
      (try replace hc0 := Sep.Holds.cells hw (i := 0) rfl); (try replace hc1 := Sep.Holds.cells hw (i := 1) rfl); (try replace hc2 := Sep.Holds.cells hw (i := 2) rfl); (try replace hc3 := Sep.Holds.cells hw (i := 3) rfl); (try replace hc4 := Sep.Holds.cells hw (i := 4) rfl); (try replace hc5 := Sep.Holds.cells hw (i := 5) rfl); (try replace hc6 := Sep.Holds.cells hw (i := 6) rfl)
      go_wp2_with (first | (refine wpList_on rfl (wp_bsl1 rfl rfl (by rfl) (by rfl) (by decide) hw ?_); intro b_ w_ hw_; clear hw; have hw := hw_; clear hw_; (try simp only [List.map_cons, List.map_nil, List.getD_cons_zero, List.getD_cons_succ, List.getD_nil, List.set_cons_zero, List.set_cons_succ, List.cons_append, List.nil_append, Act.eval, Array.getD_eq_getD_getElem?, List.getElem?_toArray, List.getElem?_cons_succ, List.getElem?_cons_zero, Option.getD_some, Value.cells] at hw); (try simp (disch := first | (simp; done) | (simp; omega)) only [Sep.mid_set, Sep.mid_set2, Sep.mid_set0, Sep.mid_splice, Sep.mid_splice0, List.set_cons_zero, List.set_cons_succ] at hw); (try simp only [Sep.splice, List.take_succ_cons, List.take_zero, List.drop_succ_cons, List.drop_zero, List.length_cons, List.length_nil, Nat.reduceAdd, List.cons_append, List.nil_append] at hw); (try replace hc0 := Sep.Holds.cells hw (i := 0) rfl); (try replace hc1 := Sep.Holds.cells hw (i := 1) rfl); (try replace hc2 := Sep.Holds.cells hw (i := 2) rfl); (try replace hc3 := Sep.Holds.cells hw (i := 3) rfl); (try replace hc4 := Sep.Holds.cells hw (i := 4) rfl); (try replace hc5 := Sep.Holds.cells hw (i := 5) rfl); (try replace hc6 := Sep.Holds.cells hw (i := 6) rfl)) | (at_builtin; refine wpList_on rfl (wp_appendPt (i := 5) (j := 6) rfl rfl hw rfl rfl rfl (by rfl) (by simp [Value.oneCell']) (by decide) (by rfl) (by (try unfold maxLen); omega) (by (try unfold maxLen); omega) ?_); intro b2_ cap2_ off2_ w_ hcap2_ hw_; clear hw; have hw := hw_; clear hw_; (try simp only [List.map_cons, List.map_nil, List.getD_cons_zero, List.getD_cons_succ, List.getD_nil, List.set_cons_zero, List.set_cons_succ, List.cons_append, List.nil_append, Act.eval, Array.getD_eq_getD_getElem?, List.getElem?_toArray, List.getElem?_cons_succ, List.getElem?_cons_zero, Option.getD_some, Value.cells] at hw); (try simp (disch := first | (simp; done) | (simp; omega)) only [Sep.mid_set, Sep.mid_set2, Sep.mid_set0, Sep.mid_splice, Sep.mid_splice0, List.set_cons_zero, List.set_cons_succ] at hw); (try simp only [Sep.splice, List.take_succ_cons, List.take_zero, List.drop_succ_cons, List.drop_zero, List.length_cons, List.length_nil, Nat.reduceAdd, List.cons_append, List.nil_append] at hw); (try replace hc0 := Sep.Holds.cells hw (i := 0) rfl); (try replace hc1 := Sep.Holds.cells hw (i := 1) rfl); (try replace hc2 := Sep.Holds.cells hw (i := 2) rfl); (try replace hc3 := Sep.Holds.cells hw (i := 3) rfl); (try replace hc4 := Sep.Holds.cells hw (i := 4) rfl); (try replace hc5 := Sep.Holds.cells hw (i := 5) rfl); (try replace hc6 := Sep.Holds.cells hw (i := 6) rfl)))
      go_roundw
      case rel =>
        refine ⟨k + 1, c ++ [((q : Int), kk)], by omega, by go_num, by rw [takeT Hx.out, ← Hc.out], by simp [Hck.out], ?_⟩
        rw [encT_append]
        exact (hw.sel [0, 1, 2, 3, 4, 5] (by decide))
      case measure => simp [intOf]; omega
    · have hke : n' = k := by omega
      subst hke
      have hd : c = M.w := by rw [Hc.out, List.take_of_length_le (by rw [Hn'.out]; omega)]
      have Hd := Sep.hid hd; clear hd
      go_wp2_with fail
      refine HP.out _ _ ⟨_, rfl, ?_⟩
      rw [Hd.out] at hw
      have hT : IsTolds 50 (.slice oa n' oc) M.w = Sl 50 2 (.slice oa n' oc) n' (encT M.w) := by unfold IsTolds; rw [Hn'.out]
      rw [← hT] at hw
      have h := Holds.group [X, IsTolds 50 (.slice oa n' oc) M.w] _ (hw.sel [0, 5, 1, 2, 3] (by decide))
      have h2 := exL.mk (f := condParts p M) ⟨r, b, ks⟩ (h.addFct Hf.out)
      exact (Holds.ungroup [X, IsTolds 50 (.slice oa n' oc) M.w] [_] h2).sel [0, 2, 1] (by decide)
end Go.Proofs.Ytcefnihhlbeebaa
