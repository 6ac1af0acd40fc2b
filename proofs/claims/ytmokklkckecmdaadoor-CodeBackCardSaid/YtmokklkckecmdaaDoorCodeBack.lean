/-
  CodeBack: the walk.
-/
import Derived.Test.YtmokklkckecmdaaDoorCodeX
namespace Go.Proofs.YtmokklkckecmdaaDoor
set_option linter.unusedSimpArgs false
set_option linter.unusedVariables false
open Go.RowKit Go.Sep

theorem sl_cap {e w : World} {L : List HProp} {i n c sz : Nat} {T : TypeId} {a : Option Addr} {cs : List Value} (hw : Holds e w L) (hi : L[i]? = some (Sl T sz (.slice a n c) n cs)) : n ≤ c := by
  rcases hw.openSl hi with ⟨_, h2, _⟩ | ⟨b, cap, pre, post, hv, hle, _⟩
  · omega
  · cases hv; exact hle
theorem newsB_of {w : World} {a : Option Addr} {l : List Int} {n cap : Nat} (h : ReadsB w a l) (hn : l.length = n) :
    (0 < n ∧ ∃ ad c, Value.slice a n cap = .slice (some ad) n c ∧ ∀ (q : Nat) (y : Value), (encB l)[q]? = some y → w.cell? (ad.add q) = some y) ∨ (n = 0 ∧ ∃ ao c, Value.slice a n cap = .slice ao 0 c) := by
  by_cases h0 : n = 0
  · subst h0; exact .inr ⟨rfl, _, _, rfl⟩
  · left
    obtain ⟨p, rfl, _⟩ := h 0 _ (List.getElem?_eq_getElem (by omega))
    refine ⟨by omega, p, cap, rfl, fun q y hy => ?_⟩
    unfold encB at hy
    rw [List.getElem?_map] at hy
    cases hx : l[q]? with
    | none => rw [hx] at hy; cases hy
    | some x =>
      rw [hx] at hy
      cases hy
      obtain ⟨p2, hp2, hc⟩ := h q x hx
      cases hp2; exact hc
theorem bytes_in (l : List Deed) : Bys (bytesP l) := by
  intro y hy
  unfold bytesP at hy
  rcases List.mem_cons.1 hy with rfl | hy
  · omega
  · obtain ⟨x, _, hx⟩ := List.mem_flatMap.1 hy
    unfold encIns be8 at hx
    simp only [List.cons_append, List.nil_append, List.mem_cons, List.not_mem_nil, or_false] at hx
    omega
set_option maxRecDepth 20000 in
set_option maxHeartbeats 16000000 in
theorem code_back_walk (e : World) (al ab ar : Option Addr) (cl cb cr : Nat) (l : List Deed) (b r : List Int) (hT : TopsAt e) (hl : ActsAt e al l) (hb : BytesAt e ab b) (hr : BytesAt e ar r) (hcb : b.length ≤ cb) (hcr : r.length ≤ cr) :
    Calls Tryd.prog 4 #[.slice al l.length cl, .slice ab b.length cb, .slice ar r.length cr] e fun en w' => en = .returned (.bool true) ∧ Holds e w' [Old e] := by
  have hw := Holds.start e
  have HT := Sep.hid (old_tops hT)
  have HRl := Sep.hid (old_acts hl)
  have HRb := Sep.hid (old_bytes hb)
  have HRr := Sep.hid (old_bytes hr)
  have Hbb := Sep.hid (bytes_bys hb)
  have Hbr := Sep.hid (bytes_bys hr)
  have Hok : Hid (∀ x ∈ l, -9223372036854775808 ≤ x.f3 ∧ x.f3 ≤ 9223372036854775807) := Sep.hid (fun x hx => by
    obtain ⟨k, hk⟩ := List.getElem?_of_mem hx
    exact (hl k x hk).1.2.2.2)
  clear hT hl hb hr
  generalize hll : l.length = ll at *
  generalize hlb : b.length = lb at *
  generalize hlr : r.length = lr at *
  have Hll := Sep.hid hll; have Hlb := Sep.hid hlb; have Hlr := Sep.hid hlr; clear hll hlb hlr
  by_cases h1 : (60 : Int) < ll
  · refine Sep.calls_post ?_
    intro Post_ hPost_
    have HP := Sep.hid hPost_
    clear hPost_
    go_enter Tryd.func4, Tryd.ntmps4
    go_wp2_with fail
    refine (awake_ok e _ _ HT.out hw).mono ?_
    rintro _ w_ ⟨rfl, hw_⟩
    clear hw; have hw := hw_; clear hw_
    go_wp2_with fail
    exact HP.out _ _ ⟨rfl, hw⟩
  by_cases h2 : (1000 : Int) < lb
  · refine Sep.calls_post ?_
    intro Post_ hPost_
    have HP := Sep.hid hPost_
    clear hPost_
    go_enter Tryd.func4, Tryd.ntmps4
    go_wp2_with fail
    refine (awake_ok e _ _ HT.out hw).mono ?_
    rintro _ w_ ⟨rfl, hw_⟩
    clear hw; have hw := hw_; clear hw_
    go_wp2_with fail
    exact HP.out _ _ ⟨rfl, hw⟩
  by_cases h3 : (1000 : Int) < lr
  · refine Sep.calls_post ?_
    intro Post_ hPost_
    have HP := Sep.hid hPost_
    clear hPost_
    go_enter Tryd.func4, Tryd.ntmps4
    go_wp2_with fail
    refine (awake_ok e _ _ HT.out hw).mono ?_
    rintro _ w_ ⟨rfl, hw_⟩
    clear hw; have hw := hw_; clear hw_
    go_wp2_with fail
    exact HP.out _ _ ⟨rfl, hw⟩
  have Hb := Sep.hid (show ll ≤ 60 ∧ lb ≤ 1000 ∧ lr ≤ 1000 ∧ l.length ≤ 60 by
    have e1 := Hll.out
    refine ⟨by omega, by omega, by omega, by omega⟩)
  have hlr2 : lr ≤ 1000 := by omega
  by_cases h0 : (readP b).2.2 = 0
  · obtain ⟨k, hk, hk1, hk24, hkb, hkm, hkB⟩ := bytes_read Hbb.out h0
    clear h0
    have Hk := Sep.hid hk; clear hk
    have HkB := Sep.hid hkB; clear hkB
    have Hkm := Sep.hid hkm; clear hkm
    have hkl : 1 + k * 11 ≤ lb := by rw [← Hlb.out]; exact hkb
    clear hkb
    have Hkl := Sep.hid (readL_len b k)
    refine Sep.calls_post ?_
    intro Post_ hPost_
    have HP := Sep.hid hPost_
    clear hPost_
    go_enter Tryd.func4, Tryd.ntmps4
    go_wp2_with fail
    refine (awake_ok e _ _ HT.out hw).mono ?_
    rintro _ w_ ⟨rfl, hw_⟩
    clear hw; have hw := hw_; clear hw_
    go_wp2_with fail
    refine (oRead b lb cb ab Hlb hcb Hbb.out e _ _ HT.out HRb.out hw).mono ?_
    rintro _ w_ ⟨v0, rfl, hw_⟩
    clear hw; have hw := hw_; clear hw_
    rw [Hk.out] at hw ⊢
    obtain ⟨j, hj⟩ : ∃ j, 1 + k * 11 = j := ⟨_, rfl⟩
    have hj1 : 1 ≤ j := by omega
    rw [hj] at HkB hkl ⊢
    clear hj
    have hq1 : ¬ (j : Int) < 1 := by omega
    have hq2 : ¬ (lb : Int) < (j : Int) := by omega
    have Hjc := Sep.hid (show j ≤ cb by omega)
    have Hjl := Sep.hid hkl
    clear hj1 hkl hk1 hk24
    obtain ⟨a0, k0, rfl⟩ := Sl.value (i := 1) rfl hw
    go_wp2_with fail
    refine (oBytes (readL b k) _ k0 a0 (Sep.hid rfl) e _ _ HT.out.sep (rdA.at 1 rfl) Hkm.out hw.focus0).mono ?_
    rintro _ w_ ⟨v6, rfl, hw_⟩
    clear hw; (try clear hc0); (try clear hc1); (try clear hc2); (try clear hc3); (try clear hc4); (try clear hc5); (try clear hc6); have hw := Holds.unfocus0 hw_; clear hw_; (try simp only [List.map_cons, List.map_nil, List.getD_cons_zero, List.getD_cons_succ, List.getD_nil, List.set_cons_zero, List.set_cons_succ, List.cons_append, List.nil_append, Act.eval, Array.getD_eq_getD_getElem?, List.getElem?_toArray, List.getElem?_cons_succ, List.getElem?_cons_zero, Option.getD_some, Value.cells] at hw); (try simp (disch := first | (simp; done) | (simp; omega)) only [Sep.mid_set, Sep.mid_set2, Sep.mid_set0, Sep.mid_splice, Sep.mid_splice0, List.set_cons_zero, List.set_cons_succ] at hw); (try simp only [Sep.splice, List.take_succ_cons, List.take_zero, List.drop_succ_cons, List.drop_zero, List.length_cons, List.length_nil, Nat.reduceAdd, List.cons_append, List.nil_append] at hw)
    rw [HkB.out] at hw
    have hbl : (b.take j).length = j := by rw [List.length_take, Hlb.out, Nat.min_eq_left Hjl.out]
    have h2 : IsB v6 (b.take j) = Sl 5 1 v6 j (encB (b.take j)) := by unfold IsB; rw [hbl]
    rw [h2] at hw
    have HRj := Sep.hid (HRb.out.take j)
    have Hbl := Sep.hid hbl
    clear h2 hbl HkB
    generalize b.take j = bj at *
    obtain ⟨a6, k6, rfl⟩ := Sl.value (i := 2) rfl hw
    go_wp2_with (first | (refine wpList_on rfl (wp_of_run (run_sliceTo (k := j) rfl rfl rfl Hjc.out) ?_); (try simp only [Act.put, List.setIfInBounds_toArray, List.set_cons_zero, List.set_cons_succ])))
    refine (sameB a6 ab bj bj j j k6 cb Hbl.out.symm Hbl.out.symm (by have := Hb.out; have := Hjl.out; omega) _ (readsB (i := 2) hw rfl) (HRj.out _ _ 0 hw rfl)).mono ?_
    rintro _ w_ ⟨rfl, hd_⟩
    have hw := hw.drewTo hd_
    clear hd_
    rw [decide_eq_true rfl]
    go_wp2_with fail
    refine (oMay (readL b k) _ k0 a0 (Sep.hid rfl) e _ _ HT.out.sep (rdA.at 1 rfl) hw.focus0).mono ?_
    rintro _ w_ ⟨rfl, hw_⟩
    rw [Hkm.out]
    clear hw; (try clear hc0); (try clear hc1); (try clear hc2); (try clear hc3); (try clear hc4); (try clear hc5); (try clear hc6); have hw := Holds.unfocus0 hw_; clear hw_; (try simp only [List.map_cons, List.map_nil, List.getD_cons_zero, List.getD_cons_succ, List.getD_nil, List.set_cons_zero, List.set_cons_succ, List.cons_append, List.nil_append, Act.eval, Array.getD_eq_getD_getElem?, List.getElem?_toArray, List.getElem?_cons_succ, List.getElem?_cons_zero, Option.getD_some, Value.cells] at hw); (try simp (disch := first | (simp; done) | (simp; omega)) only [Sep.mid_set, Sep.mid_set2, Sep.mid_set0, Sep.mid_splice, Sep.mid_splice0, List.set_cons_zero, List.set_cons_succ] at hw); (try simp only [Sep.splice, List.take_succ_cons, List.take_zero, List.drop_succ_cons, List.drop_zero, List.length_cons, List.length_nil, Nat.reduceAdd, List.cons_append, List.nil_append] at hw)
    have hw := hw.sel [0] (by decide)
    (try simp only [List.map_cons, List.map_nil, List.getD_cons_zero, List.getD_cons_succ, List.getD_nil, List.set_cons_zero, List.set_cons_succ, List.cons_append, List.nil_append, Act.eval, Array.getD_eq_getD_getElem?, List.getElem?_toArray, List.getElem?_cons_succ, List.getElem?_cons_zero, Option.getD_some, Value.cells] at hw); (try simp (disch := first | (simp; done) | (simp; omega)) only [Sep.mid_set, Sep.mid_set2, Sep.mid_set0, Sep.mid_splice, Sep.mid_splice0, List.set_cons_zero, List.set_cons_succ] at hw); (try simp only [Sep.splice, List.take_succ_cons, List.take_zero, List.drop_succ_cons, List.drop_zero, List.length_cons, List.length_nil, Nat.reduceAdd, List.cons_append, List.nil_append] at hw)
    go_wp2_with fail
    refine (oBytesX l ll cl al Hll e _ _ HT.out HRl.out hw).mono ?_
    rintro _ w_ ⟨v1, rfl, hw_⟩
    clear hw; have hw := hw_; clear hw_
    cases hm : mayP l with
    | false =>
      have hE : eL l = 1 := by unfold eL; rw [if_neg (by rw [hm]; decide)]
      have hB : bL l = [] := by unfold bL; rw [if_neg (by rw [hm]; decide)]
      rw [hE]
      rw [hB] at hw
      have hw : Holds e w_ [Old e, Sl 5 1 v1 0 []] := hw
      obtain ⟨a1, k1, rfl⟩ := Sl.value (i := 1) rfl hw
      have Hm := Sep.hid hm; clear hm hE hB
      go_wp2_with fail
      refine (oMay l ll cl al Hll e _ _ HT.out HRl.out (hw.sel [0] (by decide))).mono ?_
      rintro _ w_ ⟨rfl, hw_⟩
      rw [Hm.out]
      go_wp2_with fail
      exact HP.out _ _ ⟨rfl, hw_⟩
    | true =>
      have hE : eL l = 0 := by unfold eL; rw [if_pos hm]
      have hB : bL l = bytesP l := by unfold bL; rw [if_pos hm]
      rw [hE]
      rw [hB] at hw
      obtain ⟨N, hK⟩ : ∃ N, (bytesP l).length = N := ⟨_, rfl⟩
      have hN0 : ¬ N = 0 := by rw [← hK, bytesP_len]; omega
      obtain ⟨K, hKN⟩ : ∃ K, N - 1 = K := ⟨_, rfl⟩
      have hw : Holds e w_ [Old e, Sl 5 1 v1 N (encB (bytesP l))] := by
        have h2 : IsB v1 (bytesP l) = Sl 5 1 v1 N (encB (bytesP l)) := by unfold IsB; rw [hK]
        rw [← h2]; exact hw
      obtain ⟨a1, k1, rfl⟩ := Sl.value (i := 1) rfl hw
      have hNk := sl_cap (i := 1) hw rfl
      have hNb : N ≤ 1000 := by
        have h1 := bytesP_len l
        have h2 := Hb.out.2.2.2
        omega
      have HRd : Hid (readP (bytesP l ++ r) = (l, (N : Int), 0)) := Sep.hid (by rw [read_bytes hm Hok.out, hK])
      have HCut : Hid (readP ((bytesP l).take K) = ([], 0, 8)) := Sep.hid (by have := read_cut hm; rwa [hK, hKN] at this)
      have HBb : Hid (Bys (bytesP l)) := Sep.hid (bytes_in l)
      have HK := Sep.hid hK
      have eK : IntKind.i64.wrap ((N : Int) - 1) = (K : Int) := by rw [IntWalk.i64_in _ (by omega)]; omega
      have eK2 : wrap64 ((N : Int) - 1) = (K : Int) := by rw [IntWalk.wrap64_in _ (by omega)]; omega
      have HKl := Sep.hid (show K ≤ N ∧ K ≤ k1 by omega)
      clear hm hE hB hK hKN
      generalize bytesP l = B at *
      go_wp2_with (first | (refine wpList_on rfl (wp_bsl0 rfl hw ?_); intro b_ w_ hw_; replace hw_ := hw_.newSl (i := 2) rfl 1 0 rfl (by decide); clear hw; have hw := hw_; clear hw_; (try simp only [List.map_cons, List.map_nil, List.getD_cons_zero, List.getD_cons_succ, List.getD_nil, List.set_cons_zero, List.set_cons_succ, List.cons_append, List.nil_append, Act.eval, Array.getD_eq_getD_getElem?, List.getElem?_toArray, List.getElem?_cons_succ, List.getElem?_cons_zero, Option.getD_some, Value.cells] at hw); (try simp (disch := first | (simp; done) | (simp; omega)) only [Sep.mid_set, Sep.mid_set2, Sep.mid_set0, Sep.mid_splice, Sep.mid_splice0, List.set_cons_zero, List.set_cons_succ] at hw); (try simp only [Sep.splice, List.take_succ_cons, List.take_zero, List.drop_succ_cons, List.drop_zero, List.length_cons, List.length_nil, Nat.reduceAdd, List.cons_append, List.nil_append] at hw); (try replace hc0 := Sep.Holds.cells hw (i := 0) rfl); (try replace hc1 := Sep.Holds.cells hw (i := 1) rfl); (try replace hc2 := Sep.Holds.cells hw (i := 2) rfl); (try replace hc3 := Sep.Holds.cells hw (i := 3) rfl); (try replace hc4 := Sep.Holds.cells hw (i := 4) rfl); (try replace hc5 := Sep.Holds.cells hw (i := 5) rfl); (try replace hc6 := Sep.Holds.cells hw (i := 6) rfl)) | (at_builtin; refine wpList_on rfl (wp_appendSl (i := 2) (j := 1) (n := 0) (m := N) (u := .slice a1 N k1) rfl rfl hw rfl rfl rfl (encB_one B) (by rfl) (by (try unfold maxLen); omega) (by (try unfold maxLen); omega) ?_); intro a2_ cap2_ w_ hw_; (try simp only [Nat.zero_add, List.nil_append] at hw_); clear hw; have hw := hw_; clear hw_; (try simp only [List.map_cons, List.map_nil, List.getD_cons_zero, List.getD_cons_succ, List.getD_nil, List.set_cons_zero, List.set_cons_succ, List.cons_append, List.nil_append, Act.eval, Array.getD_eq_getD_getElem?, List.getElem?_toArray, List.getElem?_cons_succ, List.getElem?_cons_zero, Option.getD_some, Value.cells] at hw); (try simp (disch := first | (simp; done) | (simp; omega)) only [Sep.mid_set, Sep.mid_set2, Sep.mid_set0, Sep.mid_splice, Sep.mid_splice0, List.set_cons_zero, List.set_cons_succ] at hw); (try simp only [Sep.splice, List.take_succ_cons, List.take_zero, List.drop_succ_cons, List.drop_zero, List.length_cons, List.length_nil, Nat.reduceAdd, List.cons_append, List.nil_append] at hw); (try replace hc0 := Sep.Holds.cells hw (i := 0) rfl); (try replace hc1 := Sep.Holds.cells hw (i := 1) rfl); (try replace hc2 := Sep.Holds.cells hw (i := 2) rfl); (try replace hc3 := Sep.Holds.cells hw (i := 3) rfl); (try replace hc4 := Sep.Holds.cells hw (i := 4) rfl); (try replace hc5 := Sep.Holds.cells hw (i := 5) rfl); (try replace hc6 := Sep.Holds.cells hw (i := 6) rfl)) | (at_builtin; refine wpList_on rfl (wp_appendRd (i := 2) (n := N) (m := lr) (u := .slice ar lr cr) (news := encB r) rfl rfl hw rfl rfl (by rw [encB_length, Hlr.out]; omega) (newsB_of (HRr.out _ _ 0 hw rfl) Hlr.out) (encB_one r) (by rfl) (by (try unfold maxLen); omega) (by (try unfold maxLen); omega) ?_); intro a2_ cap2_ w_ hw_; clear hw; have hw := hw_; clear hw_; (try simp only [List.map_cons, List.map_nil, List.getD_cons_zero, List.getD_cons_succ, List.getD_nil, List.set_cons_zero, List.set_cons_succ, List.cons_append, List.nil_append, Act.eval, Array.getD_eq_getD_getElem?, List.getElem?_toArray, List.getElem?_cons_succ, List.getElem?_cons_zero, Option.getD_some, Value.cells] at hw); (try simp (disch := first | (simp; done) | (simp; omega)) only [Sep.mid_set, Sep.mid_set2, Sep.mid_set0, Sep.mid_splice, Sep.mid_splice0, List.set_cons_zero, List.set_cons_succ] at hw); (try simp only [Sep.splice, List.take_succ_cons, List.take_zero, List.drop_succ_cons, List.drop_zero, List.length_cons, List.length_nil, Nat.reduceAdd, List.cons_append, List.nil_append] at hw); (try replace hc0 := Sep.Holds.cells hw (i := 0) rfl); (try replace hc1 := Sep.Holds.cells hw (i := 1) rfl); (try replace hc2 := Sep.Holds.cells hw (i := 2) rfl); (try replace hc3 := Sep.Holds.cells hw (i := 3) rfl); (try replace hc4 := Sep.Holds.cells hw (i := 4) rfl); (try replace hc5 := Sep.Holds.cells hw (i := 5) rfl); (try replace hc6 := Sep.Holds.cells hw (i := 6) rfl)))
      rw [← encB_append] at hw
      refine (oRead (B ++ r) (N + lr) _ _ (Sep.hid (by rw [List.length_append, HK.out, Hlr.out])) (sl_cap (i := 2) hw rfl) (by intro y hy; exact (List.mem_append.1 hy).elim (HBb.out y) (Hbr.out y)) e _ _ HT.out.sep ((rdB (n := N + lr)).at 2 rfl) hw.focus0).mono ?_
      rintro _ w_ ⟨v2, rfl, hw_⟩
      rw [HRd.out] at hw_ ⊢
      clear hw; (try clear hc0); (try clear hc1); (try clear hc2); (try clear hc3); (try clear hc4); (try clear hc5); (try clear hc6); have hw := Holds.unfocus0 hw_; clear hw_; (try simp only [List.map_cons, List.map_nil, List.getD_cons_zero, List.getD_cons_succ, List.getD_nil, List.set_cons_zero, List.set_cons_succ, List.cons_append, List.nil_append, Act.eval, Array.getD_eq_getD_getElem?, List.getElem?_toArray, List.getElem?_cons_succ, List.getElem?_cons_zero, Option.getD_some, Value.cells] at hw); (try simp (disch := first | (simp; done) | (simp; omega)) only [Sep.mid_set, Sep.mid_set2, Sep.mid_set0, Sep.mid_splice, Sep.mid_splice0, List.set_cons_zero, List.set_cons_succ] at hw); (try simp only [Sep.splice, List.take_succ_cons, List.take_zero, List.drop_succ_cons, List.drop_zero, List.length_cons, List.length_nil, Nat.reduceAdd, List.cons_append, List.nil_append] at hw)
      obtain ⟨a3, k3, rfl⟩ := Sl.value (i := 3) rfl hw
      have hw := hw.sel [0, 1, 3] (by decide)
      (try simp only [List.map_cons, List.map_nil, List.getD_cons_zero, List.getD_cons_succ, List.getD_nil, List.set_cons_zero, List.set_cons_succ, List.cons_append, List.nil_append, Act.eval, Array.getD_eq_getD_getElem?, List.getElem?_toArray, List.getElem?_cons_succ, List.getElem?_cons_zero, Option.getD_some, Value.cells] at hw); (try simp (disch := first | (simp; done) | (simp; omega)) only [Sep.mid_set, Sep.mid_set2, Sep.mid_set0, Sep.mid_splice, Sep.mid_splice0, List.set_cons_zero, List.set_cons_succ] at hw); (try simp only [Sep.splice, List.take_succ_cons, List.take_zero, List.drop_succ_cons, List.drop_zero, List.length_cons, List.length_nil, Nat.reduceAdd, List.cons_append, List.nil_append] at hw)
      go_wp2_with (first | (refine wpList_on rfl (wp_of_run (run_sliceTo (k := K) rfl rfl (by first | rfl | (go_simp; done)) HKl.out.2) ?_); (try simp only [Act.put, List.setIfInBounds_toArray, List.set_cons_zero, List.set_cons_succ])))
      refine (oRead (B.take K) K k1 a1 (Sep.hid (by rw [List.length_take, HK.out]; have := HKl.out; omega)) HKl.out.2 (HBb.out.take K) e _ _ HT.out.sep ((rdB (n := N) (ca := k1)).at 1 rfl |>.take K) hw.focus0).mono ?_
      rintro _ w_ ⟨v4, rfl, hw_⟩
      rw [HCut.out] at hw_ ⊢
      clear hw; (try clear hc0); (try clear hc1); (try clear hc2); (try clear hc3); (try clear hc4); (try clear hc5); (try clear hc6); have hw := Holds.unfocus0 hw_; clear hw_; (try simp only [List.map_cons, List.map_nil, List.getD_cons_zero, List.getD_cons_succ, List.getD_nil, List.set_cons_zero, List.set_cons_succ, List.cons_append, List.nil_append, Act.eval, Array.getD_eq_getD_getElem?, List.getElem?_toArray, List.getElem?_cons_succ, List.getElem?_cons_zero, Option.getD_some, Value.cells] at hw); (try simp (disch := first | (simp; done) | (simp; omega)) only [Sep.mid_set, Sep.mid_set2, Sep.mid_set0, Sep.mid_splice, Sep.mid_splice0, List.set_cons_zero, List.set_cons_succ] at hw); (try simp only [Sep.splice, List.take_succ_cons, List.take_zero, List.drop_succ_cons, List.drop_zero, List.length_cons, List.length_nil, Nat.reduceAdd, List.cons_append, List.nil_append] at hw)
      go_wp2_with fail
      refine (own_calls l l.length k3 a3 (Sep.hid rfl) (by have := Hb.out; omega) e _ _ (rdA.at 2 rfl) hw.focus0).mono ?_
      rintro _ w_ ⟨u1, rfl, hw_⟩
      clear hw; (try clear hc0); (try clear hc1); (try clear hc2); (try clear hc3); (try clear hc4); (try clear hc5); (try clear hc6); have hw := Holds.unfocus0 hw_; clear hw_; (try simp only [List.map_cons, List.map_nil, List.getD_cons_zero, List.getD_cons_succ, List.getD_nil, List.set_cons_zero, List.set_cons_succ, List.cons_append, List.nil_append, Act.eval, Array.getD_eq_getD_getElem?, List.getElem?_toArray, List.getElem?_cons_succ, List.getElem?_cons_zero, Option.getD_some, Value.cells] at hw); (try simp (disch := first | (simp; done) | (simp; omega)) only [Sep.mid_set, Sep.mid_set2, Sep.mid_set0, Sep.mid_splice, Sep.mid_splice0, List.set_cons_zero, List.set_cons_succ] at hw); (try simp only [Sep.splice, List.take_succ_cons, List.take_zero, List.drop_succ_cons, List.drop_zero, List.length_cons, List.length_nil, Nat.reduceAdd, List.cons_append, List.nil_append] at hw)
      obtain ⟨ua1, uk1, rfl⟩ := Sl.value (i := 4) rfl hw
      go_wp2_with fail
      refine (own_calls l ll cl al Hll (by have := Hb.out; omega) e _ _ (HRl.out.at 0 rfl) hw.focus0).mono ?_
      rintro _ w_ ⟨u2, rfl, hw_⟩
      clear hw; (try clear hc0); (try clear hc1); (try clear hc2); (try clear hc3); (try clear hc4); (try clear hc5); (try clear hc6); have hw := Holds.unfocus0 hw_; clear hw_; (try simp only [List.map_cons, List.map_nil, List.getD_cons_zero, List.getD_cons_succ, List.getD_nil, List.set_cons_zero, List.set_cons_succ, List.cons_append, List.nil_append, Act.eval, Array.getD_eq_getD_getElem?, List.getElem?_toArray, List.getElem?_cons_succ, List.getElem?_cons_zero, Option.getD_some, Value.cells] at hw); (try simp (disch := first | (simp; done) | (simp; omega)) only [Sep.mid_set, Sep.mid_set2, Sep.mid_set0, Sep.mid_splice, Sep.mid_splice0, List.set_cons_zero, List.set_cons_succ] at hw); (try simp only [Sep.splice, List.take_succ_cons, List.take_zero, List.drop_succ_cons, List.drop_zero, List.length_cons, List.length_nil, Nat.reduceAdd, List.cons_append, List.nil_append] at hw)
      obtain ⟨ua2, uk2, rfl⟩ := Sl.value (i := 5) rfl hw
      go_wp2_with fail
      refine (sameA ua1 ua2 l l _ _ uk1 uk2 rfl rfl (by have := Hb.out; omega) _ (readsA (i := 4) hw rfl) (readsA (i := 5) hw rfl)).mono ?_
      rintro _ w_ ⟨rfl, hd_⟩
      have hw := hw.drewTo hd_
      clear hd_
      rw [decide_eq_true rfl]
      go_wp2_with fail
      exact HP.out _ _ ⟨rfl, hw.sel [0] (by decide)⟩
  · refine Sep.calls_post ?_
    intro Post_ hPost_
    have HP := Sep.hid hPost_
    clear hPost_
    go_enter Tryd.func4, Tryd.ntmps4
    go_wp2_with fail
    refine (awake_ok e _ _ HT.out hw).mono ?_
    rintro _ w_ ⟨rfl, hw_⟩
    clear hw; have hw := hw_; clear hw_
    go_wp2_with fail
    refine (oRead b lb cb ab Hlb hcb Hbb.out e _ _ HT.out HRb.out hw).mono ?_
    rintro _ w_ ⟨v0, rfl, hw_⟩
    clear hw; have hw := hw_; clear hw_
    generalize (readP b).2.2 = E at *
    generalize (readP b).2.1 = N at *
    have hw := hw.sel [0] (by decide)
    (try simp only [List.map_cons, List.map_nil, List.getD_cons_zero, List.getD_cons_succ, List.getD_nil, List.set_cons_zero, List.set_cons_succ, List.cons_append, List.nil_append, Act.eval, Array.getD_eq_getD_getElem?, List.getElem?_toArray, List.getElem?_cons_succ, List.getElem?_cons_zero, Option.getD_some, Value.cells] at hw); (try simp (disch := first | (simp; done) | (simp; omega)) only [Sep.mid_set, Sep.mid_set2, Sep.mid_set0, Sep.mid_splice, Sep.mid_splice0, List.set_cons_zero, List.set_cons_succ] at hw); (try simp only [Sep.splice, List.take_succ_cons, List.take_zero, List.drop_succ_cons, List.drop_zero, List.length_cons, List.length_nil, Nat.reduceAdd, List.cons_append, List.nil_append] at hw)
    go_wp2_with fail
    refine (oBytesX l ll cl al Hll e _ _ HT.out HRl.out hw).mono ?_
    rintro _ w_ ⟨v1, rfl, hw_⟩
    clear hw; have hw := hw_; clear hw_
    cases hm : mayP l with
    | false =>
      have hE : eL l = 1 := by unfold eL; rw [if_neg (by rw [hm]; decide)]
      have hB : bL l = [] := by unfold bL; rw [if_neg (by rw [hm]; decide)]
      rw [hE]
      rw [hB] at hw
      have hw : Holds e w_ [Old e, Sl 5 1 v1 0 []] := hw
      obtain ⟨a1, k1, rfl⟩ := Sl.value (i := 1) rfl hw
      have Hm := Sep.hid hm; clear hm hE hB
      go_wp2_with fail
      refine (oMay l ll cl al Hll e _ _ HT.out HRl.out (hw.sel [0] (by decide))).mono ?_
      rintro _ w_ ⟨rfl, hw_⟩
      rw [Hm.out]
      go_wp2_with fail
      exact HP.out _ _ ⟨rfl, hw_⟩
    | true =>
      have hE : eL l = 0 := by unfold eL; rw [if_pos hm]
      have hB : bL l = bytesP l := by unfold bL; rw [if_pos hm]
      rw [hE]
      rw [hB] at hw
      obtain ⟨N, hK⟩ : ∃ N, (bytesP l).length = N := ⟨_, rfl⟩
      have hN0 : ¬ N = 0 := by rw [← hK, bytesP_len]; omega
      obtain ⟨K, hKN⟩ : ∃ K, N - 1 = K := ⟨_, rfl⟩
      have hw : Holds e w_ [Old e, Sl 5 1 v1 N (encB (bytesP l))] := by
        have h2 : IsB v1 (bytesP l) = Sl 5 1 v1 N (encB (bytesP l)) := by unfold IsB; rw [hK]
        rw [← h2]; exact hw
      obtain ⟨a1, k1, rfl⟩ := Sl.value (i := 1) rfl hw
      have hNk := sl_cap (i := 1) hw rfl
      have hNb : N ≤ 1000 := by
        have h1 := bytesP_len l
        have h2 := Hb.out.2.2.2
        omega
      have HRd : Hid (readP (bytesP l ++ r) = (l, (N : Int), 0)) := Sep.hid (by rw [read_bytes hm Hok.out, hK])
      have HCut : Hid (readP ((bytesP l).take K) = ([], 0, 8)) := Sep.hid (by have := read_cut hm; rwa [hK, hKN] at this)
      have HBb : Hid (Bys (bytesP l)) := Sep.hid (bytes_in l)
      have HK := Sep.hid hK
      have eK : IntKind.i64.wrap ((N : Int) - 1) = (K : Int) := by rw [IntWalk.i64_in _ (by omega)]; omega
      have eK2 : wrap64 ((N : Int) - 1) = (K : Int) := by rw [IntWalk.wrap64_in _ (by omega)]; omega
      have HKl := Sep.hid (show K ≤ N ∧ K ≤ k1 by omega)
      clear hm hE hB hK hKN
      generalize bytesP l = B at *
      go_wp2_with (first | (refine wpList_on rfl (wp_bsl0 rfl hw ?_); intro b_ w_ hw_; replace hw_ := hw_.newSl (i := 2) rfl 1 0 rfl (by decide); clear hw; have hw := hw_; clear hw_; (try simp only [List.map_cons, List.map_nil, List.getD_cons_zero, List.getD_cons_succ, List.getD_nil, List.set_cons_zero, List.set_cons_succ, List.cons_append, List.nil_append, Act.eval, Array.getD_eq_getD_getElem?, List.getElem?_toArray, List.getElem?_cons_succ, List.getElem?_cons_zero, Option.getD_some, Value.cells] at hw); (try simp (disch := first | (simp; done) | (simp; omega)) only [Sep.mid_set, Sep.mid_set2, Sep.mid_set0, Sep.mid_splice, Sep.mid_splice0, List.set_cons_zero, List.set_cons_succ] at hw); (try simp only [Sep.splice, List.take_succ_cons, List.take_zero, List.drop_succ_cons, List.drop_zero, List.length_cons, List.length_nil, Nat.reduceAdd, List.cons_append, List.nil_append] at hw); (try replace hc0 := Sep.Holds.cells hw (i := 0) rfl); (try replace hc1 := Sep.Holds.cells hw (i := 1) rfl); (try replace hc2 := Sep.Holds.cells hw (i := 2) rfl); (try replace hc3 := Sep.Holds.cells hw (i := 3) rfl); (try replace hc4 := Sep.Holds.cells hw (i := 4) rfl); (try replace hc5 := Sep.Holds.cells hw (i := 5) rfl); (try replace hc6 := Sep.Holds.cells hw (i := 6) rfl)) | (at_builtin; refine wpList_on rfl (wp_appendSl (i := 2) (j := 1) (n := 0) (m := N) (u := .slice a1 N k1) rfl rfl hw rfl rfl rfl (encB_one B) (by rfl) (by (try unfold maxLen); omega) (by (try unfold maxLen); omega) ?_); intro a2_ cap2_ w_ hw_; (try simp only [Nat.zero_add, List.nil_append] at hw_); clear hw; have hw := hw_; clear hw_; (try simp only [List.map_cons, List.map_nil, List.getD_cons_zero, List.getD_cons_succ, List.getD_nil, List.set_cons_zero, List.set_cons_succ, List.cons_append, List.nil_append, Act.eval, Array.getD_eq_getD_getElem?, List.getElem?_toArray, List.getElem?_cons_succ, List.getElem?_cons_zero, Option.getD_some, Value.cells] at hw); (try simp (disch := first | (simp; done) | (simp; omega)) only [Sep.mid_set, Sep.mid_set2, Sep.mid_set0, Sep.mid_splice, Sep.mid_splice0, List.set_cons_zero, List.set_cons_succ] at hw); (try simp only [Sep.splice, List.take_succ_cons, List.take_zero, List.drop_succ_cons, List.drop_zero, List.length_cons, List.length_nil, Nat.reduceAdd, List.cons_append, List.nil_append] at hw); (try replace hc0 := Sep.Holds.cells hw (i := 0) rfl); (try replace hc1 := Sep.Holds.cells hw (i := 1) rfl); (try replace hc2 := Sep.Holds.cells hw (i := 2) rfl); (try replace hc3 := Sep.Holds.cells hw (i := 3) rfl); (try replace hc4 := Sep.Holds.cells hw (i := 4) rfl); (try replace hc5 := Sep.Holds.cells hw (i := 5) rfl); (try replace hc6 := Sep.Holds.cells hw (i := 6) rfl)) | (at_builtin; refine wpList_on rfl (wp_appendRd (i := 2) (n := N) (m := lr) (u := .slice ar lr cr) (news := encB r) rfl rfl hw rfl rfl (by rw [encB_length, Hlr.out]; omega) (newsB_of (HRr.out _ _ 0 hw rfl) Hlr.out) (encB_one r) (by rfl) (by (try unfold maxLen); omega) (by (try unfold maxLen); omega) ?_); intro a2_ cap2_ w_ hw_; clear hw; have hw := hw_; clear hw_; (try simp only [List.map_cons, List.map_nil, List.getD_cons_zero, List.getD_cons_succ, List.getD_nil, List.set_cons_zero, List.set_cons_succ, List.cons_append, List.nil_append, Act.eval, Array.getD_eq_getD_getElem?, List.getElem?_toArray, List.getElem?_cons_succ, List.getElem?_cons_zero, Option.getD_some, Value.cells] at hw); (try simp (disch := first | (simp; done) | (simp; omega)) only [Sep.mid_set, Sep.mid_set2, Sep.mid_set0, Sep.mid_splice, Sep.mid_splice0, List.set_cons_zero, List.set_cons_succ] at hw); (try simp only [Sep.splice, List.take_succ_cons, List.take_zero, List.drop_succ_cons, List.drop_zero, List.length_cons, List.length_nil, Nat.reduceAdd, List.cons_append, List.nil_append] at hw); (try replace hc0 := Sep.Holds.cells hw (i := 0) rfl); (try replace hc1 := Sep.Holds.cells hw (i := 1) rfl); (try replace hc2 := Sep.Holds.cells hw (i := 2) rfl); (try replace hc3 := Sep.Holds.cells hw (i := 3) rfl); (try replace hc4 := Sep.Holds.cells hw (i := 4) rfl); (try replace hc5 := Sep.Holds.cells hw (i := 5) rfl); (try replace hc6 := Sep.Holds.cells hw (i := 6) rfl)))
      rw [← encB_append] at hw
      refine (oRead (B ++ r) (N + lr) _ _ (Sep.hid (by rw [List.length_append, HK.out, Hlr.out])) (sl_cap (i := 2) hw rfl) (by intro y hy; exact (List.mem_append.1 hy).elim (HBb.out y) (Hbr.out y)) e _ _ HT.out.sep ((rdB (n := N + lr)).at 2 rfl) hw.focus0).mono ?_
      rintro _ w_ ⟨v2, rfl, hw_⟩
      rw [HRd.out] at hw_ ⊢
      clear hw; (try clear hc0); (try clear hc1); (try clear hc2); (try clear hc3); (try clear hc4); (try clear hc5); (try clear hc6); have hw := Holds.unfocus0 hw_; clear hw_; (try simp only [List.map_cons, List.map_nil, List.getD_cons_zero, List.getD_cons_succ, List.getD_nil, List.set_cons_zero, List.set_cons_succ, List.cons_append, List.nil_append, Act.eval, Array.getD_eq_getD_getElem?, List.getElem?_toArray, List.getElem?_cons_succ, List.getElem?_cons_zero, Option.getD_some, Value.cells] at hw); (try simp (disch := first | (simp; done) | (simp; omega)) only [Sep.mid_set, Sep.mid_set2, Sep.mid_set0, Sep.mid_splice, Sep.mid_splice0, List.set_cons_zero, List.set_cons_succ] at hw); (try simp only [Sep.splice, List.take_succ_cons, List.take_zero, List.drop_succ_cons, List.drop_zero, List.length_cons, List.length_nil, Nat.reduceAdd, List.cons_append, List.nil_append] at hw)
      obtain ⟨a3, k3, rfl⟩ := Sl.value (i := 3) rfl hw
      have hw := hw.sel [0, 1, 3] (by decide)
      (try simp only [List.map_cons, List.map_nil, List.getD_cons_zero, List.getD_cons_succ, List.getD_nil, List.set_cons_zero, List.set_cons_succ, List.cons_append, List.nil_append, Act.eval, Array.getD_eq_getD_getElem?, List.getElem?_toArray, List.getElem?_cons_succ, List.getElem?_cons_zero, Option.getD_some, Value.cells] at hw); (try simp (disch := first | (simp; done) | (simp; omega)) only [Sep.mid_set, Sep.mid_set2, Sep.mid_set0, Sep.mid_splice, Sep.mid_splice0, List.set_cons_zero, List.set_cons_succ] at hw); (try simp only [Sep.splice, List.take_succ_cons, List.take_zero, List.drop_succ_cons, List.drop_zero, List.length_cons, List.length_nil, Nat.reduceAdd, List.cons_append, List.nil_append] at hw)
      go_wp2_with (first | (refine wpList_on rfl (wp_of_run (run_sliceTo (k := K) rfl rfl (by first | rfl | (go_simp; done)) HKl.out.2) ?_); (try simp only [Act.put, List.setIfInBounds_toArray, List.set_cons_zero, List.set_cons_succ])))
      refine (oRead (B.take K) K k1 a1 (Sep.hid (by rw [List.length_take, HK.out]; have := HKl.out; omega)) HKl.out.2 (HBb.out.take K) e _ _ HT.out.sep ((rdB (n := N) (ca := k1)).at 1 rfl |>.take K) hw.focus0).mono ?_
      rintro _ w_ ⟨v4, rfl, hw_⟩
      rw [HCut.out] at hw_ ⊢
      clear hw; (try clear hc0); (try clear hc1); (try clear hc2); (try clear hc3); (try clear hc4); (try clear hc5); (try clear hc6); have hw := Holds.unfocus0 hw_; clear hw_; (try simp only [List.map_cons, List.map_nil, List.getD_cons_zero, List.getD_cons_succ, List.getD_nil, List.set_cons_zero, List.set_cons_succ, List.cons_append, List.nil_append, Act.eval, Array.getD_eq_getD_getElem?, List.getElem?_toArray, List.getElem?_cons_succ, List.getElem?_cons_zero, Option.getD_some, Value.cells] at hw); (try simp (disch := first | (simp; done) | (simp; omega)) only [Sep.mid_set, Sep.mid_set2, Sep.mid_set0, Sep.mid_splice, Sep.mid_splice0, List.set_cons_zero, List.set_cons_succ] at hw); (try simp only [Sep.splice, List.take_succ_cons, List.take_zero, List.drop_succ_cons, List.drop_zero, List.length_cons, List.length_nil, Nat.reduceAdd, List.cons_append, List.nil_append] at hw)
      go_wp2_with fail
      refine (own_calls l l.length k3 a3 (Sep.hid rfl) (by have := Hb.out; omega) e _ _ (rdA.at 2 rfl) hw.focus0).mono ?_
      rintro _ w_ ⟨u1, rfl, hw_⟩
      clear hw; (try clear hc0); (try clear hc1); (try clear hc2); (try clear hc3); (try clear hc4); (try clear hc5); (try clear hc6); have hw := Holds.unfocus0 hw_; clear hw_; (try simp only [List.map_cons, List.map_nil, List.getD_cons_zero, List.getD_cons_succ, List.getD_nil, List.set_cons_zero, List.set_cons_succ, List.cons_append, List.nil_append, Act.eval, Array.getD_eq_getD_getElem?, List.getElem?_toArray, List.getElem?_cons_succ, List.getElem?_cons_zero, Option.getD_some, Value.cells] at hw); (try simp (disch := first | (simp; done) | (simp; omega)) only [Sep.mid_set, Sep.mid_set2, Sep.mid_set0, Sep.mid_splice, Sep.mid_splice0, List.set_cons_zero, List.set_cons_succ] at hw); (try simp only [Sep.splice, List.take_succ_cons, List.take_zero, List.drop_succ_cons, List.drop_zero, List.length_cons, List.length_nil, Nat.reduceAdd, List.cons_append, List.nil_append] at hw)
      obtain ⟨ua1, uk1, rfl⟩ := Sl.value (i := 4) rfl hw
      go_wp2_with fail
      refine (own_calls l ll cl al Hll (by have := Hb.out; omega) e _ _ (HRl.out.at 0 rfl) hw.focus0).mono ?_
      rintro _ w_ ⟨u2, rfl, hw_⟩
      clear hw; (try clear hc0); (try clear hc1); (try clear hc2); (try clear hc3); (try clear hc4); (try clear hc5); (try clear hc6); have hw := Holds.unfocus0 hw_; clear hw_; (try simp only [List.map_cons, List.map_nil, List.getD_cons_zero, List.getD_cons_succ, List.getD_nil, List.set_cons_zero, List.set_cons_succ, List.cons_append, List.nil_append, Act.eval, Array.getD_eq_getD_getElem?, List.getElem?_toArray, List.getElem?_cons_succ, List.getElem?_cons_zero, Option.getD_some, Value.cells] at hw); (try simp (disch := first | (simp; done) | (simp; omega)) only [Sep.mid_set, Sep.mid_set2, Sep.mid_set0, Sep.mid_splice, Sep.mid_splice0, List.set_cons_zero, List.set_cons_succ] at hw); (try simp only [Sep.splice, List.take_succ_cons, List.take_zero, List.drop_succ_cons, List.drop_zero, List.length_cons, List.length_nil, Nat.reduceAdd, List.cons_append, List.nil_append] at hw)
      obtain ⟨ua2, uk2, rfl⟩ := Sl.value (i := 5) rfl hw
      go_wp2_with fail
      refine (sameA ua1 ua2 l l _ _ uk1 uk2 rfl rfl (by have := Hb.out; omega) _ (readsA (i := 4) hw rfl) (readsA (i := 5) hw rfl)).mono ?_
      rintro _ w_ ⟨rfl, hd_⟩
      have hw := hw.drewTo hd_
      clear hd_
      rw [decide_eq_true rfl]
      go_wp2_with fail
      exact HP.out _ _ ⟨rfl, hw.sel [0] (by decide)⟩
end Go.Proofs.YtmokklkckecmdaaDoor
