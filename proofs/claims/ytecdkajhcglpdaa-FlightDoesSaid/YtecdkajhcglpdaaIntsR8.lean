/-
  The walks of In and Without, over slices of whole numbers.
-/
import Derived.Test.YtecdkajhcglpdaaInts
import Derived.Test.YtecdkajhcglpdaaRowsM
namespace Go.Proofs.Ytecdkajhcglpdaa
set_option linter.unusedSimpArgs false
set_option linter.unusedVariables false
open Go.RowKit Go.Sep

theorem without_snoc (l : List Int) (x y : Int) : without (l ++ [y]) x = without l x ++ (if y = x then [] else [y]) := by
  unfold without
  by_cases h : y = x <;> simp [List.filter_append, h]
theorem without_len (l : List Int) (x : Int) : (without l x).length ≤ l.length := List.length_filter_le _ _
theorem take_snoc {l : List Int} {k : Nat} {x : Int} (h : l[k]? = some x) : l.take (k + 1) = l.take k ++ [x] := by
  rw [List.take_add_one, h]; rfl

theorem sl_ints {v : Value} {l : List Int} {n : Nat} (h : Hid (l.length = n)) : Sl 3 1 v n (encI l) = IsInts v l := by unfold IsInts; rw [h.out]
/-- An element of a slice of whole numbers that is held. -/
theorem int_at {e w : World} {L : List HProp} {i n k ca : Nat} {a : Option Addr} {l : List Int} {x : Int} (hw : Holds e w L) (hi : L[i]? = some (Sl 3 1 (.slice a n ca) n (encI l))) (hx : l[k]? = some x) :
    ∃ b off, a = some ⟨b, off, none⟩ ∧ w.cell? ⟨b, off + k, none⟩ = some (.int .i64 x) := by
  have hk : k < l.length := (List.getElem?_eq_some_iff.1 hx).1
  have hln : (encI l).length = n * 1 := hw.fact hi (fun _ h => h.1)
  rw [encI_length] at hln
  rcases hw.openSl hi with ⟨_, h2, _⟩ | ⟨b, cap, pre, post, hv, _, _, _, hw'⟩
  · omega
  · cases hv
    refine ⟨b, pre.length, rfl, ?_⟩
    have hil : i < L.length := (List.getElem?_eq_some_iff.1 hi).1
    rw [hw'.cells (List.getElem?_set_self hil), Sep.mid_get _ _ _ _ (by rw [encI_length]; exact hk)]
    exact encI_get hx
theorem without_head {m : Int} {l : List Int} (h : (m :: l).Nodup) : without (m :: l) m = l := by
  have : without l m = l := without_none (List.nodup_cons.1 h).1
  unfold without at this ⊢
  simp [this]

set_option maxHeartbeats 1000000 in
theorem in8_calls (v : Value) (l : List Int) (n : Int) (hL : l.length ≤ 1000000) (e w : World) (R : HProp) (hw : Holds e w [R, IsInts v l]) :
    Calls Try.prog 22 #[v, .int .i64 n] w fun en w' => en = .returned (.bool (decide (n ∈ l))) ∧ Holds e w' [R, IsInts v l] := by
  have hw : Holds e w [R, Sl 3 1 v l.length (encI l)] := hw
  obtain ⟨a, ca, rfl⟩ := Sl.value (i := 1) rfl hw
  generalize hn' : l.length = n' at *
  have Hn' := Sep.hid hn'; clear hn'
  refine Sep.calls_post ?_
  intro Post_ hPost_
  have HP := Sep.hid hPost_
  clear hPost_
  go_enter Try.func22, Try.ntmps22
  go_wp2_with fail
  have Hw0 := Sep.hid hw; clear hw
  go_loopw [5] (fun i wr => ∃ k : Nat, k ≤ n' ∧ i = .int .i64 k ∧ n ∉ l.take k ∧ Holds e wr [R, Sl 3 1 (.slice a n' ca) n' (encI l)]) (fun i _ => n' - (intOf i).toNat)
  case atStart => exact ⟨0, Nat.zero_le _, rfl, by simp, Hw0.out⟩
  case round =>
    clear Hw0
    obtain ⟨k, hk, rfl, hno, hw⟩ := hrel
    have Hno := Sep.hid hno; clear hno
    by_cases hlt : k < n'
    · obtain ⟨x, hx⟩ : ∃ x, l[k]? = some x := ⟨_, List.getElem?_eq_getElem (by rw [Hn'.out]; exact hlt)⟩
      have Gx := Sep.hid (encI_get hx)
      have Hx := Sep.hid hx; clear hx
      rcases hw.openSl (i := 1) rfl with ⟨_, h2, _⟩ | ⟨ba, ca', pre, post, hv, hnc, hcm, hpost, hw'⟩
      · omega
      cases hv
      clear hw; have hw := hw'; clear hw'
      (try simp only [List.map_cons, List.map_nil, List.getD_cons_zero, List.getD_cons_succ, List.getD_nil, List.set_cons_zero, List.set_cons_succ, List.cons_append, List.nil_append, Act.eval, Array.getD_eq_getD_getElem?, List.getElem?_toArray, List.getElem?_cons_succ, List.getElem?_cons_zero, Option.getD_some, Value.cells] at hw); (try simp (disch := first | (simp; done) | (simp; omega)) only [Sep.mid_set, Sep.mid_set2, Sep.mid_set0, Sep.mid_splice, Sep.mid_splice0, List.set_cons_zero, List.set_cons_succ] at hw); (try simp only [Sep.splice, List.take_succ_cons, List.take_zero, List.drop_succ_cons, List.drop_zero, List.length_cons, List.length_nil, Nat.reduceAdd, List.cons_append, List.nil_append] at hw)
      have Hshut : Hid (∀ (w' : World), Holds e w' [R, pt ba (mid pre (encI l) post) 3] →
          Holds e w' [R, Sl 3 1 (.slice (some ⟨ba, pre.length, none⟩) n' ca) n' (encI l)]) :=
        Sep.hid fun w' h => h.closeSl (i := 1) rfl (by rw [encI_length, Hn'.out]; omega) hnc hcm hpost
      clear hnc hcm hpost
      have gx : (mid pre (encI l) post)[pre.length + k]? = some (.int .i64 x) := by rw [Sep.mid_get _ _ _ _ (by rw [encI_length, Hn'.out]; exact hlt)]; exact Gx.out
      (try replace hc0 := Sep.Holds.cells hw (i := 0) rfl); (try replace hc1 := Sep.Holds.cells hw (i := 1) rfl); (try replace hc2 := Sep.Holds.cells hw (i := 2) rfl); (try replace hc3 := Sep.Holds.cells hw (i := 3) rfl); (try replace hc4 := Sep.Holds.cells hw (i := 4) rfl); (try replace hc5 := Sep.Holds.cells hw (i := 5) rfl); (try replace hc6 := Sep.Holds.cells hw (i := 6) rfl)
      by_cases hxy : x = n
      · have hd : decide (n ∈ l) = true := by
          rw [decide_eq_true_eq, ← hxy]; exact List.mem_of_getElem? Hx.out
        have Hd := Sep.hid hd; clear hd
        go_wp2
        exact HP.out _ _ ⟨by rw [Hd.out]; rfl, by unfold IsInts; rw [Hn'.out]; exact Hshut.out _ hw⟩
      · go_wp2
        go_roundw
        case rel => exact ⟨k + 1, by omega, by go_num, by rw [take_snoc Hx.out]; simp only [List.mem_append, List.mem_singleton, not_or]; exact ⟨Hno.out, fun h => hxy h.symm⟩, Hshut.out _ hw⟩
        case measure => simp [intOf]; omega
    · have hke : k = n' := by omega
      have hd : decide (n ∈ l) = false := by
        rw [decide_eq_false_iff_not]
        have h := Hno.out
        rwa [hke, List.take_of_length_le (by rw [Hn'.out]; omega)] at h
      have Hd := Sep.hid hd; clear hd hke
      go_wp2
      exact HP.out _ _ ⟨by rw [Hd.out]; rfl, by unfold IsInts; rw [Hn'.out]; exact hw⟩

set_option maxHeartbeats 2000000 in
theorem without8_calls (v : Value) (l : List Int) (n : Int) (hL : l.length ≤ 1000000) (e w : World) (R : HProp) (hw : Holds e w [R, IsInts v l]) :
    Calls Try.prog 23 #[v, .int .i64 n] w fun en w' => ∃ u, en = .returned u ∧ Holds e w' [R, IsInts v l, IsInts u (without l n)] := by
  have hw : Holds e w [R, Sl 3 1 v l.length (encI l)] := hw
  obtain ⟨a, ca, rfl⟩ := Sl.value (i := 1) rfl hw
  generalize hn' : l.length = n' at *
  have Hn' := Sep.hid hn'; clear hn'
  refine Sep.calls_post ?_
  intro Post_ hPost_
  have HP := Sep.hid hPost_
  clear hPost_
  go_enter Try.func23, Try.ntmps23
  go_wp2_with (refine wpList_on rfl (wp_bsl0 rfl hw ?_); intro b_ w_ hw_; clear hw; have hw := hw_; clear hw_; (try simp only [List.map_cons, List.map_nil, List.getD_cons_zero, List.getD_cons_succ, List.getD_nil, List.set_cons_zero, List.set_cons_succ, List.cons_append, List.nil_append, Act.eval, Array.getD_eq_getD_getElem?, List.getElem?_toArray, List.getElem?_cons_succ, List.getElem?_cons_zero, Option.getD_some, Value.cells] at hw); (try simp (disch := first | (simp; done) | (simp; omega)) only [Sep.mid_set, Sep.mid_set2, Sep.mid_set0, Sep.mid_splice, Sep.mid_splice0, List.set_cons_zero, List.set_cons_succ] at hw); (try simp only [Sep.splice, List.take_succ_cons, List.take_zero, List.drop_succ_cons, List.drop_zero, List.length_cons, List.length_nil, Nat.reduceAdd, List.cons_append, List.nil_append] at hw); (try replace hc0 := Sep.Holds.cells hw (i := 0) rfl); (try replace hc1 := Sep.Holds.cells hw (i := 1) rfl); (try replace hc2 := Sep.Holds.cells hw (i := 2) rfl); (try replace hc3 := Sep.Holds.cells hw (i := 3) rfl); (try replace hc4 := Sep.Holds.cells hw (i := 4) rfl); (try replace hc5 := Sep.Holds.cells hw (i := 5) rfl); (try replace hc6 := Sep.Holds.cells hw (i := 6) rfl))
  have hw := hw.newSl (i := 2) rfl 1 0 rfl (by decide)
  have Hw0 := Sep.hid hw; clear hw; (try clear hc0); (try clear hc1); (try clear hc2); (try clear hc3); (try clear hc4); (try clear hc5); (try clear hc6)
  go_loopw [5, 6] (fun o i wr => ∃ (k : Nat) (c : List Int), k ≤ n' ∧ i = .int .i64 k ∧ c = without (l.take k) n ∧ c.length ≤ k ∧ Holds e wr [R, Sl 3 1 (.slice a n' ca) n' (encI l), Sl 3 1 o c.length (encI c)]) (fun _ i _ => n' - (intOf i).toNat)
  case atStart => exact ⟨0, [], Nat.zero_le _, rfl, rfl, Nat.le_refl _, Hw0.out⟩
  case round =>
    clear Hw0
    obtain ⟨k, c, hk, rfl, hc, hck, hw⟩ := hrel
    have Hc := Sep.hid hc; clear hc
    obtain ⟨oa, oc, rfl⟩ := Sl.value (i := 2) rfl hw
    by_cases hlt : k < n'
    · obtain ⟨x, hx⟩ : ∃ x, l[k]? = some x := ⟨_, List.getElem?_eq_getElem (by rw [Hn'.out]; exact hlt)⟩
      have Gx := Sep.hid (encI_get hx)
      have Hx := Sep.hid hx; clear hx
      rcases hw.openSl (i := 1) rfl with ⟨_, h2, _⟩ | ⟨ba, ca', pre, post, hv, hnc, hcm, hpost, hw'⟩
      · omega
      cases hv
      clear hw; have hw := hw'; clear hw'
      (try simp only [List.map_cons, List.map_nil, List.getD_cons_zero, List.getD_cons_succ, List.getD_nil, List.set_cons_zero, List.set_cons_succ, List.cons_append, List.nil_append, Act.eval, Array.getD_eq_getD_getElem?, List.getElem?_toArray, List.getElem?_cons_succ, List.getElem?_cons_zero, Option.getD_some, Value.cells] at hw); (try simp (disch := first | (simp; done) | (simp; omega)) only [Sep.mid_set, Sep.mid_set2, Sep.mid_set0, Sep.mid_splice, Sep.mid_splice0, List.set_cons_zero, List.set_cons_succ] at hw); (try simp only [Sep.splice, List.take_succ_cons, List.take_zero, List.drop_succ_cons, List.drop_zero, List.length_cons, List.length_nil, Nat.reduceAdd, List.cons_append, List.nil_append] at hw)
      have Hshut : Hid (∀ (w' : World) (Y : HProp), Holds e w' [R, pt ba (mid pre (encI l) post) 3, Y] →
          Holds e w' [R, Sl 3 1 (.slice (some ⟨ba, pre.length, none⟩) n' ca) n' (encI l), Y]) :=
        Sep.hid fun w' Y h => h.closeSl (i := 1) rfl (by rw [encI_length, Hn'.out]; omega) hnc hcm hpost
      clear hnc hcm hpost
      have gx : (mid pre (encI l) post)[pre.length + k]? = some (.int .i64 x) := by rw [Sep.mid_get _ _ _ _ (by rw [encI_length, Hn'.out]; exact hlt)]; exact Gx.out
      (try replace hc0 := Sep.Holds.cells hw (i := 0) rfl); (try replace hc1 := Sep.Holds.cells hw (i := 1) rfl); (try replace hc2 := Sep.Holds.cells hw (i := 2) rfl); (try replace hc3 := Sep.Holds.cells hw (i := 3) rfl); (try replace hc4 := Sep.Holds.cells hw (i := 4) rfl); (try replace hc5 := Sep.Holds.cells hw (i := 5) rfl); (try replace hc6 := Sep.Holds.cells hw (i := 6) rfl)
      by_cases hxy : x = n
      · have Hxy := Sep.hid hxy
        go_wp2
        go_roundw
        case rel => exact ⟨k + 1, c, by omega, by go_num, by rw [take_snoc Hx.out, without_snoc, if_pos Hxy.out, List.append_nil]; exact Hc.out, by omega, Hshut.out _ _ hw⟩
        case measure => simp [intOf]; omega
      · have Hxy := Sep.hid hxy
        have Hck := Sep.hid hck
        go_wp2_with (first | (refine wpList_on rfl (wp_bsl1 rfl rfl (by rfl) (by rfl) (by decide) hw ?_); intro b_ w_ hw_; clear hw; have hw := hw_; clear hw_; (try simp only [List.map_cons, List.map_nil, List.getD_cons_zero, List.getD_cons_succ, List.getD_nil, List.set_cons_zero, List.set_cons_succ, List.cons_append, List.nil_append, Act.eval, Array.getD_eq_getD_getElem?, List.getElem?_toArray, List.getElem?_cons_succ, List.getElem?_cons_zero, Option.getD_some, Value.cells] at hw); (try simp (disch := first | (simp; done) | (simp; omega)) only [Sep.mid_set, Sep.mid_set2, Sep.mid_set0, Sep.mid_splice, Sep.mid_splice0, List.set_cons_zero, List.set_cons_succ] at hw); (try simp only [Sep.splice, List.take_succ_cons, List.take_zero, List.drop_succ_cons, List.drop_zero, List.length_cons, List.length_nil, Nat.reduceAdd, List.cons_append, List.nil_append] at hw); (try replace hc0 := Sep.Holds.cells hw (i := 0) rfl); (try replace hc1 := Sep.Holds.cells hw (i := 1) rfl); (try replace hc2 := Sep.Holds.cells hw (i := 2) rfl); (try replace hc3 := Sep.Holds.cells hw (i := 3) rfl); (try replace hc4 := Sep.Holds.cells hw (i := 4) rfl); (try replace hc5 := Sep.Holds.cells hw (i := 5) rfl); (try replace hc6 := Sep.Holds.cells hw (i := 6) rfl)) | (at_builtin; refine wpList_on rfl (wp_appendPt (i := 2) (j := 3) rfl rfl hw rfl rfl rfl (by rfl) (by simp [Value.oneCell']) (by decide) (by rfl) (by have := Hck.out; (try unfold maxLen); omega) (by have := Hck.out; (try unfold maxLen); omega) ?_); intro b2_ cap2_ off2_ w_ hcap2_ hw_; clear hw; have hw := hw_; clear hw_; (try simp only [List.map_cons, List.map_nil, List.getD_cons_zero, List.getD_cons_succ, List.getD_nil, List.set_cons_zero, List.set_cons_succ, List.cons_append, List.nil_append, Act.eval, Array.getD_eq_getD_getElem?, List.getElem?_toArray, List.getElem?_cons_succ, List.getElem?_cons_zero, Option.getD_some, Value.cells] at hw); (try simp (disch := first | (simp; done) | (simp; omega)) only [Sep.mid_set, Sep.mid_set2, Sep.mid_set0, Sep.mid_splice, Sep.mid_splice0, List.set_cons_zero, List.set_cons_succ] at hw); (try simp only [Sep.splice, List.take_succ_cons, List.take_zero, List.drop_succ_cons, List.drop_zero, List.length_cons, List.length_nil, Nat.reduceAdd, List.cons_append, List.nil_append] at hw); (try replace hc0 := Sep.Holds.cells hw (i := 0) rfl); (try replace hc1 := Sep.Holds.cells hw (i := 1) rfl); (try replace hc2 := Sep.Holds.cells hw (i := 2) rfl); (try replace hc3 := Sep.Holds.cells hw (i := 3) rfl); (try replace hc4 := Sep.Holds.cells hw (i := 4) rfl); (try replace hc5 := Sep.Holds.cells hw (i := 5) rfl); (try replace hc6 := Sep.Holds.cells hw (i := 6) rfl)))
        go_roundw
        case rel =>
          refine ⟨k + 1, c ++ [x], by omega, by go_num, by rw [take_snoc Hx.out, without_snoc, if_neg Hxy.out, ← Hc.out], by simp; omega, ?_⟩
          rw [List.length_append, encI_append]
          exact Hshut.out _ _ (hw.sel [0, 1, 2] (by decide))
        case measure => simp [intOf]; omega
    · have hke : k = n' := by omega
      have hd : c = without l n := by
        have h := Hc.out
        rwa [hke, List.take_of_length_le (by rw [Hn'.out]; omega)] at h
      have Hd := Sep.hid hd; clear hd hke
      go_wp2
      refine HP.out _ _ ⟨_, rfl, ?_⟩
      unfold IsInts
      rw [Hn'.out, ← Hd.out]
      exact hw
end Go.Proofs.Ytecdkajhcglpdaa
