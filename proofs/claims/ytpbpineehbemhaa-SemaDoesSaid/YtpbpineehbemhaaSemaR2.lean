/-
  The walks of the document's own methods of a semaphore: without a task, who wants what, who is given.
-/
import Derived.Test.YtpbpineehbemhaaSemaR
namespace Go.Proofs.Ytpbpineehbemhaa
set_option linter.unusedSimpArgs false
set_option linter.unusedVariables false
open Go.RowKit Go.Sep Go.RingM

set_option maxHeartbeats 2000000 in
theorem fdrop (u v : Value) (l : List Int) (g : Int → Int) (t : Int) (hL : l.length ≤ 1000) (e w : World) (R : HProp) (hw : Holds e w [R, IsInts u l, IsI64s v (l.map g)]) :
    Calls Try.prog 30 #[u, v, .int .i64 t] w fun en w' => ∃ x y, en = .returned (.tuple #[x, y]) ∧ Holds e w' [R, IsInts u l, IsI64s v (l.map g), IsInts x (without l t), IsI64s y ((without l t).map g)] := by
  have hlm : (l.map g).length = l.length := List.length_map _
  have hw : Holds e w [R, Sl 3 1 u l.length (encI l), Sl 2 1 v l.length (encI (l.map g))] := by
    unfold IsI64s at hw; rw [hlm] at hw; exact hw
  obtain ⟨a, ca, rfl⟩ := Sl.value (i := 1) rfl hw
  obtain ⟨b, cb, rfl⟩ := Sl.value (i := 2) rfl hw
  generalize hn' : l.length = n' at *
  have Hn' := Sep.hid hn'; clear hn'
  have Hlm := Sep.hid hlm; clear hlm
  refine Sep.calls_post ?_
  intro Post_ hPost_
  have HP := Sep.hid hPost_
  clear hPost_
  go_enter Try.func30, Try.ntmps30
  go_wp2_with (refine wpList_on rfl (wp_bsl0 rfl hw ?_); intro b_ w_ hw_; clear hw; have hw := hw_; clear hw_; (try simp only [List.map_cons, List.map_nil, List.getD_cons_zero, List.getD_cons_succ, List.getD_nil, List.set_cons_zero, List.set_cons_succ, List.cons_append, List.nil_append, Act.eval, Array.getD_eq_getD_getElem?, List.getElem?_toArray, List.getElem?_cons_succ, List.getElem?_cons_zero, Option.getD_some, Value.cells] at hw); (try simp (disch := first | (simp; done) | (simp; omega)) only [Sep.mid_set, Sep.mid_set2, Sep.mid_set0, Sep.mid_splice, Sep.mid_splice0, List.set_cons_zero, List.set_cons_succ] at hw); (try simp only [Sep.splice, List.take_succ_cons, List.take_zero, List.drop_succ_cons, List.drop_zero, List.length_cons, List.length_nil, Nat.reduceAdd, List.cons_append, List.nil_append] at hw); (try replace hc0 := Sep.Holds.cells hw (i := 0) rfl); (try replace hc1 := Sep.Holds.cells hw (i := 1) rfl); (try replace hc2 := Sep.Holds.cells hw (i := 2) rfl); (try replace hc3 := Sep.Holds.cells hw (i := 3) rfl); (try replace hc4 := Sep.Holds.cells hw (i := 4) rfl); (try replace hc5 := Sep.Holds.cells hw (i := 5) rfl); (try replace hc6 := Sep.Holds.cells hw (i := 6) rfl))
  have hw := hw.newSl (i := 3) rfl 1 0 rfl (by decide)
  have hw := hw.newSl (i := 4) rfl 1 0 rfl (by decide)
  have Hw0 := Sep.hid hw; clear hw; (try clear hc0); (try clear hc1); (try clear hc2); (try clear hc3); (try clear hc4); (try clear hc5); (try clear hc6)
  go_loopw [8, 9, 10] (fun o o2 i wr => ∃ (k : Nat) (c : List Int), k ≤ n' ∧ i = .int .i64 k ∧ c = without (l.take k) t ∧ c.length ≤ k ∧ Holds e wr [R, Sl 3 1 (.slice a n' ca) n' (encI l), Sl 2 1 (.slice b n' cb) n' (encI (l.map g)), Sl 3 1 o c.length (encI c), Sl 2 1 o2 c.length (encI (c.map g))]) (fun _ _ i _ => n' - (intOf i).toNat)
  case atStart => exact ⟨0, [], Nat.zero_le _, rfl, rfl, Nat.le_refl _, Hw0.out⟩
  case round =>
    clear Hw0
    obtain ⟨k, c, hk, rfl, hc, hck, hw⟩ := hrel
    have Hc := Sep.hid hc; clear hc
    have Hck := Sep.hid hck; clear hck
    obtain ⟨oa, oc, rfl⟩ := Sl.value (i := 3) rfl hw
    obtain ⟨pa, pc, rfl⟩ := Sl.value (i := 4) rfl hw
    by_cases hlt : k < n'
    · obtain ⟨x, hx⟩ : ∃ x, l[k]? = some x := ⟨_, List.getElem?_eq_getElem (by rw [Hn'.out]; exact hlt)⟩
      obtain ⟨ba, off, rfl, gx⟩ := num_at (i := 1) hw rfl hx
      obtain ⟨bb, off2, rfl, gy⟩ := num_at (i := 2) (x := g x) hw rfl (show (l.map g)[k]? = some (g x) by rw [List.getElem?_map, hx]; rfl)
      have Hx := Sep.hid hx; clear hx
      have Hy : Hid ((l.map g)[k]? = some (g x)) := Sep.hid (by rw [List.getElem?_map, Hx.out]; rfl)
      by_cases hxy : x = t
      · have Hxy := Sep.hid hxy
        go_wp2
        go_roundw
        case rel => exact ⟨k + 1, c, by omega, by go_num, by rw [take_snoc Hx.out, without_snoc, if_pos Hxy.out, List.append_nil]; exact Hc.out, by have := Hck.out; omega, hw⟩
        case measure => simp [intOf]; omega
      · have Hxy := Sep.hid hxy
        clear gy
        go_wp2_with (first | (refine wpList_on rfl (wp_loadAt (i := 2) (k := k) rfl rfl hw rfl rfl Hy.out ?_); (try simp only [Act.put, List.setIfInBounds_toArray, List.set_cons_zero, List.set_cons_succ])) | (refine wpList_on rfl (wp_bsl1 rfl rfl (by rfl) (by rfl) (by decide) hw ?_); intro b_ w_ hw_; clear hw; have hw := hw_; clear hw_; (try simp only [List.map_cons, List.map_nil, List.getD_cons_zero, List.getD_cons_succ, List.getD_nil, List.set_cons_zero, List.set_cons_succ, List.cons_append, List.nil_append, Act.eval, Array.getD_eq_getD_getElem?, List.getElem?_toArray, List.getElem?_cons_succ, List.getElem?_cons_zero, Option.getD_some, Value.cells] at hw); (try simp (disch := first | (simp; done) | (simp; omega)) only [Sep.mid_set, Sep.mid_set2, Sep.mid_set0, Sep.mid_splice, Sep.mid_splice0, List.set_cons_zero, List.set_cons_succ] at hw); (try simp only [Sep.splice, List.take_succ_cons, List.take_zero, List.drop_succ_cons, List.drop_zero, List.length_cons, List.length_nil, Nat.reduceAdd, List.cons_append, List.nil_append] at hw); (try replace hc0 := Sep.Holds.cells hw (i := 0) rfl); (try replace hc1 := Sep.Holds.cells hw (i := 1) rfl); (try replace hc2 := Sep.Holds.cells hw (i := 2) rfl); (try replace hc3 := Sep.Holds.cells hw (i := 3) rfl); (try replace hc4 := Sep.Holds.cells hw (i := 4) rfl); (try replace hc5 := Sep.Holds.cells hw (i := 5) rfl); (try replace hc6 := Sep.Holds.cells hw (i := 6) rfl)) | (at_builtin; refine wpList_on rfl (wp_appendPt (i := 3) (j := 5) rfl rfl hw rfl rfl rfl (by rfl) (by simp [Value.oneCell']) (by decide) (by rfl) (by have := Hck.out; (try unfold maxLen); omega) (by have := Hck.out; (try unfold maxLen); omega) ?_); intro b2_ cap2_ off2_ w_ hcap2_ hw_; clear hw; have hw := hw_; clear hw_; (try simp only [List.map_cons, List.map_nil, List.getD_cons_zero, List.getD_cons_succ, List.getD_nil, List.set_cons_zero, List.set_cons_succ, List.cons_append, List.nil_append, Act.eval, Array.getD_eq_getD_getElem?, List.getElem?_toArray, List.getElem?_cons_succ, List.getElem?_cons_zero, Option.getD_some, Value.cells] at hw); (try simp (disch := first | (simp; done) | (simp; omega)) only [Sep.mid_set, Sep.mid_set2, Sep.mid_set0, Sep.mid_splice, Sep.mid_splice0, List.set_cons_zero, List.set_cons_succ] at hw); (try simp only [Sep.splice, List.take_succ_cons, List.take_zero, List.drop_succ_cons, List.drop_zero, List.length_cons, List.length_nil, Nat.reduceAdd, List.cons_append, List.nil_append] at hw); (try replace hc0 := Sep.Holds.cells hw (i := 0) rfl); (try replace hc1 := Sep.Holds.cells hw (i := 1) rfl); (try replace hc2 := Sep.Holds.cells hw (i := 2) rfl); (try replace hc3 := Sep.Holds.cells hw (i := 3) rfl); (try replace hc4 := Sep.Holds.cells hw (i := 4) rfl); (try replace hc5 := Sep.Holds.cells hw (i := 5) rfl); (try replace hc6 := Sep.Holds.cells hw (i := 6) rfl)) | (at_builtin; refine wpList_on rfl (wp_appendPt (i := 4) (j := 6) rfl rfl hw rfl rfl rfl (by rfl) (by simp [Value.oneCell']) (by decide) (by rfl) (by have := Hck.out; (try unfold maxLen); omega) (by have := Hck.out; (try unfold maxLen); omega) ?_); intro b2_ cap2_ off2_ w_ hcap2_ hw_; clear hw; have hw := hw_; clear hw_; (try simp only [List.map_cons, List.map_nil, List.getD_cons_zero, List.getD_cons_succ, List.getD_nil, List.set_cons_zero, List.set_cons_succ, List.cons_append, List.nil_append, Act.eval, Array.getD_eq_getD_getElem?, List.getElem?_toArray, List.getElem?_cons_succ, List.getElem?_cons_zero, Option.getD_some, Value.cells] at hw); (try simp (disch := first | (simp; done) | (simp; omega)) only [Sep.mid_set, Sep.mid_set2, Sep.mid_set0, Sep.mid_splice, Sep.mid_splice0, List.set_cons_zero, List.set_cons_succ] at hw); (try simp only [Sep.splice, List.take_succ_cons, List.take_zero, List.drop_succ_cons, List.drop_zero, List.length_cons, List.length_nil, Nat.reduceAdd, List.cons_append, List.nil_append] at hw); (try replace hc0 := Sep.Holds.cells hw (i := 0) rfl); (try replace hc1 := Sep.Holds.cells hw (i := 1) rfl); (try replace hc2 := Sep.Holds.cells hw (i := 2) rfl); (try replace hc3 := Sep.Holds.cells hw (i := 3) rfl); (try replace hc4 := Sep.Holds.cells hw (i := 4) rfl); (try replace hc5 := Sep.Holds.cells hw (i := 5) rfl); (try replace hc6 := Sep.Holds.cells hw (i := 6) rfl)))
        go_roundw
        case rel =>
          refine ⟨k + 1, c ++ [x], by omega, by go_num, by rw [take_snoc Hx.out, without_snoc, if_neg Hxy.out, ← Hc.out], by simp; have := Hck.out; omega, ?_⟩
          rw [List.length_append, encI_append, List.map_append, encI_append]
          exact (hw.sel [0, 1, 2, 3, 4] (by decide))
        case measure => simp [intOf]; omega
    · have hke : k = n' := by omega
      have hd : c = without l t := by
        have h := Hc.out
        rwa [hke, List.take_of_length_le (by rw [Hn'.out]; omega)] at h
      have Hd := Sep.hid hd; clear hd hke
      go_wp2
      refine HP.out _ _ ⟨_, _, rfl, ?_⟩
      rw [← Hd.out]
      unfold IsI64s
      rw [Hlm.out, List.length_map]
      unfold IsInts
      rw [Hn'.out]
      exact hw
end Go.Proofs.Ytpbpineehbemhaa
