/-
  Part 4 of the proof: contracts of functions and what they lean on (ScrE, ScrH, ScrI, ScrN, ScrK).
-/
import Derived.Test.YteinbojpmhblkaaDoorPk1
import Derived.Test.YteinbojpmhblkaaDoorPk2
import Derived.Test.YteinbojpmhblkaaDoorPk3
/-
  The walk of Bytes of a script, the document's; Bytes where it refuses.
-/
namespace Go.Proofs.YteinbojpmhblkaaDoor
set_option linter.unusedSimpArgs false
set_option linter.unusedVariables false
open Go.RowKit Go.Sep
set_option maxRecDepth 20000

set_option maxHeartbeats 8000000 in
theorem rBytesS (s : Scr) (hS : Small s) (hs : List Hd) (pa ia : Option Addr) (pc ic : Nat) (e w : World) (X : HProp) (hR : RdP e X pa hs s.ps) (hI : RdT e X ia s.is) (hm : mayS s = true) (hw : Holds e w [X]) :
    Calls Tryd.prog 9 #[.agg (scrV s pa pc ia ic).toArray] w fun en w' => ∃ v, en = .returned (.tuple #[v, .int .i64 0]) ∧ Holds e w' [X, IsB v (bytesS s)] := by
  have hmay := fun w M hw (h0 : M[0]? = some X) => rMayS s hS hs pa ia pc ic e w (sepL M) (hR.at 0 h0) (hI.at 0 h0) hw
  rw [hm] at hmay
  have Hmay := Sep.hid hmay; clear hmay
  have HR := Sep.hid hR; clear hR
  have HI := Sep.hid hI; clear hI
  have Hmp := Sep.hid (may_parts hm).2; clear hm
  have Hbl := Sep.hid (bytesS_len s)
  obtain ⟨np, hnp⟩ : ∃ np, s.ps.length = np := ⟨_, rfl⟩
  obtain ⟨ni, hni⟩ : ∃ ni, s.is.length = ni := ⟨_, rfl⟩
  have hA : scrV s pa pc ia ic = [.int .i64 s.r0, .int .i64 s.r1, .int .i64 s.r2, .int .i64 s.r3, .slice pa np pc, .slice ia ni ic] := by rw [← hnp, ← hni]; rfl
  rw [hA] at Hmay ⊢; clear hA
  have Hnp := Sep.hid hnp; have Hni := Sep.hid hni; clear hnp hni
  have hn8 : np ≤ 8 := by have := Hmp.out.2.1; rw [Hnp.out] at this; exact this
  have hn200 : ni ≤ 200 := by have := Hmp.out.2.2.1; rw [Hni.out] at this; exact this
  refine Sep.calls_post ?_
  intro Post_ hPost_
  have HP := Sep.hid hPost_
  clear hPost_
  go_enter Tryd.func9, Tryd.ntmps9
  go_wp2_with (first | (refine wpList_on rfl (wp_box rfl hw ?_); intro b1_ w_ hw_; clear hw; have hw := hw_; clear hw_; (try simp only [List.map_cons, List.map_nil, List.getD_cons_zero, List.getD_cons_succ, List.getD_nil, List.set_cons_zero, List.set_cons_succ, List.cons_append, List.nil_append, Act.eval, Array.getD_eq_getD_getElem?, List.getElem?_toArray, List.getElem?_cons_succ, List.getElem?_cons_zero, Option.getD_some, Value.cells] at hw); (try simp (disch := first | (simp; done) | (simp; omega)) only [Sep.mid_set, Sep.mid_set2, Sep.mid_set0, Sep.mid_splice, Sep.mid_splice0, List.set_cons_zero, List.set_cons_succ] at hw); (try simp only [Sep.splice, List.take_succ_cons, List.take_zero, List.drop_succ_cons, List.drop_zero, List.length_cons, List.length_nil, Nat.reduceAdd, List.cons_append, List.nil_append] at hw); (try replace hc0 := Sep.Holds.cells hw (i := 0) rfl); (try replace hc1 := Sep.Holds.cells hw (i := 1) rfl); (try replace hc2 := Sep.Holds.cells hw (i := 2) rfl); (try replace hc3 := Sep.Holds.cells hw (i := 3) rfl); (try replace hc4 := Sep.Holds.cells hw (i := 4) rfl); (try replace hc5 := Sep.Holds.cells hw (i := 5) rfl); (try replace hc6 := Sep.Holds.cells hw (i := 6) rfl)))
  refine (Hmay.out _ _ hw.focus0 rfl).mono ?_
  rintro _ w_ ⟨rfl, hw_⟩
  clear hw; (try clear hc0); (try clear hc1); (try clear hc2); (try clear hc3); (try clear hc4); (try clear hc5); (try clear hc6); have hw := Holds.unfocus0 hw_; clear hw_ Hmay
  (try simp only [List.map_cons, List.map_nil, List.getD_cons_zero, List.getD_cons_succ, List.getD_nil, List.set_cons_zero, List.set_cons_succ, List.cons_append, List.nil_append, Act.eval, Array.getD_eq_getD_getElem?, List.getElem?_toArray, List.getElem?_cons_succ, List.getElem?_cons_zero, Option.getD_some, Value.cells] at hw); (try simp (disch := first | (simp; done) | (simp; omega)) only [Sep.mid_set, Sep.mid_set2, Sep.mid_set0, Sep.mid_splice, Sep.mid_splice0, List.set_cons_zero, List.set_cons_succ] at hw); (try simp only [Sep.splice, List.take_succ_cons, List.take_zero, List.drop_succ_cons, List.drop_zero, List.length_cons, List.length_nil, Nat.reduceAdd, List.cons_append, List.nil_append] at hw); (try replace hc0 := Sep.Holds.cells hw (i := 0) rfl); (try replace hc1 := Sep.Holds.cells hw (i := 1) rfl); (try replace hc2 := Sep.Holds.cells hw (i := 2) rfl); (try replace hc3 := Sep.Holds.cells hw (i := 3) rfl); (try replace hc4 := Sep.Holds.cells hw (i := 4) rfl); (try replace hc5 := Sep.Holds.cells hw (i := 5) rfl); (try replace hc6 := Sep.Holds.cells hw (i := 6) rfl)
  go_wp2_with (first | (refine wpList_on rfl (wp_bsl0 rfl hw ?_); intro b_ w_ hw_; replace hw_ := hw_.newSl (i := 2) rfl 1 0 rfl (by decide); clear hw; have hw := hw_; clear hw_; (try simp only [List.map_cons, List.map_nil, List.getD_cons_zero, List.getD_cons_succ, List.getD_nil, List.set_cons_zero, List.set_cons_succ, List.cons_append, List.nil_append, Act.eval, Array.getD_eq_getD_getElem?, List.getElem?_toArray, List.getElem?_cons_succ, List.getElem?_cons_zero, Option.getD_some, Value.cells] at hw); (try simp (disch := first | (simp; done) | (simp; omega)) only [Sep.mid_set, Sep.mid_set2, Sep.mid_set0, Sep.mid_splice, Sep.mid_splice0, List.set_cons_zero, List.set_cons_succ] at hw); (try simp only [Sep.splice, List.take_succ_cons, List.take_zero, List.drop_succ_cons, List.drop_zero, List.length_cons, List.length_nil, Nat.reduceAdd, List.cons_append, List.nil_append] at hw); (try replace hc0 := Sep.Holds.cells hw (i := 0) rfl); (try replace hc1 := Sep.Holds.cells hw (i := 1) rfl); (try replace hc2 := Sep.Holds.cells hw (i := 2) rfl); (try replace hc3 := Sep.Holds.cells hw (i := 3) rfl); (try replace hc4 := Sep.Holds.cells hw (i := 4) rfl); (try replace hc5 := Sep.Holds.cells hw (i := 5) rfl); (try replace hc6 := Sep.Holds.cells hw (i := 6) rfl)))
  have hw : Holds e _ [X, pt b1_ [.int .i64 s.r0, .int .i64 s.r1, .int .i64 s.r2, .int .i64 s.r3, .slice pa np pc, .slice ia ni ic] 39, Sl 5 1 _ 0 (encB [])] := hw
  have Hw0 := Sep.hid hw; clear hw; (try clear hc0); (try clear hc1); (try clear hc2); (try clear hc3); (try clear hc4); (try clear hc5); (try clear hc6)
  go_loopw [5, 4] (fun i o wr => ∃ k : Nat, k ≤ 4 ∧ i = .int .i64 k ∧ Holds e wr [X, pt b1_ [.int .i64 s.r0, .int .i64 s.r1, .int .i64 s.r2, .int .i64 s.r3, .slice pa np pc, .slice ia ni ic] 39, Sl 5 1 o (8 * k) (encB (roomsB s k))]) (fun i _ _ => 4 - (intOf i).toNat)
  case atStart => exact ⟨0, Nat.zero_le _, rfl, Hw0.out⟩
  case round =>
    clear Hw0
    obtain ⟨k, hk, hi, hw⟩ := hrel
    match k, hk with
    | 0, _ =>
      obtain rfl : u5 = .int .i64 0 := hi
      obtain ⟨oa, oc, rfl⟩ := Sl.value (i := 2) rfl hw
      (try replace hc0 := Sep.Holds.cells hw (i := 0) rfl); (try replace hc1 := Sep.Holds.cells hw (i := 1) rfl); (try replace hc2 := Sep.Holds.cells hw (i := 2) rfl); (try replace hc3 := Sep.Holds.cells hw (i := 3) rfl); (try replace hc4 := Sep.Holds.cells hw (i := 4) rfl); (try replace hc5 := Sep.Holds.cells hw (i := 5) rfl); (try replace hc6 := Sep.Holds.cells hw (i := 6) rfl)
      go_wp2_with fail
      refine (rEight s.r0 e _ _ hw.focus0).mono ?_
      rintro _ w_ ⟨b8, rfl, hw_⟩
      clear hw; (try clear hc0); (try clear hc1); (try clear hc2); (try clear hc3); (try clear hc4); (try clear hc5); (try clear hc6); have hw := Holds.unfocus0 hw_; clear hw_
      (try simp only [List.map_cons, List.map_nil, List.getD_cons_zero, List.getD_cons_succ, List.getD_nil, List.set_cons_zero, List.set_cons_succ, List.cons_append, List.nil_append, Act.eval, Array.getD_eq_getD_getElem?, List.getElem?_toArray, List.getElem?_cons_succ, List.getElem?_cons_zero, Option.getD_some, Value.cells] at hw); (try simp (disch := first | (simp; done) | (simp; omega)) only [Sep.mid_set, Sep.mid_set2, Sep.mid_set0, Sep.mid_splice, Sep.mid_splice0, List.set_cons_zero, List.set_cons_succ] at hw); (try simp only [Sep.splice, List.take_succ_cons, List.take_zero, List.drop_succ_cons, List.drop_zero, List.length_cons, List.length_nil, Nat.reduceAdd, List.cons_append, List.nil_append] at hw); (try replace hc0 := Sep.Holds.cells hw (i := 0) rfl); (try replace hc1 := Sep.Holds.cells hw (i := 1) rfl); (try replace hc2 := Sep.Holds.cells hw (i := 2) rfl); (try replace hc3 := Sep.Holds.cells hw (i := 3) rfl); (try replace hc4 := Sep.Holds.cells hw (i := 4) rfl); (try replace hc5 := Sep.Holds.cells hw (i := 5) rfl); (try replace hc6 := Sep.Holds.cells hw (i := 6) rfl)
      go_wp2_with (first | (at_builtin; refine wpList_on rfl (wp_appendPt (i := 2) (j := 3) rfl rfl hw rfl rfl rfl (by rfl) (encB_one _) (by decide) (by rfl) (by (try unfold maxLen); omega) (by (try unfold maxLen); omega) ?_); intro b2_ cap2_ off2_ w_ hcap2_ hw_; clear hw; have hw := hw_; clear hw_; (try simp only [List.map_cons, List.map_nil, List.getD_cons_zero, List.getD_cons_succ, List.getD_nil, List.set_cons_zero, List.set_cons_succ, List.cons_append, List.nil_append, Act.eval, Array.getD_eq_getD_getElem?, List.getElem?_toArray, List.getElem?_cons_succ, List.getElem?_cons_zero, Option.getD_some, Value.cells] at hw); (try simp (disch := first | (simp; done) | (simp; omega)) only [Sep.mid_set, Sep.mid_set2, Sep.mid_set0, Sep.mid_splice, Sep.mid_splice0, List.set_cons_zero, List.set_cons_succ] at hw); (try simp only [Sep.splice, List.take_succ_cons, List.take_zero, List.drop_succ_cons, List.drop_zero, List.length_cons, List.length_nil, Nat.reduceAdd, List.cons_append, List.nil_append] at hw); (try replace hc0 := Sep.Holds.cells hw (i := 0) rfl); (try replace hc1 := Sep.Holds.cells hw (i := 1) rfl); (try replace hc2 := Sep.Holds.cells hw (i := 2) rfl); (try replace hc3 := Sep.Holds.cells hw (i := 3) rfl); (try replace hc4 := Sep.Holds.cells hw (i := 4) rfl); (try replace hc5 := Sep.Holds.cells hw (i := 5) rfl); (try replace hc6 := Sep.Holds.cells hw (i := 6) rfl)))
      go_roundw
      case rel =>
        refine ⟨0 + 1, by decide, rfl, ?_⟩
        rw [← encB_append] at hw
        exact hw.sel [0, 1, 2] (by decide)
      case measure => simp [intOf]
    | 1, _ =>
      obtain rfl : u5 = .int .i64 1 := hi
      obtain ⟨oa, oc, rfl⟩ := Sl.value (i := 2) rfl hw
      (try replace hc0 := Sep.Holds.cells hw (i := 0) rfl); (try replace hc1 := Sep.Holds.cells hw (i := 1) rfl); (try replace hc2 := Sep.Holds.cells hw (i := 2) rfl); (try replace hc3 := Sep.Holds.cells hw (i := 3) rfl); (try replace hc4 := Sep.Holds.cells hw (i := 4) rfl); (try replace hc5 := Sep.Holds.cells hw (i := 5) rfl); (try replace hc6 := Sep.Holds.cells hw (i := 6) rfl)
      go_wp2_with fail
      refine (rEight s.r1 e _ _ hw.focus0).mono ?_
      rintro _ w_ ⟨b8, rfl, hw_⟩
      clear hw; (try clear hc0); (try clear hc1); (try clear hc2); (try clear hc3); (try clear hc4); (try clear hc5); (try clear hc6); have hw := Holds.unfocus0 hw_; clear hw_
      (try simp only [List.map_cons, List.map_nil, List.getD_cons_zero, List.getD_cons_succ, List.getD_nil, List.set_cons_zero, List.set_cons_succ, List.cons_append, List.nil_append, Act.eval, Array.getD_eq_getD_getElem?, List.getElem?_toArray, List.getElem?_cons_succ, List.getElem?_cons_zero, Option.getD_some, Value.cells] at hw); (try simp (disch := first | (simp; done) | (simp; omega)) only [Sep.mid_set, Sep.mid_set2, Sep.mid_set0, Sep.mid_splice, Sep.mid_splice0, List.set_cons_zero, List.set_cons_succ] at hw); (try simp only [Sep.splice, List.take_succ_cons, List.take_zero, List.drop_succ_cons, List.drop_zero, List.length_cons, List.length_nil, Nat.reduceAdd, List.cons_append, List.nil_append] at hw); (try replace hc0 := Sep.Holds.cells hw (i := 0) rfl); (try replace hc1 := Sep.Holds.cells hw (i := 1) rfl); (try replace hc2 := Sep.Holds.cells hw (i := 2) rfl); (try replace hc3 := Sep.Holds.cells hw (i := 3) rfl); (try replace hc4 := Sep.Holds.cells hw (i := 4) rfl); (try replace hc5 := Sep.Holds.cells hw (i := 5) rfl); (try replace hc6 := Sep.Holds.cells hw (i := 6) rfl)
      go_wp2_with (first | (at_builtin; refine wpList_on rfl (wp_appendPt (i := 2) (j := 3) rfl rfl hw rfl rfl rfl (by rfl) (encB_one _) (by decide) (by rfl) (by (try unfold maxLen); omega) (by (try unfold maxLen); omega) ?_); intro b2_ cap2_ off2_ w_ hcap2_ hw_; clear hw; have hw := hw_; clear hw_; (try simp only [List.map_cons, List.map_nil, List.getD_cons_zero, List.getD_cons_succ, List.getD_nil, List.set_cons_zero, List.set_cons_succ, List.cons_append, List.nil_append, Act.eval, Array.getD_eq_getD_getElem?, List.getElem?_toArray, List.getElem?_cons_succ, List.getElem?_cons_zero, Option.getD_some, Value.cells] at hw); (try simp (disch := first | (simp; done) | (simp; omega)) only [Sep.mid_set, Sep.mid_set2, Sep.mid_set0, Sep.mid_splice, Sep.mid_splice0, List.set_cons_zero, List.set_cons_succ] at hw); (try simp only [Sep.splice, List.take_succ_cons, List.take_zero, List.drop_succ_cons, List.drop_zero, List.length_cons, List.length_nil, Nat.reduceAdd, List.cons_append, List.nil_append] at hw); (try replace hc0 := Sep.Holds.cells hw (i := 0) rfl); (try replace hc1 := Sep.Holds.cells hw (i := 1) rfl); (try replace hc2 := Sep.Holds.cells hw (i := 2) rfl); (try replace hc3 := Sep.Holds.cells hw (i := 3) rfl); (try replace hc4 := Sep.Holds.cells hw (i := 4) rfl); (try replace hc5 := Sep.Holds.cells hw (i := 5) rfl); (try replace hc6 := Sep.Holds.cells hw (i := 6) rfl)))
      go_roundw
      case rel =>
        refine ⟨1 + 1, by decide, rfl, ?_⟩
        rw [← encB_append] at hw
        exact hw.sel [0, 1, 2] (by decide)
      case measure => simp [intOf]
    | 2, _ =>
      obtain rfl : u5 = .int .i64 2 := hi
      obtain ⟨oa, oc, rfl⟩ := Sl.value (i := 2) rfl hw
      (try replace hc0 := Sep.Holds.cells hw (i := 0) rfl); (try replace hc1 := Sep.Holds.cells hw (i := 1) rfl); (try replace hc2 := Sep.Holds.cells hw (i := 2) rfl); (try replace hc3 := Sep.Holds.cells hw (i := 3) rfl); (try replace hc4 := Sep.Holds.cells hw (i := 4) rfl); (try replace hc5 := Sep.Holds.cells hw (i := 5) rfl); (try replace hc6 := Sep.Holds.cells hw (i := 6) rfl)
      go_wp2_with fail
      refine (rEight s.r2 e _ _ hw.focus0).mono ?_
      rintro _ w_ ⟨b8, rfl, hw_⟩
      clear hw; (try clear hc0); (try clear hc1); (try clear hc2); (try clear hc3); (try clear hc4); (try clear hc5); (try clear hc6); have hw := Holds.unfocus0 hw_; clear hw_
      (try simp only [List.map_cons, List.map_nil, List.getD_cons_zero, List.getD_cons_succ, List.getD_nil, List.set_cons_zero, List.set_cons_succ, List.cons_append, List.nil_append, Act.eval, Array.getD_eq_getD_getElem?, List.getElem?_toArray, List.getElem?_cons_succ, List.getElem?_cons_zero, Option.getD_some, Value.cells] at hw); (try simp (disch := first | (simp; done) | (simp; omega)) only [Sep.mid_set, Sep.mid_set2, Sep.mid_set0, Sep.mid_splice, Sep.mid_splice0, List.set_cons_zero, List.set_cons_succ] at hw); (try simp only [Sep.splice, List.take_succ_cons, List.take_zero, List.drop_succ_cons, List.drop_zero, List.length_cons, List.length_nil, Nat.reduceAdd, List.cons_append, List.nil_append] at hw); (try replace hc0 := Sep.Holds.cells hw (i := 0) rfl); (try replace hc1 := Sep.Holds.cells hw (i := 1) rfl); (try replace hc2 := Sep.Holds.cells hw (i := 2) rfl); (try replace hc3 := Sep.Holds.cells hw (i := 3) rfl); (try replace hc4 := Sep.Holds.cells hw (i := 4) rfl); (try replace hc5 := Sep.Holds.cells hw (i := 5) rfl); (try replace hc6 := Sep.Holds.cells hw (i := 6) rfl)
      go_wp2_with (first | (at_builtin; refine wpList_on rfl (wp_appendPt (i := 2) (j := 3) rfl rfl hw rfl rfl rfl (by rfl) (encB_one _) (by decide) (by rfl) (by (try unfold maxLen); omega) (by (try unfold maxLen); omega) ?_); intro b2_ cap2_ off2_ w_ hcap2_ hw_; clear hw; have hw := hw_; clear hw_; (try simp only [List.map_cons, List.map_nil, List.getD_cons_zero, List.getD_cons_succ, List.getD_nil, List.set_cons_zero, List.set_cons_succ, List.cons_append, List.nil_append, Act.eval, Array.getD_eq_getD_getElem?, List.getElem?_toArray, List.getElem?_cons_succ, List.getElem?_cons_zero, Option.getD_some, Value.cells] at hw); (try simp (disch := first | (simp; done) | (simp; omega)) only [Sep.mid_set, Sep.mid_set2, Sep.mid_set0, Sep.mid_splice, Sep.mid_splice0, List.set_cons_zero, List.set_cons_succ] at hw); (try simp only [Sep.splice, List.take_succ_cons, List.take_zero, List.drop_succ_cons, List.drop_zero, List.length_cons, List.length_nil, Nat.reduceAdd, List.cons_append, List.nil_append] at hw); (try replace hc0 := Sep.Holds.cells hw (i := 0) rfl); (try replace hc1 := Sep.Holds.cells hw (i := 1) rfl); (try replace hc2 := Sep.Holds.cells hw (i := 2) rfl); (try replace hc3 := Sep.Holds.cells hw (i := 3) rfl); (try replace hc4 := Sep.Holds.cells hw (i := 4) rfl); (try replace hc5 := Sep.Holds.cells hw (i := 5) rfl); (try replace hc6 := Sep.Holds.cells hw (i := 6) rfl)))
      go_roundw
      case rel =>
        refine ⟨2 + 1, by decide, rfl, ?_⟩
        rw [← encB_append] at hw
        exact hw.sel [0, 1, 2] (by decide)
      case measure => simp [intOf]
    | 3, _ =>
      obtain rfl : u5 = .int .i64 3 := hi
      obtain ⟨oa, oc, rfl⟩ := Sl.value (i := 2) rfl hw
      (try replace hc0 := Sep.Holds.cells hw (i := 0) rfl); (try replace hc1 := Sep.Holds.cells hw (i := 1) rfl); (try replace hc2 := Sep.Holds.cells hw (i := 2) rfl); (try replace hc3 := Sep.Holds.cells hw (i := 3) rfl); (try replace hc4 := Sep.Holds.cells hw (i := 4) rfl); (try replace hc5 := Sep.Holds.cells hw (i := 5) rfl); (try replace hc6 := Sep.Holds.cells hw (i := 6) rfl)
      go_wp2_with fail
      refine (rEight s.r3 e _ _ hw.focus0).mono ?_
      rintro _ w_ ⟨b8, rfl, hw_⟩
      clear hw; (try clear hc0); (try clear hc1); (try clear hc2); (try clear hc3); (try clear hc4); (try clear hc5); (try clear hc6); have hw := Holds.unfocus0 hw_; clear hw_
      (try simp only [List.map_cons, List.map_nil, List.getD_cons_zero, List.getD_cons_succ, List.getD_nil, List.set_cons_zero, List.set_cons_succ, List.cons_append, List.nil_append, Act.eval, Array.getD_eq_getD_getElem?, List.getElem?_toArray, List.getElem?_cons_succ, List.getElem?_cons_zero, Option.getD_some, Value.cells] at hw); (try simp (disch := first | (simp; done) | (simp; omega)) only [Sep.mid_set, Sep.mid_set2, Sep.mid_set0, Sep.mid_splice, Sep.mid_splice0, List.set_cons_zero, List.set_cons_succ] at hw); (try simp only [Sep.splice, List.take_succ_cons, List.take_zero, List.drop_succ_cons, List.drop_zero, List.length_cons, List.length_nil, Nat.reduceAdd, List.cons_append, List.nil_append] at hw); (try replace hc0 := Sep.Holds.cells hw (i := 0) rfl); (try replace hc1 := Sep.Holds.cells hw (i := 1) rfl); (try replace hc2 := Sep.Holds.cells hw (i := 2) rfl); (try replace hc3 := Sep.Holds.cells hw (i := 3) rfl); (try replace hc4 := Sep.Holds.cells hw (i := 4) rfl); (try replace hc5 := Sep.Holds.cells hw (i := 5) rfl); (try replace hc6 := Sep.Holds.cells hw (i := 6) rfl)
      go_wp2_with (first | (at_builtin; refine wpList_on rfl (wp_appendPt (i := 2) (j := 3) rfl rfl hw rfl rfl rfl (by rfl) (encB_one _) (by decide) (by rfl) (by (try unfold maxLen); omega) (by (try unfold maxLen); omega) ?_); intro b2_ cap2_ off2_ w_ hcap2_ hw_; clear hw; have hw := hw_; clear hw_; (try simp only [List.map_cons, List.map_nil, List.getD_cons_zero, List.getD_cons_succ, List.getD_nil, List.set_cons_zero, List.set_cons_succ, List.cons_append, List.nil_append, Act.eval, Array.getD_eq_getD_getElem?, List.getElem?_toArray, List.getElem?_cons_succ, List.getElem?_cons_zero, Option.getD_some, Value.cells] at hw); (try simp (disch := first | (simp; done) | (simp; omega)) only [Sep.mid_set, Sep.mid_set2, Sep.mid_set0, Sep.mid_splice, Sep.mid_splice0, List.set_cons_zero, List.set_cons_succ] at hw); (try simp only [Sep.splice, List.take_succ_cons, List.take_zero, List.drop_succ_cons, List.drop_zero, List.length_cons, List.length_nil, Nat.reduceAdd, List.cons_append, List.nil_append] at hw); (try replace hc0 := Sep.Holds.cells hw (i := 0) rfl); (try replace hc1 := Sep.Holds.cells hw (i := 1) rfl); (try replace hc2 := Sep.Holds.cells hw (i := 2) rfl); (try replace hc3 := Sep.Holds.cells hw (i := 3) rfl); (try replace hc4 := Sep.Holds.cells hw (i := 4) rfl); (try replace hc5 := Sep.Holds.cells hw (i := 5) rfl); (try replace hc6 := Sep.Holds.cells hw (i := 6) rfl)))
      go_roundw
      case rel =>
        refine ⟨3 + 1, by decide, rfl, ?_⟩
        rw [← encB_append] at hw
        exact hw.sel [0, 1, 2] (by decide)
      case measure => simp [intOf]
    | 4, _ =>
      obtain rfl : u5 = .int .i64 4 := hi
      rw [roomsB_end] at hw
      (try replace hc0 := Sep.Holds.cells hw (i := 0) rfl); (try replace hc1 := Sep.Holds.cells hw (i := 1) rfl); (try replace hc2 := Sep.Holds.cells hw (i := 2) rfl); (try replace hc3 := Sep.Holds.cells hw (i := 3) rfl); (try replace hc4 := Sep.Holds.cells hw (i := 4) rfl); (try replace hc5 := Sep.Holds.cells hw (i := 5) rfl); (try replace hc6 := Sep.Holds.cells hw (i := 6) rfl)
      go_wp2_with (first | (refine wpList_on rfl (wp_bsl1 rfl rfl (by rfl) (by rfl) (by decide) hw ?_); intro b_ w_ hw_; clear hw; have hw := hw_; clear hw_; (try simp only [List.map_cons, List.map_nil, List.getD_cons_zero, List.getD_cons_succ, List.getD_nil, List.set_cons_zero, List.set_cons_succ, List.cons_append, List.nil_append, Act.eval, Array.getD_eq_getD_getElem?, List.getElem?_toArray, List.getElem?_cons_succ, List.getElem?_cons_zero, Option.getD_some, Value.cells] at hw); (try simp (disch := first | (simp; done) | (simp; omega)) only [Sep.mid_set, Sep.mid_set2, Sep.mid_set0, Sep.mid_splice, Sep.mid_splice0, List.set_cons_zero, List.set_cons_succ] at hw); (try simp only [Sep.splice, List.take_succ_cons, List.take_zero, List.drop_succ_cons, List.drop_zero, List.length_cons, List.length_nil, Nat.reduceAdd, List.cons_append, List.nil_append] at hw); (try replace hc0 := Sep.Holds.cells hw (i := 0) rfl); (try replace hc1 := Sep.Holds.cells hw (i := 1) rfl); (try replace hc2 := Sep.Holds.cells hw (i := 2) rfl); (try replace hc3 := Sep.Holds.cells hw (i := 3) rfl); (try replace hc4 := Sep.Holds.cells hw (i := 4) rfl); (try replace hc5 := Sep.Holds.cells hw (i := 5) rfl); (try replace hc6 := Sep.Holds.cells hw (i := 6) rfl)) | (at_builtin; refine wpList_on rfl (wp_appendPt (i := 2) (j := 3) rfl rfl hw rfl rfl rfl (by rfl) (by simp [Value.oneCell']) (by decide) (by rfl) (by (try unfold maxLen); omega) (by (try unfold maxLen); omega) ?_); intro b2_ cap2_ off2_ w_ hcap2_ hw_; clear hw; have hw := hw_; clear hw_; (try simp only [List.map_cons, List.map_nil, List.getD_cons_zero, List.getD_cons_succ, List.getD_nil, List.set_cons_zero, List.set_cons_succ, List.cons_append, List.nil_append, Act.eval, Array.getD_eq_getD_getElem?, List.getElem?_toArray, List.getElem?_cons_succ, List.getElem?_cons_zero, Option.getD_some, Value.cells] at hw); (try simp (disch := first | (simp; done) | (simp; omega)) only [Sep.mid_set, Sep.mid_set2, Sep.mid_set0, Sep.mid_splice, Sep.mid_splice0, List.set_cons_zero, List.set_cons_succ] at hw); (try simp only [Sep.splice, List.take_succ_cons, List.take_zero, List.drop_succ_cons, List.drop_zero, List.length_cons, List.length_nil, Nat.reduceAdd, List.cons_append, List.nil_append] at hw); (try replace hc0 := Sep.Holds.cells hw (i := 0) rfl); (try replace hc1 := Sep.Holds.cells hw (i := 1) rfl); (try replace hc2 := Sep.Holds.cells hw (i := 2) rfl); (try replace hc3 := Sep.Holds.cells hw (i := 3) rfl); (try replace hc4 := Sep.Holds.cells hw (i := 4) rfl); (try replace hc5 := Sep.Holds.cells hw (i := 5) rfl); (try replace hc6 := Sep.Holds.cells hw (i := 6) rfl)))
      have hw := hw.sel [0, 1, 2] (by decide)
      (try simp only [List.map_cons, List.map_nil, List.getD_cons_zero, List.getD_cons_succ, List.getD_nil, List.set_cons_zero, List.set_cons_succ, List.cons_append, List.nil_append, Act.eval, Array.getD_eq_getD_getElem?, List.getElem?_toArray, List.getElem?_cons_succ, List.getElem?_cons_zero, Option.getD_some, Value.cells] at hw); (try simp (disch := first | (simp; done) | (simp; omega)) only [Sep.mid_set, Sep.mid_set2, Sep.mid_set0, Sep.mid_splice, Sep.mid_splice0, List.set_cons_zero, List.set_cons_succ] at hw); (try simp only [Sep.splice, List.take_succ_cons, List.take_zero, List.drop_succ_cons, List.drop_zero, List.length_cons, List.length_nil, Nat.reduceAdd, List.cons_append, List.nil_append] at hw)
      have hw : Holds e w_ [X, pt b1_ [.int .i64 s.r0, .int .i64 s.r1, .int .i64 s.r2, .int .i64 s.r3, .slice pa np pc, .slice ia ni ic] 39, Sl 5 1 (.slice (some ⟨b2_, off2_, none⟩) 33 cap2_) 33 (encB (headS s ++ [(np : Int)]))] := by rw [encB_append]; exact hw
      have H33 : Hid ((headS s ++ [(np : Int)]).length = 33) := Sep.hid rfl
      (try replace hc0 := Sep.Holds.cells hw (i := 0) rfl); (try replace hc1 := Sep.Holds.cells hw (i := 1) rfl); (try replace hc2 := Sep.Holds.cells hw (i := 2) rfl); (try replace hc3 := Sep.Holds.cells hw (i := 3) rfl); (try replace hc4 := Sep.Holds.cells hw (i := 4) rfl); (try replace hc5 := Sep.Holds.cells hw (i := 5) rfl); (try replace hc6 := Sep.Holds.cells hw (i := 6) rfl)
      go_wp2_with fail
      have Hw0 := Sep.hid hw; clear hw; (try clear hc0); (try clear hc1); (try clear hc2); (try clear hc3); (try clear hc4); (try clear hc5); (try clear hc6)
      go_loopw [6, 4] (fun i o wr => ∃ (k m : Nat) (c : List Int), k ≤ np ∧ i = .int .i64 k ∧ m ≤ 33 + k * 300 ∧ Hid (c = headS s ++ [(np : Int)] ++ (s.ps.take k).flatMap bytesP) ∧ Hid (c.length = m) ∧ Holds e wr [X, pt b1_ [.int .i64 s.r0, .int .i64 s.r1, .int .i64 s.r2, .int .i64 s.r3, .slice pa np pc, .slice ia ni ic] 39, Sl 5 1 o m (encB c)]) (fun i _ _ => np - (intOf i).toNat)
      case atStart => exact ⟨0, 33, _, Nat.zero_le _, rfl, by omega, Sep.hid (by simp), H33, Hw0.out⟩
      case round =>
        clear Hw0
        obtain ⟨k, m, c, hk, rfl, hm, Hc, Hcl, hw⟩ := hrel
        obtain ⟨oa, oc, rfl⟩ := Sl.value (i := 2) rfl hw
        by_cases hlt : k < np
        · obtain ⟨x, hx⟩ : ∃ x, s.ps[k]? = some x := ⟨_, List.getElem?_eq_getElem (by rw [Hnp.out]; exact hlt)⟩
          obtain ⟨h, _, hE, hA⟩ := HR.out k x hx
          obtain ⟨q, rfl, hc⟩ := hE _ _ 0 hw rfl
          have HA := Sep.hid hA; clear hA hE
          have Hx := Sep.hid hx
          have Hma : Hid (mayP x = true) := Sep.hid (List.all_eq_true.1 Hmp.out.2.2.2.1 _ (List.mem_of_getElem? hx))
          clear hx
          obtain ⟨ha, hca⟩ := h
          unfold hdV at hc
          obtain ⟨n, hn⟩ : ∃ n, x.length = n := ⟨_, rfl⟩
          rw [hn] at hc
          have hn24 : n ≤ 24 := by
            have h := Hma.out
            unfold mayP at h
            rw [Bool.and_eq_true, decide_eq_true_eq, hn] at h
            exact h.1.2
          have Hn := Sep.hid hn; clear hn
          have hbl : (bytesP x).length = 1 + n * 11 := by rw [bytesP_len, Hn.out]
          (try replace hc0 := Sep.Holds.cells hw (i := 0) rfl); (try replace hc1 := Sep.Holds.cells hw (i := 1) rfl); (try replace hc2 := Sep.Holds.cells hw (i := 2) rfl); (try replace hc3 := Sep.Holds.cells hw (i := 3) rfl); (try replace hc4 := Sep.Holds.cells hw (i := 4) rfl); (try replace hc5 := Sep.Holds.cells hw (i := 5) rfl); (try replace hc6 := Sep.Holds.cells hw (i := 6) rfl)
          go_wp2_with fail
          refine (rBytes x n hca ha Hn e _ _ (HA.out.at 0 rfl) Hma.out hw.focus0).mono ?_
          rintro _ w_ ⟨v, rfl, hw_⟩
          clear hw hc; (try clear hc0); (try clear hc1); (try clear hc2); (try clear hc3); (try clear hc4); (try clear hc5); (try clear hc6); have hw := Holds.unfocus0 hw_; clear hw_
          have hIs : IsB v (bytesP x) = Sl 5 1 v (1 + n * 11) (encB (bytesP x)) := by unfold IsB; rw [hbl]
          rw [hIs] at hw; clear hIs
          have Hbl2 := Sep.hid hbl; clear hbl
          (try simp only [List.map_cons, List.map_nil, List.getD_cons_zero, List.getD_cons_succ, List.getD_nil, List.set_cons_zero, List.set_cons_succ, List.cons_append, List.nil_append, Act.eval, Array.getD_eq_getD_getElem?, List.getElem?_toArray, List.getElem?_cons_succ, List.getElem?_cons_zero, Option.getD_some, Value.cells] at hw); (try simp (disch := first | (simp; done) | (simp; omega)) only [Sep.mid_set, Sep.mid_set2, Sep.mid_set0, Sep.mid_splice, Sep.mid_splice0, List.set_cons_zero, List.set_cons_succ] at hw); (try simp only [Sep.splice, List.take_succ_cons, List.take_zero, List.drop_succ_cons, List.drop_zero, List.length_cons, List.length_nil, Nat.reduceAdd, List.cons_append, List.nil_append] at hw); (try replace hc0 := Sep.Holds.cells hw (i := 0) rfl); (try replace hc1 := Sep.Holds.cells hw (i := 1) rfl); (try replace hc2 := Sep.Holds.cells hw (i := 2) rfl); (try replace hc3 := Sep.Holds.cells hw (i := 3) rfl); (try replace hc4 := Sep.Holds.cells hw (i := 4) rfl); (try replace hc5 := Sep.Holds.cells hw (i := 5) rfl); (try replace hc6 := Sep.Holds.cells hw (i := 6) rfl)
          obtain ⟨va, vc, rfl⟩ := Sl.value (i := 3) rfl hw
          generalize hn11 : 1 + n * 11 = n11 at *
          have hn300 : n11 ≤ 300 := by omega
          go_wp2_with (first | (at_builtin; refine wpList_on rfl (wp_appendSl (i := 2) (j := 3) (u := .slice va n11 vc) rfl rfl hw rfl rfl rfl (encB_one _) (by rfl) (by (try unfold maxLen); omega) (by (try unfold maxLen); omega) ?_); intro a2_ cap2_ w_ hw_; (try simp only [Nat.zero_add, List.nil_append] at hw_); clear hw; have hw := hw_; clear hw_; (try simp only [List.map_cons, List.map_nil, List.getD_cons_zero, List.getD_cons_succ, List.getD_nil, List.set_cons_zero, List.set_cons_succ, List.cons_append, List.nil_append, Act.eval, Array.getD_eq_getD_getElem?, List.getElem?_toArray, List.getElem?_cons_succ, List.getElem?_cons_zero, Option.getD_some, Value.cells] at hw); (try simp (disch := first | (simp; done) | (simp; omega)) only [Sep.mid_set, Sep.mid_set2, Sep.mid_set0, Sep.mid_splice, Sep.mid_splice0, List.set_cons_zero, List.set_cons_succ] at hw); (try simp only [Sep.splice, List.take_succ_cons, List.take_zero, List.drop_succ_cons, List.drop_zero, List.length_cons, List.length_nil, Nat.reduceAdd, List.cons_append, List.nil_append] at hw); (try replace hc0 := Sep.Holds.cells hw (i := 0) rfl); (try replace hc1 := Sep.Holds.cells hw (i := 1) rfl); (try replace hc2 := Sep.Holds.cells hw (i := 2) rfl); (try replace hc3 := Sep.Holds.cells hw (i := 3) rfl); (try replace hc4 := Sep.Holds.cells hw (i := 4) rfl); (try replace hc5 := Sep.Holds.cells hw (i := 5) rfl); (try replace hc6 := Sep.Holds.cells hw (i := 6) rfl)))
          have hw := hw.sel [0, 1, 2] (by decide)
          rw [← encB_append] at hw
          go_roundw
          case rel =>
            refine ⟨k + 1, m + n11, c ++ bytesP x, by omega, by go_num, by omega, Sep.hid (by rw [Hc.out, flatB_snoc Hx.out, List.append_assoc]), Sep.hid (by rw [List.length_append, Hcl.out, Hbl2.out]), hw⟩
          case measure => simp [intOf]; omega
        · have hke : np = k := by omega
          subst hke
          have Hc2 : Hid (c = headS s ++ [(np : Int)] ++ s.ps.flatMap bytesP) := Sep.hid (by rw [Hc.out, List.take_of_length_le (by rw [Hnp.out]; exact Nat.le_refl _)])
          clear Hc
          have hm2 : m ≤ 10000 := by omega
          clear hm
          (try replace hc0 := Sep.Holds.cells hw (i := 0) rfl); (try replace hc1 := Sep.Holds.cells hw (i := 1) rfl); (try replace hc2 := Sep.Holds.cells hw (i := 2) rfl); (try replace hc3 := Sep.Holds.cells hw (i := 3) rfl); (try replace hc4 := Sep.Holds.cells hw (i := 4) rfl); (try replace hc5 := Sep.Holds.cells hw (i := 5) rfl); (try replace hc6 := Sep.Holds.cells hw (i := 6) rfl)
          go_wp2_with fail
          have Hw0 := Sep.hid hw; clear hw; (try clear hc0); (try clear hc1); (try clear hc2); (try clear hc3); (try clear hc4); (try clear hc5); (try clear hc6)
          go_loopw [9, 4] (fun i o wr => ∃ (k m2 : Nat) (c2 : List Int), k ≤ ni ∧ i = .int .i64 k ∧ m2 ≤ 10000 + k * 10 ∧ Hid (c2 = c ++ (s.is.take k).flatMap encItm) ∧ Hid (c2.length = m2) ∧ Holds e wr [X, pt b1_ [.int .i64 s.r0, .int .i64 s.r1, .int .i64 s.r2, .int .i64 s.r3, .slice pa np pc, .slice ia ni ic] 39, Sl 5 1 o m2 (encB c2)]) (fun i _ _ => ni - (intOf i).toNat)
          case atStart => exact ⟨0, m, c, Nat.zero_le _, rfl, by omega, Sep.hid (by simp), Hcl, Hw0.out⟩
          case round =>
            clear Hw0
            obtain ⟨k, m2, c2, hk, rfl, hm3, Hc3, Hcl2, hw⟩ := hrel
            obtain ⟨oa2, oc2, rfl⟩ := Sl.value (i := 2) rfl hw
            by_cases hlt : k < ni
            · obtain ⟨x, hx⟩ : ∃ x, s.is[k]? = some x := ⟨_, List.getElem?_eq_getElem (by rw [Hni.out]; exact hlt)⟩
              obtain ⟨p, rfl, hc⟩ := HI.out _ _ 0 hw rfl k x hx
              have g0 : wr.cell? (p.add (k * 3)) = some (.int .i64 x.d) := hc 0 _ rfl
              have g1 : wr.cell? ⟨(p.add (k * 3)).block, (p.add (k * 3)).off + 1, none⟩ = some (.int .i64 x.a) := hc 1 _ rfl
              clear hc
              have Hx := Sep.hid hx
              have HIx : Hid (∀ w' M, Holds e w' (X :: M) → w'.cell? ⟨(p.add (k * 3)).block, (p.add (k * 3)).off + 2, none⟩ = some (.int .i64 x.n)) := Sep.hid (fun w' M hw' => by
                obtain ⟨p2, hp2, hc⟩ := HI.out _ _ 0 hw' rfl k x hx
                cases hp2
                exact hc 2 _ rfl)
              clear hx
              (try replace hc0 := Sep.Holds.cells hw (i := 0) rfl); (try replace hc1 := Sep.Holds.cells hw (i := 1) rfl); (try replace hc2 := Sep.Holds.cells hw (i := 2) rfl); (try replace hc3 := Sep.Holds.cells hw (i := 3) rfl); (try replace hc4 := Sep.Holds.cells hw (i := 4) rfl); (try replace hc5 := Sep.Holds.cells hw (i := 5) rfl); (try replace hc6 := Sep.Holds.cells hw (i := 6) rfl)
              go_wp2_with fail
              refine wp_region_L [15, 16] [(2, (fun w' => w' = wr.drew)), (6, (fun w' => w' = wr.drew)), (9, (fun w' => w' = wr.drew)), (13, (fun w' => w' = wr.drew))] (n := 18) (listed := (marks 18 0)) (by kernel_rfl) rfl (by kernel_rfl) ?conds1 ?_
              case conds1 =>
               intro c hc
               simp only [List.mem_cons, List.not_mem_nil, or_false] at hc
               rcases hc with rfl | rfl | rfl | rfl
               · rfl
               · rfl
               · rfl
               · rfl
              replace hw := hw.drew
              (try replace hc0 := Sep.Holds.cells hw (i := 0) rfl); (try replace hc1 := Sep.Holds.cells hw (i := 1) rfl); (try replace hc2 := Sep.Holds.cells hw (i := 2) rfl); (try replace hc3 := Sep.Holds.cells hw (i := 3) rfl); (try replace hc4 := Sep.Holds.cells hw (i := 4) rfl); (try replace hc5 := Sep.Holds.cells hw (i := 5) rfl); (try replace hc6 := Sep.Holds.cells hw (i := 6) rfl)
              refine wpL_q 0 ?_ rfl (Or.inl ⟨by rfl, fun w_ hS_ => ?_⟩) (marks 18 1) ?_
              rotate_left
              next => (go_simp; try (first | rfl | exact (Bool.not_not _).symm))
              try simp only [Act.put, List.setIfInBounds_toArray, List.set_cons_zero, List.set_cons_succ]
              refine wpL_q 1 ?_ rfl (Or.inl ⟨by rfl, fun w_ hS_ => ?_⟩) (marks 18 3) ?_
              rotate_left
              next => (go_simp; try (first | rfl | exact (Bool.not_not _).symm))
              try simp only [Act.put, List.setIfInBounds_toArray, List.set_cons_zero, List.set_cons_succ]
              refine wpL_m 2 ?_ rfl (.head _) (Or.inl ⟨by rfl, fun w_ hS_ => ?_⟩) (marks 18 7) ?_
              rotate_left
              next => (subst hS_; go_simp; try (first | rfl | exact (Bool.not_not _).symm))
              try simp only [Act.put, List.setIfInBounds_toArray, List.set_cons_zero, List.set_cons_succ]
              refine wpL_q 3 ?_ rfl (Or.inl ⟨by rfl, fun w_ hS_ => ?_⟩) (marks 18 15) ?_
              rotate_left
              next => (go_simp; try (first | rfl | exact (Bool.not_not _).symm))
              try simp only [Act.put, List.setIfInBounds_toArray, List.set_cons_zero, List.set_cons_succ]
              refine wpL_q 4 ?_ rfl (Or.inl ⟨by rfl, fun w_ hS_ => ?_⟩) (marks 18 31) ?_
              rotate_left
              next => (go_simp; try (first | rfl | exact (Bool.not_not _).symm))
              try simp only [Act.put, List.setIfInBounds_toArray, List.set_cons_zero, List.set_cons_succ]
              refine wpL_q 5 ?_ rfl (Or.inl ⟨by rfl, fun w_ hS_ => ?_⟩) (marks 18 63) ?_
              rotate_left
              next => (go_simp; try (first | rfl | exact (Bool.not_not _).symm))
              try simp only [Act.put, List.setIfInBounds_toArray, List.set_cons_zero, List.set_cons_succ]
              refine wpL_m 6 ?_ rfl (.tail _ (.head _)) (Or.inl ⟨by rfl, fun w_ hS_ => ?_⟩) (marks 18 127) ?_
              rotate_left
              next => (subst hS_; go_simp; try (first | rfl | exact (Bool.not_not _).symm))
              try simp only [Act.put, List.setIfInBounds_toArray, List.set_cons_zero, List.set_cons_succ]
              refine wpL_q 7 ?_ rfl (Or.inl ⟨by rfl, fun w_ hS_ => ?_⟩) (marks 18 255) ?_
              rotate_left
              next => (go_simp; try (first | rfl | exact (Bool.not_not _).symm))
              try simp only [Act.put, List.setIfInBounds_toArray, List.set_cons_zero, List.set_cons_succ]
              refine wpL_q 8 ?_ rfl (Or.inl ⟨by rfl, fun w_ hS_ => ?_⟩) (marks 18 511) ?_
              rotate_left
              next => (go_simp; try (first | rfl | exact (Bool.not_not _).symm))
              try simp only [Act.put, List.setIfInBounds_toArray, List.set_cons_zero, List.set_cons_succ]
              refine wpL_m 9 ?_ rfl (.tail _ (.tail _ (.head _))) (Or.inl ⟨by rfl, fun w_ hS_ => ?_⟩) (marks 18 1023) ?_
              rotate_left
              next => (subst hS_; go_simp; try (first | rfl | exact (Bool.not_not _).symm))
              try simp only [Act.put, List.setIfInBounds_toArray, List.set_cons_zero, List.set_cons_succ]
              refine wpL_q 10 ?_ rfl (Or.inl ⟨by rfl, fun w_ hS_ => ?_⟩) (marks 18 2047) ?_
              rotate_left
              next => (go_simp; try (first | rfl | exact (Bool.not_not _).symm))
              try simp only [Act.put, List.setIfInBounds_toArray, List.set_cons_zero, List.set_cons_succ]
              refine wpL_q 11 ?_ rfl (Or.inl ⟨by rfl, fun w_ hS_ => ?_⟩) (marks 18 4095) ?_
              rotate_left
              next => (go_simp; try (first | rfl | exact (Bool.not_not _).symm))
              try simp only [Act.put, List.setIfInBounds_toArray, List.set_cons_zero, List.set_cons_succ]
              refine wpL_q 12 ?_ rfl (Or.inl ⟨by rfl, fun w_ hS_ => ?_⟩) (marks 18 8191) ?_
              rotate_left
              next => (go_simp; try (first | rfl | exact (Bool.not_not _).symm))
              try simp only [Act.put, List.setIfInBounds_toArray, List.set_cons_zero, List.set_cons_succ]
              refine wpL_m 13 ?_ rfl (.tail _ (.tail _ (.tail _ (.head _)))) (Or.inl ⟨by rfl, fun w_ hS_ => ?_⟩) (marks 18 16383) ?_
              rotate_left
              next => (subst hS_; go_simp; try (first | rfl | exact (Bool.not_not _).symm))
              try simp only [Act.put, List.setIfInBounds_toArray, List.set_cons_zero, List.set_cons_succ]
              refine wpL_q 14 ?_ rfl (Or.inl ⟨by rfl, fun w_ hS_ => ?_⟩) (marks 18 32767) ?_
              rotate_left
              next => (go_simp; try (first | rfl | exact (Bool.not_not _).symm))
              try simp only [Act.put, List.setIfInBounds_toArray, List.set_cons_zero, List.set_cons_succ]
              refine wpL_o 15 rfl (by rfl) (marks 18 65535) ?_
              (refine wp_buildSlice [.int .u8 (x.d % 256), .int .u8 (x.a % 256)] rfl hw (by decide) (by go_simp; exact ⟨IntKind.wrap_u8 _, IntKind.wrap_u8 _⟩) rfl ?_; intro b3_ w_ hw_; clear hw; have hw := hw_; clear hw_; (try simp only [List.map_cons, List.map_nil, List.getD_cons_zero, List.getD_cons_succ, List.getD_nil, List.set_cons_zero, List.set_cons_succ, List.cons_append, List.nil_append, Act.eval, Array.getD_eq_getD_getElem?, List.getElem?_toArray, List.getElem?_cons_succ, List.getElem?_cons_zero, Option.getD_some, Value.cells] at hw); (try simp (disch := first | (simp; done) | (simp; omega)) only [Sep.mid_set, Sep.mid_set2, Sep.mid_set0, Sep.mid_splice, Sep.mid_splice0, List.set_cons_zero, List.set_cons_succ] at hw); (try simp only [Sep.splice, List.take_succ_cons, List.take_zero, List.drop_succ_cons, List.drop_zero, List.length_cons, List.length_nil, Nat.reduceAdd, List.cons_append, List.nil_append] at hw); (try replace hc0 := Sep.Holds.cells hw (i := 0) rfl); (try replace hc1 := Sep.Holds.cells hw (i := 1) rfl); (try replace hc2 := Sep.Holds.cells hw (i := 2) rfl); (try replace hc3 := Sep.Holds.cells hw (i := 3) rfl); (try replace hc4 := Sep.Holds.cells hw (i := 4) rfl); (try replace hc5 := Sep.Holds.cells hw (i := 5) rfl); (try replace hc6 := Sep.Holds.cells hw (i := 6) rfl))
              refine ⟨(SL.drop 15 (by kernel_rfl) (SL.drop 15 (by kernel_rfl) (SL.drop 15 (by kernel_rfl) (SL.drop 15 (by kernel_rfl) SL.nil)))), ?_⟩
              try simp only [Act.put, List.setIfInBounds_toArray, List.set_cons_zero, List.set_cons_succ]
              refine wpL_o 16 rfl (by rfl) (marks 18 131071) ?_
              (refine wp_appendPt (i := 2) (j := 3) rfl rfl hw rfl rfl rfl (by rfl) (by simp [Value.oneCell']) (by decide) (by rfl) (by (try unfold maxLen); omega) (by (try unfold maxLen); omega) ?_; intro b2_ cap2_ off2_ w_ hcap2_ hw_; clear hw; have hw := hw_; clear hw_; (try simp only [List.map_cons, List.map_nil, List.getD_cons_zero, List.getD_cons_succ, List.getD_nil, List.set_cons_zero, List.set_cons_succ, List.cons_append, List.nil_append, Act.eval, Array.getD_eq_getD_getElem?, List.getElem?_toArray, List.getElem?_cons_succ, List.getElem?_cons_zero, Option.getD_some, Value.cells] at hw); (try simp (disch := first | (simp; done) | (simp; omega)) only [Sep.mid_set, Sep.mid_set2, Sep.mid_set0, Sep.mid_splice, Sep.mid_splice0, List.set_cons_zero, List.set_cons_succ] at hw); (try simp only [Sep.splice, List.take_succ_cons, List.take_zero, List.drop_succ_cons, List.drop_zero, List.length_cons, List.length_nil, Nat.reduceAdd, List.cons_append, List.nil_append] at hw); (try replace hc0 := Sep.Holds.cells hw (i := 0) rfl); (try replace hc1 := Sep.Holds.cells hw (i := 1) rfl); (try replace hc2 := Sep.Holds.cells hw (i := 2) rfl); (try replace hc3 := Sep.Holds.cells hw (i := 3) rfl); (try replace hc4 := Sep.Holds.cells hw (i := 4) rfl); (try replace hc5 := Sep.Holds.cells hw (i := 5) rfl); (try replace hc6 := Sep.Holds.cells hw (i := 6) rfl))
              refine ⟨(SL.drop 15 (by kernel_rfl) (SL.drop 15 (by kernel_rfl) (SL.drop 15 (by kernel_rfl) (SL.drop 15 (by kernel_rfl) SL.nil)))), ?_⟩
              try simp only [Act.put, List.setIfInBounds_toArray, List.set_cons_zero, List.set_cons_succ]
              refine wpL_q 17 ?_ rfl (Or.inl ⟨by rfl, fun w_ hS_ => ?_⟩) (marks 18 262143) ?_
              rotate_left
              next => (go_simp; try (first | rfl | exact (Bool.not_not _).symm))
              try simp only [Act.put, List.setIfInBounds_toArray, List.set_cons_zero, List.set_cons_succ]
              all_goals refine wpL_done (by kernel_rfl) ?_ _
              have g2 := HIx.out _ _ hw
              clear g0 g1
              (try clear hc0); (try clear hc1); (try clear hc2); (try clear hc3); (try clear hc4); (try clear hc5); (try clear hc6); have hw := hw.sel [0, 1, 2] (by decide)
              (try simp only [List.map_cons, List.map_nil, List.getD_cons_zero, List.getD_cons_succ, List.getD_nil, List.set_cons_zero, List.set_cons_succ, List.cons_append, List.nil_append, Act.eval, Array.getD_eq_getD_getElem?, List.getElem?_toArray, List.getElem?_cons_succ, List.getElem?_cons_zero, Option.getD_some, Value.cells] at hw); (try simp (disch := first | (simp; done) | (simp; omega)) only [Sep.mid_set, Sep.mid_set2, Sep.mid_set0, Sep.mid_splice, Sep.mid_splice0, List.set_cons_zero, List.set_cons_succ] at hw); (try simp only [Sep.splice, List.take_succ_cons, List.take_zero, List.drop_succ_cons, List.drop_zero, List.length_cons, List.length_nil, Nat.reduceAdd, List.cons_append, List.nil_append] at hw); (try replace hc0 := Sep.Holds.cells hw (i := 0) rfl); (try replace hc1 := Sep.Holds.cells hw (i := 1) rfl); (try replace hc2 := Sep.Holds.cells hw (i := 2) rfl); (try replace hc3 := Sep.Holds.cells hw (i := 3) rfl); (try replace hc4 := Sep.Holds.cells hw (i := 4) rfl); (try replace hc5 := Sep.Holds.cells hw (i := 5) rfl); (try replace hc6 := Sep.Holds.cells hw (i := 6) rfl)
              go_wp2_with fail
              refine (rEight x.n e _ _ hw.focus0).mono ?_
              rintro _ w_ ⟨b8, rfl, hw_⟩
              clear hw g2; (try clear hc0); (try clear hc1); (try clear hc2); (try clear hc3); (try clear hc4); (try clear hc5); (try clear hc6); have hw := Holds.unfocus0 hw_; clear hw_
              (try simp only [List.map_cons, List.map_nil, List.getD_cons_zero, List.getD_cons_succ, List.getD_nil, List.set_cons_zero, List.set_cons_succ, List.cons_append, List.nil_append, Act.eval, Array.getD_eq_getD_getElem?, List.getElem?_toArray, List.getElem?_cons_succ, List.getElem?_cons_zero, Option.getD_some, Value.cells] at hw); (try simp (disch := first | (simp; done) | (simp; omega)) only [Sep.mid_set, Sep.mid_set2, Sep.mid_set0, Sep.mid_splice, Sep.mid_splice0, List.set_cons_zero, List.set_cons_succ] at hw); (try simp only [Sep.splice, List.take_succ_cons, List.take_zero, List.drop_succ_cons, List.drop_zero, List.length_cons, List.length_nil, Nat.reduceAdd, List.cons_append, List.nil_append] at hw); (try replace hc0 := Sep.Holds.cells hw (i := 0) rfl); (try replace hc1 := Sep.Holds.cells hw (i := 1) rfl); (try replace hc2 := Sep.Holds.cells hw (i := 2) rfl); (try replace hc3 := Sep.Holds.cells hw (i := 3) rfl); (try replace hc4 := Sep.Holds.cells hw (i := 4) rfl); (try replace hc5 := Sep.Holds.cells hw (i := 5) rfl); (try replace hc6 := Sep.Holds.cells hw (i := 6) rfl)
              go_wp2_with (first | (at_builtin; refine wpList_on rfl (wp_appendPt (i := 2) (j := 3) rfl rfl hw rfl rfl rfl (by rfl) (encB_one _) (by decide) (by rfl) (by (try unfold maxLen); omega) (by (try unfold maxLen); omega) ?_); intro b2_ cap2_ off2_ w_ hcap2_ hw_; clear hw; have hw := hw_; clear hw_; (try simp only [List.map_cons, List.map_nil, List.getD_cons_zero, List.getD_cons_succ, List.getD_nil, List.set_cons_zero, List.set_cons_succ, List.cons_append, List.nil_append, Act.eval, Array.getD_eq_getD_getElem?, List.getElem?_toArray, List.getElem?_cons_succ, List.getElem?_cons_zero, Option.getD_some, Value.cells] at hw); (try simp (disch := first | (simp; done) | (simp; omega)) only [Sep.mid_set, Sep.mid_set2, Sep.mid_set0, Sep.mid_splice, Sep.mid_splice0, List.set_cons_zero, List.set_cons_succ] at hw); (try simp only [Sep.splice, List.take_succ_cons, List.take_zero, List.drop_succ_cons, List.drop_zero, List.length_cons, List.length_nil, Nat.reduceAdd, List.cons_append, List.nil_append] at hw); (try replace hc0 := Sep.Holds.cells hw (i := 0) rfl); (try replace hc1 := Sep.Holds.cells hw (i := 1) rfl); (try replace hc2 := Sep.Holds.cells hw (i := 2) rfl); (try replace hc3 := Sep.Holds.cells hw (i := 3) rfl); (try replace hc4 := Sep.Holds.cells hw (i := 4) rfl); (try replace hc5 := Sep.Holds.cells hw (i := 5) rfl); (try replace hc6 := Sep.Holds.cells hw (i := 6) rfl)))
              have hw := hw.sel [0, 1, 2] (by decide)
              go_roundw
              case rel =>
                refine ⟨k + 1, m2 + 2 + 8, c2 ++ encItm x, by omega, by go_num, by omega, Sep.hid (by rw [Hc3.out, flatB_snoc Hx.out, List.append_assoc]), Sep.hid (by rw [List.length_append, Hcl2.out, encItm_len]), ?_⟩
                rw [encB_append, show encB (encItm x) = [.int .u8 (x.d % 256), .int .u8 (x.a % 256)] ++ encB (be8 x.n) from rfl, ← List.append_assoc]
                exact hw
              case measure => simp [intOf]; omega
            · have hke : ni = k := by omega
              subst hke
              have Hd : Hid (c2 = bytesS s) := Sep.hid (by
                rw [Hc3.out, Hc2.out, List.take_of_length_le (by rw [Hni.out]; exact Nat.le_refl _)]
                unfold bytesS
                rw [Hnp.out, show (np : Int) % 256 = np by omega]
                simp only [List.append_assoc, List.cons_append, List.nil_append])
              (try replace hc0 := Sep.Holds.cells hw (i := 0) rfl); (try replace hc1 := Sep.Holds.cells hw (i := 1) rfl); (try replace hc2 := Sep.Holds.cells hw (i := 2) rfl); (try replace hc3 := Sep.Holds.cells hw (i := 3) rfl); (try replace hc4 := Sep.Holds.cells hw (i := 4) rfl); (try replace hc5 := Sep.Holds.cells hw (i := 5) rfl); (try replace hc6 := Sep.Holds.cells hw (i := 6) rfl)
              go_wp2_with fail
              refine HP.out _ _ ⟨_, rfl, ?_⟩
              unfold IsB
              rw [← Hd.out, Hcl2.out]
              exact hw.sel [0, 2] (by decide)
theorem oBytesS_no (s : Scr) (hS : Small s) (hs : List Hd) (pa ia : Option Addr) (pc ic : Nat) (e w : World) (X : HProp) (hT : Tops e X) (hR : RdP e X pa hs s.ps) (hI : RdT e X ia s.is) (hm : mayS s = false) (hw : Holds e w [X]) :
    Calls Tryd.prog 8 #[.agg (scrV s pa pc ia ic).toArray] w fun en w' => en = .returned (.tuple #[.slice none 0 0, .int .i64 1]) ∧ Holds e w' [X] := by
  have hmay := fun w M hw (h0 : M[0]? = some X) => oMayS s hS hs pa ia pc ic e w (sepL M) (at_any (Φ := TopsAt) hT 0 h0) (hR.at 0 h0) (hI.at 0 h0) hw
  rw [hm] at hmay
  have Hmay := Sep.hid hmay; clear hmay hT hR hI hm hS
  unfold scrV at Hmay ⊢
  generalize s.ps.length = np at *
  generalize s.is.length = ni at *
  refine Sep.calls_post ?_
  intro Post_ hPost_
  have HP := Sep.hid hPost_
  clear hPost_
  go_enter Tryd.func8, Tryd.ntmps8
  go_wp2_with (first | (refine wpList_on rfl (wp_box rfl hw ?_); intro b1_ w_ hw_; clear hw; have hw := hw_; clear hw_; (try simp only [List.map_cons, List.map_nil, List.getD_cons_zero, List.getD_cons_succ, List.getD_nil, List.set_cons_zero, List.set_cons_succ, List.cons_append, List.nil_append, Act.eval, Array.getD_eq_getD_getElem?, List.getElem?_toArray, List.getElem?_cons_succ, List.getElem?_cons_zero, Option.getD_some, Value.cells] at hw); (try simp (disch := first | (simp; done) | (simp; omega)) only [Sep.mid_set, Sep.mid_set2, Sep.mid_set0, Sep.mid_splice, Sep.mid_splice0, List.set_cons_zero, List.set_cons_succ] at hw); (try simp only [Sep.splice, List.take_succ_cons, List.take_zero, List.drop_succ_cons, List.drop_zero, List.length_cons, List.length_nil, Nat.reduceAdd, List.cons_append, List.nil_append] at hw); (try replace hc0 := Sep.Holds.cells hw (i := 0) rfl); (try replace hc1 := Sep.Holds.cells hw (i := 1) rfl); (try replace hc2 := Sep.Holds.cells hw (i := 2) rfl); (try replace hc3 := Sep.Holds.cells hw (i := 3) rfl); (try replace hc4 := Sep.Holds.cells hw (i := 4) rfl); (try replace hc5 := Sep.Holds.cells hw (i := 5) rfl); (try replace hc6 := Sep.Holds.cells hw (i := 6) rfl)))
  refine (Hmay.out _ _ hw.focus0 rfl).mono ?_
  rintro _ w_ ⟨rfl, hw_⟩
  clear hw; (try clear hc0); (try clear hc1); (try clear hc2); (try clear hc3); (try clear hc4); (try clear hc5); (try clear hc6); have hw := Holds.unfocus0 hw_; clear hw_ Hmay
  (try simp only [List.map_cons, List.map_nil, List.getD_cons_zero, List.getD_cons_succ, List.getD_nil, List.set_cons_zero, List.set_cons_succ, List.cons_append, List.nil_append, Act.eval, Array.getD_eq_getD_getElem?, List.getElem?_toArray, List.getElem?_cons_succ, List.getElem?_cons_zero, Option.getD_some, Value.cells] at hw); (try simp (disch := first | (simp; done) | (simp; omega)) only [Sep.mid_set, Sep.mid_set2, Sep.mid_set0, Sep.mid_splice, Sep.mid_splice0, List.set_cons_zero, List.set_cons_succ] at hw); (try simp only [Sep.splice, List.take_succ_cons, List.take_zero, List.drop_succ_cons, List.drop_zero, List.length_cons, List.length_nil, Nat.reduceAdd, List.cons_append, List.nil_append] at hw); (try replace hc0 := Sep.Holds.cells hw (i := 0) rfl); (try replace hc1 := Sep.Holds.cells hw (i := 1) rfl); (try replace hc2 := Sep.Holds.cells hw (i := 2) rfl); (try replace hc3 := Sep.Holds.cells hw (i := 3) rfl); (try replace hc4 := Sep.Holds.cells hw (i := 4) rfl); (try replace hc5 := Sep.Holds.cells hw (i := 5) rfl); (try replace hc6 := Sep.Holds.cells hw (i := 6) rfl)
  go_wp2_with fail
  exact HP.out _ _ ⟨rfl, hw.sel [0] (by decide)⟩
theorem rBytesS_no (s : Scr) (hS : Small s) (hs : List Hd) (pa ia : Option Addr) (pc ic : Nat) (e w : World) (X : HProp) (hR : RdP e X pa hs s.ps) (hI : RdT e X ia s.is) (hm : mayS s = false) (hw : Holds e w [X]) :
    Calls Tryd.prog 9 #[.agg (scrV s pa pc ia ic).toArray] w fun en w' => en = .returned (.tuple #[.slice none 0 0, .int .i64 1]) ∧ Holds e w' [X] := by
  have hmay := fun w M hw (h0 : M[0]? = some X) => rMayS s hS hs pa ia pc ic e w (sepL M) (hR.at 0 h0) (hI.at 0 h0) hw
  rw [hm] at hmay
  have Hmay := Sep.hid hmay; clear hmay hR hI hm hS
  unfold scrV at Hmay ⊢
  generalize s.ps.length = np at *
  generalize s.is.length = ni at *
  refine Sep.calls_post ?_
  intro Post_ hPost_
  have HP := Sep.hid hPost_
  clear hPost_
  go_enter Tryd.func9, Tryd.ntmps9
  go_wp2_with (first | (refine wpList_on rfl (wp_box rfl hw ?_); intro b1_ w_ hw_; clear hw; have hw := hw_; clear hw_; (try simp only [List.map_cons, List.map_nil, List.getD_cons_zero, List.getD_cons_succ, List.getD_nil, List.set_cons_zero, List.set_cons_succ, List.cons_append, List.nil_append, Act.eval, Array.getD_eq_getD_getElem?, List.getElem?_toArray, List.getElem?_cons_succ, List.getElem?_cons_zero, Option.getD_some, Value.cells] at hw); (try simp (disch := first | (simp; done) | (simp; omega)) only [Sep.mid_set, Sep.mid_set2, Sep.mid_set0, Sep.mid_splice, Sep.mid_splice0, List.set_cons_zero, List.set_cons_succ] at hw); (try simp only [Sep.splice, List.take_succ_cons, List.take_zero, List.drop_succ_cons, List.drop_zero, List.length_cons, List.length_nil, Nat.reduceAdd, List.cons_append, List.nil_append] at hw); (try replace hc0 := Sep.Holds.cells hw (i := 0) rfl); (try replace hc1 := Sep.Holds.cells hw (i := 1) rfl); (try replace hc2 := Sep.Holds.cells hw (i := 2) rfl); (try replace hc3 := Sep.Holds.cells hw (i := 3) rfl); (try replace hc4 := Sep.Holds.cells hw (i := 4) rfl); (try replace hc5 := Sep.Holds.cells hw (i := 5) rfl); (try replace hc6 := Sep.Holds.cells hw (i := 6) rfl)))
  refine (Hmay.out _ _ hw.focus0 rfl).mono ?_
  rintro _ w_ ⟨rfl, hw_⟩
  clear hw; (try clear hc0); (try clear hc1); (try clear hc2); (try clear hc3); (try clear hc4); (try clear hc5); (try clear hc6); have hw := Holds.unfocus0 hw_; clear hw_ Hmay
  (try simp only [List.map_cons, List.map_nil, List.getD_cons_zero, List.getD_cons_succ, List.getD_nil, List.set_cons_zero, List.set_cons_succ, List.cons_append, List.nil_append, Act.eval, Array.getD_eq_getD_getElem?, List.getElem?_toArray, List.getElem?_cons_succ, List.getElem?_cons_zero, Option.getD_some, Value.cells] at hw); (try simp (disch := first | (simp; done) | (simp; omega)) only [Sep.mid_set, Sep.mid_set2, Sep.mid_set0, Sep.mid_splice, Sep.mid_splice0, List.set_cons_zero, List.set_cons_succ] at hw); (try simp only [Sep.splice, List.take_succ_cons, List.take_zero, List.drop_succ_cons, List.drop_zero, List.length_cons, List.length_nil, Nat.reduceAdd, List.cons_append, List.nil_append] at hw); (try replace hc0 := Sep.Holds.cells hw (i := 0) rfl); (try replace hc1 := Sep.Holds.cells hw (i := 1) rfl); (try replace hc2 := Sep.Holds.cells hw (i := 2) rfl); (try replace hc3 := Sep.Holds.cells hw (i := 3) rfl); (try replace hc4 := Sep.Holds.cells hw (i := 4) rfl); (try replace hc5 := Sep.Holds.cells hw (i := 5) rfl); (try replace hc6 := Sep.Holds.cells hw (i := 6) rfl)
  go_wp2_with fail
  exact HP.out _ _ ⟨rfl, hw.sel [0] (by decide)⟩
theorem oBytesSX (s : Scr) (hS : Small s) (hs : List Hd) (pa ia : Option Addr) (pc ic : Nat) (e w : World) (X : HProp) (hT : Tops e X) (hR : RdP e X pa hs s.ps) (hI : RdT e X ia s.is) (hw : Holds e w [X]) :
    Calls Tryd.prog 8 #[.agg (scrV s pa pc ia ic).toArray] w fun en w' => ∃ v, en = .returned (.tuple #[v, .int .i64 (eS s)]) ∧ Holds e w' [X, IsB v (bS s)] := by
  cases hm : mayS s with
  | true =>
    unfold bS eS; rw [if_pos hm, if_pos hm]
    exact oBytesS s hS hs pa ia pc ic e w X hT hR hI hm hw
  | false =>
    unfold bS eS; rw [if_neg (by rw [hm]; decide), if_neg (by rw [hm]; decide)]
    refine (oBytesS_no s hS hs pa ia pc ic e w X hT hR hI hm hw).mono ?_
    rintro _ w_ ⟨rfl, hw_⟩
    exact ⟨_, rfl, hw_.addEmp (X := IsB (.slice none 0 0) []) (Sl.nil _ _ _)⟩
theorem rBytesSX (s : Scr) (hS : Small s) (hs : List Hd) (pa ia : Option Addr) (pc ic : Nat) (e w : World) (X : HProp) (hR : RdP e X pa hs s.ps) (hI : RdT e X ia s.is) (hw : Holds e w [X]) :
    Calls Tryd.prog 9 #[.agg (scrV s pa pc ia ic).toArray] w fun en w' => ∃ v, en = .returned (.tuple #[v, .int .i64 (eS s)]) ∧ Holds e w' [X, IsB v (bS s)] := by
  cases hm : mayS s with
  | true =>
    unfold bS eS; rw [if_pos hm, if_pos hm]
    exact rBytesS s hS hs pa ia pc ic e w X hR hI hm hw
  | false =>
    unfold bS eS; rw [if_neg (by rw [hm]; decide), if_neg (by rw [hm]; decide)]
    refine (rBytesS_no s hS hs pa ia pc ic e w X hR hI hm hw).mono ?_
    rintro _ w_ ⟨rfl, hw_⟩
    exact ⟨_, rfl, hw_.addEmp (X := IsB (.slice none 0 0) []) (Sl.nil _ _ _)⟩
theorem bS_len (s : Scr) : (bS s).length ≤ 4000 := by
  unfold bS; split
  · rename_i h; rw [bytesS_len]; exact (may_parts h).2.2.2.2.2.2
  · simp
end Go.Proofs.YteinbojpmhblkaaDoor
/-
  The walk of items: the items of bytes.
-/
namespace Go.Proofs.YteinbojpmhblkaaDoor
set_option linter.unusedSimpArgs false
set_option linter.unusedVariables false
open Go.RowKit Go.Sep
set_option maxRecDepth 20000

def lenOfV : Value → Nat | .slice _ m _ => m | _ => 0
theorem rd_sliced {e : World} {X : HProp} {p : Addr} {b : List Int} {n c l : Nat} (h : RdB e X (some p) b) (hn : b.length = n) (hl : l ≤ n) (hc : n ≤ c) :
    ∃ a2, sliced (some p) l n c 1 = .slice a2 (n - l) (c - l) ∧ RdB e X a2 (b.drop l) := by
  by_cases hcl : c = l
  · refine ⟨some p, by simp [sliced, hcl], ?_⟩
    intro w L i hw hi j x hj
    rw [List.drop_eq_nil_of_le (by omega)] at hj; cases hj
  · refine ⟨some (p.add l), by simp [sliced, hcl], ?_⟩
    intro w L i hw hi
    exact rd_from h hw hi l
theorem itmAt_at (b : List Int) (s : Nat) : itmAt ((b.drop s).take 10) = ⟨b[s]?.getD 0, b[s + 1]?.getD 0, numP ((b.drop (s + 2)).take 8)⟩ := by
  unfold itmAt
  rw [List.drop_take, List.drop_drop, List.take_take]
  simp [List.getElem?_take, List.getElem?_drop]
set_option maxHeartbeats 8000000 in
theorem oItems (b : List Int) (n ca : Nat) (a : Option Addr) (hn : Hid (b.length = n)) (hn2 : n ≤ 5000) (hca : n ≤ ca) (hb : Bys b) (e w : World) (X : HProp) (hR : RdB e X a b) (hw : Holds e w [X]) :
    Calls Tryd.prog 27 #[.slice a n ca] w fun en w' => ∃ v, en = .returned (.tuple #[v, .int .i64 (itemsP b).2]) ∧ Holds e w' [X, Sl 23 3 v (itemsP b).1.length (encTs (itemsP b).1)] := by
  have HR := Sep.hid hR; clear hR
  have Hb := Sep.hid hb; clear hb
  by_cases h10 : n % 10 = 0
  case neg =>
    have Hp : Hid (itemsP b = ([], 8)) := Sep.hid (by unfold itemsP; rw [if_pos (by rw [hn.out]; exact h10)])
    rw [Hp.out]; clear Hp
    have hr : ((n : Int) % 10 != 0) = true := by simp; omega
    clear h10
    refine Sep.calls_post ?_
    intro Post_ hPost_
    have HP := Sep.hid hPost_
    clear hPost_
    go_enter Tryd.func27, Tryd.ntmps27
    go_wp2_with fail
    exact HP.out _ _ ⟨_, rfl, hw.addEmp (Sl.nil _ _ _)⟩
  obtain ⟨N, hN⟩ : ∃ N, n / 10 = N := ⟨_, rfl⟩
  have HnN : Hid (n = 10 * N) := Sep.hid (by omega)
  have hr : ((n : Int) % 10 != 0) = false := by simp; omega
  have Hp : Hid (itemsP b = if (readI b N).all itemP = true ∧ N ≤ 200 then (readI b N, 0) else ([], 7)) := Sep.hid (by unfold itemsP; rw [if_neg (by rw [hn.out]; omega), hn.out, hN])
  clear h10 hN
  refine Sep.calls_post ?_
  intro Post_ hPost_
  have HP := Sep.hid hPost_
  clear hPost_
  go_enter Tryd.func27, Tryd.ntmps27
  go_wp2_with fail
  have hw := hw.addEmp (X := Sl 23 3 (.slice none 0 0) 0 (encTs [])) (Sl.nil _ _ _)
  have Hw0 := Sep.hid hw; clear hw; (try clear hc0); (try clear hc1); (try clear hc2); (try clear hc3); (try clear hc4); (try clear hc5); (try clear hc6)
  clear hr
  go_loopw [0, 4] (fun s o wr => ∃ (k m c' : Nat) (a' : Option Addr), m + 10 * k = n ∧ s = .slice a' m c' ∧ m ≤ c' ∧ Hid (RdB e X a' (b.drop (k * 10))) ∧ Hid ((readI b k).all itemP = true) ∧ Holds e wr [X, Sl 23 3 o k (encTs (readI b k))]) (fun s _ _ => lenOfV s)
  case atStart => exact ⟨0, n, ca, a, by omega, rfl, hca, Sep.hid (by simpa using HR.out), Sep.hid rfl, Hw0.out⟩
  case round =>
    clear Hw0
    obtain ⟨k, m, c', a', hmk, rfl, hmc, HRk, Hall, hw⟩ := hrel
    have hk5 : k ≤ 500 := by omega
    have Hmk := Sep.hid hmk; clear hmk
    obtain ⟨oa, oc, rfl⟩ := Sl.value (i := 1) rfl hw
    by_cases hm0 : m = 0
    case pos =>
      subst hm0
      have hkN : k = N := by have := HnN.out; have := Hmk.out; omega
      subst hkN
      have Hl := Sep.hid (readI_len b k)
      generalize readI b k = l at *
      by_cases h200 : (200 : Int) < k
      · have Hp2 : Hid (itemsP b = ([], 7)) := Sep.hid (by rw [Hp.out, if_neg (by omega)])
        clear Hp
        go_wp2_with fail
        refine HP.out _ _ ⟨.slice none 0 0, by rw [Hp2.out]; rfl, ?_⟩
        rw [Hp2.out]
        exact (hw.sel [0] (by decide)).addEmp (Sl.nil _ _ _)
      · have Hp2 : Hid (itemsP b = (l, 0)) := Sep.hid (by rw [Hp.out, if_pos ⟨Hall.out, by omega⟩])
        clear Hp
        go_wp2_with fail
        refine HP.out _ _ ⟨.slice oa k oc, by rw [Hp2.out], ?_⟩
        rw [Hp2.out]
        simp only
        rw [Hl.out]
        exact hw
    have hm10 : 10 ≤ m := by have := HnN.out; have := Hmk.out; omega
    obtain ⟨p, rfl⟩ : ∃ p, a' = some p := by
      obtain ⟨p, hp, _⟩ := HRk.out _ _ 0 hw rfl 0 _ (List.getElem?_eq_getElem (by rw [List.length_drop, hn.out]; have := Hmk.out; omega))
      exact ⟨p, hp⟩
    have hlen : (b.drop (k * 10)).length = m := by rw [List.length_drop, hn.out]; have := Hmk.out; omega
    have Hsn := Sep.hid (readI_snoc b k)
    have Hx := Sep.hid (itmAt_at b (k * 10))
    obtain ⟨d, hd⟩ : ∃ d, b.drop (k * 10) = d := ⟨_, rfl⟩
    have hc0 : b[k * 10]?.getD 0 = d[0]?.getD 0 := by rw [← hd, List.getElem?_drop]; rfl
    have hc1 : b[k * 10 + 1]?.getD 0 = d[1]?.getD 0 := by rw [← hd, List.getElem?_drop]
    have hc2 : b.drop (k * 10 + 2) = d.drop 2 := by rw [← hd, List.drop_drop]
    have hc3 : b.drop ((k + 1) * 10) = d.drop 10 := by rw [← hd, List.drop_drop]; congr 1; omega
    have Hc3 := Sep.hid hc3; clear hc3
    have Hdb : Hid (Bys d) := Sep.hid (by rw [← hd]; exact Hb.out.drop _)
    rw [hd] at HRk hlen
    rw [hc0, hc1, hc2] at Hx
    clear hc0 hc1 hc2 hd
    rw [Hx.out] at Hsn; clear Hx
    have Hdl := Sep.hid hlen; clear hlen
    have Hget : Hid (∀ j, j < m → IntKind.i64.wrap (d[j]?.getD 0) = d[j]?.getD 0 ∧ ∀ w', Holds e w' [X] → w'.cell? (p.add j) = some (.int .u8 (d[j]?.getD 0))) := Sep.hid (fun j hj => by
      have hj' : d[j]? = some (d[j]?.getD 0) := by rw [List.getElem?_eq_getElem (by rw [Hdl.out]; exact hj)]; rfl
      refine ⟨IntWalk.i64_in _ (by have := Hdb.out _ (List.mem_of_getElem? hj'); omega), fun w' hw' => ?_⟩
      obtain ⟨p2, hp2, hc⟩ := HRk.out w' [X] 0 hw' rfl _ _ hj'
      cases hp2; exact hc)
    have Hnum : Hid (∀ w' L, Holds e w' (X :: L) → Calls Tryd.prog 25 #[.slice (some ⟨p.block, p.off + 2, none⟩) (m - 2) (c' - 2)] w' fun en w2 => en = .returned (.int .i64 (numP ((d.drop 2).take 8))) ∧ w2 = w') := Sep.hid (fun w' L hw' => oNum _ (d.drop 2) _ _ (by omega) (Sep.hid (by rw [List.length_drop, Hdl.out])) (by omega) (Hdb.out.drop _) w' (rd_from (i := 0) HRk.out hw' rfl _))
    obtain ⟨c0, hc0⟩ : ∃ c0, d[0]?.getD 0 = c0 := ⟨_, rfl⟩
    obtain ⟨c1, hc1⟩ : ∃ c1, d[1]?.getD 0 = c1 := ⟨_, rfl⟩
    have Hg : Hid ((IntKind.i64.wrap c0 = c0 ∧ IntKind.i64.wrap c1 = c1) ∧ ∀ w', Holds e w' [X] → w'.cell? p = some (.int .u8 c0) ∧ w'.cell? ⟨p.block, p.off + 1, none⟩ = some (.int .u8 c1)) := Sep.hid (by
      have g0 := Hget.out 0 (by omega)
      have g1 := Hget.out 1 (by omega)
      rw [hc0] at g0
      rw [hc1] at g1
      exact ⟨⟨g0.1, g1.1⟩, fun w' hw' => ⟨g0.2 w' hw', g1.2 w' hw'⟩⟩)
    rw [hc0, hc1] at Hsn
    clear hc0 hc1 Hget
    generalize numP ((d.drop 2).take 8) = c2 at *
    obtain ⟨A, hA⟩ : ∃ A, A = encTs (readI b k) := ⟨_, rfl⟩
    have HA := Sep.hid hA
    rw [← hA] at hw
    clear hA
    have l0 : (0 : Int) < m := by omega
    have l1 : (1 : Int) < m := by omega
    have l2 : (2 : Int) ≤ m := by omega
    have l5 : ¬ c' = 2 := by omega
    go_wp2_with fail
    refine wp_region_L [10, 12, 13] [(2, (fun w' => Holds e w' [X])), (6, (fun w' => Holds e w' [X]))] (n := 14) (listed := (marks 14 0)) (by kernel_rfl) rfl (by kernel_rfl) ?conds1 ?_
    case conds1 =>
     intro c hc
     simp only [List.mem_cons, List.not_mem_nil, or_false] at hc
     rcases hc with rfl | rfl
     · exact (by replace hw := hw.drew; exact hw.sel [0] (by decide))
     · exact (by replace hw := hw.drew; exact hw.sel [0] (by decide))
    replace hw := hw.drew
    (try replace hc0 := Sep.Holds.cells hw (i := 0) rfl); (try replace hc1 := Sep.Holds.cells hw (i := 1) rfl); (try replace hc2 := Sep.Holds.cells hw (i := 2) rfl); (try replace hc3 := Sep.Holds.cells hw (i := 3) rfl); (try replace hc4 := Sep.Holds.cells hw (i := 4) rfl); (try replace hc5 := Sep.Holds.cells hw (i := 5) rfl); (try replace hc6 := Sep.Holds.cells hw (i := 6) rfl)
    refine wpL_q 0 ?_ rfl (Or.inl ⟨by rfl, fun w_ hS_ => ?_⟩) (marks 14 1) ?_
    rotate_left
    next => (go_simp; try (first | rfl | exact (Bool.not_not _).symm))
    try simp only [Act.put, List.setIfInBounds_toArray, List.set_cons_zero, List.set_cons_succ]
    refine wpL_q 1 ?_ rfl (Or.inl ⟨by rfl, fun w_ hS_ => ?_⟩) (marks 14 3) ?_
    rotate_left
    next => (go_simp; try (first | rfl | exact (Bool.not_not _).symm))
    try simp only [Act.put, List.setIfInBounds_toArray, List.set_cons_zero, List.set_cons_succ]
    refine wpL_m 2 ?_ rfl (.head _) (Or.inl ⟨by rfl, fun w_ hS_ => ?_⟩) (marks 14 7) ?_
    rotate_left
    next => (dsimp only at hS_; (try have q0 := Sep.Holds.cells hS_ (i := 0) rfl); (try have q1 := Sep.Holds.cells hS_ (i := 1) rfl); (try have q2 := Sep.Holds.cells hS_ (i := 2) rfl); (try have q3 := Sep.Holds.cells hS_ (i := 3) rfl); (try have q4 := Sep.Holds.cells hS_ (i := 4) rfl); (try have q5 := Sep.Holds.cells hS_ (i := 5) rfl); (try have q6 := Sep.Holds.cells hS_ (i := 6) rfl); first | ((first | (go_simp; (try rfl); done) | (obtain ⟨g0, g1⟩ := Hg.out.2 _ hS_; go_simp; (try rfl); done))) | (go_simp; try (first | rfl | exact (Bool.not_not _).symm)))
    try simp only [Act.put, List.setIfInBounds_toArray, List.set_cons_zero, List.set_cons_succ]
    refine wpL_q 3 ?_ rfl (Or.inl ⟨by rfl, fun w_ hS_ => ?_⟩) (marks 14 15) ?_
    rotate_left
    next => (go_simp; try (first | rfl | exact (Bool.not_not _).symm))
    try simp only [Act.put, List.setIfInBounds_toArray, List.set_cons_zero, List.set_cons_succ]
    refine wpL_q 4 ?_ rfl (Or.inl ⟨by rfl, fun w_ hS_ => ?_⟩) (marks 14 31) ?_
    rotate_left
    next => (go_simp; try (first | rfl | exact (Bool.not_not _).symm))
    try simp only [Act.put, List.setIfInBounds_toArray, List.set_cons_zero, List.set_cons_succ]
    refine wpL_q 5 ?_ rfl (Or.inl ⟨by rfl, fun w_ hS_ => ?_⟩) (marks 14 63) ?_
    rotate_left
    next => (go_simp; try (first | rfl | exact (Bool.not_not _).symm))
    try simp only [Act.put, List.setIfInBounds_toArray, List.set_cons_zero, List.set_cons_succ]
    refine wpL_m 6 ?_ rfl (.tail _ (.head _)) (Or.inl ⟨by rfl, fun w_ hS_ => ?_⟩) (marks 14 127) ?_
    rotate_left
    next => (dsimp only at hS_; (try have q0 := Sep.Holds.cells hS_ (i := 0) rfl); (try have q1 := Sep.Holds.cells hS_ (i := 1) rfl); (try have q2 := Sep.Holds.cells hS_ (i := 2) rfl); (try have q3 := Sep.Holds.cells hS_ (i := 3) rfl); (try have q4 := Sep.Holds.cells hS_ (i := 4) rfl); (try have q5 := Sep.Holds.cells hS_ (i := 5) rfl); (try have q6 := Sep.Holds.cells hS_ (i := 6) rfl); first | ((first | (go_simp; (try rfl); done) | (obtain ⟨g0, g1⟩ := Hg.out.2 _ hS_; go_simp; (try rfl); done))) | (go_simp; try (first | rfl | exact (Bool.not_not _).symm)))
    try simp only [Act.put, List.setIfInBounds_toArray, List.set_cons_zero, List.set_cons_succ]
    refine wpL_q 7 ?_ rfl (Or.inl ⟨by rfl, fun w_ hS_ => ?_⟩) (marks 14 255) ?_
    rotate_left
    next => (go_simp; try (first | rfl | exact (Bool.not_not _).symm))
    try simp only [Act.put, List.setIfInBounds_toArray, List.set_cons_zero, List.set_cons_succ]
    refine wpL_q 8 ?_ rfl (Or.inl ⟨by rfl, fun w_ hS_ => ?_⟩) (marks 14 511) ?_
    rotate_left
    next => (go_simp; try (first | rfl | exact (Bool.not_not _).symm))
    try simp only [Act.put, List.setIfInBounds_toArray, List.set_cons_zero, List.set_cons_succ]
    refine wpL_q 9 ?_ rfl (Or.inl ⟨by rfl, fun w_ hS_ => ?_⟩) (marks 14 1023) ?_
    rotate_left
    next => (first | ((first | (go_simp; (try rfl); done) | (obtain ⟨g0, g1⟩ := Hg.out.2 _ hS_; go_simp; (try rfl); done))) | (go_simp; try (first | rfl | exact (Bool.not_not _).symm)))
    try simp only [Act.put, List.setIfInBounds_toArray, List.set_cons_zero, List.set_cons_succ]
    refine wpL_all (rs := [10, 12]) (by kernel_rfl) (by decide) ?_
    intro i hi
    simp only [List.mem_cons, List.not_mem_nil, or_false] at hi
    rcases hi with rfl | rfl
    focus
     refine ⟨_, _, rfl, by rfl, ?_⟩
     (go_simp; go_at_call 25; refine (Hnum.out _ _ hw).mono ?_; rintro _ w_ ⟨rfl, hw_⟩; subst hw_; (try simp only [List.map_cons, List.map_nil, List.getD_cons_zero, List.getD_cons_succ, List.getD_nil, List.set_cons_zero, List.set_cons_succ, List.cons_append, List.nil_append, Act.eval, Array.getD_eq_getD_getElem?, List.getElem?_toArray, List.getElem?_cons_succ, List.getElem?_cons_zero, Option.getD_some, Value.cells] at hw); (try simp (disch := first | (simp; done) | (simp; omega)) only [Sep.mid_set, Sep.mid_set2, Sep.mid_set0, Sep.mid_splice, Sep.mid_splice0, List.set_cons_zero, List.set_cons_succ] at hw); (try simp only [Sep.splice, List.take_succ_cons, List.take_zero, List.drop_succ_cons, List.drop_zero, List.length_cons, List.length_nil, Nat.reduceAdd, List.cons_append, List.nil_append] at hw))
     refine ⟨(SL.keep (by exact hw.sel [0] (by decide)) (SL.keep (by exact hw.sel [0] (by decide)) SL.nil)), ?_⟩
     try simp only [Act.put, List.setIfInBounds_toArray, List.set_cons_zero, List.set_cons_succ]
     refine wpL_q 11 ?_ rfl (Or.inl ⟨by rfl, fun w_ hS_ => ?_⟩) (marks 14 4095) ?_
     rotate_left
     next => (go_simp; try (first | rfl | exact (Bool.not_not _).symm))
     try simp only [Act.put, List.setIfInBounds_toArray, List.set_cons_zero, List.set_cons_succ]
     refine wpL_o 12 rfl (by rfl) (marks 14 8191) ?_
     (refine wp_alloc rfl hw ?_; intro b5_ w_ hw_; clear hw; have hw := hw_; clear hw_; (try simp only [List.map_cons, List.map_nil, List.getD_cons_zero, List.getD_cons_succ, List.getD_nil, List.set_cons_zero, List.set_cons_succ, List.cons_append, List.nil_append, Act.eval, Array.getD_eq_getD_getElem?, List.getElem?_toArray, List.getElem?_cons_succ, List.getElem?_cons_zero, Option.getD_some, Value.cells] at hw); (try simp (disch := first | (simp; done) | (simp; omega)) only [Sep.mid_set, Sep.mid_set2, Sep.mid_set0, Sep.mid_splice, Sep.mid_splice0, List.set_cons_zero, List.set_cons_succ] at hw); (try simp only [Sep.splice, List.take_succ_cons, List.take_zero, List.drop_succ_cons, List.drop_zero, List.length_cons, List.length_nil, Nat.reduceAdd, List.cons_append, List.nil_append] at hw); (try replace hc0 := Sep.Holds.cells hw (i := 0) rfl); (try replace hc1 := Sep.Holds.cells hw (i := 1) rfl); (try replace hc2 := Sep.Holds.cells hw (i := 2) rfl); (try replace hc3 := Sep.Holds.cells hw (i := 3) rfl); (try replace hc4 := Sep.Holds.cells hw (i := 4) rfl); (try replace hc5 := Sep.Holds.cells hw (i := 5) rfl); (try replace hc6 := Sep.Holds.cells hw (i := 6) rfl))
     refine ⟨(SL.keep (by exact hw.sel [0] (by decide)) (SL.keep (by exact hw.sel [0] (by decide)) SL.nil)), ?_⟩
     try simp only [Act.put, List.setIfInBounds_toArray, List.set_cons_zero, List.set_cons_succ]
     refine wpL_o 13 rfl (by rfl) (marks 14 16383) ?_
     (refine wp_storeAll (vs := [.int .i64 (IntKind.i64.wrap c0), .int .i64 (IntKind.i64.wrap c1), .int .i64 c2]) rfl rfl (by rfl) hw (i := 2) rfl rfl rfl (by simp [Value.oneCell']) ?_; intro w_ hw_; clear hw; have hw := hw_; clear hw_; (try simp only [List.map_cons, List.map_nil, List.getD_cons_zero, List.getD_cons_succ, List.getD_nil, List.set_cons_zero, List.set_cons_succ, List.cons_append, List.nil_append, Act.eval, Array.getD_eq_getD_getElem?, List.getElem?_toArray, List.getElem?_cons_succ, List.getElem?_cons_zero, Option.getD_some, Value.cells] at hw); (try simp (disch := first | (simp; done) | (simp; omega)) only [Sep.mid_set, Sep.mid_set2, Sep.mid_set0, Sep.mid_splice, Sep.mid_splice0, List.set_cons_zero, List.set_cons_succ] at hw); (try simp only [Sep.splice, List.take_succ_cons, List.take_zero, List.drop_succ_cons, List.drop_zero, List.length_cons, List.length_nil, Nat.reduceAdd, List.cons_append, List.nil_append] at hw); (try replace hc0 := Sep.Holds.cells hw (i := 0) rfl); (try replace hc1 := Sep.Holds.cells hw (i := 1) rfl); (try replace hc2 := Sep.Holds.cells hw (i := 2) rfl); (try replace hc3 := Sep.Holds.cells hw (i := 3) rfl); (try replace hc4 := Sep.Holds.cells hw (i := 4) rfl); (try replace hc5 := Sep.Holds.cells hw (i := 5) rfl); (try replace hc6 := Sep.Holds.cells hw (i := 6) rfl))
     refine ⟨(SL.drop 13 (by kernel_rfl) (SL.drop 13 (by kernel_rfl) SL.nil)), ?_⟩
     try simp only [Act.put, List.setIfInBounds_toArray, List.set_cons_zero, List.set_cons_succ]
     refine wpL_done (by kernel_rfl) ?_ _
     (replace hw := hw.sel [0, 1, 2] (by decide); (try simp only [List.map_cons, List.map_nil, List.getD_cons_zero, List.getD_cons_succ, List.getD_nil, List.set_cons_zero, List.set_cons_succ, List.cons_append, List.nil_append, Act.eval, Array.getD_eq_getD_getElem?, List.getElem?_toArray, List.getElem?_cons_succ, List.getElem?_cons_zero, Option.getD_some, Value.cells] at hw); (try simp (disch := first | (simp; done) | (simp; omega)) only [Sep.mid_set, Sep.mid_set2, Sep.mid_set0, Sep.mid_splice, Sep.mid_splice0, List.set_cons_zero, List.set_cons_succ] at hw); (try simp only [Sep.splice, List.take_succ_cons, List.take_zero, List.drop_succ_cons, List.drop_zero, List.length_cons, List.length_nil, Nat.reduceAdd, List.cons_append, List.nil_append] at hw))
    rotate_left 1
    focus
     refine ⟨_, _, rfl, by rfl, ?_⟩
     (refine wp_alloc rfl hw ?_; intro b5_ w_ hw_; clear hw; have hw := hw_; clear hw_; (try simp only [List.map_cons, List.map_nil, List.getD_cons_zero, List.getD_cons_succ, List.getD_nil, List.set_cons_zero, List.set_cons_succ, List.cons_append, List.nil_append, Act.eval, Array.getD_eq_getD_getElem?, List.getElem?_toArray, List.getElem?_cons_succ, List.getElem?_cons_zero, Option.getD_some, Value.cells] at hw); (try simp (disch := first | (simp; done) | (simp; omega)) only [Sep.mid_set, Sep.mid_set2, Sep.mid_set0, Sep.mid_splice, Sep.mid_splice0, List.set_cons_zero, List.set_cons_succ] at hw); (try simp only [Sep.splice, List.take_succ_cons, List.take_zero, List.drop_succ_cons, List.drop_zero, List.length_cons, List.length_nil, Nat.reduceAdd, List.cons_append, List.nil_append] at hw); (try replace hc0 := Sep.Holds.cells hw (i := 0) rfl); (try replace hc1 := Sep.Holds.cells hw (i := 1) rfl); (try replace hc2 := Sep.Holds.cells hw (i := 2) rfl); (try replace hc3 := Sep.Holds.cells hw (i := 3) rfl); (try replace hc4 := Sep.Holds.cells hw (i := 4) rfl); (try replace hc5 := Sep.Holds.cells hw (i := 5) rfl); (try replace hc6 := Sep.Holds.cells hw (i := 6) rfl))
     refine ⟨(SL.keep (by exact hw.sel [0] (by decide)) (SL.keep (by exact hw.sel [0] (by decide)) SL.nil)), ?_⟩
     try simp only [Act.put, List.setIfInBounds_toArray, List.set_cons_zero, List.set_cons_succ]
     refine wpL_o 10 rfl (by rfl) (marks 14 6143) ?_
     (go_simp; go_at_call 25; refine (Hnum.out _ _ hw).mono ?_; rintro _ w_ ⟨rfl, hw_⟩; subst hw_; (try simp only [List.map_cons, List.map_nil, List.getD_cons_zero, List.getD_cons_succ, List.getD_nil, List.set_cons_zero, List.set_cons_succ, List.cons_append, List.nil_append, Act.eval, Array.getD_eq_getD_getElem?, List.getElem?_toArray, List.getElem?_cons_succ, List.getElem?_cons_zero, Option.getD_some, Value.cells] at hw); (try simp (disch := first | (simp; done) | (simp; omega)) only [Sep.mid_set, Sep.mid_set2, Sep.mid_set0, Sep.mid_splice, Sep.mid_splice0, List.set_cons_zero, List.set_cons_succ] at hw); (try simp only [Sep.splice, List.take_succ_cons, List.take_zero, List.drop_succ_cons, List.drop_zero, List.length_cons, List.length_nil, Nat.reduceAdd, List.cons_append, List.nil_append] at hw))
     refine ⟨(SL.keep (by exact hw.sel [0] (by decide)) (SL.keep (by exact hw.sel [0] (by decide)) SL.nil)), ?_⟩
     try simp only [Act.put, List.setIfInBounds_toArray, List.set_cons_zero, List.set_cons_succ]
     refine wpL_q 11 ?_ rfl (Or.inl ⟨by rfl, fun w_ hS_ => ?_⟩) (marks 14 8191) ?_
     rotate_left
     next => (go_simp; try (first | rfl | exact (Bool.not_not _).symm))
     try simp only [Act.put, List.setIfInBounds_toArray, List.set_cons_zero, List.set_cons_succ]
     refine wpL_o 13 rfl (by rfl) (marks 14 16383) ?_
     (refine wp_storeAll (vs := [.int .i64 (IntKind.i64.wrap c0), .int .i64 (IntKind.i64.wrap c1), .int .i64 c2]) rfl rfl (by rfl) hw (i := 2) rfl rfl rfl (by simp [Value.oneCell']) ?_; intro w_ hw_; clear hw; have hw := hw_; clear hw_; (try simp only [List.map_cons, List.map_nil, List.getD_cons_zero, List.getD_cons_succ, List.getD_nil, List.set_cons_zero, List.set_cons_succ, List.cons_append, List.nil_append, Act.eval, Array.getD_eq_getD_getElem?, List.getElem?_toArray, List.getElem?_cons_succ, List.getElem?_cons_zero, Option.getD_some, Value.cells] at hw); (try simp (disch := first | (simp; done) | (simp; omega)) only [Sep.mid_set, Sep.mid_set2, Sep.mid_set0, Sep.mid_splice, Sep.mid_splice0, List.set_cons_zero, List.set_cons_succ] at hw); (try simp only [Sep.splice, List.take_succ_cons, List.take_zero, List.drop_succ_cons, List.drop_zero, List.length_cons, List.length_nil, Nat.reduceAdd, List.cons_append, List.nil_append] at hw); (try replace hc0 := Sep.Holds.cells hw (i := 0) rfl); (try replace hc1 := Sep.Holds.cells hw (i := 1) rfl); (try replace hc2 := Sep.Holds.cells hw (i := 2) rfl); (try replace hc3 := Sep.Holds.cells hw (i := 3) rfl); (try replace hc4 := Sep.Holds.cells hw (i := 4) rfl); (try replace hc5 := Sep.Holds.cells hw (i := 5) rfl); (try replace hc6 := Sep.Holds.cells hw (i := 6) rfl))
     refine ⟨(SL.drop 13 (by kernel_rfl) (SL.drop 13 (by kernel_rfl) SL.nil)), ?_⟩
     try simp only [Act.put, List.setIfInBounds_toArray, List.set_cons_zero, List.set_cons_succ]
     refine wpL_done (by kernel_rfl) ?_ _
     (replace hw := hw.sel [0, 1, 2] (by decide); (try simp only [List.map_cons, List.map_nil, List.getD_cons_zero, List.getD_cons_succ, List.getD_nil, List.set_cons_zero, List.set_cons_succ, List.cons_append, List.nil_append, Act.eval, Array.getD_eq_getD_getElem?, List.getElem?_toArray, List.getElem?_cons_succ, List.getElem?_cons_zero, Option.getD_some, Value.cells] at hw); (try simp (disch := first | (simp; done) | (simp; omega)) only [Sep.mid_set, Sep.mid_set2, Sep.mid_set0, Sep.mid_splice, Sep.mid_splice0, List.set_cons_zero, List.set_cons_succ] at hw); (try simp only [Sep.splice, List.take_succ_cons, List.take_zero, List.drop_succ_cons, List.drop_zero, List.length_cons, List.length_nil, Nat.reduceAdd, List.cons_append, List.nil_append] at hw))
    rotate_left 1
    all_goals
      rw [Hg.out.1.1, Hg.out.1.2] at hw
      (try clear hc0); (try clear hc1); (try clear hc2); (try clear hc3); (try clear hc4); (try clear hc5); (try clear hc6)
      (try replace hc0 := Sep.Holds.cells hw (i := 0) rfl); (try replace hc1 := Sep.Holds.cells hw (i := 1) rfl); (try replace hc2 := Sep.Holds.cells hw (i := 2) rfl); (try replace hc3 := Sep.Holds.cells hw (i := 3) rfl); (try replace hc4 := Sep.Holds.cells hw (i := 4) rfl); (try replace hc5 := Sep.Holds.cells hw (i := 5) rfl); (try replace hc6 := Sep.Holds.cells hw (i := 6) rfl)
      clear l0 l1 l2 l5
      obtain ⟨a2, ha2, hR2⟩ := rd_sliced (n := m) (c := c') (l := 10) HRk.out Hdl.out hm10 hmc
      have HR2 := Sep.hid hR2; clear hR2
      go_wp2_with (first | (refine wpList_on rfl (wp_of_run (v := sliced (some p) 10 m c' 1) (run_sliceFrom rfl rfl rfl hm10) ?_); (try simp only [Act.put, List.setIfInBounds_toArray, List.set_cons_zero, List.set_cons_succ]); rw [ha2]))
      refine (oItem ⟨c0, c1, c2⟩ e _ _ hw.focus0).mono ?_
      rintro _ w_ ⟨rfl, hw_⟩
      clear hw ha2; (try clear hc0); (try clear hc1); (try clear hc2); (try clear hc3); (try clear hc4); (try clear hc5); (try clear hc6); have hw := Holds.unfocus0 hw_; clear hw_
      (try simp only [List.map_cons, List.map_nil, List.getD_cons_zero, List.getD_cons_succ, List.getD_nil, List.set_cons_zero, List.set_cons_succ, List.cons_append, List.nil_append, Act.eval, Array.getD_eq_getD_getElem?, List.getElem?_toArray, List.getElem?_cons_succ, List.getElem?_cons_zero, Option.getD_some, Value.cells] at hw); (try simp (disch := first | (simp; done) | (simp; omega)) only [Sep.mid_set, Sep.mid_set2, Sep.mid_set0, Sep.mid_splice, Sep.mid_splice0, List.set_cons_zero, List.set_cons_succ] at hw); (try simp only [Sep.splice, List.take_succ_cons, List.take_zero, List.drop_succ_cons, List.drop_zero, List.length_cons, List.length_nil, Nat.reduceAdd, List.cons_append, List.nil_append] at hw); (try replace hc0 := Sep.Holds.cells hw (i := 0) rfl); (try replace hc1 := Sep.Holds.cells hw (i := 1) rfl); (try replace hc2 := Sep.Holds.cells hw (i := 2) rfl); (try replace hc3 := Sep.Holds.cells hw (i := 3) rfl); (try replace hc4 := Sep.Holds.cells hw (i := 4) rfl); (try replace hc5 := Sep.Holds.cells hw (i := 5) rfl); (try replace hc6 := Sep.Holds.cells hw (i := 6) rfl)
      cases hit : itemP ⟨c0, c1, c2⟩ with
      | false =>
        have Hp2 : Hid (itemsP b = ([], 7)) := Sep.hid (by
          rw [Hp.out, if_neg]
          rintro ⟨hall, _⟩
          have hk1 : (readI b N)[k]? = some ⟨c0, c1, c2⟩ := by
            have h1 : (readI b (k + 1))[k]? = some ⟨c0, c1, c2⟩ := by
              rw [Hsn.out, List.getElem?_append_right (by rw [readI_len]; exact Nat.le_refl _), readI_len, Nat.sub_self]; rfl
            unfold readI at h1 ⊢
            rw [List.getElem?_map, List.getElem?_range (by have := Hmk.out; have := HnN.out; omega)] at h1 ⊢
            exact h1
          have := List.all_eq_true.1 hall _ (List.mem_of_getElem? hk1)
          rw [hit] at this; cases this)
        clear Hp hit
        go_wp2_with fail
        refine HP.out _ _ ⟨.slice none 0 0, by rw [Hp2.out]; rfl, ?_⟩
        rw [Hp2.out]
        exact (hw.sel [0] (by decide)).addEmp (Sl.nil _ _ _)
      | true =>
        have Hit := Sep.hid hit; clear hit
        go_wp2_with (first | (refine wpList_on rfl (wp_bsl1 rfl rfl (by rfl) (by rfl) (by decide) hw ?_); intro b_ w_ hw_; clear hw; have hw := hw_; clear hw_; (try simp only [List.map_cons, List.map_nil, List.getD_cons_zero, List.getD_cons_succ, List.getD_nil, List.set_cons_zero, List.set_cons_succ, List.cons_append, List.nil_append, Act.eval, Array.getD_eq_getD_getElem?, List.getElem?_toArray, List.getElem?_cons_succ, List.getElem?_cons_zero, Option.getD_some, Value.cells] at hw); (try simp (disch := first | (simp; done) | (simp; omega)) only [Sep.mid_set, Sep.mid_set2, Sep.mid_set0, Sep.mid_splice, Sep.mid_splice0, List.set_cons_zero, List.set_cons_succ] at hw); (try simp only [Sep.splice, List.take_succ_cons, List.take_zero, List.drop_succ_cons, List.drop_zero, List.length_cons, List.length_nil, Nat.reduceAdd, List.cons_append, List.nil_append] at hw); (try replace hc0 := Sep.Holds.cells hw (i := 0) rfl); (try replace hc1 := Sep.Holds.cells hw (i := 1) rfl); (try replace hc2 := Sep.Holds.cells hw (i := 2) rfl); (try replace hc3 := Sep.Holds.cells hw (i := 3) rfl); (try replace hc4 := Sep.Holds.cells hw (i := 4) rfl); (try replace hc5 := Sep.Holds.cells hw (i := 5) rfl); (try replace hc6 := Sep.Holds.cells hw (i := 6) rfl)) | (at_builtin; refine wpList_on rfl (wp_appendPt (i := 1) (j := 3) rfl rfl hw rfl rfl rfl (by rfl) (by simp [Value.oneCell']) (by decide) (by rfl) (by (try unfold maxLen); omega) (by (try unfold maxLen); omega) ?_); intro b2_ cap2_ off2_ w_ hcap2_ hw_; clear hw; have hw := hw_; clear hw_; (try simp only [List.map_cons, List.map_nil, List.getD_cons_zero, List.getD_cons_succ, List.getD_nil, List.set_cons_zero, List.set_cons_succ, List.cons_append, List.nil_append, Act.eval, Array.getD_eq_getD_getElem?, List.getElem?_toArray, List.getElem?_cons_succ, List.getElem?_cons_zero, Option.getD_some, Value.cells] at hw); (try simp (disch := first | (simp; done) | (simp; omega)) only [Sep.mid_set, Sep.mid_set2, Sep.mid_set0, Sep.mid_splice, Sep.mid_splice0, List.set_cons_zero, List.set_cons_succ] at hw); (try simp only [Sep.splice, List.take_succ_cons, List.take_zero, List.drop_succ_cons, List.drop_zero, List.length_cons, List.length_nil, Nat.reduceAdd, List.cons_append, List.nil_append] at hw); (try replace hc0 := Sep.Holds.cells hw (i := 0) rfl); (try replace hc1 := Sep.Holds.cells hw (i := 1) rfl); (try replace hc2 := Sep.Holds.cells hw (i := 2) rfl); (try replace hc3 := Sep.Holds.cells hw (i := 3) rfl); (try replace hc4 := Sep.Holds.cells hw (i := 4) rfl); (try replace hc5 := Sep.Holds.cells hw (i := 5) rfl); (try replace hc6 := Sep.Holds.cells hw (i := 6) rfl)))
        go_roundw
        case rel =>
          refine ⟨k + 1, m - 10, c' - 10, a2, by have := Hmk.out; omega, rfl, by omega, Sep.hid (by rw [Hc3.out]; exact HR2.out), Sep.hid (by rw [Hsn.out, List.all_append, Hall.out]; simp [Hit.out]), ?_⟩
          rw [Hsn.out, encTs_snoc, ← HA.out]
          exact hw.sel [0, 1] (by decide)
        case measure => simp only [lenOfV]; omega
end Go.Proofs.YteinbojpmhblkaaDoor
/-
  The walk of Read of a script, the program's.
-/
namespace Go.Proofs.YteinbojpmhblkaaDoor
set_option linter.unusedSimpArgs false
set_option linter.unusedVariables false
open Go.RowKit Go.Sep
set_option maxRecDepth 20000

theorem sepL_none {L : List HProp} (h : ∀ P ∈ L, P fun _ => none) : sepL L fun _ => none :=
  ⟨fun _ _ => none, fun i P hi => h P (List.mem_of_getElem? hi), fun _ _ _ _ hb => absurd rfl hb, fun _ _ _ hb => by cases hb⟩
theorem IsPs_nil (TP TA : TypeId) : IsPs TP TA none 0 [] [] fun _ => none := by
  refine sepL_none ?_
  intro P hP
  simp only [List.mem_cons, List.not_mem_nil, or_false] at hP
  rcases hP with rfl | rfl
  · exact Sl.nil _ _ _
  · exact sepL_none (by intro P hP; cases hP)
/-- A script that was read, and what is told. -/
def GotS (TP TA TI : TypeId) (r : Scr × Int) (en : Ending) (e w' : World) (X : HProp) : Prop :=
  ∃ (pa : Option Addr) (pc : Nat) (ia : Option Addr) (ic : Nat) (hs : List Hd), hs.length = r.1.ps.length ∧ en = .returned (.tuple #[.agg (scrV r.1 pa pc ia ic).toArray, .int .i64 r.2]) ∧ Holds e w' [X, IsPs TP TA pa pc hs r.1.ps, Sl TI 3 (.slice ia r.1.is.length ic) r.1.is.length (encTs r.1.is)]
theorem got_no {TP TA TI : TypeId} {r : Scr × Int} {er : Int} {e w' : World} {X : HProp} (hr : r = (scr0, er)) (hw : Holds e w' [X]) : GotS TP TA TI r (.returned (.tuple #[.agg #[.int .i64 0, .int .i64 0, .int .i64 0, .int .i64 0, .slice none 0 0, .slice none 0 0], .int .i64 er])) e w' X := by
  subst hr
  exact ⟨none, 0, none, 0, [], rfl, rfl, (hw.addEmp (X := IsPs TP TA none 0 [] []) (IsPs_nil TP TA)).addEmp (Sl.nil _ _ _)⟩
def catP (ps : List (List Deed)) (d : Nat) (q : List (List Deed) × Nat × Int) : List (List Deed) × Nat × Int := (ps ++ q.1, d + q.2.1, q.2.2)
theorem readPs_step {k : Nat} {d : List Int} {p : List Deed} {n : Nat} (h : readP d = (p, (n : Int), 0)) : readPs (k + 1) d = catP [p] n (readPs k (d.drop n)) := by
  rw [readPs, h]; simp [catP]
theorem catP_catP (ps qs : List (List Deed)) (d d2 : Nat) (q : List (List Deed) × Nat × Int) : catP ps d (catP qs d2 q) = catP (ps ++ qs) (d + d2) q := by
  unfold catP; simp [Nat.add_assoc]
theorem readPs_err {k : Nat} {d : List Int} (h : (readP d).2.2 ≠ 0) : readPs (k + 1) d = ([], 0, (readP d).2.2) := by
  rw [readPs, if_neg h]
def roomsC (q0 q1 q2 q3 : Int) : Nat → List Value
  | 0 => [.int .i64 0, .int .i64 0, .int .i64 0, .int .i64 0, .slice none 0 0, .slice none 0 0]
  | 1 => [.int .i64 q0, .int .i64 0, .int .i64 0, .int .i64 0, .slice none 0 0, .slice none 0 0]
  | 2 => [.int .i64 q0, .int .i64 q1, .int .i64 0, .int .i64 0, .slice none 0 0, .slice none 0 0]
  | 3 => [.int .i64 q0, .int .i64 q1, .int .i64 q2, .int .i64 0, .slice none 0 0, .slice none 0 0]
  | _ => [.int .i64 q0, .int .i64 q1, .int .i64 q2, .int .i64 q3, .slice none 0 0, .slice none 0 0]
def qOk (q0 q1 q2 q3 : Int) (k : Nat) : Prop := (0 < k → 0 ≤ q0) ∧ (1 < k → 0 ≤ q1) ∧ (2 < k → 0 ≤ q2) ∧ (3 < k → 0 ≤ q3)
set_option maxHeartbeats 16000000 in
theorem oReadS (b : List Int) (n ca : Nat) (a : Option Addr) (hn : Hid (b.length = n)) (hca : n ≤ ca) (hb : Bys b) (e w : World) (X : HProp) (hT : Tops e X) (hR : RdB e X a b) (hw : Holds e w [X]) :
    Calls Tryd.prog 11 #[.slice a n ca] w fun en w' => GotS 57 56 23 (readS b) en e w' X := by
  have HR := Sep.hid hR; clear hR
  have HT := Sep.hid hT; clear hT
  have Hb := Sep.hid hb; clear hb
  by_cases h1 : (4000 : Int) < n
  · have Hp : Hid (readS b = (scr0, 9)) := Sep.hid (by unfold readS; rw [if_pos (by rw [hn.out]; omega)])
    refine Sep.calls_post ?_
    intro Post_ hPost_
    have HP := Sep.hid hPost_
    clear hPost_
    go_enter Tryd.func11, Tryd.ntmps11
    go_wp2_with (first | (refine wpList_on rfl (wp_alloc rfl hw ?_); intro b2_ w_ hw_; clear hw; have hw := hw_; clear hw_; (try simp only [List.map_cons, List.map_nil, List.getD_cons_zero, List.getD_cons_succ, List.getD_nil, List.set_cons_zero, List.set_cons_succ, List.cons_append, List.nil_append, Act.eval, Array.getD_eq_getD_getElem?, List.getElem?_toArray, List.getElem?_cons_succ, List.getElem?_cons_zero, Option.getD_some, Value.cells] at hw); (try simp (disch := first | (simp; done) | (simp; omega)) only [Sep.mid_set, Sep.mid_set2, Sep.mid_set0, Sep.mid_splice, Sep.mid_splice0, List.set_cons_zero, List.set_cons_succ] at hw); (try simp only [Sep.splice, List.take_succ_cons, List.take_zero, List.drop_succ_cons, List.drop_zero, List.length_cons, List.length_nil, Nat.reduceAdd, List.cons_append, List.nil_append] at hw); (try replace hc0 := Sep.Holds.cells hw (i := 0) rfl); (try replace hc1 := Sep.Holds.cells hw (i := 1) rfl); (try replace hc2 := Sep.Holds.cells hw (i := 2) rfl); (try replace hc3 := Sep.Holds.cells hw (i := 3) rfl); (try replace hc4 := Sep.Holds.cells hw (i := 4) rfl); (try replace hc5 := Sep.Holds.cells hw (i := 5) rfl); (try replace hc6 := Sep.Holds.cells hw (i := 6) rfl)) | (refine wpList_on rfl (wp_storeAll (vs := [.int .i64 0, .int .i64 0, .int .i64 0, .int .i64 0, .slice none 0 0, .slice none 0 0]) rfl rfl (by rfl) hw (i := 1) rfl rfl rfl (by simp [Value.oneCell']) ?_); intro w_ hw_; clear hw; have hw := hw_; clear hw_; (try simp only [List.map_cons, List.map_nil, List.getD_cons_zero, List.getD_cons_succ, List.getD_nil, List.set_cons_zero, List.set_cons_succ, List.cons_append, List.nil_append, Act.eval, Array.getD_eq_getD_getElem?, List.getElem?_toArray, List.getElem?_cons_succ, List.getElem?_cons_zero, Option.getD_some, Value.cells] at hw); (try simp (disch := first | (simp; done) | (simp; omega)) only [Sep.mid_set, Sep.mid_set2, Sep.mid_set0, Sep.mid_splice, Sep.mid_splice0, List.set_cons_zero, List.set_cons_succ] at hw); (try simp only [Sep.splice, List.take_succ_cons, List.take_zero, List.drop_succ_cons, List.drop_zero, List.length_cons, List.length_nil, Nat.reduceAdd, List.cons_append, List.nil_append] at hw); (try replace hc0 := Sep.Holds.cells hw (i := 0) rfl); (try replace hc1 := Sep.Holds.cells hw (i := 1) rfl); (try replace hc2 := Sep.Holds.cells hw (i := 2) rfl); (try replace hc3 := Sep.Holds.cells hw (i := 3) rfl); (try replace hc4 := Sep.Holds.cells hw (i := 4) rfl); (try replace hc5 := Sep.Holds.cells hw (i := 5) rfl); (try replace hc6 := Sep.Holds.cells hw (i := 6) rfl)))
    refine bodyPost_ret (v := .tuple #[.agg #[.int .i64 0, .int .i64 0, .int .i64 0, .int .i64 0, .slice none 0 0, .slice none 0 0], .int .i64 9]) (res_cell_tmp (ty := 28) rfl rfl rfl hw (i := 1) rfl rfl) rfl ?_
    exact HP.out _ _ (got_no Hp.out (hw.sel [0] (by decide)))
  by_cases h2 : (n : Int) ≤ 32
  · have Hp : Hid (readS b = (scr0, 8)) := Sep.hid (by unfold readS; rw [if_neg (by rw [hn.out]; omega), if_pos (by rw [hn.out]; omega)])
    refine Sep.calls_post ?_
    intro Post_ hPost_
    have HP := Sep.hid hPost_
    clear hPost_
    go_enter Tryd.func11, Tryd.ntmps11
    go_wp2_with (first | (refine wpList_on rfl (wp_alloc rfl hw ?_); intro b2_ w_ hw_; clear hw; have hw := hw_; clear hw_; (try simp only [List.map_cons, List.map_nil, List.getD_cons_zero, List.getD_cons_succ, List.getD_nil, List.set_cons_zero, List.set_cons_succ, List.cons_append, List.nil_append, Act.eval, Array.getD_eq_getD_getElem?, List.getElem?_toArray, List.getElem?_cons_succ, List.getElem?_cons_zero, Option.getD_some, Value.cells] at hw); (try simp (disch := first | (simp; done) | (simp; omega)) only [Sep.mid_set, Sep.mid_set2, Sep.mid_set0, Sep.mid_splice, Sep.mid_splice0, List.set_cons_zero, List.set_cons_succ] at hw); (try simp only [Sep.splice, List.take_succ_cons, List.take_zero, List.drop_succ_cons, List.drop_zero, List.length_cons, List.length_nil, Nat.reduceAdd, List.cons_append, List.nil_append] at hw); (try replace hc0 := Sep.Holds.cells hw (i := 0) rfl); (try replace hc1 := Sep.Holds.cells hw (i := 1) rfl); (try replace hc2 := Sep.Holds.cells hw (i := 2) rfl); (try replace hc3 := Sep.Holds.cells hw (i := 3) rfl); (try replace hc4 := Sep.Holds.cells hw (i := 4) rfl); (try replace hc5 := Sep.Holds.cells hw (i := 5) rfl); (try replace hc6 := Sep.Holds.cells hw (i := 6) rfl)) | (refine wpList_on rfl (wp_storeAll (vs := [.int .i64 0, .int .i64 0, .int .i64 0, .int .i64 0, .slice none 0 0, .slice none 0 0]) rfl rfl (by rfl) hw (i := 1) rfl rfl rfl (by simp [Value.oneCell']) ?_); intro w_ hw_; clear hw; have hw := hw_; clear hw_; (try simp only [List.map_cons, List.map_nil, List.getD_cons_zero, List.getD_cons_succ, List.getD_nil, List.set_cons_zero, List.set_cons_succ, List.cons_append, List.nil_append, Act.eval, Array.getD_eq_getD_getElem?, List.getElem?_toArray, List.getElem?_cons_succ, List.getElem?_cons_zero, Option.getD_some, Value.cells] at hw); (try simp (disch := first | (simp; done) | (simp; omega)) only [Sep.mid_set, Sep.mid_set2, Sep.mid_set0, Sep.mid_splice, Sep.mid_splice0, List.set_cons_zero, List.set_cons_succ] at hw); (try simp only [Sep.splice, List.take_succ_cons, List.take_zero, List.drop_succ_cons, List.drop_zero, List.length_cons, List.length_nil, Nat.reduceAdd, List.cons_append, List.nil_append] at hw); (try replace hc0 := Sep.Holds.cells hw (i := 0) rfl); (try replace hc1 := Sep.Holds.cells hw (i := 1) rfl); (try replace hc2 := Sep.Holds.cells hw (i := 2) rfl); (try replace hc3 := Sep.Holds.cells hw (i := 3) rfl); (try replace hc4 := Sep.Holds.cells hw (i := 4) rfl); (try replace hc5 := Sep.Holds.cells hw (i := 5) rfl); (try replace hc6 := Sep.Holds.cells hw (i := 6) rfl)))
    refine bodyPost_ret (v := .tuple #[.agg #[.int .i64 0, .int .i64 0, .int .i64 0, .int .i64 0, .slice none 0 0, .slice none 0 0], .int .i64 8]) (res_cell_tmp (ty := 28) rfl rfl rfl hw (i := 1) rfl rfl) rfl ?_
    exact HP.out _ _ (got_no Hp.out (hw.sel [0] (by decide)))
  obtain ⟨p, rfl⟩ : ∃ p, a = some p := by
    obtain ⟨p, hp, _⟩ := HR.out _ _ 0 hw rfl 0 _ (List.getElem?_eq_getElem (by rw [hn.out]; omega))
    exact ⟨p, hp⟩
  obtain ⟨q0, hq0⟩ : ∃ q0, Hid (roomAt b 0 = q0) := ⟨_, Sep.hid rfl⟩
  obtain ⟨q1, hq1⟩ : ∃ q1, Hid (roomAt b 1 = q1) := ⟨_, Sep.hid rfl⟩
  obtain ⟨q2, hq2⟩ : ∃ q2, Hid (roomAt b 2 = q2) := ⟨_, Sep.hid rfl⟩
  obtain ⟨q3, hq3⟩ : ∃ q3, Hid (roomAt b 3 = q3) := ⟨_, Sep.hid rfl⟩
  refine Sep.calls_post ?_
  intro Post_ hPost_
  have HP := Sep.hid hPost_
  clear hPost_
  go_enter Tryd.func11, Tryd.ntmps11
  go_wp2_with (first | (refine wpList_on rfl (wp_alloc rfl hw ?_); intro bn_ w_ hw_; clear hw; have hw := hw_; clear hw_; (try simp only [List.map_cons, List.map_nil, List.getD_cons_zero, List.getD_cons_succ, List.getD_nil, List.set_cons_zero, List.set_cons_succ, List.cons_append, List.nil_append, Act.eval, Array.getD_eq_getD_getElem?, List.getElem?_toArray, List.getElem?_cons_succ, List.getElem?_cons_zero, Option.getD_some, Value.cells] at hw); (try simp (disch := first | (simp; done) | (simp; omega)) only [Sep.mid_set, Sep.mid_set2, Sep.mid_set0, Sep.mid_splice, Sep.mid_splice0, List.set_cons_zero, List.set_cons_succ] at hw); (try simp only [Sep.splice, List.take_succ_cons, List.take_zero, List.drop_succ_cons, List.drop_zero, List.length_cons, List.length_nil, Nat.reduceAdd, List.cons_append, List.nil_append] at hw); (try replace hc0 := Sep.Holds.cells hw (i := 0) rfl); (try replace hc1 := Sep.Holds.cells hw (i := 1) rfl); (try replace hc2 := Sep.Holds.cells hw (i := 2) rfl); (try replace hc3 := Sep.Holds.cells hw (i := 3) rfl); (try replace hc4 := Sep.Holds.cells hw (i := 4) rfl); (try replace hc5 := Sep.Holds.cells hw (i := 5) rfl); (try replace hc6 := Sep.Holds.cells hw (i := 6) rfl)))
  rename_i b1_ w1_ K1_ h1_
  have Hw0 := Sep.hid hw; clear hw; (try clear hc0); (try clear hc1); (try clear hc2); (try clear hc3); (try clear hc4); (try clear hc5); (try clear hc6)
  go_loopw [25] (fun i wr => ∃ k : Nat, k ≤ 4 ∧ i = .int .i64 k ∧ Hid (qOk q0 q1 q2 q3 k) ∧ Holds e wr [X, pt b1_ [.int .i64 0, .int .i64 0, .int .i64 0, .int .i64 0, .slice none 0 0, .slice none 0 0] 28, pt bn_ (roomsC q0 q1 q2 q3 k) 28]) (fun i _ => 4 - (intOf i).toNat)
  case atStart => exact ⟨0, Nat.zero_le _, rfl, Sep.hid (by unfold qOk; omega), Hw0.out⟩
  case round =>
    clear Hw0
    obtain ⟨k, hk, hi, Ho, hw⟩ := hrel
    match k, hk with
    | 0, _ =>
      obtain rfl : u25 = .int .i64 0 := hi
      simp only [roomsC] at hw
      (try replace hc0 := Sep.Holds.cells hw (i := 0) rfl); (try replace hc1 := Sep.Holds.cells hw (i := 1) rfl); (try replace hc2 := Sep.Holds.cells hw (i := 2) rfl); (try replace hc3 := Sep.Holds.cells hw (i := 3) rfl); (try replace hc4 := Sep.Holds.cells hw (i := 4) rfl); (try replace hc5 := Sep.Holds.cells hw (i := 5) rfl); (try replace hc6 := Sep.Holds.cells hw (i := 6) rfl)
      obtain ⟨a2, ha2, hR2⟩ := rd_sliced (n := n) (c := ca) (l := 0) HR.out hn.out (by omega) hca
      have HR2 := Sep.hid hR2; clear hR2
      have hnum : numP ((b.drop 0).take 8) = q0 := hq0.out
      have Hnum := Sep.hid hnum; clear hnum
      go_wp2_with (first | (refine wpList_on rfl (wp_of_run (v := sliced (some p) 0 n ca 1) (run_sliceFrom (l := 0) rfl rfl rfl (by omega)) ?_); (try simp only [Act.put, List.setIfInBounds_toArray, List.set_cons_zero, List.set_cons_succ]); rw [ha2]))
      refine (oNum a2 (b.drop 0) (n - 0) (ca - 0) (by omega) (Sep.hid (by rw [List.length_drop, hn.out])) (by omega) (Hb.out.drop _) _ (HR2.out _ _ 0 hw rfl)).mono ?_
      rintro _ w2_ ⟨rfl, hw2_⟩; subst hw2_
      rw [Hnum.out]
      clear ha2
      by_cases hneg : q0 < 0
      · have Hp : Hid (readS b = (scr0, 7)) := Sep.hid (by unfold readS; rw [if_neg (by rw [hn.out]; omega), if_neg (by rw [hn.out]; omega), if_pos]; rw [hq0.out, hq1.out, hq2.out, hq3.out]; omega)
        go_wp2_with (first | (refine wpList_on rfl (wp_store1 (v := _) (off := 0) rfl rfl rfl hw (i := 2) rfl (show 0 < 6 by decide) rfl ?_); intro w_ hw_; clear hw; have hw := hw_; clear hw_; (try simp only [List.map_cons, List.map_nil, List.getD_cons_zero, List.getD_cons_succ, List.getD_nil, List.set_cons_zero, List.set_cons_succ, List.cons_append, List.nil_append, Act.eval, Array.getD_eq_getD_getElem?, List.getElem?_toArray, List.getElem?_cons_succ, List.getElem?_cons_zero, Option.getD_some, Value.cells] at hw); (try simp (disch := first | (simp; done) | (simp; omega)) only [Sep.mid_set, Sep.mid_set2, Sep.mid_set0, Sep.mid_splice, Sep.mid_splice0, List.set_cons_zero, List.set_cons_succ] at hw); (try simp only [Sep.splice, List.take_succ_cons, List.take_zero, List.drop_succ_cons, List.drop_zero, List.length_cons, List.length_nil, Nat.reduceAdd, List.cons_append, List.nil_append] at hw); (try replace hc0 := Sep.Holds.cells hw (i := 0) rfl); (try replace hc1 := Sep.Holds.cells hw (i := 1) rfl); (try replace hc2 := Sep.Holds.cells hw (i := 2) rfl); (try replace hc3 := Sep.Holds.cells hw (i := 3) rfl); (try replace hc4 := Sep.Holds.cells hw (i := 4) rfl); (try replace hc5 := Sep.Holds.cells hw (i := 5) rfl); (try replace hc6 := Sep.Holds.cells hw (i := 6) rfl)) | (refine wpList_on rfl (wp_storeAll (vs := [.int .i64 0, .int .i64 0, .int .i64 0, .int .i64 0, .slice none 0 0, .slice none 0 0]) rfl rfl (by rfl) hw (i := 1) rfl rfl rfl (by simp [Value.oneCell']) ?_); intro w_ hw_; clear hw; have hw := hw_; clear hw_; (try simp only [List.map_cons, List.map_nil, List.getD_cons_zero, List.getD_cons_succ, List.getD_nil, List.set_cons_zero, List.set_cons_succ, List.cons_append, List.nil_append, Act.eval, Array.getD_eq_getD_getElem?, List.getElem?_toArray, List.getElem?_cons_succ, List.getElem?_cons_zero, Option.getD_some, Value.cells] at hw); (try simp (disch := first | (simp; done) | (simp; omega)) only [Sep.mid_set, Sep.mid_set2, Sep.mid_set0, Sep.mid_splice, Sep.mid_splice0, List.set_cons_zero, List.set_cons_succ] at hw); (try simp only [Sep.splice, List.take_succ_cons, List.take_zero, List.drop_succ_cons, List.drop_zero, List.length_cons, List.length_nil, Nat.reduceAdd, List.cons_append, List.nil_append] at hw); (try replace hc0 := Sep.Holds.cells hw (i := 0) rfl); (try replace hc1 := Sep.Holds.cells hw (i := 1) rfl); (try replace hc2 := Sep.Holds.cells hw (i := 2) rfl); (try replace hc3 := Sep.Holds.cells hw (i := 3) rfl); (try replace hc4 := Sep.Holds.cells hw (i := 4) rfl); (try replace hc5 := Sep.Holds.cells hw (i := 5) rfl); (try replace hc6 := Sep.Holds.cells hw (i := 6) rfl)))
        refine bodyPost_ret (v := .tuple #[.agg #[.int .i64 0, .int .i64 0, .int .i64 0, .int .i64 0, .slice none 0 0, .slice none 0 0], .int .i64 7]) (res_cell_tmp (ty := 28) rfl rfl rfl hw (i := 1) rfl rfl) rfl ?_
        exact HP.out _ _ (got_no Hp.out (hw.sel [0] (by decide)))
      · have Ho2 : Hid (qOk q0 q1 q2 q3 (0 + 1)) := Sep.hid (by have := Ho.out; unfold qOk at *; omega)
        go_wp2_with (first | (refine wpList_on rfl (wp_store1 (v := _) (off := 0) rfl rfl rfl hw (i := 2) rfl (show 0 < 6 by decide) rfl ?_); intro w_ hw_; clear hw; have hw := hw_; clear hw_; (try simp only [List.map_cons, List.map_nil, List.getD_cons_zero, List.getD_cons_succ, List.getD_nil, List.set_cons_zero, List.set_cons_succ, List.cons_append, List.nil_append, Act.eval, Array.getD_eq_getD_getElem?, List.getElem?_toArray, List.getElem?_cons_succ, List.getElem?_cons_zero, Option.getD_some, Value.cells] at hw); (try simp (disch := first | (simp; done) | (simp; omega)) only [Sep.mid_set, Sep.mid_set2, Sep.mid_set0, Sep.mid_splice, Sep.mid_splice0, List.set_cons_zero, List.set_cons_succ] at hw); (try simp only [Sep.splice, List.take_succ_cons, List.take_zero, List.drop_succ_cons, List.drop_zero, List.length_cons, List.length_nil, Nat.reduceAdd, List.cons_append, List.nil_append] at hw); (try replace hc0 := Sep.Holds.cells hw (i := 0) rfl); (try replace hc1 := Sep.Holds.cells hw (i := 1) rfl); (try replace hc2 := Sep.Holds.cells hw (i := 2) rfl); (try replace hc3 := Sep.Holds.cells hw (i := 3) rfl); (try replace hc4 := Sep.Holds.cells hw (i := 4) rfl); (try replace hc5 := Sep.Holds.cells hw (i := 5) rfl); (try replace hc6 := Sep.Holds.cells hw (i := 6) rfl)))
        go_roundw
        case rel => exact ⟨0 + 1, by decide, rfl, Ho2, hw⟩
        case measure => simp [intOf]
    | 1, _ =>
      obtain rfl : u25 = .int .i64 1 := hi
      simp only [roomsC] at hw
      (try replace hc0 := Sep.Holds.cells hw (i := 0) rfl); (try replace hc1 := Sep.Holds.cells hw (i := 1) rfl); (try replace hc2 := Sep.Holds.cells hw (i := 2) rfl); (try replace hc3 := Sep.Holds.cells hw (i := 3) rfl); (try replace hc4 := Sep.Holds.cells hw (i := 4) rfl); (try replace hc5 := Sep.Holds.cells hw (i := 5) rfl); (try replace hc6 := Sep.Holds.cells hw (i := 6) rfl)
      obtain ⟨a2, ha2, hR2⟩ := rd_sliced (n := n) (c := ca) (l := 8) HR.out hn.out (by omega) hca
      have HR2 := Sep.hid hR2; clear hR2
      have hnum : numP ((b.drop 8).take 8) = q1 := hq1.out
      have Hnum := Sep.hid hnum; clear hnum
      go_wp2_with (first | (refine wpList_on rfl (wp_of_run (v := sliced (some p) 8 n ca 1) (run_sliceFrom (l := 8) rfl rfl rfl (by omega)) ?_); (try simp only [Act.put, List.setIfInBounds_toArray, List.set_cons_zero, List.set_cons_succ]); rw [ha2]))
      refine (oNum a2 (b.drop 8) (n - 8) (ca - 8) (by omega) (Sep.hid (by rw [List.length_drop, hn.out])) (by omega) (Hb.out.drop _) _ (HR2.out _ _ 0 hw rfl)).mono ?_
      rintro _ w2_ ⟨rfl, hw2_⟩; subst hw2_
      rw [Hnum.out]
      clear ha2
      by_cases hneg : q1 < 0
      · have Hp : Hid (readS b = (scr0, 7)) := Sep.hid (by unfold readS; rw [if_neg (by rw [hn.out]; omega), if_neg (by rw [hn.out]; omega), if_pos]; rw [hq0.out, hq1.out, hq2.out, hq3.out]; omega)
        go_wp2_with (first | (refine wpList_on rfl (wp_store1 (v := _) (off := 1) rfl rfl rfl hw (i := 2) rfl (show 1 < 6 by decide) rfl ?_); intro w_ hw_; clear hw; have hw := hw_; clear hw_; (try simp only [List.map_cons, List.map_nil, List.getD_cons_zero, List.getD_cons_succ, List.getD_nil, List.set_cons_zero, List.set_cons_succ, List.cons_append, List.nil_append, Act.eval, Array.getD_eq_getD_getElem?, List.getElem?_toArray, List.getElem?_cons_succ, List.getElem?_cons_zero, Option.getD_some, Value.cells] at hw); (try simp (disch := first | (simp; done) | (simp; omega)) only [Sep.mid_set, Sep.mid_set2, Sep.mid_set0, Sep.mid_splice, Sep.mid_splice0, List.set_cons_zero, List.set_cons_succ] at hw); (try simp only [Sep.splice, List.take_succ_cons, List.take_zero, List.drop_succ_cons, List.drop_zero, List.length_cons, List.length_nil, Nat.reduceAdd, List.cons_append, List.nil_append] at hw); (try replace hc0 := Sep.Holds.cells hw (i := 0) rfl); (try replace hc1 := Sep.Holds.cells hw (i := 1) rfl); (try replace hc2 := Sep.Holds.cells hw (i := 2) rfl); (try replace hc3 := Sep.Holds.cells hw (i := 3) rfl); (try replace hc4 := Sep.Holds.cells hw (i := 4) rfl); (try replace hc5 := Sep.Holds.cells hw (i := 5) rfl); (try replace hc6 := Sep.Holds.cells hw (i := 6) rfl)) | (refine wpList_on rfl (wp_storeAll (vs := [.int .i64 0, .int .i64 0, .int .i64 0, .int .i64 0, .slice none 0 0, .slice none 0 0]) rfl rfl (by rfl) hw (i := 1) rfl rfl rfl (by simp [Value.oneCell']) ?_); intro w_ hw_; clear hw; have hw := hw_; clear hw_; (try simp only [List.map_cons, List.map_nil, List.getD_cons_zero, List.getD_cons_succ, List.getD_nil, List.set_cons_zero, List.set_cons_succ, List.cons_append, List.nil_append, Act.eval, Array.getD_eq_getD_getElem?, List.getElem?_toArray, List.getElem?_cons_succ, List.getElem?_cons_zero, Option.getD_some, Value.cells] at hw); (try simp (disch := first | (simp; done) | (simp; omega)) only [Sep.mid_set, Sep.mid_set2, Sep.mid_set0, Sep.mid_splice, Sep.mid_splice0, List.set_cons_zero, List.set_cons_succ] at hw); (try simp only [Sep.splice, List.take_succ_cons, List.take_zero, List.drop_succ_cons, List.drop_zero, List.length_cons, List.length_nil, Nat.reduceAdd, List.cons_append, List.nil_append] at hw); (try replace hc0 := Sep.Holds.cells hw (i := 0) rfl); (try replace hc1 := Sep.Holds.cells hw (i := 1) rfl); (try replace hc2 := Sep.Holds.cells hw (i := 2) rfl); (try replace hc3 := Sep.Holds.cells hw (i := 3) rfl); (try replace hc4 := Sep.Holds.cells hw (i := 4) rfl); (try replace hc5 := Sep.Holds.cells hw (i := 5) rfl); (try replace hc6 := Sep.Holds.cells hw (i := 6) rfl)))
        refine bodyPost_ret (v := .tuple #[.agg #[.int .i64 0, .int .i64 0, .int .i64 0, .int .i64 0, .slice none 0 0, .slice none 0 0], .int .i64 7]) (res_cell_tmp (ty := 28) rfl rfl rfl hw (i := 1) rfl rfl) rfl ?_
        exact HP.out _ _ (got_no Hp.out (hw.sel [0] (by decide)))
      · have Ho2 : Hid (qOk q0 q1 q2 q3 (1 + 1)) := Sep.hid (by have := Ho.out; unfold qOk at *; omega)
        go_wp2_with (first | (refine wpList_on rfl (wp_store1 (v := _) (off := 1) rfl rfl rfl hw (i := 2) rfl (show 1 < 6 by decide) rfl ?_); intro w_ hw_; clear hw; have hw := hw_; clear hw_; (try simp only [List.map_cons, List.map_nil, List.getD_cons_zero, List.getD_cons_succ, List.getD_nil, List.set_cons_zero, List.set_cons_succ, List.cons_append, List.nil_append, Act.eval, Array.getD_eq_getD_getElem?, List.getElem?_toArray, List.getElem?_cons_succ, List.getElem?_cons_zero, Option.getD_some, Value.cells] at hw); (try simp (disch := first | (simp; done) | (simp; omega)) only [Sep.mid_set, Sep.mid_set2, Sep.mid_set0, Sep.mid_splice, Sep.mid_splice0, List.set_cons_zero, List.set_cons_succ] at hw); (try simp only [Sep.splice, List.take_succ_cons, List.take_zero, List.drop_succ_cons, List.drop_zero, List.length_cons, List.length_nil, Nat.reduceAdd, List.cons_append, List.nil_append] at hw); (try replace hc0 := Sep.Holds.cells hw (i := 0) rfl); (try replace hc1 := Sep.Holds.cells hw (i := 1) rfl); (try replace hc2 := Sep.Holds.cells hw (i := 2) rfl); (try replace hc3 := Sep.Holds.cells hw (i := 3) rfl); (try replace hc4 := Sep.Holds.cells hw (i := 4) rfl); (try replace hc5 := Sep.Holds.cells hw (i := 5) rfl); (try replace hc6 := Sep.Holds.cells hw (i := 6) rfl)))
        go_roundw
        case rel => exact ⟨1 + 1, by decide, rfl, Ho2, hw⟩
        case measure => simp [intOf]
    | 2, _ =>
      obtain rfl : u25 = .int .i64 2 := hi
      simp only [roomsC] at hw
      (try replace hc0 := Sep.Holds.cells hw (i := 0) rfl); (try replace hc1 := Sep.Holds.cells hw (i := 1) rfl); (try replace hc2 := Sep.Holds.cells hw (i := 2) rfl); (try replace hc3 := Sep.Holds.cells hw (i := 3) rfl); (try replace hc4 := Sep.Holds.cells hw (i := 4) rfl); (try replace hc5 := Sep.Holds.cells hw (i := 5) rfl); (try replace hc6 := Sep.Holds.cells hw (i := 6) rfl)
      obtain ⟨a2, ha2, hR2⟩ := rd_sliced (n := n) (c := ca) (l := 16) HR.out hn.out (by omega) hca
      have HR2 := Sep.hid hR2; clear hR2
      have hnum : numP ((b.drop 16).take 8) = q2 := hq2.out
      have Hnum := Sep.hid hnum; clear hnum
      go_wp2_with (first | (refine wpList_on rfl (wp_of_run (v := sliced (some p) 16 n ca 1) (run_sliceFrom (l := 16) rfl rfl rfl (by omega)) ?_); (try simp only [Act.put, List.setIfInBounds_toArray, List.set_cons_zero, List.set_cons_succ]); rw [ha2]))
      refine (oNum a2 (b.drop 16) (n - 16) (ca - 16) (by omega) (Sep.hid (by rw [List.length_drop, hn.out])) (by omega) (Hb.out.drop _) _ (HR2.out _ _ 0 hw rfl)).mono ?_
      rintro _ w2_ ⟨rfl, hw2_⟩; subst hw2_
      rw [Hnum.out]
      clear ha2
      by_cases hneg : q2 < 0
      · have Hp : Hid (readS b = (scr0, 7)) := Sep.hid (by unfold readS; rw [if_neg (by rw [hn.out]; omega), if_neg (by rw [hn.out]; omega), if_pos]; rw [hq0.out, hq1.out, hq2.out, hq3.out]; omega)
        go_wp2_with (first | (refine wpList_on rfl (wp_store1 (v := _) (off := 2) rfl rfl rfl hw (i := 2) rfl (show 2 < 6 by decide) rfl ?_); intro w_ hw_; clear hw; have hw := hw_; clear hw_; (try simp only [List.map_cons, List.map_nil, List.getD_cons_zero, List.getD_cons_succ, List.getD_nil, List.set_cons_zero, List.set_cons_succ, List.cons_append, List.nil_append, Act.eval, Array.getD_eq_getD_getElem?, List.getElem?_toArray, List.getElem?_cons_succ, List.getElem?_cons_zero, Option.getD_some, Value.cells] at hw); (try simp (disch := first | (simp; done) | (simp; omega)) only [Sep.mid_set, Sep.mid_set2, Sep.mid_set0, Sep.mid_splice, Sep.mid_splice0, List.set_cons_zero, List.set_cons_succ] at hw); (try simp only [Sep.splice, List.take_succ_cons, List.take_zero, List.drop_succ_cons, List.drop_zero, List.length_cons, List.length_nil, Nat.reduceAdd, List.cons_append, List.nil_append] at hw); (try replace hc0 := Sep.Holds.cells hw (i := 0) rfl); (try replace hc1 := Sep.Holds.cells hw (i := 1) rfl); (try replace hc2 := Sep.Holds.cells hw (i := 2) rfl); (try replace hc3 := Sep.Holds.cells hw (i := 3) rfl); (try replace hc4 := Sep.Holds.cells hw (i := 4) rfl); (try replace hc5 := Sep.Holds.cells hw (i := 5) rfl); (try replace hc6 := Sep.Holds.cells hw (i := 6) rfl)) | (refine wpList_on rfl (wp_storeAll (vs := [.int .i64 0, .int .i64 0, .int .i64 0, .int .i64 0, .slice none 0 0, .slice none 0 0]) rfl rfl (by rfl) hw (i := 1) rfl rfl rfl (by simp [Value.oneCell']) ?_); intro w_ hw_; clear hw; have hw := hw_; clear hw_; (try simp only [List.map_cons, List.map_nil, List.getD_cons_zero, List.getD_cons_succ, List.getD_nil, List.set_cons_zero, List.set_cons_succ, List.cons_append, List.nil_append, Act.eval, Array.getD_eq_getD_getElem?, List.getElem?_toArray, List.getElem?_cons_succ, List.getElem?_cons_zero, Option.getD_some, Value.cells] at hw); (try simp (disch := first | (simp; done) | (simp; omega)) only [Sep.mid_set, Sep.mid_set2, Sep.mid_set0, Sep.mid_splice, Sep.mid_splice0, List.set_cons_zero, List.set_cons_succ] at hw); (try simp only [Sep.splice, List.take_succ_cons, List.take_zero, List.drop_succ_cons, List.drop_zero, List.length_cons, List.length_nil, Nat.reduceAdd, List.cons_append, List.nil_append] at hw); (try replace hc0 := Sep.Holds.cells hw (i := 0) rfl); (try replace hc1 := Sep.Holds.cells hw (i := 1) rfl); (try replace hc2 := Sep.Holds.cells hw (i := 2) rfl); (try replace hc3 := Sep.Holds.cells hw (i := 3) rfl); (try replace hc4 := Sep.Holds.cells hw (i := 4) rfl); (try replace hc5 := Sep.Holds.cells hw (i := 5) rfl); (try replace hc6 := Sep.Holds.cells hw (i := 6) rfl)))
        refine bodyPost_ret (v := .tuple #[.agg #[.int .i64 0, .int .i64 0, .int .i64 0, .int .i64 0, .slice none 0 0, .slice none 0 0], .int .i64 7]) (res_cell_tmp (ty := 28) rfl rfl rfl hw (i := 1) rfl rfl) rfl ?_
        exact HP.out _ _ (got_no Hp.out (hw.sel [0] (by decide)))
      · have Ho2 : Hid (qOk q0 q1 q2 q3 (2 + 1)) := Sep.hid (by have := Ho.out; unfold qOk at *; omega)
        go_wp2_with (first | (refine wpList_on rfl (wp_store1 (v := _) (off := 2) rfl rfl rfl hw (i := 2) rfl (show 2 < 6 by decide) rfl ?_); intro w_ hw_; clear hw; have hw := hw_; clear hw_; (try simp only [List.map_cons, List.map_nil, List.getD_cons_zero, List.getD_cons_succ, List.getD_nil, List.set_cons_zero, List.set_cons_succ, List.cons_append, List.nil_append, Act.eval, Array.getD_eq_getD_getElem?, List.getElem?_toArray, List.getElem?_cons_succ, List.getElem?_cons_zero, Option.getD_some, Value.cells] at hw); (try simp (disch := first | (simp; done) | (simp; omega)) only [Sep.mid_set, Sep.mid_set2, Sep.mid_set0, Sep.mid_splice, Sep.mid_splice0, List.set_cons_zero, List.set_cons_succ] at hw); (try simp only [Sep.splice, List.take_succ_cons, List.take_zero, List.drop_succ_cons, List.drop_zero, List.length_cons, List.length_nil, Nat.reduceAdd, List.cons_append, List.nil_append] at hw); (try replace hc0 := Sep.Holds.cells hw (i := 0) rfl); (try replace hc1 := Sep.Holds.cells hw (i := 1) rfl); (try replace hc2 := Sep.Holds.cells hw (i := 2) rfl); (try replace hc3 := Sep.Holds.cells hw (i := 3) rfl); (try replace hc4 := Sep.Holds.cells hw (i := 4) rfl); (try replace hc5 := Sep.Holds.cells hw (i := 5) rfl); (try replace hc6 := Sep.Holds.cells hw (i := 6) rfl)))
        go_roundw
        case rel => exact ⟨2 + 1, by decide, rfl, Ho2, hw⟩
        case measure => simp [intOf]
    | 3, _ =>
      obtain rfl : u25 = .int .i64 3 := hi
      simp only [roomsC] at hw
      (try replace hc0 := Sep.Holds.cells hw (i := 0) rfl); (try replace hc1 := Sep.Holds.cells hw (i := 1) rfl); (try replace hc2 := Sep.Holds.cells hw (i := 2) rfl); (try replace hc3 := Sep.Holds.cells hw (i := 3) rfl); (try replace hc4 := Sep.Holds.cells hw (i := 4) rfl); (try replace hc5 := Sep.Holds.cells hw (i := 5) rfl); (try replace hc6 := Sep.Holds.cells hw (i := 6) rfl)
      obtain ⟨a2, ha2, hR2⟩ := rd_sliced (n := n) (c := ca) (l := 24) HR.out hn.out (by omega) hca
      have HR2 := Sep.hid hR2; clear hR2
      have hnum : numP ((b.drop 24).take 8) = q3 := hq3.out
      have Hnum := Sep.hid hnum; clear hnum
      go_wp2_with (first | (refine wpList_on rfl (wp_of_run (v := sliced (some p) 24 n ca 1) (run_sliceFrom (l := 24) rfl rfl rfl (by omega)) ?_); (try simp only [Act.put, List.setIfInBounds_toArray, List.set_cons_zero, List.set_cons_succ]); rw [ha2]))
      refine (oNum a2 (b.drop 24) (n - 24) (ca - 24) (by omega) (Sep.hid (by rw [List.length_drop, hn.out])) (by omega) (Hb.out.drop _) _ (HR2.out _ _ 0 hw rfl)).mono ?_
      rintro _ w2_ ⟨rfl, hw2_⟩; subst hw2_
      rw [Hnum.out]
      clear ha2
      by_cases hneg : q3 < 0
      · have Hp : Hid (readS b = (scr0, 7)) := Sep.hid (by unfold readS; rw [if_neg (by rw [hn.out]; omega), if_neg (by rw [hn.out]; omega), if_pos]; rw [hq0.out, hq1.out, hq2.out, hq3.out]; omega)
        go_wp2_with (first | (refine wpList_on rfl (wp_store1 (v := _) (off := 3) rfl rfl rfl hw (i := 2) rfl (show 3 < 6 by decide) rfl ?_); intro w_ hw_; clear hw; have hw := hw_; clear hw_; (try simp only [List.map_cons, List.map_nil, List.getD_cons_zero, List.getD_cons_succ, List.getD_nil, List.set_cons_zero, List.set_cons_succ, List.cons_append, List.nil_append, Act.eval, Array.getD_eq_getD_getElem?, List.getElem?_toArray, List.getElem?_cons_succ, List.getElem?_cons_zero, Option.getD_some, Value.cells] at hw); (try simp (disch := first | (simp; done) | (simp; omega)) only [Sep.mid_set, Sep.mid_set2, Sep.mid_set0, Sep.mid_splice, Sep.mid_splice0, List.set_cons_zero, List.set_cons_succ] at hw); (try simp only [Sep.splice, List.take_succ_cons, List.take_zero, List.drop_succ_cons, List.drop_zero, List.length_cons, List.length_nil, Nat.reduceAdd, List.cons_append, List.nil_append] at hw); (try replace hc0 := Sep.Holds.cells hw (i := 0) rfl); (try replace hc1 := Sep.Holds.cells hw (i := 1) rfl); (try replace hc2 := Sep.Holds.cells hw (i := 2) rfl); (try replace hc3 := Sep.Holds.cells hw (i := 3) rfl); (try replace hc4 := Sep.Holds.cells hw (i := 4) rfl); (try replace hc5 := Sep.Holds.cells hw (i := 5) rfl); (try replace hc6 := Sep.Holds.cells hw (i := 6) rfl)) | (refine wpList_on rfl (wp_storeAll (vs := [.int .i64 0, .int .i64 0, .int .i64 0, .int .i64 0, .slice none 0 0, .slice none 0 0]) rfl rfl (by rfl) hw (i := 1) rfl rfl rfl (by simp [Value.oneCell']) ?_); intro w_ hw_; clear hw; have hw := hw_; clear hw_; (try simp only [List.map_cons, List.map_nil, List.getD_cons_zero, List.getD_cons_succ, List.getD_nil, List.set_cons_zero, List.set_cons_succ, List.cons_append, List.nil_append, Act.eval, Array.getD_eq_getD_getElem?, List.getElem?_toArray, List.getElem?_cons_succ, List.getElem?_cons_zero, Option.getD_some, Value.cells] at hw); (try simp (disch := first | (simp; done) | (simp; omega)) only [Sep.mid_set, Sep.mid_set2, Sep.mid_set0, Sep.mid_splice, Sep.mid_splice0, List.set_cons_zero, List.set_cons_succ] at hw); (try simp only [Sep.splice, List.take_succ_cons, List.take_zero, List.drop_succ_cons, List.drop_zero, List.length_cons, List.length_nil, Nat.reduceAdd, List.cons_append, List.nil_append] at hw); (try replace hc0 := Sep.Holds.cells hw (i := 0) rfl); (try replace hc1 := Sep.Holds.cells hw (i := 1) rfl); (try replace hc2 := Sep.Holds.cells hw (i := 2) rfl); (try replace hc3 := Sep.Holds.cells hw (i := 3) rfl); (try replace hc4 := Sep.Holds.cells hw (i := 4) rfl); (try replace hc5 := Sep.Holds.cells hw (i := 5) rfl); (try replace hc6 := Sep.Holds.cells hw (i := 6) rfl)))
        refine bodyPost_ret (v := .tuple #[.agg #[.int .i64 0, .int .i64 0, .int .i64 0, .int .i64 0, .slice none 0 0, .slice none 0 0], .int .i64 7]) (res_cell_tmp (ty := 28) rfl rfl rfl hw (i := 1) rfl rfl) rfl ?_
        exact HP.out _ _ (got_no Hp.out (hw.sel [0] (by decide)))
      · have Ho2 : Hid (qOk q0 q1 q2 q3 (3 + 1)) := Sep.hid (by have := Ho.out; unfold qOk at *; omega)
        go_wp2_with (first | (refine wpList_on rfl (wp_store1 (v := _) (off := 3) rfl rfl rfl hw (i := 2) rfl (show 3 < 6 by decide) rfl ?_); intro w_ hw_; clear hw; have hw := hw_; clear hw_; (try simp only [List.map_cons, List.map_nil, List.getD_cons_zero, List.getD_cons_succ, List.getD_nil, List.set_cons_zero, List.set_cons_succ, List.cons_append, List.nil_append, Act.eval, Array.getD_eq_getD_getElem?, List.getElem?_toArray, List.getElem?_cons_succ, List.getElem?_cons_zero, Option.getD_some, Value.cells] at hw); (try simp (disch := first | (simp; done) | (simp; omega)) only [Sep.mid_set, Sep.mid_set2, Sep.mid_set0, Sep.mid_splice, Sep.mid_splice0, List.set_cons_zero, List.set_cons_succ] at hw); (try simp only [Sep.splice, List.take_succ_cons, List.take_zero, List.drop_succ_cons, List.drop_zero, List.length_cons, List.length_nil, Nat.reduceAdd, List.cons_append, List.nil_append] at hw); (try replace hc0 := Sep.Holds.cells hw (i := 0) rfl); (try replace hc1 := Sep.Holds.cells hw (i := 1) rfl); (try replace hc2 := Sep.Holds.cells hw (i := 2) rfl); (try replace hc3 := Sep.Holds.cells hw (i := 3) rfl); (try replace hc4 := Sep.Holds.cells hw (i := 4) rfl); (try replace hc5 := Sep.Holds.cells hw (i := 5) rfl); (try replace hc6 := Sep.Holds.cells hw (i := 6) rfl)))
        go_roundw
        case rel => exact ⟨3 + 1, by decide, rfl, Ho2, hw⟩
        case measure => simp [intOf]
    | 4, _ =>
      obtain rfl : u25 = .int .i64 4 := hi
      have Hq : Hid (¬ (roomAt b 0 < 0 ∨ roomAt b 1 < 0 ∨ roomAt b 2 < 0 ∨ roomAt b 3 < 0)) := Sep.hid (by have := Ho.out; unfold qOk at this; rw [hq0.out, hq1.out, hq2.out, hq3.out]; omega)
      clear Ho
      have hw : Holds e wr [X, pt b1_ [.int .i64 0, .int .i64 0, .int .i64 0, .int .i64 0, .slice none 0 0, .slice none 0 0] 28, pt bn_ [.int .i64 q0, .int .i64 q1, .int .i64 q2, .int .i64 q3, .slice none 0 0, .slice none 0 0] 28] := hw
      obtain ⟨c, hc⟩ : ∃ c, b.getD 32 0 = c := ⟨_, rfl⟩
      have hcb : b[32]? = some c := by rw [← hc, List.getD_eq_getElem?_getD, List.getElem?_eq_getElem (by rw [hn.out]; omega)]; rfl
      have hc255 := Hb.out c (List.mem_of_getElem? hcb)
      have g32 : wr.cell? ⟨p.block, p.off + 32, none⟩ = some (.int .u8 c) := by
        obtain ⟨p2, hp2, h⟩ := HR.out _ _ 0 hw rfl 32 c hcb
        cases hp2; exact h
      have hcw : wrap64 c = c := IntWalk.wrap64_in _ (by omega)
      have Hc0 := Sep.hid hc; clear hc hcb
      (try replace hc0 := Sep.Holds.cells hw (i := 0) rfl); (try replace hc1 := Sep.Holds.cells hw (i := 1) rfl); (try replace hc2 := Sep.Holds.cells hw (i := 2) rfl); (try replace hc3 := Sep.Holds.cells hw (i := 3) rfl); (try replace hc4 := Sep.Holds.cells hw (i := 4) rfl); (try replace hc5 := Sep.Holds.cells hw (i := 5) rfl); (try replace hc6 := Sep.Holds.cells hw (i := 6) rfl)
      have l32 : (32 : Int) < n := by omega
      by_cases h3 : c < 1
      · have Hp : Hid (readS b = (scr0, 7)) := Sep.hid (by unfold readS; rw [if_neg (by rw [hn.out]; omega), if_neg (by rw [hn.out]; omega), if_neg Hq.out, if_pos (by rw [Hc0.out]; exact .inl h3)])
        clear hc255
        go_wp2_with (first | (refine wpList_on rfl (wp_alloc rfl hw ?_); intro b2_ w_ hw_; clear hw; have hw := hw_; clear hw_; (try simp only [List.map_cons, List.map_nil, List.getD_cons_zero, List.getD_cons_succ, List.getD_nil, List.set_cons_zero, List.set_cons_succ, List.cons_append, List.nil_append, Act.eval, Array.getD_eq_getD_getElem?, List.getElem?_toArray, List.getElem?_cons_succ, List.getElem?_cons_zero, Option.getD_some, Value.cells] at hw); (try simp (disch := first | (simp; done) | (simp; omega)) only [Sep.mid_set, Sep.mid_set2, Sep.mid_set0, Sep.mid_splice, Sep.mid_splice0, List.set_cons_zero, List.set_cons_succ] at hw); (try simp only [Sep.splice, List.take_succ_cons, List.take_zero, List.drop_succ_cons, List.drop_zero, List.length_cons, List.length_nil, Nat.reduceAdd, List.cons_append, List.nil_append] at hw); (try replace hc0 := Sep.Holds.cells hw (i := 0) rfl); (try replace hc1 := Sep.Holds.cells hw (i := 1) rfl); (try replace hc2 := Sep.Holds.cells hw (i := 2) rfl); (try replace hc3 := Sep.Holds.cells hw (i := 3) rfl); (try replace hc4 := Sep.Holds.cells hw (i := 4) rfl); (try replace hc5 := Sep.Holds.cells hw (i := 5) rfl); (try replace hc6 := Sep.Holds.cells hw (i := 6) rfl)) | (refine wpList_on rfl (wp_storeAll (vs := [.int .i64 0, .int .i64 0, .int .i64 0, .int .i64 0, .slice none 0 0, .slice none 0 0]) rfl rfl (by rfl) hw (i := 1) rfl rfl rfl (by simp [Value.oneCell']) ?_); intro w_ hw_; clear hw; have hw := hw_; clear hw_; (try simp only [List.map_cons, List.map_nil, List.getD_cons_zero, List.getD_cons_succ, List.getD_nil, List.set_cons_zero, List.set_cons_succ, List.cons_append, List.nil_append, Act.eval, Array.getD_eq_getD_getElem?, List.getElem?_toArray, List.getElem?_cons_succ, List.getElem?_cons_zero, Option.getD_some, Value.cells] at hw); (try simp (disch := first | (simp; done) | (simp; omega)) only [Sep.mid_set, Sep.mid_set2, Sep.mid_set0, Sep.mid_splice, Sep.mid_splice0, List.set_cons_zero, List.set_cons_succ] at hw); (try simp only [Sep.splice, List.take_succ_cons, List.take_zero, List.drop_succ_cons, List.drop_zero, List.length_cons, List.length_nil, Nat.reduceAdd, List.cons_append, List.nil_append] at hw); (try replace hc0 := Sep.Holds.cells hw (i := 0) rfl); (try replace hc1 := Sep.Holds.cells hw (i := 1) rfl); (try replace hc2 := Sep.Holds.cells hw (i := 2) rfl); (try replace hc3 := Sep.Holds.cells hw (i := 3) rfl); (try replace hc4 := Sep.Holds.cells hw (i := 4) rfl); (try replace hc5 := Sep.Holds.cells hw (i := 5) rfl); (try replace hc6 := Sep.Holds.cells hw (i := 6) rfl)))
        refine bodyPost_ret (v := .tuple #[.agg #[.int .i64 0, .int .i64 0, .int .i64 0, .int .i64 0, .slice none 0 0, .slice none 0 0], .int .i64 7]) (res_cell_tmp (ty := 28) rfl rfl rfl hw (i := 1) rfl rfl) rfl ?_
        exact HP.out _ _ (got_no Hp.out (hw.sel [0] (by decide)))
      by_cases h4 : 8 < c
      · have Hp : Hid (readS b = (scr0, 7)) := Sep.hid (by unfold readS; rw [if_neg (by rw [hn.out]; omega), if_neg (by rw [hn.out]; omega), if_neg Hq.out, if_pos (by rw [Hc0.out]; exact .inr h4)])
        clear hc255
        go_wp2_with (first | (refine wpList_on rfl (wp_alloc rfl hw ?_); intro b2_ w_ hw_; clear hw; have hw := hw_; clear hw_; (try simp only [List.map_cons, List.map_nil, List.getD_cons_zero, List.getD_cons_succ, List.getD_nil, List.set_cons_zero, List.set_cons_succ, List.cons_append, List.nil_append, Act.eval, Array.getD_eq_getD_getElem?, List.getElem?_toArray, List.getElem?_cons_succ, List.getElem?_cons_zero, Option.getD_some, Value.cells] at hw); (try simp (disch := first | (simp; done) | (simp; omega)) only [Sep.mid_set, Sep.mid_set2, Sep.mid_set0, Sep.mid_splice, Sep.mid_splice0, List.set_cons_zero, List.set_cons_succ] at hw); (try simp only [Sep.splice, List.take_succ_cons, List.take_zero, List.drop_succ_cons, List.drop_zero, List.length_cons, List.length_nil, Nat.reduceAdd, List.cons_append, List.nil_append] at hw); (try replace hc0 := Sep.Holds.cells hw (i := 0) rfl); (try replace hc1 := Sep.Holds.cells hw (i := 1) rfl); (try replace hc2 := Sep.Holds.cells hw (i := 2) rfl); (try replace hc3 := Sep.Holds.cells hw (i := 3) rfl); (try replace hc4 := Sep.Holds.cells hw (i := 4) rfl); (try replace hc5 := Sep.Holds.cells hw (i := 5) rfl); (try replace hc6 := Sep.Holds.cells hw (i := 6) rfl)) | (refine wpList_on rfl (wp_storeAll (vs := [.int .i64 0, .int .i64 0, .int .i64 0, .int .i64 0, .slice none 0 0, .slice none 0 0]) rfl rfl (by rfl) hw (i := 1) rfl rfl rfl (by simp [Value.oneCell']) ?_); intro w_ hw_; clear hw; have hw := hw_; clear hw_; (try simp only [List.map_cons, List.map_nil, List.getD_cons_zero, List.getD_cons_succ, List.getD_nil, List.set_cons_zero, List.set_cons_succ, List.cons_append, List.nil_append, Act.eval, Array.getD_eq_getD_getElem?, List.getElem?_toArray, List.getElem?_cons_succ, List.getElem?_cons_zero, Option.getD_some, Value.cells] at hw); (try simp (disch := first | (simp; done) | (simp; omega)) only [Sep.mid_set, Sep.mid_set2, Sep.mid_set0, Sep.mid_splice, Sep.mid_splice0, List.set_cons_zero, List.set_cons_succ] at hw); (try simp only [Sep.splice, List.take_succ_cons, List.take_zero, List.drop_succ_cons, List.drop_zero, List.length_cons, List.length_nil, Nat.reduceAdd, List.cons_append, List.nil_append] at hw); (try replace hc0 := Sep.Holds.cells hw (i := 0) rfl); (try replace hc1 := Sep.Holds.cells hw (i := 1) rfl); (try replace hc2 := Sep.Holds.cells hw (i := 2) rfl); (try replace hc3 := Sep.Holds.cells hw (i := 3) rfl); (try replace hc4 := Sep.Holds.cells hw (i := 4) rfl); (try replace hc5 := Sep.Holds.cells hw (i := 5) rfl); (try replace hc6 := Sep.Holds.cells hw (i := 6) rfl)))
        refine bodyPost_ret (v := .tuple #[.agg #[.int .i64 0, .int .i64 0, .int .i64 0, .int .i64 0, .slice none 0 0, .slice none 0 0], .int .i64 7]) (res_cell_tmp (ty := 28) rfl rfl rfl hw (i := 1) rfl rfl) rfl ?_
        exact HP.out _ _ (got_no Hp.out (hw.sel [0] (by decide)))
      obtain ⟨N, rfl⟩ : ∃ N : Nat, c = N := ⟨c.toNat, by omega⟩
      have hN8 : N ≤ 8 := by omega
      have Hp : Hid (readS b = readT b (readPs N (b.drop 33))) := Sep.hid (by unfold readS; rw [if_neg (by rw [hn.out]; omega), if_neg (by rw [hn.out]; omega), if_neg Hq.out, if_neg (by rw [Hc0.out]; omega), Hc0.out, Int.toNat_natCast])
      clear Hc0 Hq hc255
      obtain ⟨a2, ha2, hR2⟩ := rd_sliced (n := n) (c := ca) (l := 33) HR.out hn.out (by omega) hca
      have HR2 := Sep.hid hR2; clear hR2
      have h5000 : n ≤ 4000 := by omega
      have H33 : Hid (33 ≤ n) := Sep.hid (by omega)
      clear h1 h2
      go_wp2_with (first | (refine wpList_on rfl (wp_of_run (v := sliced (some p) 33 n ca 1) (run_sliceFrom (l := 33) rfl rfl rfl (by omega)) ?_); (try simp only [Act.put, List.setIfInBounds_toArray, List.set_cons_zero, List.set_cons_succ]); rw [ha2]))
      clear g32 hcw ha2 l32
      have hw := (hw.addEmp (X := Sl 57 1 (.slice none 0 0) 0 (hdVs [] [])) (Sl.nil _ _ _)).addEmp (X := sepL (hdRs 56 [] [])) (sepL_none (by intro P hP; cases hP))
      have Hw0 := Sep.hid hw; clear hw; (try clear hc0); (try clear hc1); (try clear hc2); (try clear hc3); (try clear hc4); (try clear hc5); (try clear hc6)
      go_loopw [60, 8] (fun i s8 wr => ∃ (k z m c' pc : Nat) (a' pa : Option Addr) (hs : List Hd) (ps : List (List Deed)), k ≤ N ∧ i = .int .i64 k ∧ s8 = .slice a' m c' ∧ Hid (m + (33 + z) = n) ∧ m ≤ 4000 ∧ m ≤ c' ∧ Hid (RdB e X a' (b.drop (33 + z))) ∧ Hid (readPs N (b.drop 33) = catP ps z (readPs (N - k) (b.drop (33 + z)))) ∧ Hid (ps.length = k) ∧ Hid (hs.length = k) ∧ Holds e wr [X, pt b1_ [.int .i64 0, .int .i64 0, .int .i64 0, .int .i64 0, .slice none 0 0, .slice none 0 0] 28, pt bn_ [.int .i64 q0, .int .i64 q1, .int .i64 q2, .int .i64 q3, .slice pa k pc, .slice none 0 0] 28, Sl 57 1 (.slice pa k pc) k (hdVs hs ps), sepL (hdRs 56 hs ps)]) (fun i _ _ => N - (intOf i).toNat)
      case atStart => exact ⟨0, 0, n - 33, ca - 33, 0, a2, none, [], [], Nat.zero_le _, rfl, rfl, Sep.hid (by have := H33.out; omega), by omega, by omega, HR2, Sep.hid (by simp [catP]), Sep.hid rfl, Sep.hid rfl, Hw0.out⟩
      case round =>
        clear Hw0 HR2
        obtain ⟨k, z, m, c', pc, a', pa, hs, ps, hk, rfl, rfl, Hmz, hm4, hmc, HRk, Hps, Hpl, Hhl, hw⟩ := hrel
        have hdl : (b.drop (33 + z)).length = m := by rw [List.length_drop, hn.out]; have := Hmz.out; omega
        have Hdb : Hid (Bys (b.drop (33 + z))) := Sep.hid (Hb.out.drop _)
        have Hdr : Hid (∀ q, b.drop (33 + (z + q)) = (b.drop (33 + z)).drop q) := Sep.hid (fun q => by rw [List.drop_drop]; congr 1; omega)
        have Hitm : Hid (∀ ps2 z2, z2 = z → readT b (ps2, z2, 0) = if (itemsP (b.drop (33 + z))).2 = 0 then (⟨q0, q1, q2, q3, ps2, (itemsP (b.drop (33 + z))).1⟩, 0) else (scr0, (itemsP (b.drop (33 + z))).2)) := Sep.hid (fun ps2 z2 hz => by
          subst hz
          unfold readT
          rw [if_pos rfl, hq0.out, hq1.out, hq2.out, hq3.out])
        generalize b.drop (33 + z) = d at *
        have Hdl := Sep.hid hdl; clear hdl
        (try replace hc0 := Sep.Holds.cells hw (i := 0) rfl); (try replace hc1 := Sep.Holds.cells hw (i := 1) rfl); (try replace hc2 := Sep.Holds.cells hw (i := 2) rfl); (try replace hc3 := Sep.Holds.cells hw (i := 3) rfl); (try replace hc4 := Sep.Holds.cells hw (i := 4) rfl); (try replace hc5 := Sep.Holds.cells hw (i := 5) rfl); (try replace hc6 := Sep.Holds.cells hw (i := 6) rfl)
        by_cases hlt : k < N
        · obtain ⟨j, hj⟩ : ∃ j, N - k = j + 1 := ⟨N - k - 1, by omega⟩
          have Hj : Hid (N - (k + 1) = j) := Sep.hid (by omega)
          rw [hj] at Hps
          clear hj
          go_wp2_with fail
          refine (oRead d m c' a' Hdl hmc Hdb.out e _ _ HT.out.sep (HRk.out.at 0 rfl) hw.focus0).mono ?_
          rintro _ w_ ⟨v, rfl, hw_⟩
          clear hw; (try clear hc0); (try clear hc1); (try clear hc2); (try clear hc3); (try clear hc4); (try clear hc5); (try clear hc6); have hw := Holds.unfocus0 hw_; clear hw_
          by_cases he : (readP d).2.2 = 0
          case neg =>
            have hp2 : readS b = (scr0, (readP d).2.2) := by
              rw [Hp.out, Hps.out, readPs_err he]
              unfold catP readT
              rw [if_neg he]
            obtain ⟨er, her⟩ : ∃ er, (readP d).2.2 = er := ⟨_, rfl⟩
            rw [her] at hp2 he ⊢
            have Hp2 := Sep.hid hp2
            have hne : (er != 0) = true := by simpa using he
            clear hp2 he her
            (try simp only [List.map_cons, List.map_nil, List.getD_cons_zero, List.getD_cons_succ, List.getD_nil, List.set_cons_zero, List.set_cons_succ, List.cons_append, List.nil_append, Act.eval, Array.getD_eq_getD_getElem?, List.getElem?_toArray, List.getElem?_cons_succ, List.getElem?_cons_zero, Option.getD_some, Value.cells] at hw); (try simp (disch := first | (simp; done) | (simp; omega)) only [Sep.mid_set, Sep.mid_set2, Sep.mid_set0, Sep.mid_splice, Sep.mid_splice0, List.set_cons_zero, List.set_cons_succ] at hw); (try simp only [Sep.splice, List.take_succ_cons, List.take_zero, List.drop_succ_cons, List.drop_zero, List.length_cons, List.length_nil, Nat.reduceAdd, List.cons_append, List.nil_append] at hw); (try replace hc0 := Sep.Holds.cells hw (i := 0) rfl); (try replace hc1 := Sep.Holds.cells hw (i := 1) rfl); (try replace hc2 := Sep.Holds.cells hw (i := 2) rfl); (try replace hc3 := Sep.Holds.cells hw (i := 3) rfl); (try replace hc4 := Sep.Holds.cells hw (i := 4) rfl); (try replace hc5 := Sep.Holds.cells hw (i := 5) rfl); (try replace hc6 := Sep.Holds.cells hw (i := 6) rfl)
            go_wp2_with (first | (refine wpList_on rfl (wp_alloc rfl hw ?_); intro b2_ w_ hw_; clear hw; have hw := hw_; clear hw_; (try simp only [List.map_cons, List.map_nil, List.getD_cons_zero, List.getD_cons_succ, List.getD_nil, List.set_cons_zero, List.set_cons_succ, List.cons_append, List.nil_append, Act.eval, Array.getD_eq_getD_getElem?, List.getElem?_toArray, List.getElem?_cons_succ, List.getElem?_cons_zero, Option.getD_some, Value.cells] at hw); (try simp (disch := first | (simp; done) | (simp; omega)) only [Sep.mid_set, Sep.mid_set2, Sep.mid_set0, Sep.mid_splice, Sep.mid_splice0, List.set_cons_zero, List.set_cons_succ] at hw); (try simp only [Sep.splice, List.take_succ_cons, List.take_zero, List.drop_succ_cons, List.drop_zero, List.length_cons, List.length_nil, Nat.reduceAdd, List.cons_append, List.nil_append] at hw); (try replace hc0 := Sep.Holds.cells hw (i := 0) rfl); (try replace hc1 := Sep.Holds.cells hw (i := 1) rfl); (try replace hc2 := Sep.Holds.cells hw (i := 2) rfl); (try replace hc3 := Sep.Holds.cells hw (i := 3) rfl); (try replace hc4 := Sep.Holds.cells hw (i := 4) rfl); (try replace hc5 := Sep.Holds.cells hw (i := 5) rfl); (try replace hc6 := Sep.Holds.cells hw (i := 6) rfl)) | (refine wpList_on rfl (wp_storeAll (vs := [.int .i64 0, .int .i64 0, .int .i64 0, .int .i64 0, .slice none 0 0, .slice none 0 0]) rfl rfl (by rfl) hw (i := 1) rfl rfl rfl (by simp [Value.oneCell']) ?_); intro w_ hw_; clear hw; have hw := hw_; clear hw_; (try simp only [List.map_cons, List.map_nil, List.getD_cons_zero, List.getD_cons_succ, List.getD_nil, List.set_cons_zero, List.set_cons_succ, List.cons_append, List.nil_append, Act.eval, Array.getD_eq_getD_getElem?, List.getElem?_toArray, List.getElem?_cons_succ, List.getElem?_cons_zero, Option.getD_some, Value.cells] at hw); (try simp (disch := first | (simp; done) | (simp; omega)) only [Sep.mid_set, Sep.mid_set2, Sep.mid_set0, Sep.mid_splice, Sep.mid_splice0, List.set_cons_zero, List.set_cons_succ] at hw); (try simp only [Sep.splice, List.take_succ_cons, List.take_zero, List.drop_succ_cons, List.drop_zero, List.length_cons, List.length_nil, Nat.reduceAdd, List.cons_append, List.nil_append] at hw); (try replace hc0 := Sep.Holds.cells hw (i := 0) rfl); (try replace hc1 := Sep.Holds.cells hw (i := 1) rfl); (try replace hc2 := Sep.Holds.cells hw (i := 2) rfl); (try replace hc3 := Sep.Holds.cells hw (i := 3) rfl); (try replace hc4 := Sep.Holds.cells hw (i := 4) rfl); (try replace hc5 := Sep.Holds.cells hw (i := 5) rfl); (try replace hc6 := Sep.Holds.cells hw (i := 6) rfl)))
            refine bodyPost_ret (v := .tuple #[.agg #[.int .i64 0, .int .i64 0, .int .i64 0, .int .i64 0, .slice none 0 0, .slice none 0 0], .int .i64 er]) (res_cell_tmp (ty := 28) rfl rfl rfl hw (i := 1) rfl rfl) rfl ?_
            exact HP.out _ _ (got_no Hp2.out (hw.sel [0] (by decide)))
          obtain ⟨j2, hrd, hj1, hj24, hjl, _, _⟩ := bytes_read Hdb.out he
          have hll := readL_len d j2
          have Hst := Sep.hid (readPs_step (k := j) hrd)
          rw [hrd] at hw ⊢
          have Hb2 : Hid (1 + j2 * 11 ≤ m) := Sep.hid (by rw [← Hdl.out]; exact hjl)
          clear he hrd hjl
          generalize hn2 : 1 + j2 * 11 = n2 at *
          generalize readL d j2 = l at *
          have hIs : IsAs 56 v l = Sl 56 4 v j2 (encAs l) := by unfold IsAs; rw [hll]
          rw [hIs] at hw; clear hIs
          have Hll := Sep.hid hll; clear hll
          (try simp only [List.map_cons, List.map_nil, List.getD_cons_zero, List.getD_cons_succ, List.getD_nil, List.set_cons_zero, List.set_cons_succ, List.cons_append, List.nil_append, Act.eval, Array.getD_eq_getD_getElem?, List.getElem?_toArray, List.getElem?_cons_succ, List.getElem?_cons_zero, Option.getD_some, Value.cells] at hw); (try simp (disch := first | (simp; done) | (simp; omega)) only [Sep.mid_set, Sep.mid_set2, Sep.mid_set0, Sep.mid_splice, Sep.mid_splice0, List.set_cons_zero, List.set_cons_succ] at hw); (try simp only [Sep.splice, List.take_succ_cons, List.take_zero, List.drop_succ_cons, List.drop_zero, List.length_cons, List.length_nil, Nat.reduceAdd, List.cons_append, List.nil_append] at hw); (try replace hc0 := Sep.Holds.cells hw (i := 0) rfl); (try replace hc1 := Sep.Holds.cells hw (i := 1) rfl); (try replace hc2 := Sep.Holds.cells hw (i := 2) rfl); (try replace hc3 := Sep.Holds.cells hw (i := 3) rfl); (try replace hc4 := Sep.Holds.cells hw (i := 4) rfl); (try replace hc5 := Sep.Holds.cells hw (i := 5) rfl); (try replace hc6 := Sep.Holds.cells hw (i := 6) rfl)
          obtain ⟨va, vc, rfl⟩ := Sl.value (i := 5) rfl hw
          obtain ⟨p', rfl⟩ : ∃ p', a' = some p' := by
            obtain ⟨p', hp', _⟩ := HRk.out _ _ 0 hw rfl 0 _ (List.getElem?_eq_getElem (by rw [Hdl.out]; have := Hb2.out; omega))
            exact ⟨p', hp'⟩
          obtain ⟨a3, ha3, hR3⟩ := rd_sliced (n := m) (c := c') (l := n2) HRk.out Hdl.out Hb2.out hmc
          have HR3 := Sep.hid hR3; clear hR3
          have hn300 : n2 ≤ 300 := by omega
          clear hn2
          go_wp2_with (first | (refine wpList_on rfl (wp_bsl1 rfl rfl (by rfl) (by rfl) (by decide) hw ?_); intro b_ w_ hw_; clear hw; have hw := hw_; clear hw_; (try simp only [List.map_cons, List.map_nil, List.getD_cons_zero, List.getD_cons_succ, List.getD_nil, List.set_cons_zero, List.set_cons_succ, List.cons_append, List.nil_append, Act.eval, Array.getD_eq_getD_getElem?, List.getElem?_toArray, List.getElem?_cons_succ, List.getElem?_cons_zero, Option.getD_some, Value.cells] at hw); (try simp (disch := first | (simp; done) | (simp; omega)) only [Sep.mid_set, Sep.mid_set2, Sep.mid_set0, Sep.mid_splice, Sep.mid_splice0, List.set_cons_zero, List.set_cons_succ] at hw); (try simp only [Sep.splice, List.take_succ_cons, List.take_zero, List.drop_succ_cons, List.drop_zero, List.length_cons, List.length_nil, Nat.reduceAdd, List.cons_append, List.nil_append] at hw); (try replace hc0 := Sep.Holds.cells hw (i := 0) rfl); (try replace hc1 := Sep.Holds.cells hw (i := 1) rfl); (try replace hc2 := Sep.Holds.cells hw (i := 2) rfl); (try replace hc3 := Sep.Holds.cells hw (i := 3) rfl); (try replace hc4 := Sep.Holds.cells hw (i := 4) rfl); (try replace hc5 := Sep.Holds.cells hw (i := 5) rfl); (try replace hc6 := Sep.Holds.cells hw (i := 6) rfl)) | (at_builtin; refine wpList_on rfl (wp_appendPt (i := 3) (j := 6) rfl rfl hw rfl rfl rfl (by rfl) (by simp [Value.oneCell']) (by decide) (by rfl) (by (try unfold maxLen); omega) (by (try unfold maxLen); omega) ?_); intro bx2_ cap2_ off2_ w_ hcap2_ hw_; clear hw; have hw := hw_; clear hw_; (try simp only [List.map_cons, List.map_nil, List.getD_cons_zero, List.getD_cons_succ, List.getD_nil, List.set_cons_zero, List.set_cons_succ, List.cons_append, List.nil_append, Act.eval, Array.getD_eq_getD_getElem?, List.getElem?_toArray, List.getElem?_cons_succ, List.getElem?_cons_zero, Option.getD_some, Value.cells] at hw); (try simp (disch := first | (simp; done) | (simp; omega)) only [Sep.mid_set, Sep.mid_set2, Sep.mid_set0, Sep.mid_splice, Sep.mid_splice0, List.set_cons_zero, List.set_cons_succ] at hw); (try simp only [Sep.splice, List.take_succ_cons, List.take_zero, List.drop_succ_cons, List.drop_zero, List.length_cons, List.length_nil, Nat.reduceAdd, List.cons_append, List.nil_append] at hw); (try replace hc0 := Sep.Holds.cells hw (i := 0) rfl); (try replace hc1 := Sep.Holds.cells hw (i := 1) rfl); (try replace hc2 := Sep.Holds.cells hw (i := 2) rfl); (try replace hc3 := Sep.Holds.cells hw (i := 3) rfl); (try replace hc4 := Sep.Holds.cells hw (i := 4) rfl); (try replace hc5 := Sep.Holds.cells hw (i := 5) rfl); (try replace hc6 := Sep.Holds.cells hw (i := 6) rfl)) | (refine wpList_on rfl (wp_store1 (v := _) (off := 4) rfl rfl rfl hw (i := 2) rfl (show 4 < 6 by decide) rfl ?_); intro w_ hw_; clear hw; have hw := hw_; clear hw_; (try simp only [List.map_cons, List.map_nil, List.getD_cons_zero, List.getD_cons_succ, List.getD_nil, List.set_cons_zero, List.set_cons_succ, List.cons_append, List.nil_append, Act.eval, Array.getD_eq_getD_getElem?, List.getElem?_toArray, List.getElem?_cons_succ, List.getElem?_cons_zero, Option.getD_some, Value.cells] at hw); (try simp (disch := first | (simp; done) | (simp; omega)) only [Sep.mid_set, Sep.mid_set2, Sep.mid_set0, Sep.mid_splice, Sep.mid_splice0, List.set_cons_zero, List.set_cons_succ] at hw); (try simp only [Sep.splice, List.take_succ_cons, List.take_zero, List.drop_succ_cons, List.drop_zero, List.length_cons, List.length_nil, Nat.reduceAdd, List.cons_append, List.nil_append] at hw); (try replace hc0 := Sep.Holds.cells hw (i := 0) rfl); (try replace hc1 := Sep.Holds.cells hw (i := 1) rfl); (try replace hc2 := Sep.Holds.cells hw (i := 2) rfl); (try replace hc3 := Sep.Holds.cells hw (i := 3) rfl); (try replace hc4 := Sep.Holds.cells hw (i := 4) rfl); (try replace hc5 := Sep.Holds.cells hw (i := 5) rfl); (try replace hc6 := Sep.Holds.cells hw (i := 6) rfl)) | (refine wpList_on rfl (wp_of_run (v := sliced (some p') n2 m c' 1) (run_sliceFrom (l := n2) rfl rfl rfl Hb2.out) ?_); (try simp only [Act.put, List.setIfInBounds_toArray, List.set_cons_zero, List.set_cons_succ]); rw [ha3]))
          go_roundw
          case rel =>
            have hw := hw.sel [0, 1, 2, 3, 4, 5] (by decide)
            have hw := Holds.growRow (L := [X, pt b1_ [.int .i64 0, .int .i64 0, .int .i64 0, .int .i64 0, .slice none 0 0, .slice none 0 0] 28, pt bn_ [.int .i64 q0, .int .i64 q1, .int .i64 q2, .int .i64 q3, .slice (some ⟨bx2_, off2_, none⟩) (k + 1) cap2_, .slice none 0 0] 28, Sl 57 1 (.slice (some ⟨bx2_, off2_, none⟩) (k + 1) cap2_) (k + 1) (hdVs hs ps ++ [.slice va j2 vc]), sepL (hdRs 56 hs ps)]) (j := 4) (R := hdRs 56 hs ps) (B := Sl 56 4 (.slice va j2 vc) j2 (encAs l)) rfl hw
            have hpl : hs.length = ps.length := by rw [Hpl.out, Hhl.out]
            have e1 : hdVs hs ps ++ [.slice va j2 vc] = hdVs (hs ++ [(va, vc)]) (ps ++ [l]) := by rw [hdVs_snoc hpl]; unfold hdV; rw [Hll.out]
            have e2 : hdRs 56 hs ps ++ [Sl 56 4 (.slice va j2 vc) j2 (encAs l)] = hdRs 56 (hs ++ [(va, vc)]) (ps ++ [l]) := by rw [hdRs_snoc hpl]; unfold hdV IsAs; rw [Hll.out]
            rw [e1, e2] at hw
            exact ⟨k + 1, z + n2, m - n2, c' - n2, cap2_, a3, some ⟨bx2_, off2_, none⟩, hs ++ [(va, vc)], ps ++ [l], by omega, by go_num, rfl, Sep.hid (by have := Hmz.out; have := Hb2.out; omega), by omega, by omega, Sep.hid (by rw [Hdr.out]; exact HR3.out), Sep.hid (by rw [Hps.out, Hst.out, catP_catP, Hj.out, Hdr.out]), Sep.hid (by rw [List.length_append, Hpl.out]; rfl), Sep.hid (by rw [List.length_append, Hhl.out]; rfl), hw⟩
          case measure => simp [intOf]; omega
        · have hke : N = k := by omega
          subst hke
          have Hp2 : Hid (readS b = if (itemsP d).2 = 0 then (⟨q0, q1, q2, q3, ps, (itemsP d).1⟩, 0) else (scr0, (itemsP d).2)) := Sep.hid (by
            rw [Hp.out, Hps.out, Nat.sub_self]
            unfold catP readPs
            rw [Hitm.out _ _ (Nat.add_zero z), List.append_nil])
          clear Hp Hps Hitm Hdr
          go_wp2_with fail
          refine (oItems d m c' a' Hdl (by omega) hmc Hdb.out e _ _ (HRk.out.at 0 rfl) hw.focus0).mono ?_
          rintro _ w_ ⟨v, rfl, hw_⟩
          clear hw; (try clear hc0); (try clear hc1); (try clear hc2); (try clear hc3); (try clear hc4); (try clear hc5); (try clear hc6); have hw := Holds.unfocus0 hw_; clear hw_
          obtain ⟨er, her⟩ : ∃ er, (itemsP d).2 = er := ⟨_, rfl⟩
          obtain ⟨il, hil⟩ : ∃ il, (itemsP d).1 = il := ⟨_, rfl⟩
          obtain ⟨ni, hni⟩ : ∃ ni, il.length = ni := ⟨_, rfl⟩
          rw [her, hil] at Hp2
          rw [hil, hni] at hw
          rw [her]
          have Hni := Sep.hid hni
          clear her hil hni
          (try simp only [List.map_cons, List.map_nil, List.getD_cons_zero, List.getD_cons_succ, List.getD_nil, List.set_cons_zero, List.set_cons_succ, List.cons_append, List.nil_append, Act.eval, Array.getD_eq_getD_getElem?, List.getElem?_toArray, List.getElem?_cons_succ, List.getElem?_cons_zero, Option.getD_some, Value.cells] at hw); (try simp (disch := first | (simp; done) | (simp; omega)) only [Sep.mid_set, Sep.mid_set2, Sep.mid_set0, Sep.mid_splice, Sep.mid_splice0, List.set_cons_zero, List.set_cons_succ] at hw); (try simp only [Sep.splice, List.take_succ_cons, List.take_zero, List.drop_succ_cons, List.drop_zero, List.length_cons, List.length_nil, Nat.reduceAdd, List.cons_append, List.nil_append] at hw); (try replace hc0 := Sep.Holds.cells hw (i := 0) rfl); (try replace hc1 := Sep.Holds.cells hw (i := 1) rfl); (try replace hc2 := Sep.Holds.cells hw (i := 2) rfl); (try replace hc3 := Sep.Holds.cells hw (i := 3) rfl); (try replace hc4 := Sep.Holds.cells hw (i := 4) rfl); (try replace hc5 := Sep.Holds.cells hw (i := 5) rfl); (try replace hc6 := Sep.Holds.cells hw (i := 6) rfl)
          obtain ⟨va, vc, rfl⟩ := Sl.value (i := 5) rfl hw
          by_cases he : er = 0
          · have Hp3 : Hid (readS b = (⟨q0, q1, q2, q3, ps, il⟩, 0)) := Sep.hid (by rw [Hp2.out, if_pos he])
            clear Hp2
            subst he
            go_wp2_with (first | (refine wpList_on rfl (wp_store1 (v := _) (off := 5) rfl rfl rfl hw (i := 2) rfl (show 5 < 6 by decide) rfl ?_); intro w_ hw_; clear hw; have hw := hw_; clear hw_; (try simp only [List.map_cons, List.map_nil, List.getD_cons_zero, List.getD_cons_succ, List.getD_nil, List.set_cons_zero, List.set_cons_succ, List.cons_append, List.nil_append, Act.eval, Array.getD_eq_getD_getElem?, List.getElem?_toArray, List.getElem?_cons_succ, List.getElem?_cons_zero, Option.getD_some, Value.cells] at hw); (try simp (disch := first | (simp; done) | (simp; omega)) only [Sep.mid_set, Sep.mid_set2, Sep.mid_set0, Sep.mid_splice, Sep.mid_splice0, List.set_cons_zero, List.set_cons_succ] at hw); (try simp only [Sep.splice, List.take_succ_cons, List.take_zero, List.drop_succ_cons, List.drop_zero, List.length_cons, List.length_nil, Nat.reduceAdd, List.cons_append, List.nil_append] at hw); (try replace hc0 := Sep.Holds.cells hw (i := 0) rfl); (try replace hc1 := Sep.Holds.cells hw (i := 1) rfl); (try replace hc2 := Sep.Holds.cells hw (i := 2) rfl); (try replace hc3 := Sep.Holds.cells hw (i := 3) rfl); (try replace hc4 := Sep.Holds.cells hw (i := 4) rfl); (try replace hc5 := Sep.Holds.cells hw (i := 5) rfl); (try replace hc6 := Sep.Holds.cells hw (i := 6) rfl)) | (refine wpList_on rfl (wp_storeAll (vs := [.int .i64 q0, .int .i64 q1, .int .i64 q2, .int .i64 q3, .slice pa N pc, .slice va ni vc]) rfl rfl (by rfl) hw (i := 1) rfl rfl rfl (by simp [Value.oneCell']) ?_); intro w_ hw_; clear hw; have hw := hw_; clear hw_; (try simp only [List.map_cons, List.map_nil, List.getD_cons_zero, List.getD_cons_succ, List.getD_nil, List.set_cons_zero, List.set_cons_succ, List.cons_append, List.nil_append, Act.eval, Array.getD_eq_getD_getElem?, List.getElem?_toArray, List.getElem?_cons_succ, List.getElem?_cons_zero, Option.getD_some, Value.cells] at hw); (try simp (disch := first | (simp; done) | (simp; omega)) only [Sep.mid_set, Sep.mid_set2, Sep.mid_set0, Sep.mid_splice, Sep.mid_splice0, List.set_cons_zero, List.set_cons_succ] at hw); (try simp only [Sep.splice, List.take_succ_cons, List.take_zero, List.drop_succ_cons, List.drop_zero, List.length_cons, List.length_nil, Nat.reduceAdd, List.cons_append, List.nil_append] at hw); (try replace hc0 := Sep.Holds.cells hw (i := 0) rfl); (try replace hc1 := Sep.Holds.cells hw (i := 1) rfl); (try replace hc2 := Sep.Holds.cells hw (i := 2) rfl); (try replace hc3 := Sep.Holds.cells hw (i := 3) rfl); (try replace hc4 := Sep.Holds.cells hw (i := 4) rfl); (try replace hc5 := Sep.Holds.cells hw (i := 5) rfl); (try replace hc6 := Sep.Holds.cells hw (i := 6) rfl)))
            refine bodyPost_ret (v := .tuple #[.agg #[.int .i64 q0, .int .i64 q1, .int .i64 q2, .int .i64 q3, .slice pa N pc, .slice va ni vc], .int .i64 0]) (res_cell_tmp (ty := 28) rfl rfl rfl hw (i := 1) rfl rfl) rfl ?_
            refine HP.out _ _ ?_
            rw [Hp3.out]
            refine ⟨pa, pc, va, vc, hs, by rw [Hhl.out, Hpl.out], ?_, ?_⟩
            · unfold scrV
              simp only
              rw [Hpl.out, Hni.out]
            · simp only
              unfold IsPs
              rw [Hpl.out, Hni.out]
              exact ((hw.sel [3, 4, 0, 5] (by decide)).group [_, _] [_, _]).sel [1, 0, 2] (by decide)
          · have Hp3 : Hid (readS b = (scr0, er)) := Sep.hid (by rw [Hp2.out, if_neg he])
            clear Hp2
            have hne : (er != 0) = true := by simpa using he
            clear he
            go_wp2_with (first | (refine wpList_on rfl (wp_alloc rfl hw ?_); intro b2_ w_ hw_; clear hw; have hw := hw_; clear hw_; (try simp only [List.map_cons, List.map_nil, List.getD_cons_zero, List.getD_cons_succ, List.getD_nil, List.set_cons_zero, List.set_cons_succ, List.cons_append, List.nil_append, Act.eval, Array.getD_eq_getD_getElem?, List.getElem?_toArray, List.getElem?_cons_succ, List.getElem?_cons_zero, Option.getD_some, Value.cells] at hw); (try simp (disch := first | (simp; done) | (simp; omega)) only [Sep.mid_set, Sep.mid_set2, Sep.mid_set0, Sep.mid_splice, Sep.mid_splice0, List.set_cons_zero, List.set_cons_succ] at hw); (try simp only [Sep.splice, List.take_succ_cons, List.take_zero, List.drop_succ_cons, List.drop_zero, List.length_cons, List.length_nil, Nat.reduceAdd, List.cons_append, List.nil_append] at hw); (try replace hc0 := Sep.Holds.cells hw (i := 0) rfl); (try replace hc1 := Sep.Holds.cells hw (i := 1) rfl); (try replace hc2 := Sep.Holds.cells hw (i := 2) rfl); (try replace hc3 := Sep.Holds.cells hw (i := 3) rfl); (try replace hc4 := Sep.Holds.cells hw (i := 4) rfl); (try replace hc5 := Sep.Holds.cells hw (i := 5) rfl); (try replace hc6 := Sep.Holds.cells hw (i := 6) rfl)) | (refine wpList_on rfl (wp_storeAll (vs := [.int .i64 0, .int .i64 0, .int .i64 0, .int .i64 0, .slice none 0 0, .slice none 0 0]) rfl rfl (by rfl) hw (i := 1) rfl rfl rfl (by simp [Value.oneCell']) ?_); intro w_ hw_; clear hw; have hw := hw_; clear hw_; (try simp only [List.map_cons, List.map_nil, List.getD_cons_zero, List.getD_cons_succ, List.getD_nil, List.set_cons_zero, List.set_cons_succ, List.cons_append, List.nil_append, Act.eval, Array.getD_eq_getD_getElem?, List.getElem?_toArray, List.getElem?_cons_succ, List.getElem?_cons_zero, Option.getD_some, Value.cells] at hw); (try simp (disch := first | (simp; done) | (simp; omega)) only [Sep.mid_set, Sep.mid_set2, Sep.mid_set0, Sep.mid_splice, Sep.mid_splice0, List.set_cons_zero, List.set_cons_succ] at hw); (try simp only [Sep.splice, List.take_succ_cons, List.take_zero, List.drop_succ_cons, List.drop_zero, List.length_cons, List.length_nil, Nat.reduceAdd, List.cons_append, List.nil_append] at hw); (try replace hc0 := Sep.Holds.cells hw (i := 0) rfl); (try replace hc1 := Sep.Holds.cells hw (i := 1) rfl); (try replace hc2 := Sep.Holds.cells hw (i := 2) rfl); (try replace hc3 := Sep.Holds.cells hw (i := 3) rfl); (try replace hc4 := Sep.Holds.cells hw (i := 4) rfl); (try replace hc5 := Sep.Holds.cells hw (i := 5) rfl); (try replace hc6 := Sep.Holds.cells hw (i := 6) rfl)))
            refine bodyPost_ret (v := .tuple #[.agg #[.int .i64 0, .int .i64 0, .int .i64 0, .int .i64 0, .slice none 0 0, .slice none 0 0], .int .i64 er]) (res_cell_tmp (ty := 28) rfl rfl rfl hw (i := 1) rfl rfl) rfl ?_
            exact HP.out _ _ (got_no Hp3.out (hw.sel [0] (by decide)))
end Go.Proofs.YteinbojpmhblkaaDoor
/-
  The walks of Own and Large of scripts.
-/
namespace Go.Proofs.YteinbojpmhblkaaDoor
set_option linter.unusedSimpArgs false
set_option linter.unusedVariables false
open Go.RowKit Go.Sep
set_option maxRecDepth 20000

def OwnS (TP TA TI : TypeId) (s : Scr) (en : Ending) (e w' : World) (X : HProp) : Prop :=
  ∃ (pa : Option Addr) (pc : Nat) (ia : Option Addr) (ic : Nat) (hs : List Hd), hs.length = s.ps.length ∧ en = .returned (.agg (scrV s pa pc ia ic).toArray) ∧ Holds e w' [X, IsPs TP TA pa pc hs s.ps, Sl TI 3 (.slice ia s.is.length ic) s.is.length (encTs s.is)]
set_option maxHeartbeats 8000000 in
theorem own17 (s : Scr) (hS : Small s) (hs : List Hd) (pa ia : Option Addr) (pc ic : Nat) (e w : World) (X : HProp) (hR : RdP e X pa hs s.ps) (hI : RdT e X ia s.is) (hw : Holds e w [X]) :
    Calls Tryd.prog 10 #[.agg (scrV s pa pc ia ic).toArray] w fun en w' => OwnS 62 82 47 s en e w' X := by
  have HR := Sep.hid hR; clear hR
  have HI := Sep.hid hI; clear hI
  have HS := Sep.hid hS; clear hS
  obtain ⟨np, hnp⟩ : ∃ np, s.ps.length = np := ⟨_, rfl⟩
  obtain ⟨ni, hni⟩ : ∃ ni, s.is.length = ni := ⟨_, rfl⟩
  have hA : scrV s pa pc ia ic = [.int .i64 s.r0, .int .i64 s.r1, .int .i64 s.r2, .int .i64 s.r3, .slice pa np pc, .slice ia ni ic] := by rw [← hnp, ← hni]; rfl
  rw [hA]; clear hA
  have Hnp := Sep.hid hnp; have Hni := Sep.hid hni; clear hnp hni
  have hn20 : np ≤ 20 := by have := HS.out.1; rw [Hnp.out] at this; exact this
  have hn300 : ni ≤ 300 := by have := HS.out.2.1; rw [Hni.out] at this; exact this
  refine Sep.calls_post ?_
  intro Post_ hPost_
  have HP := Sep.hid hPost_
  clear hPost_
  go_enter Tryd.func10, Tryd.ntmps10
  go_wp2_with (first | (refine wpList_on rfl (wp_box rfl hw ?_); intro b3_ w_ hw_; clear hw; have hw := hw_; clear hw_; (try simp only [List.map_cons, List.map_nil, List.getD_cons_zero, List.getD_cons_succ, List.getD_nil, List.set_cons_zero, List.set_cons_succ, List.cons_append, List.nil_append, Act.eval, Array.getD_eq_getD_getElem?, List.getElem?_toArray, List.getElem?_cons_succ, List.getElem?_cons_zero, Option.getD_some, Value.cells] at hw); (try simp (disch := first | (simp; done) | (simp; omega)) only [Sep.mid_set, Sep.mid_set2, Sep.mid_set0, Sep.mid_splice, Sep.mid_splice0, List.set_cons_zero, List.set_cons_succ] at hw); (try simp only [Sep.splice, List.take_succ_cons, List.take_zero, List.drop_succ_cons, List.drop_zero, List.length_cons, List.length_nil, Nat.reduceAdd, List.cons_append, List.nil_append] at hw); (try replace hc0 := Sep.Holds.cells hw (i := 0) rfl); (try replace hc1 := Sep.Holds.cells hw (i := 1) rfl); (try replace hc2 := Sep.Holds.cells hw (i := 2) rfl); (try replace hc3 := Sep.Holds.cells hw (i := 3) rfl); (try replace hc4 := Sep.Holds.cells hw (i := 4) rfl); (try replace hc5 := Sep.Holds.cells hw (i := 5) rfl); (try replace hc6 := Sep.Holds.cells hw (i := 6) rfl); (try simp only [Act.put, List.setIfInBounds_toArray, List.set_cons_zero, List.set_cons_succ])) | (refine wpList_on rfl (wp_alloc rfl hw ?_); intro b3_ w_ hw_; clear hw; have hw := hw_; clear hw_; (try simp only [List.map_cons, List.map_nil, List.getD_cons_zero, List.getD_cons_succ, List.getD_nil, List.set_cons_zero, List.set_cons_succ, List.cons_append, List.nil_append, Act.eval, Array.getD_eq_getD_getElem?, List.getElem?_toArray, List.getElem?_cons_succ, List.getElem?_cons_zero, Option.getD_some, Value.cells] at hw); (try simp (disch := first | (simp; done) | (simp; omega)) only [Sep.mid_set, Sep.mid_set2, Sep.mid_set0, Sep.mid_splice, Sep.mid_splice0, List.set_cons_zero, List.set_cons_succ] at hw); (try simp only [Sep.splice, List.take_succ_cons, List.take_zero, List.drop_succ_cons, List.drop_zero, List.length_cons, List.length_nil, Nat.reduceAdd, List.cons_append, List.nil_append] at hw); (try replace hc0 := Sep.Holds.cells hw (i := 0) rfl); (try replace hc1 := Sep.Holds.cells hw (i := 1) rfl); (try replace hc2 := Sep.Holds.cells hw (i := 2) rfl); (try replace hc3 := Sep.Holds.cells hw (i := 3) rfl); (try replace hc4 := Sep.Holds.cells hw (i := 4) rfl); (try replace hc5 := Sep.Holds.cells hw (i := 5) rfl); (try replace hc6 := Sep.Holds.cells hw (i := 6) rfl); (try simp only [Act.put, List.setIfInBounds_toArray, List.set_cons_zero, List.set_cons_succ])) | (refine wpList_on rfl (wp_loadN (vs := [.int .i64 s.r0, .int .i64 s.r1, .int .i64 s.r2, .int .i64 s.r3]) rfl rfl hw (i := 1) rfl rfl take4 ?_); (try simp only [Act.put, List.setIfInBounds_toArray, List.set_cons_zero, List.set_cons_succ])) | (refine wpList_on rfl (wp_storeAll (vs := [.int .i64 s.r0, .int .i64 s.r1, .int .i64 s.r2, .int .i64 s.r3, .slice none 0 0, .slice none 0 0]) rfl rfl (by rfl) hw (i := 3) rfl rfl rfl (by simp [Value.oneCell']) ?_); intro w_ hw_; clear hw; have hw := hw_; clear hw_; (try simp only [List.map_cons, List.map_nil, List.getD_cons_zero, List.getD_cons_succ, List.getD_nil, List.set_cons_zero, List.set_cons_succ, List.cons_append, List.nil_append, Act.eval, Array.getD_eq_getD_getElem?, List.getElem?_toArray, List.getElem?_cons_succ, List.getElem?_cons_zero, Option.getD_some, Value.cells] at hw); (try simp (disch := first | (simp; done) | (simp; omega)) only [Sep.mid_set, Sep.mid_set2, Sep.mid_set0, Sep.mid_splice, Sep.mid_splice0, List.set_cons_zero, List.set_cons_succ] at hw); (try simp only [Sep.splice, List.take_succ_cons, List.take_zero, List.drop_succ_cons, List.drop_zero, List.length_cons, List.length_nil, Nat.reduceAdd, List.cons_append, List.nil_append] at hw); (try replace hc0 := Sep.Holds.cells hw (i := 0) rfl); (try replace hc1 := Sep.Holds.cells hw (i := 1) rfl); (try replace hc2 := Sep.Holds.cells hw (i := 2) rfl); (try replace hc3 := Sep.Holds.cells hw (i := 3) rfl); (try replace hc4 := Sep.Holds.cells hw (i := 4) rfl); (try replace hc5 := Sep.Holds.cells hw (i := 5) rfl); (try replace hc6 := Sep.Holds.cells hw (i := 6) rfl)))
  rename_i b1_ w1_ b2_ w2_ w3_ K1_ h1_
  have hw := (hw.addEmp (X := Sl 62 1 (.slice none 0 0) 0 (hdVs [] [])) (Sl.nil _ _ _)).addEmp (X := sepL (hdRs 82 [] [])) (sepL_none (by intro P hP; cases hP))
  have Hw0 := Sep.hid hw; clear hw; (try clear hc0); (try clear hc1); (try clear hc2); (try clear hc3); (try clear hc4); (try clear hc5); (try clear hc6)
  go_loopw [14] (fun i wr => ∃ (k qc : Nat) (qa : Option Addr) (gs : List Hd) (c : List (List Deed)), k ≤ np ∧ i = .int .i64 k ∧ Hid (c = s.ps.take k) ∧ Hid (c.length = k) ∧ Hid (gs.length = k) ∧ Holds e wr [X, pt b1_ [.int .i64 s.r0, .int .i64 s.r1, .int .i64 s.r2, .int .i64 s.r3, .slice pa np pc, .slice ia ni ic] 28, pt b2_ [.int .i64 0, .int .i64 0, .int .i64 0, .int .i64 0, .slice none 0 0, .slice none 0 0] 39, pt b3_ [.int .i64 s.r0, .int .i64 s.r1, .int .i64 s.r2, .int .i64 s.r3, .slice qa k qc, .slice none 0 0] 39, Sl 62 1 (.slice qa k qc) k (hdVs gs c), sepL (hdRs 82 gs c)]) (fun i _ => np - (intOf i).toNat)
  case atStart => exact ⟨0, 0, none, [], [], Nat.zero_le _, rfl, Sep.hid rfl, Sep.hid rfl, Sep.hid rfl, Hw0.out⟩
  case round =>
    clear Hw0
    obtain ⟨k, qc, qa, gs, c, hk, rfl, Hc, Hcl, Hgl, hw⟩ := hrel
    (try replace hc0 := Sep.Holds.cells hw (i := 0) rfl); (try replace hc1 := Sep.Holds.cells hw (i := 1) rfl); (try replace hc2 := Sep.Holds.cells hw (i := 2) rfl); (try replace hc3 := Sep.Holds.cells hw (i := 3) rfl); (try replace hc4 := Sep.Holds.cells hw (i := 4) rfl); (try replace hc5 := Sep.Holds.cells hw (i := 5) rfl); (try replace hc6 := Sep.Holds.cells hw (i := 6) rfl)
    by_cases hlt : k < np
    · obtain ⟨x, hx⟩ : ∃ x, s.ps[k]? = some x := ⟨_, List.getElem?_eq_getElem (by rw [Hnp.out]; exact hlt)⟩
      obtain ⟨⟨ha, hca⟩, _, hE, hA⟩ := HR.out k x hx
      obtain ⟨q, rfl, hc⟩ := hE _ _ 0 hw rfl
      have HA := Sep.hid hA; clear hA hE
      have hx60 := HS.out.2.2 x (List.mem_of_getElem? hx)
      have Hx := Sep.hid hx; clear hx
      unfold hdV at hc
      obtain ⟨n, hn⟩ : ∃ n, x.length = n := ⟨_, rfl⟩
      rw [hn] at hc hx60
      have Hn := Sep.hid hn; clear hn
      have HIs : Hid (∀ u, IsAs 82 u x = Sl 82 4 u n (encAs x)) := Sep.hid (fun u => by unfold IsAs; rw [Hn.out])
      go_wp2_with fail
      clear hc
      refine wp_region_L [3, 4, 5, 7] [(1, (fun w' => Holds e w' [pt b3_ [.int .i64 s.r0, .int .i64 s.r1, .int .i64 s.r2, .int .i64 s.r3, .slice qa k qc, .slice none 0 0] 39]))] (n := 8) (listed := (marks 8 0)) (by kernel_rfl) rfl (by kernel_rfl) ?conds1 ?_
      case conds1 =>
       intro c hc
       simp only [List.mem_cons, List.not_mem_nil, or_false] at hc
       rcases hc with rfl
       · exact (by replace hw := hw.drew; exact hw.sel [3] (by decide))
      replace hw := hw.drew
      (try replace hc0 := Sep.Holds.cells hw (i := 0) rfl); (try replace hc1 := Sep.Holds.cells hw (i := 1) rfl); (try replace hc2 := Sep.Holds.cells hw (i := 2) rfl); (try replace hc3 := Sep.Holds.cells hw (i := 3) rfl); (try replace hc4 := Sep.Holds.cells hw (i := 4) rfl); (try replace hc5 := Sep.Holds.cells hw (i := 5) rfl); (try replace hc6 := Sep.Holds.cells hw (i := 6) rfl)
      refine wpL_q 0 ?_ rfl (Or.inl ⟨by rfl, fun w_ hS_ => ?_⟩) (marks 8 1) ?_
      rotate_left
      next => (go_simp; try (first | rfl | exact (Bool.not_not _).symm))
      try simp only [Act.put, List.setIfInBounds_toArray, List.set_cons_zero, List.set_cons_succ]
      refine wpL_m 1 ?_ rfl (.head _) (Or.inl ⟨by rfl, fun w_ hS_ => ?_⟩) (marks 8 3) ?_
      rotate_left
      next => (dsimp only at hS_; (try have q0 := Sep.Holds.cells hS_ (i := 0) rfl); (try have q1 := Sep.Holds.cells hS_ (i := 1) rfl); (try have q2 := Sep.Holds.cells hS_ (i := 2) rfl); (try have q3 := Sep.Holds.cells hS_ (i := 3) rfl); (try have q4 := Sep.Holds.cells hS_ (i := 4) rfl); (try have q5 := Sep.Holds.cells hS_ (i := 5) rfl); (try have q6 := Sep.Holds.cells hS_ (i := 6) rfl); go_simp; try (first | rfl | exact (Bool.not_not _).symm))
      try simp only [Act.put, List.setIfInBounds_toArray, List.set_cons_zero, List.set_cons_succ]
      refine wpL_q 2 ?_ rfl (Or.inl ⟨by rfl, fun w_ hS_ => ?_⟩) (marks 8 7) ?_
      rotate_left
      next => (go_simp; try (first | rfl | exact (Bool.not_not _).symm))
      try simp only [Act.put, List.setIfInBounds_toArray, List.set_cons_zero, List.set_cons_succ]
      refine wpL_o 3 rfl (by rfl) (marks 8 15) ?_
      (go_simp; go_at_call 24; refine (own_calls x n hca ha Hn (by omega) e _ _ (HA.out.at 0 rfl) hw.focus0).mono ?_; rintro _ w_ ⟨u, rfl, hw_⟩; clear hw; have hw := Holds.unfocus0 hw_; clear hw_; rw [HIs.out] at hw; (try simp only [List.map_cons, List.map_nil, List.getD_cons_zero, List.getD_cons_succ, List.getD_nil, List.set_cons_zero, List.set_cons_succ, List.cons_append, List.nil_append, Act.eval, Array.getD_eq_getD_getElem?, List.getElem?_toArray, List.getElem?_cons_succ, List.getElem?_cons_zero, Option.getD_some, Value.cells] at hw); (try simp (disch := first | (simp; done) | (simp; omega)) only [Sep.mid_set, Sep.mid_set2, Sep.mid_set0, Sep.mid_splice, Sep.mid_splice0, List.set_cons_zero, List.set_cons_succ] at hw); (try simp only [Sep.splice, List.take_succ_cons, List.take_zero, List.drop_succ_cons, List.drop_zero, List.length_cons, List.length_nil, Nat.reduceAdd, List.cons_append, List.nil_append] at hw); obtain ⟨ua, uc, rfl⟩ := Sl.value (i := 6) rfl hw)
      refine ⟨(SL.keep (by exact hw.sel [3] (by decide)) SL.nil), ?_⟩
      try simp only [Act.put, List.setIfInBounds_toArray, List.set_cons_zero, List.set_cons_succ]
      refine wpL_o 4 rfl (by rfl) (marks 8 31) ?_
      (refine wp_bsl1 (v := .slice ua n uc) rfl rfl (by rfl) (by rfl) (by decide) hw ?_; intro b_ w_ hw_; clear hw; have hw := hw_; clear hw_; (try simp only [List.map_cons, List.map_nil, List.getD_cons_zero, List.getD_cons_succ, List.getD_nil, List.set_cons_zero, List.set_cons_succ, List.cons_append, List.nil_append, Act.eval, Array.getD_eq_getD_getElem?, List.getElem?_toArray, List.getElem?_cons_succ, List.getElem?_cons_zero, Option.getD_some, Value.cells] at hw); (try simp (disch := first | (simp; done) | (simp; omega)) only [Sep.mid_set, Sep.mid_set2, Sep.mid_set0, Sep.mid_splice, Sep.mid_splice0, List.set_cons_zero, List.set_cons_succ] at hw); (try simp only [Sep.splice, List.take_succ_cons, List.take_zero, List.drop_succ_cons, List.drop_zero, List.length_cons, List.length_nil, Nat.reduceAdd, List.cons_append, List.nil_append] at hw); (try replace hc0 := Sep.Holds.cells hw (i := 0) rfl); (try replace hc1 := Sep.Holds.cells hw (i := 1) rfl); (try replace hc2 := Sep.Holds.cells hw (i := 2) rfl); (try replace hc3 := Sep.Holds.cells hw (i := 3) rfl); (try replace hc4 := Sep.Holds.cells hw (i := 4) rfl); (try replace hc5 := Sep.Holds.cells hw (i := 5) rfl); (try replace hc6 := Sep.Holds.cells hw (i := 6) rfl))
      refine ⟨(SL.keep (by exact hw.sel [3] (by decide)) SL.nil), ?_⟩
      try simp only [Act.put, List.setIfInBounds_toArray, List.set_cons_zero, List.set_cons_succ]
      refine wpL_o 5 rfl (by rfl) (marks 8 63) ?_
      (refine wp_appendPt (i := 4) (j := 7) rfl rfl hw rfl rfl rfl (by rfl) (by simp [Value.oneCell']) (by decide) (by rfl) (by (try unfold maxLen); omega) (by (try unfold maxLen); omega) ?_; intro bx2_ cap2_ off2_ w_ hcap2_ hw_; clear hw; have hw := hw_; clear hw_; (try simp only [List.map_cons, List.map_nil, List.getD_cons_zero, List.getD_cons_succ, List.getD_nil, List.set_cons_zero, List.set_cons_succ, List.cons_append, List.nil_append, Act.eval, Array.getD_eq_getD_getElem?, List.getElem?_toArray, List.getElem?_cons_succ, List.getElem?_cons_zero, Option.getD_some, Value.cells] at hw); (try simp (disch := first | (simp; done) | (simp; omega)) only [Sep.mid_set, Sep.mid_set2, Sep.mid_set0, Sep.mid_splice, Sep.mid_splice0, List.set_cons_zero, List.set_cons_succ] at hw); (try simp only [Sep.splice, List.take_succ_cons, List.take_zero, List.drop_succ_cons, List.drop_zero, List.length_cons, List.length_nil, Nat.reduceAdd, List.cons_append, List.nil_append] at hw); (try replace hc0 := Sep.Holds.cells hw (i := 0) rfl); (try replace hc1 := Sep.Holds.cells hw (i := 1) rfl); (try replace hc2 := Sep.Holds.cells hw (i := 2) rfl); (try replace hc3 := Sep.Holds.cells hw (i := 3) rfl); (try replace hc4 := Sep.Holds.cells hw (i := 4) rfl); (try replace hc5 := Sep.Holds.cells hw (i := 5) rfl); (try replace hc6 := Sep.Holds.cells hw (i := 6) rfl))
      refine ⟨(SL.drop 5 (by kernel_rfl) SL.nil), ?_⟩
      try simp only [Act.put, List.setIfInBounds_toArray, List.set_cons_zero, List.set_cons_succ]
      refine wpL_q 6 ?_ rfl (Or.inl ⟨by rfl, fun w_ hS_ => ?_⟩) (marks 8 127) ?_
      rotate_left
      next => (go_simp; try (first | rfl | exact (Bool.not_not _).symm))
      try simp only [Act.put, List.setIfInBounds_toArray, List.set_cons_zero, List.set_cons_succ]
      refine wpL_o 7 rfl (by rfl) (marks 8 255) ?_
      (refine wp_store1 (v := .slice (some ⟨bx2_, off2_, none⟩) (k + 1) cap2_) (off := 4) rfl rfl rfl hw (i := 3) rfl (show 4 < 6 by decide) rfl ?_; intro w_ hw_; clear hw; have hw := hw_; clear hw_; (try simp only [List.map_cons, List.map_nil, List.getD_cons_zero, List.getD_cons_succ, List.getD_nil, List.set_cons_zero, List.set_cons_succ, List.cons_append, List.nil_append, Act.eval, Array.getD_eq_getD_getElem?, List.getElem?_toArray, List.getElem?_cons_succ, List.getElem?_cons_zero, Option.getD_some, Value.cells] at hw); (try simp (disch := first | (simp; done) | (simp; omega)) only [Sep.mid_set, Sep.mid_set2, Sep.mid_set0, Sep.mid_splice, Sep.mid_splice0, List.set_cons_zero, List.set_cons_succ] at hw); (try simp only [Sep.splice, List.take_succ_cons, List.take_zero, List.drop_succ_cons, List.drop_zero, List.length_cons, List.length_nil, Nat.reduceAdd, List.cons_append, List.nil_append] at hw); (try replace hc0 := Sep.Holds.cells hw (i := 0) rfl); (try replace hc1 := Sep.Holds.cells hw (i := 1) rfl); (try replace hc2 := Sep.Holds.cells hw (i := 2) rfl); (try replace hc3 := Sep.Holds.cells hw (i := 3) rfl); (try replace hc4 := Sep.Holds.cells hw (i := 4) rfl); (try replace hc5 := Sep.Holds.cells hw (i := 5) rfl); (try replace hc6 := Sep.Holds.cells hw (i := 6) rfl))
      refine ⟨(SL.drop 5 (by kernel_rfl) SL.nil), ?_⟩
      try simp only [Act.put, List.setIfInBounds_toArray, List.set_cons_zero, List.set_cons_succ]
      all_goals refine wpL_done (by kernel_rfl) ?_ _
      (try clear hc0); (try clear hc1); (try clear hc2); (try clear hc3); (try clear hc4); (try clear hc5); (try clear hc6)
      go_wp2_with fail
      go_roundw
      case rel =>
        have hw := hw.sel [0, 1, 2, 3, 4, 5, 6] (by decide)
        have hw := Holds.growRow (L := [X, pt b1_ [.int .i64 s.r0, .int .i64 s.r1, .int .i64 s.r2, .int .i64 s.r3,   .slice (some q) np pc, .slice ia ni ic] 28, pt b2_ [.int .i64 0, .int .i64 0, .int .i64 0, .int .i64 0, .slice none 0 0, .slice none 0 0] 39, pt b3_ [.int .i64 s.r0, .int .i64 s.r1, .int .i64 s.r2, .int .i64 s.r3, .slice (some ⟨bx2_, off2_, none⟩) (k + 1) cap2_, .slice none 0 0] 39, Sl 62 1 (.slice (some ⟨bx2_, off2_, none⟩) (k + 1) cap2_) (k + 1) (hdVs gs c ++ [.slice ua n uc]), sepL (hdRs 82 gs c)]) (j := 5) (R := hdRs 82 gs c) (B := Sl 82 4 (.slice ua n uc) n (encAs x)) rfl hw
        have hpl : gs.length = c.length := by rw [Hcl.out, Hgl.out]
        have e1 : hdVs gs c ++ [.slice ua n uc] = hdVs (gs ++ [(ua, uc)]) (c ++ [x]) := by rw [hdVs_snoc hpl]; unfold hdV; rw [Hn.out]
        have e2 : hdRs 82 gs c ++ [Sl 82 4 (.slice ua n uc) n (encAs x)] = hdRs 82 (gs ++ [(ua, uc)]) (c ++ [x]) := by rw [hdRs_snoc hpl]; unfold hdV IsAs; rw [Hn.out]
        rw [e1, e2] at hw
        exact ⟨k + 1, cap2_, some ⟨bx2_, off2_, none⟩, gs ++ [(ua, uc)], c ++ [x], by omega, by go_num, Sep.hid (by rw [Hc.out, List.take_add_one, Hx.out]; rfl), Sep.hid (by rw [List.length_append, Hcl.out]; rfl), Sep.hid (by rw [List.length_append, Hgl.out]; rfl), hw⟩
      case measure => simp [intOf]; omega
    · have hke : np = k := by omega
      subst hke
      have Hcc : Hid (c = s.ps) := Sep.hid (by rw [Hc.out, List.take_of_length_le (by rw [Hnp.out]; exact Nat.le_refl _)])
      clear Hc
      go_wp2_with fail
      have hw := hw.addEmp (X := Sl 47 3 (.slice none 0 0) 0 (encTs [])) (Sl.nil _ _ _)
      have Hw0 := Sep.hid hw; clear hw; (try clear hc0); (try clear hc1); (try clear hc2); (try clear hc3); (try clear hc4); (try clear hc5); (try clear hc6)
      go_loopw [29] (fun i wr => ∃ (k jc : Nat) (ja : Option Addr) (d : List Itm), k ≤ ni ∧ i = .int .i64 k ∧ Hid (d = s.is.take k) ∧ Hid (d.length = k) ∧ Holds e wr [X, pt b1_ [.int .i64 s.r0, .int .i64 s.r1, .int .i64 s.r2, .int .i64 s.r3, .slice pa np pc, .slice ia ni ic] 28, pt b2_ [.int .i64 0, .int .i64 0, .int .i64 0, .int .i64 0, .slice none 0 0, .slice none 0 0] 39, pt b3_ [.int .i64 s.r0, .int .i64 s.r1, .int .i64 s.r2, .int .i64 s.r3, .slice qa np qc, .slice ja k jc] 39, Sl 62 1 (.slice qa np qc) np (hdVs gs c), sepL (hdRs 82 gs c), Sl 47 3 (.slice ja k jc) k (encTs d)]) (fun i _ => ni - (intOf i).toNat)
      case atStart => exact ⟨0, 0, none, [], Nat.zero_le _, rfl, Sep.hid rfl, Sep.hid rfl, Hw0.out⟩
      case round =>
        clear Hw0
        obtain ⟨k, jc, ja, d, hk, rfl, Hd, Hdl, hw⟩ := hrel
        by_cases hlt : k < ni
        · obtain ⟨x, hx⟩ : ∃ x, s.is[k]? = some x := ⟨_, List.getElem?_eq_getElem (by rw [Hni.out]; exact hlt)⟩
          obtain ⟨p, rfl, hc⟩ := HI.out _ _ 0 hw rfl k x hx
          have Hcx := Sep.hid hc; clear hc
          have Hx := Sep.hid hx; clear hx
          (try replace hc0 := Sep.Holds.cells hw (i := 0) rfl); (try replace hc1 := Sep.Holds.cells hw (i := 1) rfl); (try replace hc2 := Sep.Holds.cells hw (i := 2) rfl); (try replace hc3 := Sep.Holds.cells hw (i := 3) rfl); (try replace hc4 := Sep.Holds.cells hw (i := 4) rfl); (try replace hc5 := Sep.Holds.cells hw (i := 5) rfl); (try replace hc6 := Sep.Holds.cells hw (i := 6) rfl)
          go_wp2_with (first | (refine wpList_on rfl (wp_of_run (run_loadAd (vs := encT x) rfl rfl rfl Hcx.out) ?_); (try simp only [Act.put, List.setIfInBounds_toArray, List.set_cons_zero, List.set_cons_succ])) | (refine wpList_on rfl (wp_alloc rfl hw ?_); intro b6_ w_ hw_; clear hw; have hw := hw_; clear hw_; (try simp only [List.map_cons, List.map_nil, List.getD_cons_zero, List.getD_cons_succ, List.getD_nil, List.set_cons_zero, List.set_cons_succ, List.cons_append, List.nil_append, Act.eval, Array.getD_eq_getD_getElem?, List.getElem?_toArray, List.getElem?_cons_succ, List.getElem?_cons_zero, Option.getD_some, Value.cells] at hw); (try simp (disch := first | (simp; done) | (simp; omega)) only [Sep.mid_set, Sep.mid_set2, Sep.mid_set0, Sep.mid_splice, Sep.mid_splice0, List.set_cons_zero, List.set_cons_succ] at hw); (try simp only [Sep.splice, List.take_succ_cons, List.take_zero, List.drop_succ_cons, List.drop_zero, List.length_cons, List.length_nil, Nat.reduceAdd, List.cons_append, List.nil_append] at hw); (try replace hc0 := Sep.Holds.cells hw (i := 0) rfl); (try replace hc1 := Sep.Holds.cells hw (i := 1) rfl); (try replace hc2 := Sep.Holds.cells hw (i := 2) rfl); (try replace hc3 := Sep.Holds.cells hw (i := 3) rfl); (try replace hc4 := Sep.Holds.cells hw (i := 4) rfl); (try replace hc5 := Sep.Holds.cells hw (i := 5) rfl); (try replace hc6 := Sep.Holds.cells hw (i := 6) rfl)) | (refine wpList_on rfl (wp_storeAll (vs := encT x) rfl rfl (by rfl) hw (i := 7) rfl rfl rfl (encT_one x) ?_); intro w_ hw_; clear hw; have hw := hw_; clear hw_; (try simp only [List.map_cons, List.map_nil, List.getD_cons_zero, List.getD_cons_succ, List.getD_nil, List.set_cons_zero, List.set_cons_succ, List.cons_append, List.nil_append, Act.eval, Array.getD_eq_getD_getElem?, List.getElem?_toArray, List.getElem?_cons_succ, List.getElem?_cons_zero, Option.getD_some, Value.cells] at hw); (try simp (disch := first | (simp; done) | (simp; omega)) only [Sep.mid_set, Sep.mid_set2, Sep.mid_set0, Sep.mid_splice, Sep.mid_splice0, List.set_cons_zero, List.set_cons_succ] at hw); (try simp only [Sep.splice, List.take_succ_cons, List.take_zero, List.drop_succ_cons, List.drop_zero, List.length_cons, List.length_nil, Nat.reduceAdd, List.cons_append, List.nil_append] at hw); (try replace hc0 := Sep.Holds.cells hw (i := 0) rfl); (try replace hc1 := Sep.Holds.cells hw (i := 1) rfl); (try replace hc2 := Sep.Holds.cells hw (i := 2) rfl); (try replace hc3 := Sep.Holds.cells hw (i := 3) rfl); (try replace hc4 := Sep.Holds.cells hw (i := 4) rfl); (try replace hc5 := Sep.Holds.cells hw (i := 5) rfl); (try replace hc6 := Sep.Holds.cells hw (i := 6) rfl)) | (refine wpList_on rfl (wp_loadN (vs := encT x) rfl rfl hw (i := 7) rfl rfl (by intro j v hj; simpa using hj) ?_); (try simp only [Act.put, List.setIfInBounds_toArray, List.set_cons_zero, List.set_cons_succ])) | (refine wpList_on rfl (wp_bsl1 rfl rfl (by rfl) (by rfl) (by decide) hw ?_); intro b_ w_ hw_; clear hw; have hw := hw_; clear hw_; (try simp only [List.map_cons, List.map_nil, List.getD_cons_zero, List.getD_cons_succ, List.getD_nil, List.set_cons_zero, List.set_cons_succ, List.cons_append, List.nil_append, Act.eval, Array.getD_eq_getD_getElem?, List.getElem?_toArray, List.getElem?_cons_succ, List.getElem?_cons_zero, Option.getD_some, Value.cells] at hw); (try simp (disch := first | (simp; done) | (simp; omega)) only [Sep.mid_set, Sep.mid_set2, Sep.mid_set0, Sep.mid_splice, Sep.mid_splice0, List.set_cons_zero, List.set_cons_succ] at hw); (try simp only [Sep.splice, List.take_succ_cons, List.take_zero, List.drop_succ_cons, List.drop_zero, List.length_cons, List.length_nil, Nat.reduceAdd, List.cons_append, List.nil_append] at hw); (try replace hc0 := Sep.Holds.cells hw (i := 0) rfl); (try replace hc1 := Sep.Holds.cells hw (i := 1) rfl); (try replace hc2 := Sep.Holds.cells hw (i := 2) rfl); (try replace hc3 := Sep.Holds.cells hw (i := 3) rfl); (try replace hc4 := Sep.Holds.cells hw (i := 4) rfl); (try replace hc5 := Sep.Holds.cells hw (i := 5) rfl); (try replace hc6 := Sep.Holds.cells hw (i := 6) rfl)) | (at_builtin; refine wpList_on rfl (wp_appendPt (i := 6) (j := 8) rfl rfl hw rfl rfl rfl (by rfl) (encT_one x) (by decide) (by rfl) (by (try unfold maxLen); omega) (by (try unfold maxLen); omega) ?_); intro bx2_ cap2_ off2_ w_ hcap2_ hw_; clear hw; have hw := hw_; clear hw_; (try simp only [List.map_cons, List.map_nil, List.getD_cons_zero, List.getD_cons_succ, List.getD_nil, List.set_cons_zero, List.set_cons_succ, List.cons_append, List.nil_append, Act.eval, Array.getD_eq_getD_getElem?, List.getElem?_toArray, List.getElem?_cons_succ, List.getElem?_cons_zero, Option.getD_some, Value.cells] at hw); (try simp (disch := first | (simp; done) | (simp; omega)) only [Sep.mid_set, Sep.mid_set2, Sep.mid_set0, Sep.mid_splice, Sep.mid_splice0, List.set_cons_zero, List.set_cons_succ] at hw); (try simp only [Sep.splice, List.take_succ_cons, List.take_zero, List.drop_succ_cons, List.drop_zero, List.length_cons, List.length_nil, Nat.reduceAdd, List.cons_append, List.nil_append] at hw); (try replace hc0 := Sep.Holds.cells hw (i := 0) rfl); (try replace hc1 := Sep.Holds.cells hw (i := 1) rfl); (try replace hc2 := Sep.Holds.cells hw (i := 2) rfl); (try replace hc3 := Sep.Holds.cells hw (i := 3) rfl); (try replace hc4 := Sep.Holds.cells hw (i := 4) rfl); (try replace hc5 := Sep.Holds.cells hw (i := 5) rfl); (try replace hc6 := Sep.Holds.cells hw (i := 6) rfl)) | (refine wpList_on rfl (wp_store1 (v := _) (off := 5) rfl rfl rfl hw (i := 3) rfl (show 5 < 6 by decide) rfl ?_); intro w_ hw_; clear hw; have hw := hw_; clear hw_; (try simp only [List.map_cons, List.map_nil, List.getD_cons_zero, List.getD_cons_succ, List.getD_nil, List.set_cons_zero, List.set_cons_succ, List.cons_append, List.nil_append, Act.eval, Array.getD_eq_getD_getElem?, List.getElem?_toArray, List.getElem?_cons_succ, List.getElem?_cons_zero, Option.getD_some, Value.cells] at hw); (try simp (disch := first | (simp; done) | (simp; omega)) only [Sep.mid_set, Sep.mid_set2, Sep.mid_set0, Sep.mid_splice, Sep.mid_splice0, List.set_cons_zero, List.set_cons_succ] at hw); (try simp only [Sep.splice, List.take_succ_cons, List.take_zero, List.drop_succ_cons, List.drop_zero, List.length_cons, List.length_nil, Nat.reduceAdd, List.cons_append, List.nil_append] at hw); (try replace hc0 := Sep.Holds.cells hw (i := 0) rfl); (try replace hc1 := Sep.Holds.cells hw (i := 1) rfl); (try replace hc2 := Sep.Holds.cells hw (i := 2) rfl); (try replace hc3 := Sep.Holds.cells hw (i := 3) rfl); (try replace hc4 := Sep.Holds.cells hw (i := 4) rfl); (try replace hc5 := Sep.Holds.cells hw (i := 5) rfl); (try replace hc6 := Sep.Holds.cells hw (i := 6) rfl)))
          go_roundw
          case rel =>
            refine ⟨k + 1, cap2_, some ⟨bx2_, off2_, none⟩, d ++ [x], by omega, by go_num, Sep.hid (by rw [Hd.out, List.take_add_one, Hx.out]; rfl), Sep.hid (by rw [List.length_append, Hdl.out]; rfl), ?_⟩
            rw [encTs_snoc]
            exact hw.sel [0, 1, 2, 3, 4, 5, 6] (by decide)
          case measure => simp [intOf]; omega
        · have hke : ni = k := by omega
          subst hke
          have Hdd : Hid (d = s.is) := Sep.hid (by rw [Hd.out, List.take_of_length_le (by rw [Hni.out]; exact Nat.le_refl _)])
          clear Hd
          (try replace hc0 := Sep.Holds.cells hw (i := 0) rfl); (try replace hc1 := Sep.Holds.cells hw (i := 1) rfl); (try replace hc2 := Sep.Holds.cells hw (i := 2) rfl); (try replace hc3 := Sep.Holds.cells hw (i := 3) rfl); (try replace hc4 := Sep.Holds.cells hw (i := 4) rfl); (try replace hc5 := Sep.Holds.cells hw (i := 5) rfl); (try replace hc6 := Sep.Holds.cells hw (i := 6) rfl)
          go_wp2_with (first | (refine wpList_on rfl (wp_storeAll (vs := [.int .i64 s.r0, .int .i64 s.r1, .int .i64 s.r2, .int .i64 s.r3, .slice qa np qc, .slice ja ni jc]) rfl rfl (by rfl) hw (i := 2) rfl rfl rfl (by simp [Value.oneCell']) ?_); intro w_ hw_; clear hw; have hw := hw_; clear hw_; (try simp only [List.map_cons, List.map_nil, List.getD_cons_zero, List.getD_cons_succ, List.getD_nil, List.set_cons_zero, List.set_cons_succ, List.cons_append, List.nil_append, Act.eval, Array.getD_eq_getD_getElem?, List.getElem?_toArray, List.getElem?_cons_succ, List.getElem?_cons_zero, Option.getD_some, Value.cells] at hw); (try simp (disch := first | (simp; done) | (simp; omega)) only [Sep.mid_set, Sep.mid_set2, Sep.mid_set0, Sep.mid_splice, Sep.mid_splice0, List.set_cons_zero, List.set_cons_succ] at hw); (try simp only [Sep.splice, List.take_succ_cons, List.take_zero, List.drop_succ_cons, List.drop_zero, List.length_cons, List.length_nil, Nat.reduceAdd, List.cons_append, List.nil_append] at hw); (try replace hc0 := Sep.Holds.cells hw (i := 0) rfl); (try replace hc1 := Sep.Holds.cells hw (i := 1) rfl); (try replace hc2 := Sep.Holds.cells hw (i := 2) rfl); (try replace hc3 := Sep.Holds.cells hw (i := 3) rfl); (try replace hc4 := Sep.Holds.cells hw (i := 4) rfl); (try replace hc5 := Sep.Holds.cells hw (i := 5) rfl); (try replace hc6 := Sep.Holds.cells hw (i := 6) rfl)))
          refine bodyPost_ret (v := .agg #[.int .i64 s.r0, .int .i64 s.r1, .int .i64 s.r2, .int .i64 s.r3, .slice qa np qc, .slice ja ni jc]) (res_cell (ty := 39) rfl rfl hw (i := 2) rfl rfl) rfl ?_
          refine HP.out _ _ ⟨qa, qc, ja, jc, gs, by rw [Hgl.out, Hnp.out], ?_, ?_⟩
          · unfold scrV
            rw [Hnp.out, Hni.out]
          · unfold IsPs
            rw [Hnp.out, Hni.out, ← Hcc.out, ← Hdd.out]
            exact ((hw.sel [4, 5, 0, 6] (by decide)).group [_, _] [_, _]).sel [1, 0, 2] (by decide)
def largeS (s : Scr) : Bool := decide (20 < s.ps.length) || (decide (220 < s.is.length) || s.ps.any (fun p => decide (60 < p.length)))
theorem small_of {s : Scr} (h : largeS s = false) : Small s ∧ s.is.length ≤ 220 := by
  unfold largeS at h
  simp only [Bool.or_eq_false_iff, decide_eq_false_iff_not, List.any_eq_false] at h
  obtain ⟨h1, h2, h3⟩ := h
  exact ⟨⟨by omega, by omega, fun p hp => by have := h3 p hp; simp only [decide_eq_true_eq] at this; omega⟩, by omega⟩
set_option maxHeartbeats 4000000 in
theorem large17 (s : Scr) (hs : List Hd) (pa ia : Option Addr) (pc ic : Nat) (hpm : s.ps.length ≤ maxLen) (him : s.is.length ≤ maxLen) (e w : World) (X : HProp) (hR : RdP e X pa hs s.ps) (hw : Holds e w [X]) :
    Calls Tryd.prog 7 #[.agg (scrV s pa pc ia ic).toArray] w fun en w' => en = .returned (.bool (largeS s)) ∧ Holds e w' [X] := by
  have HR := Sep.hid hR; clear hR
  obtain ⟨np, hnp⟩ : ∃ np, s.ps.length = np := ⟨_, rfl⟩
  obtain ⟨ni, hni⟩ : ∃ ni, s.is.length = ni := ⟨_, rfl⟩
  have hA : scrV s pa pc ia ic = [.int .i64 s.r0, .int .i64 s.r1, .int .i64 s.r2, .int .i64 s.r3, .slice pa np pc, .slice ia ni ic] := by rw [← hnp, ← hni]; rfl
  rw [hA]; clear hA
  have Hl : Hid (largeS s = (decide (20 < np) || (decide (220 < ni) || s.ps.any (fun p => decide (60 < p.length))))) := Sep.hid (by unfold largeS; rw [hnp, hni])
  have Hnp := Sep.hid hnp; clear hnp hni hpm him
  by_cases h1 : (20 : Int) < np
  · refine Sep.calls_post ?_
    intro Post_ hPost_
    have HP := Sep.hid hPost_
    clear hPost_
    go_enter Tryd.func7, Tryd.ntmps7
    go_wp2_with (first | (refine wpList_on rfl (wp_box rfl hw ?_); intro b_ w_ hw_; clear hw; have hw := hw_; clear hw_; (try simp only [List.map_cons, List.map_nil, List.getD_cons_zero, List.getD_cons_succ, List.getD_nil, List.set_cons_zero, List.set_cons_succ, List.cons_append, List.nil_append, Act.eval, Array.getD_eq_getD_getElem?, List.getElem?_toArray, List.getElem?_cons_succ, List.getElem?_cons_zero, Option.getD_some, Value.cells] at hw); (try simp (disch := first | (simp; done) | (simp; omega)) only [Sep.mid_set, Sep.mid_set2, Sep.mid_set0, Sep.mid_splice, Sep.mid_splice0, List.set_cons_zero, List.set_cons_succ] at hw); (try simp only [Sep.splice, List.take_succ_cons, List.take_zero, List.drop_succ_cons, List.drop_zero, List.length_cons, List.length_nil, Nat.reduceAdd, List.cons_append, List.nil_append] at hw); (try replace hc0 := Sep.Holds.cells hw (i := 0) rfl); (try replace hc1 := Sep.Holds.cells hw (i := 1) rfl); (try replace hc2 := Sep.Holds.cells hw (i := 2) rfl); (try replace hc3 := Sep.Holds.cells hw (i := 3) rfl); (try replace hc4 := Sep.Holds.cells hw (i := 4) rfl); (try replace hc5 := Sep.Holds.cells hw (i := 5) rfl); (try replace hc6 := Sep.Holds.cells hw (i := 6) rfl)))
    exact HP.out _ _ ⟨by rw [Hl.out, decide_eq_true (by omega : 20 < np)]; rfl, hw.sel [0] (by decide)⟩
  by_cases h2 : (220 : Int) < ni
  · refine Sep.calls_post ?_
    intro Post_ hPost_
    have HP := Sep.hid hPost_
    clear hPost_
    go_enter Tryd.func7, Tryd.ntmps7
    go_wp2_with (first | (refine wpList_on rfl (wp_box rfl hw ?_); intro b_ w_ hw_; clear hw; have hw := hw_; clear hw_; (try simp only [List.map_cons, List.map_nil, List.getD_cons_zero, List.getD_cons_succ, List.getD_nil, List.set_cons_zero, List.set_cons_succ, List.cons_append, List.nil_append, Act.eval, Array.getD_eq_getD_getElem?, List.getElem?_toArray, List.getElem?_cons_succ, List.getElem?_cons_zero, Option.getD_some, Value.cells] at hw); (try simp (disch := first | (simp; done) | (simp; omega)) only [Sep.mid_set, Sep.mid_set2, Sep.mid_set0, Sep.mid_splice, Sep.mid_splice0, List.set_cons_zero, List.set_cons_succ] at hw); (try simp only [Sep.splice, List.take_succ_cons, List.take_zero, List.drop_succ_cons, List.drop_zero, List.length_cons, List.length_nil, Nat.reduceAdd, List.cons_append, List.nil_append] at hw); (try replace hc0 := Sep.Holds.cells hw (i := 0) rfl); (try replace hc1 := Sep.Holds.cells hw (i := 1) rfl); (try replace hc2 := Sep.Holds.cells hw (i := 2) rfl); (try replace hc3 := Sep.Holds.cells hw (i := 3) rfl); (try replace hc4 := Sep.Holds.cells hw (i := 4) rfl); (try replace hc5 := Sep.Holds.cells hw (i := 5) rfl); (try replace hc6 := Sep.Holds.cells hw (i := 6) rfl)))
    exact HP.out _ _ ⟨by rw [Hl.out, decide_eq_true (by omega : 220 < ni)]; simp, hw.sel [0] (by decide)⟩
  have Hl2 : Hid (largeS s = s.ps.any (fun p => decide (60 < p.length))) := Sep.hid (by rw [Hl.out, decide_eq_false (by omega : ¬ 20 < np), decide_eq_false (by omega : ¬ 220 < ni)]; rfl)
  clear Hl
  refine Sep.calls_post ?_
  intro Post_ hPost_
  have HP := Sep.hid hPost_
  clear hPost_
  go_enter Tryd.func7, Tryd.ntmps7
  go_wp2_with (first | (refine wpList_on rfl (wp_box rfl hw ?_); intro b1_ w_ hw_; clear hw; have hw := hw_; clear hw_; (try simp only [List.map_cons, List.map_nil, List.getD_cons_zero, List.getD_cons_succ, List.getD_nil, List.set_cons_zero, List.set_cons_succ, List.cons_append, List.nil_append, Act.eval, Array.getD_eq_getD_getElem?, List.getElem?_toArray, List.getElem?_cons_succ, List.getElem?_cons_zero, Option.getD_some, Value.cells] at hw); (try simp (disch := first | (simp; done) | (simp; omega)) only [Sep.mid_set, Sep.mid_set2, Sep.mid_set0, Sep.mid_splice, Sep.mid_splice0, List.set_cons_zero, List.set_cons_succ] at hw); (try simp only [Sep.splice, List.take_succ_cons, List.take_zero, List.drop_succ_cons, List.drop_zero, List.length_cons, List.length_nil, Nat.reduceAdd, List.cons_append, List.nil_append] at hw); (try replace hc0 := Sep.Holds.cells hw (i := 0) rfl); (try replace hc1 := Sep.Holds.cells hw (i := 1) rfl); (try replace hc2 := Sep.Holds.cells hw (i := 2) rfl); (try replace hc3 := Sep.Holds.cells hw (i := 3) rfl); (try replace hc4 := Sep.Holds.cells hw (i := 4) rfl); (try replace hc5 := Sep.Holds.cells hw (i := 5) rfl); (try replace hc6 := Sep.Holds.cells hw (i := 6) rfl)))
  have Hw0 := Sep.hid hw; clear hw; (try clear hc0); (try clear hc1); (try clear hc2); (try clear hc3); (try clear hc4); (try clear hc5); (try clear hc6)
  go_loopw [18] (fun i wr => ∃ k : Nat, k ≤ np ∧ i = .int .i64 k ∧ Hid ((s.ps.take k).any (fun p => decide (60 < p.length)) = false) ∧ Holds e wr [X]) (fun i _ => np - (intOf i).toNat)
  case atStart => exact ⟨0, Nat.zero_le _, rfl, Sep.hid (by simp), Hw0.out.sel [0] (by decide)⟩
  case round =>
    clear Hw0
    obtain ⟨k, hk, rfl, Hno, hw⟩ := hrel
    by_cases hlt : k < np
    · obtain ⟨x, hx⟩ : ∃ x, s.ps[k]? = some x := ⟨_, List.getElem?_eq_getElem (by rw [Hnp.out]; exact hlt)⟩
      obtain ⟨⟨ha, hca⟩, _, hE, _⟩ := HR.out k x hx
      obtain ⟨q, rfl, hc⟩ := hE _ _ 0 hw rfl
      clear hE
      have Hx := Sep.hid hx; clear hx
      unfold hdV at hc
      obtain ⟨n, hn⟩ : ∃ n, x.length = n := ⟨_, rfl⟩
      rw [hn] at hc
      have Hn := Sep.hid hn; clear hn
      by_cases h6 : (60 : Int) < n
      · have Ha : Hid (s.ps.any (fun p => decide (60 < p.length)) = true) := Sep.hid (by rw [List.any_eq_true]; exact ⟨x, List.mem_of_getElem? Hx.out, by rw [Hn.out, decide_eq_true_eq]; omega⟩)
        go_wp2_with fail
        exact HP.out _ _ ⟨by rw [Hl2.out, Ha.out], hw⟩
      · have Ha : Hid ((s.ps.take (k + 1)).any (fun p => decide (60 < p.length)) = false) := Sep.hid (by
          rw [List.take_add_one, Hx.out]
          simp only [Option.toList_some, List.any_append, Hno.out, List.any_cons, List.any_nil, Bool.false_or, Bool.or_false, decide_eq_false_iff_not]
          rw [Hn.out]; omega)
        go_wp2_with fail
        go_roundw
        case rel => exact ⟨k + 1, by omega, by go_num, Ha, hw⟩
        case measure => simp [intOf]; omega
    · have hke : np = k := by omega
      subst hke
      have Ha : Hid (s.ps.any (fun p => decide (60 < p.length)) = false) := Sep.hid (by have h := Hno.out; rwa [List.take_of_length_le (by rw [Hnp.out]; exact Nat.le_refl _)] at h)
      go_wp2_with fail
      exact HP.out _ _ ⟨by rw [Hl2.out, Ha.out]; rfl, hw⟩
end Go.Proofs.YteinbojpmhblkaaDoor
/-
  The walks of Same of scripts, the program's and the document's.
-/
namespace Go.Proofs.YteinbojpmhblkaaDoor
set_option linter.unusedSimpArgs false
set_option linter.unusedVariables false
open Go.RowKit Go.Sep
set_option maxRecDepth 20000

theorem noGuardT : Tryd.prog.eqGuardType Tryd.prog.depth 23 = false := by kernel_rfl
theorem noGuardU : Tryd.prog.eqGuardType Tryd.prog.depth 47 = false := by kernel_rfl
set_option maxHeartbeats 400000 in
theorem eqT (s t : Itm) (w : World) : (binOp .eql 23 (.agg (encT s).toArray) (.agg (encT t).toArray)).run Tryd.prog w = .ok (.bool (decide (s = t))) w := by
  have h : decide (s = t) = (decide (s.d = t.d) && (decide (s.a = t.a) && decide (s.n = t.n))) := by
    obtain ⟨s0, s1, s2⟩ := s
    obtain ⟨t0, t1, t2⟩ := t
    rw [Bool.eq_iff_iff]; simp [Itm.mk.injEq]
  rw [h]
  unfold encT
  go_simp
  exact ifokV (ifokV ifokV1)
set_option maxHeartbeats 400000 in
theorem eqU (s t : Itm) (w : World) : (binOp .eql 47 (.agg (encT s).toArray) (.agg (encT t).toArray)).run Tryd.prog w = .ok (.bool (decide (s = t))) w := by
  have h : decide (s = t) = (decide (s.d = t.d) && (decide (s.a = t.a) && decide (s.n = t.n))) := by
    obtain ⟨s0, s1, s2⟩ := s
    obtain ⟨t0, t1, t2⟩ := t
    rw [Bool.eq_iff_iff]; simp [Itm.mk.injEq]
  rw [h]
  unfold encT
  go_simp
  exact ifokV (ifokV ifokV1)
set_option maxHeartbeats 4000000 in
theorem equalT (a b : Option Addr) (l m : List Itm) (n1 n2 ca cb : Nat) (h1 : n1 = l.length) (h2 : n2 = m.length) (hL : n1 ≤ 1000000) (w : World) (ha : ReadsT w a l) (hb : ReadsT w b m) :
    Calls Tryd.prog 40 #[.slice a n1 ca, .slice b n2 cb] w fun en w' => en = .returned (.bool (decide (l = m))) ∧ Drew w w' := by
  have Ha := Sep.hid ha; have Hb := Sep.hid hb; clear ha hb
  by_cases hlen : n1 = n2
  · have hne : ((n1 : Int) != (n2 : Int)) = false := by simp [hlen]
    subst hlen
    have H1 := Sep.hid h1; have H2 := Sep.hid h2; clear h1 h2
    refine Sep.calls_post ?_
    intro Post_ hPost_
    have HP := Sep.hid hPost_
    clear hPost_
    go_enter Tryd.func40, Tryd.ntmps40
    go_wp2_with fail
    go_loopw [13] (fun i wr => ∃ k : Nat, k ≤ n1 ∧ i = .int .i64 k ∧ l.take k = m.take k ∧ Drew w wr) (fun i _ => n1 - (intOf i).toNat)
    case atStart => exact ⟨0, Nat.zero_le _, rfl, by simp, Drew.refl _⟩
    case round =>
      obtain ⟨k, hk, rfl, heq, hd⟩ := hrel
      have Heq := Sep.hid heq; clear heq
      have HD := Sep.hid hd; clear hd
      by_cases hlt : k < n1
      · obtain ⟨x, hx⟩ : ∃ x, l[k]? = some x := ⟨_, List.getElem?_eq_getElem (by rw [← H1.out]; exact hlt)⟩
        obtain ⟨y, hy⟩ : ∃ y, m[k]? = some y := ⟨_, List.getElem?_eq_getElem (by rw [← H2.out]; exact hlt)⟩
        obtain ⟨ba, rfl, gx⟩ := Ha.out k x hx
        obtain ⟨bb, rfl, gy⟩ := Hb.out k y hy
        have Hcx : Hid (∀ (j : Nat) (v : Value), (encT x)[j]? = some v → wr.drew.cell? ((ba.add (k * 3)).add j) = some v) := Sep.hid (fun j v hj => (HD.out.cell _).trans (gx j v hj))
        have Hcy : Hid (∀ (j : Nat) (v : Value), (encT y)[j]? = some v → wr.drew.cell? ((bb.add (k * 3)).add j) = some v) := Sep.hid (fun j v hj => (HD.out.cell _).trans (gy j v hj))
        clear gx gy
        have hw : Holds wr wr [] := ⟨Env.refl _, fun _ _ => none, by simp, by simp, by simp⟩
        have Hx := Sep.hid hx; clear hx
        have Hy := Sep.hid hy; clear hy
        by_cases hxy : x = y
        · have Hb : Hid ((!decide (x = y)) = false) := Sep.hid (by simp [hxy])
          have Hxy := Sep.hid hxy; clear hxy
          go_wp2_with fail
          refine wp_region_L [] [(3, (fun w' => w' = wr.drew)), (7, (fun w' => w' = wr.drew))] (n := 9) (listed := #[false, false, false, false, false, false, false, false, false]) (by kernel_rfl) rfl rfl ?conds1 ?_
          case conds1 =>
           intro c hc
           simp only [List.mem_cons, List.not_mem_nil, or_false] at hc
           rcases hc with rfl | rfl
           · rfl
           · rfl
          replace hw := hw.drew
          refine wpL_take 0 (C := fun _ => True) (v := ?v2) rfl (by kernel_rfl) (by kernel_rfl) (by kernel_rfl) (by kernel_rfl) (fun _ _ _ h => h) (.inl fun _ => trivial) (Or.inl ⟨by rfl, fun w_ hS_ => ?hy2⟩) (listed' := #[true, false, false, false, false, false, false, false, false]) (by kernel_rfl) ?rest2
          case hy2 => (go_simp; try rfl)
          case' rest2 => try simp only [Act.put, List.setIfInBounds_toArray, List.set_cons_zero, List.set_cons_succ]
          refine wpL_take 1 (C := fun _ => True) (v := ?v3) rfl (by kernel_rfl) (by kernel_rfl) (by kernel_rfl) (by kernel_rfl) (fun _ _ _ h => h) (.inl fun _ => trivial) (Or.inl ⟨by rfl, fun w_ hS_ => ?hy3⟩) (listed' := #[true, true, false, false, false, false, false, false, false]) (by kernel_rfl) ?rest3
          case hy3 => (go_simp; try rfl)
          case' rest3 => try simp only [Act.put, List.setIfInBounds_toArray, List.set_cons_zero, List.set_cons_succ]
          refine wpL_take 2 (C := fun _ => True) (v := ?v4) rfl (by kernel_rfl) (by kernel_rfl) (by kernel_rfl) (by kernel_rfl) (fun _ _ _ h => h) (.inl fun _ => trivial) (Or.inl ⟨by rfl, fun w_ hS_ => ?hy4⟩) (listed' := #[true, true, true, false, false, false, false, false, false]) (by kernel_rfl) ?rest4
          case hy4 => (go_simp; try rfl)
          case' rest4 => try simp only [Act.put, List.setIfInBounds_toArray, List.set_cons_zero, List.set_cons_succ]
          refine wpL_take 3 (C := (fun w' => w' = wr.drew)) (v := ?v5) rfl (by kernel_rfl) (by kernel_rfl) (by kernel_rfl) (by kernel_rfl) (fun _ _ _ h => h) (.inr (.head _)) (Or.inl ⟨by rfl, fun w_ hS_ => ?hy5⟩) (listed' := #[true, true, true, true, false, false, false, false, false]) (by kernel_rfl) ?rest5
          case hy5 => (subst hS_; first | (first | (refine Eq.trans (run_ne (cs := (encT x).toArray) (ds := (encT y).toArray) (b := decide (x = y)) rfl rfl rfl noGuardT (eqT x y _)) ?_; first | (rw [Hb.out]; done) | (rw [Hb.out]; rfl)) | (refine Eq.trans (run_loadAd (vs := encT x) (ad := ba.add (k * 3)) rfl rfl rfl Hcx.out) ?_; rfl) | (refine Eq.trans (run_loadAd (vs := encT y) (ad := bb.add (k * 3)) rfl rfl rfl Hcy.out) ?_; rfl)) | (go_simp; try rfl))
          case' rest5 => try simp only [Act.put, List.setIfInBounds_toArray, List.set_cons_zero, List.set_cons_succ]
          refine wpL_take 4 (C := fun _ => True) (v := ?v6) rfl (by kernel_rfl) (by kernel_rfl) (by kernel_rfl) (by kernel_rfl) (fun _ _ _ h => h) (.inl fun _ => trivial) (Or.inl ⟨by rfl, fun w_ hS_ => ?hy6⟩) (listed' := #[true, true, true, true, true, false, false, false, false]) (by kernel_rfl) ?rest6
          case hy6 => (go_simp; try rfl)
          case' rest6 => try simp only [Act.put, List.setIfInBounds_toArray, List.set_cons_zero, List.set_cons_succ]
          refine wpL_take 5 (C := fun _ => True) (v := ?v7) rfl (by kernel_rfl) (by kernel_rfl) (by kernel_rfl) (by kernel_rfl) (fun _ _ _ h => h) (.inl fun _ => trivial) (Or.inl ⟨by rfl, fun w_ hS_ => ?hy7⟩) (listed' := #[true, true, true, true, true, true, false, false, false]) (by kernel_rfl) ?rest7
          case hy7 => (go_simp; try rfl)
          case' rest7 => try simp only [Act.put, List.setIfInBounds_toArray, List.set_cons_zero, List.set_cons_succ]
          refine wpL_take 6 (C := fun _ => True) (v := ?v8) rfl (by kernel_rfl) (by kernel_rfl) (by kernel_rfl) (by kernel_rfl) (fun _ _ _ h => h) (.inl fun _ => trivial) (Or.inl ⟨by rfl, fun w_ hS_ => ?hy8⟩) (listed' := #[true, true, true, true, true, true, true, false, false]) (by kernel_rfl) ?rest8
          case hy8 => (go_simp; try rfl)
          case' rest8 => try simp only [Act.put, List.setIfInBounds_toArray, List.set_cons_zero, List.set_cons_succ]
          refine wpL_take 7 (C := (fun w' => w' = wr.drew)) (v := ?v9) rfl (by kernel_rfl) (by kernel_rfl) (by kernel_rfl) (by kernel_rfl) (fun _ _ _ h => h) (.inr (.tail _ (.head _))) (Or.inl ⟨by rfl, fun w_ hS_ => ?hy9⟩) (listed' := #[true, true, true, true, true, true, true, true, false]) (by kernel_rfl) ?rest9
          case hy9 => (subst hS_; first | (first | (refine Eq.trans (run_ne (cs := (encT x).toArray) (ds := (encT y).toArray) (b := decide (x = y)) rfl rfl rfl noGuardT (eqT x y _)) ?_; first | (rw [Hb.out]; done) | (rw [Hb.out]; rfl)) | (refine Eq.trans (run_loadAd (vs := encT x) (ad := ba.add (k * 3)) rfl rfl rfl Hcx.out) ?_; rfl) | (refine Eq.trans (run_loadAd (vs := encT y) (ad := bb.add (k * 3)) rfl rfl rfl Hcy.out) ?_; rfl)) | (go_simp; try rfl))
          case' rest9 => try simp only [Act.put, List.setIfInBounds_toArray, List.set_cons_zero, List.set_cons_succ]
          refine wpL_take 8 (C := fun _ => True) (v := ?v10) rfl (by kernel_rfl) (by kernel_rfl) (by kernel_rfl) (by kernel_rfl) (fun _ _ _ h => h) (.inl fun _ => trivial) (Or.inl ⟨by rfl, fun w_ hS_ => ?hy10⟩) (listed' := #[true, true, true, true, true, true, true, true, true]) (by kernel_rfl) ?rest10
          case hy10 => (first | (first | (refine Eq.trans (run_ne (cs := (encT x).toArray) (ds := (encT y).toArray) (b := decide (x = y)) rfl rfl rfl noGuardT (eqT x y _)) ?_; first | (rw [Hb.out]; done) | (rw [Hb.out]; rfl)) | (refine Eq.trans (run_loadAd (vs := encT x) (ad := ba.add (k * 3)) rfl rfl rfl Hcx.out) ?_; rfl) | (refine Eq.trans (run_loadAd (vs := encT y) (ad := bb.add (k * 3)) rfl rfl rfl Hcy.out) ?_; rfl)) | (go_simp; try rfl))
          case' rest10 => try simp only [Act.put, List.setIfInBounds_toArray, List.set_cons_zero, List.set_cons_succ]
          refine wpL_done (by kernel_rfl) ?_ _
          go_wp2
          go_roundw
          case rel => exact ⟨k + 1, by omega, by go_num, by rw [List.take_add_one, List.take_add_one, Heq.out, Hx.out, Hy.out, Hxy.out], HD.out.drew⟩
          case measure => simp [intOf]; omega
        · have Hb : Hid ((!decide (x = y)) = true) := Sep.hid (by simp [hxy])
          have hd : decide (l = m) = false := by
            simp only [decide_eq_false_iff_not]
            rintro rfl
            have := Hx.out.symm.trans Hy.out
            simp at this
            exact hxy this
          have Hd := Sep.hid hd; clear hd
          clear hxy
          go_wp2_with fail
          refine wp_region_L [] [(3, (fun w' => w' = wr.drew)), (7, (fun w' => w' = wr.drew))] (n := 9) (listed := #[false, false, false, false, false, false, false, false, false]) (by kernel_rfl) rfl rfl ?conds11 ?_
          case conds11 =>
           intro c hc
           simp only [List.mem_cons, List.not_mem_nil, or_false] at hc
           rcases hc with rfl | rfl
           · rfl
           · rfl
          replace hw := hw.drew
          refine wpL_take 0 (C := fun _ => True) (v := ?v12) rfl (by kernel_rfl) (by kernel_rfl) (by kernel_rfl) (by kernel_rfl) (fun _ _ _ h => h) (.inl fun _ => trivial) (Or.inl ⟨by rfl, fun w_ hS_ => ?hy12⟩) (listed' := #[true, false, false, false, false, false, false, false, false]) (by kernel_rfl) ?rest12
          case hy12 => (go_simp; try rfl)
          case' rest12 => try simp only [Act.put, List.setIfInBounds_toArray, List.set_cons_zero, List.set_cons_succ]
          refine wpL_take 1 (C := fun _ => True) (v := ?v13) rfl (by kernel_rfl) (by kernel_rfl) (by kernel_rfl) (by kernel_rfl) (fun _ _ _ h => h) (.inl fun _ => trivial) (Or.inl ⟨by rfl, fun w_ hS_ => ?hy13⟩) (listed' := #[true, true, false, false, false, false, false, false, false]) (by kernel_rfl) ?rest13
          case hy13 => (go_simp; try rfl)
          case' rest13 => try simp only [Act.put, List.setIfInBounds_toArray, List.set_cons_zero, List.set_cons_succ]
          refine wpL_take 2 (C := fun _ => True) (v := ?v14) rfl (by kernel_rfl) (by kernel_rfl) (by kernel_rfl) (by kernel_rfl) (fun _ _ _ h => h) (.inl fun _ => trivial) (Or.inl ⟨by rfl, fun w_ hS_ => ?hy14⟩) (listed' := #[true, true, true, false, false, false, false, false, false]) (by kernel_rfl) ?rest14
          case hy14 => (go_simp; try rfl)
          case' rest14 => try simp only [Act.put, List.setIfInBounds_toArray, List.set_cons_zero, List.set_cons_succ]
          refine wpL_take 3 (C := (fun w' => w' = wr.drew)) (v := ?v15) rfl (by kernel_rfl) (by kernel_rfl) (by kernel_rfl) (by kernel_rfl) (fun _ _ _ h => h) (.inr (.head _)) (Or.inl ⟨by rfl, fun w_ hS_ => ?hy15⟩) (listed' := #[true, true, true, true, false, false, false, false, false]) (by kernel_rfl) ?rest15
          case hy15 => (subst hS_; first | (first | (refine Eq.trans (run_ne (cs := (encT x).toArray) (ds := (encT y).toArray) (b := decide (x = y)) rfl rfl rfl noGuardT (eqT x y _)) ?_; first | (rw [Hb.out]; done) | (rw [Hb.out]; rfl)) | (refine Eq.trans (run_loadAd (vs := encT x) (ad := ba.add (k * 3)) rfl rfl rfl Hcx.out) ?_; rfl) | (refine Eq.trans (run_loadAd (vs := encT y) (ad := bb.add (k * 3)) rfl rfl rfl Hcy.out) ?_; rfl)) | (go_simp; try rfl))
          case' rest15 => try simp only [Act.put, List.setIfInBounds_toArray, List.set_cons_zero, List.set_cons_succ]
          refine wpL_take 4 (C := fun _ => True) (v := ?v16) rfl (by kernel_rfl) (by kernel_rfl) (by kernel_rfl) (by kernel_rfl) (fun _ _ _ h => h) (.inl fun _ => trivial) (Or.inl ⟨by rfl, fun w_ hS_ => ?hy16⟩) (listed' := #[true, true, true, true, true, false, false, false, false]) (by kernel_rfl) ?rest16
          case hy16 => (go_simp; try rfl)
          case' rest16 => try simp only [Act.put, List.setIfInBounds_toArray, List.set_cons_zero, List.set_cons_succ]
          refine wpL_take 5 (C := fun _ => True) (v := ?v17) rfl (by kernel_rfl) (by kernel_rfl) (by kernel_rfl) (by kernel_rfl) (fun _ _ _ h => h) (.inl fun _ => trivial) (Or.inl ⟨by rfl, fun w_ hS_ => ?hy17⟩) (listed' := #[true, true, true, true, true, true, false, false, false]) (by kernel_rfl) ?rest17
          case hy17 => (go_simp; try rfl)
          case' rest17 => try simp only [Act.put, List.setIfInBounds_toArray, List.set_cons_zero, List.set_cons_succ]
          refine wpL_take 6 (C := fun _ => True) (v := ?v18) rfl (by kernel_rfl) (by kernel_rfl) (by kernel_rfl) (by kernel_rfl) (fun _ _ _ h => h) (.inl fun _ => trivial) (Or.inl ⟨by rfl, fun w_ hS_ => ?hy18⟩) (listed' := #[true, true, true, true, true, true, true, false, false]) (by kernel_rfl) ?rest18
          case hy18 => (go_simp; try rfl)
          case' rest18 => try simp only [Act.put, List.setIfInBounds_toArray, List.set_cons_zero, List.set_cons_succ]
          refine wpL_take 7 (C := (fun w' => w' = wr.drew)) (v := ?v19) rfl (by kernel_rfl) (by kernel_rfl) (by kernel_rfl) (by kernel_rfl) (fun _ _ _ h => h) (.inr (.tail _ (.head _))) (Or.inl ⟨by rfl, fun w_ hS_ => ?hy19⟩) (listed' := #[true, true, true, true, true, true, true, true, false]) (by kernel_rfl) ?rest19
          case hy19 => (subst hS_; first | (first | (refine Eq.trans (run_ne (cs := (encT x).toArray) (ds := (encT y).toArray) (b := decide (x = y)) rfl rfl rfl noGuardT (eqT x y _)) ?_; first | (rw [Hb.out]; done) | (rw [Hb.out]; rfl)) | (refine Eq.trans (run_loadAd (vs := encT x) (ad := ba.add (k * 3)) rfl rfl rfl Hcx.out) ?_; rfl) | (refine Eq.trans (run_loadAd (vs := encT y) (ad := bb.add (k * 3)) rfl rfl rfl Hcy.out) ?_; rfl)) | (go_simp; try rfl))
          case' rest19 => try simp only [Act.put, List.setIfInBounds_toArray, List.set_cons_zero, List.set_cons_succ]
          refine wpL_take 8 (C := fun _ => True) (v := ?v20) rfl (by kernel_rfl) (by kernel_rfl) (by kernel_rfl) (by kernel_rfl) (fun _ _ _ h => h) (.inl fun _ => trivial) (Or.inl ⟨by rfl, fun w_ hS_ => ?hy20⟩) (listed' := #[true, true, true, true, true, true, true, true, true]) (by kernel_rfl) ?rest20
          case hy20 => (first | (first | (refine Eq.trans (run_ne (cs := (encT x).toArray) (ds := (encT y).toArray) (b := decide (x = y)) rfl rfl rfl noGuardT (eqT x y _)) ?_; first | (rw [Hb.out]; done) | (rw [Hb.out]; rfl)) | (refine Eq.trans (run_loadAd (vs := encT x) (ad := ba.add (k * 3)) rfl rfl rfl Hcx.out) ?_; rfl) | (refine Eq.trans (run_loadAd (vs := encT y) (ad := bb.add (k * 3)) rfl rfl rfl Hcy.out) ?_; rfl)) | (go_simp; try rfl))
          case' rest20 => try simp only [Act.put, List.setIfInBounds_toArray, List.set_cons_zero, List.set_cons_succ]
          refine wpL_done (by kernel_rfl) ?_ _
          go_wp2
          exact HP.out _ _ ⟨by rw [Hd.out]; rfl, HD.out.drew⟩
      · have hke : k = n1 := by omega
        have hd : decide (l = m) = true := by
          simp only [decide_eq_true_eq]
          have h := Heq.out
          rw [hke, List.take_of_length_le (by rw [← H1.out]; omega), List.take_of_length_le (by rw [← H2.out]; omega)] at h
          exact h
        have Hd := Sep.hid hd; clear hd hke
        go_wp2
        exact HP.out _ _ ⟨by rw [Hd.out]; rfl, HD.out⟩
  · have hne : ((n1 : Int) != (n2 : Int)) = true := by simp; omega
    have hd : decide (l = m) = false := by simp only [decide_eq_false_iff_not]; rintro rfl; exact hlen (h1.trans h2.symm)
    have Hd := Sep.hid hd; clear hd hlen h1 h2
    refine Sep.calls_post ?_
    intro Post_ hPost_
    have HP := Sep.hid hPost_
    clear hPost_
    go_enter Tryd.func40, Tryd.ntmps40
    go_wp2
    exact HP.out _ _ ⟨by rw [Hd.out]; rfl, Drew.refl _⟩
/-- Programs that can be read, in a world. -/
def ReadsP (w : World) (a : Option Addr) (hs : List Hd) (ps : List (List Deed)) : Prop :=
  ∀ (k : Nat) (p : List Deed), ps[k]? = some p → ∃ h : Hd, hs[k]? = some h ∧ (∃ q : Addr, a = some q ∧ w.cell? (q.add k) = some (hdV h p)) ∧ ReadsA w h.1 p
theorem RdP.reads {e w : World} {X : HProp} {a : Option Addr} {hs : List Hd} {ps : List (List Deed)} {L : List HProp} {i : Nat} (h : RdP e X a hs ps) (hw : Holds e w L) (hi : L[i]? = some X) : ReadsP w a hs ps := by
  intro k p hp
  obtain ⟨hd, h1, h2, h3⟩ := h k p hp
  exact ⟨hd, h1, h2 w L i hw hi, h3 w L i hw hi⟩
theorem ReadsA.drew {w w' : World} {a : Option Addr} {l : List Deed} (h : ReadsA w a l) (hd : Drew w w') : ReadsA w' a l := by
  intro k x hx
  obtain ⟨p, hp, hc⟩ := h k x hx
  exact ⟨p, hp, fun j c hj => (hd.cell _).trans (hc j c hj)⟩
set_option maxHeartbeats 4000000 in
theorem equalP (a b : Option Addr) (hs gs : List Hd) (l m : List (List Deed)) (n1 n2 ca cb : Nat) (h1 : n1 = l.length) (h2 : n2 = m.length) (hL : n1 ≤ 1000000) (hll : ∀ p ∈ l, p.length ≤ 1000000) (w : World) (ha : ReadsP w a hs l) (hb : ReadsP w b gs m) :
    Calls Tryd.prog 38 #[.slice a n1 ca, .slice b n2 cb, .func (.func 39) #[] #[]] w fun en w' => en = .returned (.bool (decide (l = m))) ∧ Drew w w' := by
  have Ha := Sep.hid ha; have Hb := Sep.hid hb; clear ha hb
  have Hll := Sep.hid hll; clear hll
  by_cases hlen : n1 = n2
  · have hne : ((n1 : Int) != (n2 : Int)) = false := by simp [hlen]
    subst hlen
    have H1 := Sep.hid h1; have H2 := Sep.hid h2; clear h1 h2
    refine Sep.calls_post ?_
    intro Post_ hPost_
    have HP := Sep.hid hPost_
    clear hPost_
    go_enter Tryd.func38, Tryd.ntmps38
    go_wp2_with fail
    clear hne
    go_loopw [17] (fun i wr => ∃ k : Nat, k ≤ n1 ∧ i = .int .i64 k ∧ Hid (l.take k = m.take k) ∧ Hid (Drew w wr)) (fun i _ => n1 - (intOf i).toNat)
    case atStart => exact ⟨0, Nat.zero_le _, rfl, Sep.hid (by simp), Sep.hid (Drew.refl _)⟩
    case round =>
      obtain ⟨k, hk, rfl, Heq, HD⟩ := hrel
      by_cases hlt : k < n1
      · obtain ⟨x, hx⟩ : ∃ x, l[k]? = some x := ⟨_, List.getElem?_eq_getElem (by rw [← H1.out]; exact hlt)⟩
        obtain ⟨y, hy⟩ : ∃ y, m[k]? = some y := ⟨_, List.getElem?_eq_getElem (by rw [← H2.out]; exact hlt)⟩
        obtain ⟨⟨xa, xc⟩, _, ⟨ba, rfl, gx⟩, gxa⟩ := Ha.out k x hx
        obtain ⟨⟨ya, yc⟩, _, ⟨bb, rfl, gy⟩, gya⟩ := Hb.out k y hy
        have Gxa := Sep.hid (gxa.drew HD.out); have Gya := Sep.hid (gya.drew HD.out); clear gxa gya
        unfold hdV at gx gy
        have gx2 := (HD.out.cell _).trans gx
        have gy2 := (HD.out.cell _).trans gy
        clear gx gy
        have Hxl : Hid (x.length ≤ 1000000) := Sep.hid (Hll.out x (List.mem_of_getElem? hx))
        obtain ⟨xn, hxn⟩ : ∃ xn, x.length = xn := ⟨_, rfl⟩
        obtain ⟨yn, hyn⟩ : ∃ yn, y.length = yn := ⟨_, rfl⟩
        rw [hxn] at gx2
        rw [hyn] at gy2
        have Hxn := Sep.hid hxn; have Hyn := Sep.hid hyn; clear hxn hyn
        have Hx := Sep.hid hx; clear hx
        have Hy := Sep.hid hy; clear hy
        go_wp2_with fail
        refine (oSame xa ya x y xn yn xc yc Hxn.out.symm Hyn.out.symm (by rw [← Hxn.out]; exact Hxl.out) _ Gxa.out Gya.out).mono ?_
        rintro _ w_ ⟨rfl, hd_⟩
        have HD2 := Sep.hid (HD.out.trans hd_); clear hd_ gx2 gy2
        by_cases hxy : x = y
        · rw [decide_eq_true hxy]
          have Hxy := Sep.hid hxy; clear hxy
          go_wp2_with fail
          go_roundw
          case rel => exact ⟨k + 1, by omega, by go_num, Sep.hid (by rw [List.take_add_one, List.take_add_one, Heq.out, Hx.out, Hy.out, Hxy.out]), HD2⟩
          case measure => simp [intOf]; omega
        · rw [decide_eq_false hxy]
          have hd : decide (l = m) = false := by
            simp only [decide_eq_false_iff_not]
            rintro rfl
            have := Hx.out.symm.trans Hy.out
            simp at this
            exact hxy this
          have Hd := Sep.hid hd; clear hd
          clear hxy
          go_wp2_with fail
          exact HP.out _ _ ⟨by rw [Hd.out]; rfl, HD2.out⟩
      · have hke : k = n1 := by omega
        have hd : decide (l = m) = true := by
          simp only [decide_eq_true_eq]
          have h := Heq.out
          rw [hke, List.take_of_length_le (by rw [← H1.out]; omega), List.take_of_length_le (by rw [← H2.out]; omega)] at h
          exact h
        have Hd := Sep.hid hd; clear hd hke
        go_wp2_with fail
        exact HP.out _ _ ⟨by rw [Hd.out]; rfl, HD.out⟩
  · have hne : ((n1 : Int) != (n2 : Int)) = true := by simp; omega
    have hd : decide (l = m) = false := by simp only [decide_eq_false_iff_not]; rintro rfl; exact hlen (h1.trans h2.symm)
    have Hd := Sep.hid hd; clear hd hlen h1 h2
    refine Sep.calls_post ?_
    intro Post_ hPost_
    have HP := Sep.hid hPost_
    clear hPost_
    go_enter Tryd.func38, Tryd.ntmps38
    go_wp2_with fail
    exact HP.out _ _ ⟨by rw [Hd.out]; rfl, Drew.refl _⟩
end Go.Proofs.YteinbojpmhblkaaDoor
