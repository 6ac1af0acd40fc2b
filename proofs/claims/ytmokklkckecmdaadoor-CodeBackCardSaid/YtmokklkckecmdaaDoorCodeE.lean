/-
  The walks of the document's Eight and Bytes; of Bytes where it refuses.
-/
import Derived.Test.YtmokklkckecmdaaDoorCodeB
namespace Go.Proofs.YtmokklkckecmdaaDoor
set_option linter.unusedSimpArgs false
set_option linter.unusedVariables false
open Go.RowKit Go.Sep

set_option maxHeartbeats 800000 in
theorem oBytes_no (l : List Deed) (n ca : Nat) (a : Option Addr) (hn : Hid (l.length = n)) (e w : World) (X : HProp) (hT : Tops e X) (hR : RdA e X a l) (hm : mayP l = false) (hw : Holds e w [X]) :
    Calls Tryd.prog 7 #[.slice a n ca] w fun en w' => en = .returned (.tuple #[.slice none 0 0, .int .i64 1]) ∧ Holds e w' [X] := by
  have hmay := fun w hw => oMay l n ca a hn e w X hT hR hw
  rw [hm] at hmay; clear hm hT hR
  refine Sep.calls_post ?_
  intro Post_ hPost_
  have HP := Sep.hid hPost_
  clear hPost_
  go_enter Tryd.func7, Tryd.ntmps7
  go_wp2_with fail
  refine (hmay _ hw).mono ?_
  rintro _ w_ ⟨rfl, hw_⟩
  clear hw hmay; have hw := hw_; clear hw_
  go_wp2_with fail
  exact HP.out _ _ ⟨rfl, hw⟩
def divN (u : Int) : Nat → Int | 0 => u | j + 1 => divN u j / 256
def be8L (u : Int) : List Int := [divN u 7 % 256, divN u 6 % 256, divN u 5 % 256, divN u 4 % 256, divN u 3 % 256, divN u 2 % 256, divN u 1 % 256, divN u 0 % 256]
def outJ (u : Int) (j : Nat) : List Int := List.replicate (8 - j) 0 ++ (be8L u).drop (8 - j)
theorem be8L_eq (n : Int) : be8L (IntKind.u64.wrap n) = be8 n := by
  unfold be8L be8
  simp only [divN]
  generalize IntKind.u64.wrap n = u
  simp only [List.cons.injEq, and_true]
  refine ⟨?_, ?_, ?_, ?_, ?_, ?_⟩ <;> omega
theorem divN_in {u : Int} (hu : 0 ≤ u ∧ u ≤ 18446744073709551615) : ∀ j, 0 ≤ divN u j ∧ divN u j ≤ 18446744073709551615
  | 0 => hu
  | j + 1 => by have := divN_in hu j; unfold divN; omega
set_option maxHeartbeats 8000000 in
theorem reight (u : Int) (hu : 0 ≤ u ∧ u ≤ 18446744073709551615) (e w : World) (X : HProp) (hw : Holds e w [X]) :
    Calls Tryd.prog 30 #[.int .u64 u] w fun en w' => ∃ b, en = .returned (.slice (some ⟨b, 0, none⟩) 8 8) ∧ Holds e w' [X, pt b (encB (be8L u)) 5] := by
  have Hu := Sep.hid hu; clear hu
  refine Sep.calls_post ?_
  intro Post_ hPost_
  have HP := Sep.hid hPost_
  clear hPost_
  go_enter Tryd.func30, Tryd.ntmps30
  go_wp2_with (refine wpList_on rfl (wp_make1 (n := 8) rfl rfl rfl rfl (by decide) (by decide) hw ?_); intro bk_ w_ hw_; clear hw; have hw := hw_; clear hw_; (try simp only [List.map_cons, List.map_nil, List.getD_cons_zero, List.getD_cons_succ, List.getD_nil, List.set_cons_zero, List.set_cons_succ, List.cons_append, List.nil_append, Act.eval, Array.getD_eq_getD_getElem?, List.getElem?_toArray, List.getElem?_cons_succ, List.getElem?_cons_zero, Option.getD_some, Value.cells] at hw); (try simp (disch := first | (simp; done) | (simp; omega)) only [Sep.mid_set, Sep.mid_set2, Sep.mid_set0, Sep.mid_splice, Sep.mid_splice0, List.set_cons_zero, List.set_cons_succ] at hw); (try simp only [Sep.splice, List.take_succ_cons, List.take_zero, List.drop_succ_cons, List.drop_zero, List.length_cons, List.length_nil, Nat.reduceAdd, List.cons_append, List.nil_append] at hw); (try replace hc0 := Sep.Holds.cells hw (i := 0) rfl); (try replace hc1 := Sep.Holds.cells hw (i := 1) rfl); (try replace hc2 := Sep.Holds.cells hw (i := 2) rfl); (try replace hc3 := Sep.Holds.cells hw (i := 3) rfl); (try replace hc4 := Sep.Holds.cells hw (i := 4) rfl); (try replace hc5 := Sep.Holds.cells hw (i := 5) rfl); (try replace hc6 := Sep.Holds.cells hw (i := 6) rfl))
  have hw : Holds e w_ [X, pt bk_ (encB (outJ u 0)) 5] := hw
  have Hw0 := Sep.hid hw; clear hw; (try clear hc0); (try clear hc1); (try clear hc2); (try clear hc3); (try clear hc4); (try clear hc5); (try clear hc6)
  go_loopw [4, 0] (fun i x wr => ∃ (j : Nat), j ≤ 8 ∧ i = .int .i64 (7 - (j : Int)) ∧ x = .int .u64 (divN u j) ∧ Holds e wr [X, pt bk_ (encB (outJ u j)) 5]) (fun i _ _ => (intOf i + 1).toNat)
  case atStart => exact ⟨0, Nat.zero_le _, rfl, rfl, Hw0.out⟩
  case round =>
    clear Hw0
    obtain ⟨j, hj, hi4, hu0, hw⟩ := hrel
    match j, hj with
    | 0, _ =>
      obtain rfl : u4 = .int .i64 7 := hi4
      obtain rfl : u0 = .int .u64 (divN u 0) := hu0
      have hd := divN_in Hu.out 0
      have Hq : Hid (IntKind.u64.wrap ((divN u 0).tdiv 256) = divN u 0 / 256) := Sep.hid (IntWalk.u64_quo _ _ ⟨hd.1, hd.2, by decide⟩)
      have Hm : Hid ((divN u 0).tmod 256 % 256 = divN u 0 % 256) := Sep.hid (by rw [IntWalk.rem_in _ _ hd.1]; omega)
      clear hd
      go_wp2_with (first | (refine wpList_on rfl (wp_store1 (v := _) (off := 7) rfl rfl rfl hw (i := 1) rfl (show 7 < 8 by decide) rfl ?_); intro w_ hw_; clear hw; have hw := hw_; clear hw_; (try simp only [List.map_cons, List.map_nil, List.getD_cons_zero, List.getD_cons_succ, List.getD_nil, List.set_cons_zero, List.set_cons_succ, List.cons_append, List.nil_append, Act.eval, Array.getD_eq_getD_getElem?, List.getElem?_toArray, List.getElem?_cons_succ, List.getElem?_cons_zero, Option.getD_some, Value.cells] at hw); (try simp (disch := first | (simp; done) | (simp; omega)) only [Sep.mid_set, Sep.mid_set2, Sep.mid_set0, Sep.mid_splice, Sep.mid_splice0, List.set_cons_zero, List.set_cons_succ] at hw); (try simp only [Sep.splice, List.take_succ_cons, List.take_zero, List.drop_succ_cons, List.drop_zero, List.length_cons, List.length_nil, Nat.reduceAdd, List.cons_append, List.nil_append] at hw); (try replace hc0 := Sep.Holds.cells hw (i := 0) rfl); (try replace hc1 := Sep.Holds.cells hw (i := 1) rfl); (try replace hc2 := Sep.Holds.cells hw (i := 2) rfl); (try replace hc3 := Sep.Holds.cells hw (i := 3) rfl); (try replace hc4 := Sep.Holds.cells hw (i := 4) rfl); (try replace hc5 := Sep.Holds.cells hw (i := 5) rfl); (try replace hc6 := Sep.Holds.cells hw (i := 6) rfl)))
      go_roundw
      case rel =>
        refine ⟨0 + 1, by decide, rfl, by rw [Hq.out]; rfl, ?_⟩
        simp only [Act.eval, Array.getD_eq_getD_getElem?, List.getElem?_toArray, List.getElem?_cons_succ, List.getElem?_cons_zero, Option.getD_some, Hm.out] at hw
        exact hw
      case measure => simp [intOf]
    | 1, _ =>
      obtain rfl : u4 = .int .i64 6 := hi4
      obtain rfl : u0 = .int .u64 (divN u 1) := hu0
      have hd := divN_in Hu.out 1
      have Hq : Hid (IntKind.u64.wrap ((divN u 1).tdiv 256) = divN u 1 / 256) := Sep.hid (IntWalk.u64_quo _ _ ⟨hd.1, hd.2, by decide⟩)
      have Hm : Hid ((divN u 1).tmod 256 % 256 = divN u 1 % 256) := Sep.hid (by rw [IntWalk.rem_in _ _ hd.1]; omega)
      clear hd
      go_wp2_with (first | (refine wpList_on rfl (wp_store1 (v := _) (off := 6) rfl rfl rfl hw (i := 1) rfl (show 6 < 8 by decide) rfl ?_); intro w_ hw_; clear hw; have hw := hw_; clear hw_; (try simp only [List.map_cons, List.map_nil, List.getD_cons_zero, List.getD_cons_succ, List.getD_nil, List.set_cons_zero, List.set_cons_succ, List.cons_append, List.nil_append, Act.eval, Array.getD_eq_getD_getElem?, List.getElem?_toArray, List.getElem?_cons_succ, List.getElem?_cons_zero, Option.getD_some, Value.cells] at hw); (try simp (disch := first | (simp; done) | (simp; omega)) only [Sep.mid_set, Sep.mid_set2, Sep.mid_set0, Sep.mid_splice, Sep.mid_splice0, List.set_cons_zero, List.set_cons_succ] at hw); (try simp only [Sep.splice, List.take_succ_cons, List.take_zero, List.drop_succ_cons, List.drop_zero, List.length_cons, List.length_nil, Nat.reduceAdd, List.cons_append, List.nil_append] at hw); (try replace hc0 := Sep.Holds.cells hw (i := 0) rfl); (try replace hc1 := Sep.Holds.cells hw (i := 1) rfl); (try replace hc2 := Sep.Holds.cells hw (i := 2) rfl); (try replace hc3 := Sep.Holds.cells hw (i := 3) rfl); (try replace hc4 := Sep.Holds.cells hw (i := 4) rfl); (try replace hc5 := Sep.Holds.cells hw (i := 5) rfl); (try replace hc6 := Sep.Holds.cells hw (i := 6) rfl)))
      go_roundw
      case rel =>
        refine ⟨1 + 1, by decide, rfl, by rw [Hq.out]; rfl, ?_⟩
        simp only [Act.eval, Array.getD_eq_getD_getElem?, List.getElem?_toArray, List.getElem?_cons_succ, List.getElem?_cons_zero, Option.getD_some, Hm.out] at hw
        exact hw
      case measure => simp [intOf]
    | 2, _ =>
      obtain rfl : u4 = .int .i64 5 := hi4
      obtain rfl : u0 = .int .u64 (divN u 2) := hu0
      have hd := divN_in Hu.out 2
      have Hq : Hid (IntKind.u64.wrap ((divN u 2).tdiv 256) = divN u 2 / 256) := Sep.hid (IntWalk.u64_quo _ _ ⟨hd.1, hd.2, by decide⟩)
      have Hm : Hid ((divN u 2).tmod 256 % 256 = divN u 2 % 256) := Sep.hid (by rw [IntWalk.rem_in _ _ hd.1]; omega)
      clear hd
      go_wp2_with (first | (refine wpList_on rfl (wp_store1 (v := _) (off := 5) rfl rfl rfl hw (i := 1) rfl (show 5 < 8 by decide) rfl ?_); intro w_ hw_; clear hw; have hw := hw_; clear hw_; (try simp only [List.map_cons, List.map_nil, List.getD_cons_zero, List.getD_cons_succ, List.getD_nil, List.set_cons_zero, List.set_cons_succ, List.cons_append, List.nil_append, Act.eval, Array.getD_eq_getD_getElem?, List.getElem?_toArray, List.getElem?_cons_succ, List.getElem?_cons_zero, Option.getD_some, Value.cells] at hw); (try simp (disch := first | (simp; done) | (simp; omega)) only [Sep.mid_set, Sep.mid_set2, Sep.mid_set0, Sep.mid_splice, Sep.mid_splice0, List.set_cons_zero, List.set_cons_succ] at hw); (try simp only [Sep.splice, List.take_succ_cons, List.take_zero, List.drop_succ_cons, List.drop_zero, List.length_cons, List.length_nil, Nat.reduceAdd, List.cons_append, List.nil_append] at hw); (try replace hc0 := Sep.Holds.cells hw (i := 0) rfl); (try replace hc1 := Sep.Holds.cells hw (i := 1) rfl); (try replace hc2 := Sep.Holds.cells hw (i := 2) rfl); (try replace hc3 := Sep.Holds.cells hw (i := 3) rfl); (try replace hc4 := Sep.Holds.cells hw (i := 4) rfl); (try replace hc5 := Sep.Holds.cells hw (i := 5) rfl); (try replace hc6 := Sep.Holds.cells hw (i := 6) rfl)))
      go_roundw
      case rel =>
        refine ⟨2 + 1, by decide, rfl, by rw [Hq.out]; rfl, ?_⟩
        simp only [Act.eval, Array.getD_eq_getD_getElem?, List.getElem?_toArray, List.getElem?_cons_succ, List.getElem?_cons_zero, Option.getD_some, Hm.out] at hw
        exact hw
      case measure => simp [intOf]
    | 3, _ =>
      obtain rfl : u4 = .int .i64 4 := hi4
      obtain rfl : u0 = .int .u64 (divN u 3) := hu0
      have hd := divN_in Hu.out 3
      have Hq : Hid (IntKind.u64.wrap ((divN u 3).tdiv 256) = divN u 3 / 256) := Sep.hid (IntWalk.u64_quo _ _ ⟨hd.1, hd.2, by decide⟩)
      have Hm : Hid ((divN u 3).tmod 256 % 256 = divN u 3 % 256) := Sep.hid (by rw [IntWalk.rem_in _ _ hd.1]; omega)
      clear hd
      go_wp2_with (first | (refine wpList_on rfl (wp_store1 (v := _) (off := 4) rfl rfl rfl hw (i := 1) rfl (show 4 < 8 by decide) rfl ?_); intro w_ hw_; clear hw; have hw := hw_; clear hw_; (try simp only [List.map_cons, List.map_nil, List.getD_cons_zero, List.getD_cons_succ, List.getD_nil, List.set_cons_zero, List.set_cons_succ, List.cons_append, List.nil_append, Act.eval, Array.getD_eq_getD_getElem?, List.getElem?_toArray, List.getElem?_cons_succ, List.getElem?_cons_zero, Option.getD_some, Value.cells] at hw); (try simp (disch := first | (simp; done) | (simp; omega)) only [Sep.mid_set, Sep.mid_set2, Sep.mid_set0, Sep.mid_splice, Sep.mid_splice0, List.set_cons_zero, List.set_cons_succ] at hw); (try simp only [Sep.splice, List.take_succ_cons, List.take_zero, List.drop_succ_cons, List.drop_zero, List.length_cons, List.length_nil, Nat.reduceAdd, List.cons_append, List.nil_append] at hw); (try replace hc0 := Sep.Holds.cells hw (i := 0) rfl); (try replace hc1 := Sep.Holds.cells hw (i := 1) rfl); (try replace hc2 := Sep.Holds.cells hw (i := 2) rfl); (try replace hc3 := Sep.Holds.cells hw (i := 3) rfl); (try replace hc4 := Sep.Holds.cells hw (i := 4) rfl); (try replace hc5 := Sep.Holds.cells hw (i := 5) rfl); (try replace hc6 := Sep.Holds.cells hw (i := 6) rfl)))
      go_roundw
      case rel =>
        refine ⟨3 + 1, by decide, rfl, by rw [Hq.out]; rfl, ?_⟩
        simp only [Act.eval, Array.getD_eq_getD_getElem?, List.getElem?_toArray, List.getElem?_cons_succ, List.getElem?_cons_zero, Option.getD_some, Hm.out] at hw
        exact hw
      case measure => simp [intOf]
    | 4, _ =>
      obtain rfl : u4 = .int .i64 3 := hi4
      obtain rfl : u0 = .int .u64 (divN u 4) := hu0
      have hd := divN_in Hu.out 4
      have Hq : Hid (IntKind.u64.wrap ((divN u 4).tdiv 256) = divN u 4 / 256) := Sep.hid (IntWalk.u64_quo _ _ ⟨hd.1, hd.2, by decide⟩)
      have Hm : Hid ((divN u 4).tmod 256 % 256 = divN u 4 % 256) := Sep.hid (by rw [IntWalk.rem_in _ _ hd.1]; omega)
      clear hd
      go_wp2_with (first | (refine wpList_on rfl (wp_store1 (v := _) (off := 3) rfl rfl rfl hw (i := 1) rfl (show 3 < 8 by decide) rfl ?_); intro w_ hw_; clear hw; have hw := hw_; clear hw_; (try simp only [List.map_cons, List.map_nil, List.getD_cons_zero, List.getD_cons_succ, List.getD_nil, List.set_cons_zero, List.set_cons_succ, List.cons_append, List.nil_append, Act.eval, Array.getD_eq_getD_getElem?, List.getElem?_toArray, List.getElem?_cons_succ, List.getElem?_cons_zero, Option.getD_some, Value.cells] at hw); (try simp (disch := first | (simp; done) | (simp; omega)) only [Sep.mid_set, Sep.mid_set2, Sep.mid_set0, Sep.mid_splice, Sep.mid_splice0, List.set_cons_zero, List.set_cons_succ] at hw); (try simp only [Sep.splice, List.take_succ_cons, List.take_zero, List.drop_succ_cons, List.drop_zero, List.length_cons, List.length_nil, Nat.reduceAdd, List.cons_append, List.nil_append] at hw); (try replace hc0 := Sep.Holds.cells hw (i := 0) rfl); (try replace hc1 := Sep.Holds.cells hw (i := 1) rfl); (try replace hc2 := Sep.Holds.cells hw (i := 2) rfl); (try replace hc3 := Sep.Holds.cells hw (i := 3) rfl); (try replace hc4 := Sep.Holds.cells hw (i := 4) rfl); (try replace hc5 := Sep.Holds.cells hw (i := 5) rfl); (try replace hc6 := Sep.Holds.cells hw (i := 6) rfl)))
      go_roundw
      case rel =>
        refine ⟨4 + 1, by decide, rfl, by rw [Hq.out]; rfl, ?_⟩
        simp only [Act.eval, Array.getD_eq_getD_getElem?, List.getElem?_toArray, List.getElem?_cons_succ, List.getElem?_cons_zero, Option.getD_some, Hm.out] at hw
        exact hw
      case measure => simp [intOf]
    | 5, _ =>
      obtain rfl : u4 = .int .i64 2 := hi4
      obtain rfl : u0 = .int .u64 (divN u 5) := hu0
      have hd := divN_in Hu.out 5
      have Hq : Hid (IntKind.u64.wrap ((divN u 5).tdiv 256) = divN u 5 / 256) := Sep.hid (IntWalk.u64_quo _ _ ⟨hd.1, hd.2, by decide⟩)
      have Hm : Hid ((divN u 5).tmod 256 % 256 = divN u 5 % 256) := Sep.hid (by rw [IntWalk.rem_in _ _ hd.1]; omega)
      clear hd
      go_wp2_with (first | (refine wpList_on rfl (wp_store1 (v := _) (off := 2) rfl rfl rfl hw (i := 1) rfl (show 2 < 8 by decide) rfl ?_); intro w_ hw_; clear hw; have hw := hw_; clear hw_; (try simp only [List.map_cons, List.map_nil, List.getD_cons_zero, List.getD_cons_succ, List.getD_nil, List.set_cons_zero, List.set_cons_succ, List.cons_append, List.nil_append, Act.eval, Array.getD_eq_getD_getElem?, List.getElem?_toArray, List.getElem?_cons_succ, List.getElem?_cons_zero, Option.getD_some, Value.cells] at hw); (try simp (disch := first | (simp; done) | (simp; omega)) only [Sep.mid_set, Sep.mid_set2, Sep.mid_set0, Sep.mid_splice, Sep.mid_splice0, List.set_cons_zero, List.set_cons_succ] at hw); (try simp only [Sep.splice, List.take_succ_cons, List.take_zero, List.drop_succ_cons, List.drop_zero, List.length_cons, List.length_nil, Nat.reduceAdd, List.cons_append, List.nil_append] at hw); (try replace hc0 := Sep.Holds.cells hw (i := 0) rfl); (try replace hc1 := Sep.Holds.cells hw (i := 1) rfl); (try replace hc2 := Sep.Holds.cells hw (i := 2) rfl); (try replace hc3 := Sep.Holds.cells hw (i := 3) rfl); (try replace hc4 := Sep.Holds.cells hw (i := 4) rfl); (try replace hc5 := Sep.Holds.cells hw (i := 5) rfl); (try replace hc6 := Sep.Holds.cells hw (i := 6) rfl)))
      go_roundw
      case rel =>
        refine ⟨5 + 1, by decide, rfl, by rw [Hq.out]; rfl, ?_⟩
        simp only [Act.eval, Array.getD_eq_getD_getElem?, List.getElem?_toArray, List.getElem?_cons_succ, List.getElem?_cons_zero, Option.getD_some, Hm.out] at hw
        exact hw
      case measure => simp [intOf]
    | 6, _ =>
      obtain rfl : u4 = .int .i64 1 := hi4
      obtain rfl : u0 = .int .u64 (divN u 6) := hu0
      have hd := divN_in Hu.out 6
      have Hq : Hid (IntKind.u64.wrap ((divN u 6).tdiv 256) = divN u 6 / 256) := Sep.hid (IntWalk.u64_quo _ _ ⟨hd.1, hd.2, by decide⟩)
      have Hm : Hid ((divN u 6).tmod 256 % 256 = divN u 6 % 256) := Sep.hid (by rw [IntWalk.rem_in _ _ hd.1]; omega)
      clear hd
      go_wp2_with (first | (refine wpList_on rfl (wp_store1 (v := _) (off := 1) rfl rfl rfl hw (i := 1) rfl (show 1 < 8 by decide) rfl ?_); intro w_ hw_; clear hw; have hw := hw_; clear hw_; (try simp only [List.map_cons, List.map_nil, List.getD_cons_zero, List.getD_cons_succ, List.getD_nil, List.set_cons_zero, List.set_cons_succ, List.cons_append, List.nil_append, Act.eval, Array.getD_eq_getD_getElem?, List.getElem?_toArray, List.getElem?_cons_succ, List.getElem?_cons_zero, Option.getD_some, Value.cells] at hw); (try simp (disch := first | (simp; done) | (simp; omega)) only [Sep.mid_set, Sep.mid_set2, Sep.mid_set0, Sep.mid_splice, Sep.mid_splice0, List.set_cons_zero, List.set_cons_succ] at hw); (try simp only [Sep.splice, List.take_succ_cons, List.take_zero, List.drop_succ_cons, List.drop_zero, List.length_cons, List.length_nil, Nat.reduceAdd, List.cons_append, List.nil_append] at hw); (try replace hc0 := Sep.Holds.cells hw (i := 0) rfl); (try replace hc1 := Sep.Holds.cells hw (i := 1) rfl); (try replace hc2 := Sep.Holds.cells hw (i := 2) rfl); (try replace hc3 := Sep.Holds.cells hw (i := 3) rfl); (try replace hc4 := Sep.Holds.cells hw (i := 4) rfl); (try replace hc5 := Sep.Holds.cells hw (i := 5) rfl); (try replace hc6 := Sep.Holds.cells hw (i := 6) rfl)))
      go_roundw
      case rel =>
        refine ⟨6 + 1, by decide, rfl, by rw [Hq.out]; rfl, ?_⟩
        simp only [Act.eval, Array.getD_eq_getD_getElem?, List.getElem?_toArray, List.getElem?_cons_succ, List.getElem?_cons_zero, Option.getD_some, Hm.out] at hw
        exact hw
      case measure => simp [intOf]
    | 7, _ =>
      obtain rfl : u4 = .int .i64 0 := hi4
      obtain rfl : u0 = .int .u64 (divN u 7) := hu0
      have hd := divN_in Hu.out 7
      have Hq : Hid (IntKind.u64.wrap ((divN u 7).tdiv 256) = divN u 7 / 256) := Sep.hid (IntWalk.u64_quo _ _ ⟨hd.1, hd.2, by decide⟩)
      have Hm : Hid ((divN u 7).tmod 256 % 256 = divN u 7 % 256) := Sep.hid (by rw [IntWalk.rem_in _ _ hd.1]; omega)
      clear hd
      go_wp2_with (first | (refine wpList_on rfl (wp_store1 (v := _) (off := 0) rfl rfl rfl hw (i := 1) rfl (show 0 < 8 by decide) rfl ?_); intro w_ hw_; clear hw; have hw := hw_; clear hw_; (try simp only [List.map_cons, List.map_nil, List.getD_cons_zero, List.getD_cons_succ, List.getD_nil, List.set_cons_zero, List.set_cons_succ, List.cons_append, List.nil_append, Act.eval, Array.getD_eq_getD_getElem?, List.getElem?_toArray, List.getElem?_cons_succ, List.getElem?_cons_zero, Option.getD_some, Value.cells] at hw); (try simp (disch := first | (simp; done) | (simp; omega)) only [Sep.mid_set, Sep.mid_set2, Sep.mid_set0, Sep.mid_splice, Sep.mid_splice0, List.set_cons_zero, List.set_cons_succ] at hw); (try simp only [Sep.splice, List.take_succ_cons, List.take_zero, List.drop_succ_cons, List.drop_zero, List.length_cons, List.length_nil, Nat.reduceAdd, List.cons_append, List.nil_append] at hw); (try replace hc0 := Sep.Holds.cells hw (i := 0) rfl); (try replace hc1 := Sep.Holds.cells hw (i := 1) rfl); (try replace hc2 := Sep.Holds.cells hw (i := 2) rfl); (try replace hc3 := Sep.Holds.cells hw (i := 3) rfl); (try replace hc4 := Sep.Holds.cells hw (i := 4) rfl); (try replace hc5 := Sep.Holds.cells hw (i := 5) rfl); (try replace hc6 := Sep.Holds.cells hw (i := 6) rfl)))
      go_roundw
      case rel =>
        refine ⟨7 + 1, by decide, rfl, by rw [Hq.out]; rfl, ?_⟩
        simp only [Act.eval, Array.getD_eq_getD_getElem?, List.getElem?_toArray, List.getElem?_cons_succ, List.getElem?_cons_zero, Option.getD_some, Hm.out] at hw
        exact hw
      case measure => simp [intOf]
    | 8, _ =>
      obtain rfl : u4 = .int .i64 (-1) := hi4
      obtain rfl : u0 = .int .u64 (divN u 8) := hu0
      go_wp2_with fail
      exact HP.out _ _ ⟨_, rfl, hw⟩
set_option maxHeartbeats 800000 in
theorem rEight (n : Int) (e w : World) (X : HProp) (hw : Holds e w [X]) :
    Calls Tryd.prog 21 #[.int .i64 n] w fun en w' => ∃ b, en = .returned (.slice (some ⟨b, 0, none⟩) 8 8) ∧ Holds e w' [X, pt b (encB (be8 n)) 5] := by
  have Hu : Hid (0 ≤ IntKind.u64.wrap n ∧ IntKind.u64.wrap n ≤ 18446744073709551615) := Sep.hid (by
    have h1 : IntKind.u64.wrap n = n % 18446744073709551616 := IntKind.wrap_u64 n
    rw [h1]; omega)
  have Hb := Sep.hid (be8L_eq n)
  refine Sep.calls_post ?_
  intro Post_ hPost_
  have HP := Sep.hid hPost_
  clear hPost_
  go_enter Tryd.func21, Tryd.ntmps21
  go_wp2_with fail
  refine (reight (IntKind.u64.wrap n) Hu.out e _ X hw).mono ?_
  rintro _ w_ ⟨b, rfl, hw_⟩
  rw [Hb.out] at hw_
  go_wp2_with fail
  exact HP.out _ _ ⟨b, rfl, hw_⟩
end Go.Proofs.YtmokklkckecmdaaDoor
