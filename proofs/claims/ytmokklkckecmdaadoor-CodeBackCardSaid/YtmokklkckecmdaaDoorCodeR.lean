/-
  The walks of Right, the program's and the document's.
-/
import Derived.Test.YtmokklkckecmdaaDoorCodeG
import Derived.Test.YtmokklkckecmdaaDoorActs
import Derived.Test.YtmokklkckecmdaaDoorSepEq
namespace Go.Proofs.YtmokklkckecmdaaDoor
set_option linter.unusedSimpArgs false
set_option linter.unusedVariables false
open Go.RowKit Go.Sep

/-- What a part of memory tells of the package's variable. -/
def Tops (e : World) (X : HProp) : Prop := ∀ (w : World) (L : List HProp) (i : Nat), Holds e w L → L[i]? = some X → TopsAt w
theorem toList3 (c0 c1 c2 : Nat) : (strOf [c0, c1, c2]).toList.isEmpty = false := by
  unfold ByteArray.toList
  rw [ByteArray.toList.loop, if_pos (by rw [size_strOf]; simp), ByteArray.toList.loop, if_pos (by rw [size_strOf]; simp), ByteArray.toList.loop, if_pos (by rw [size_strOf]; simp), ByteArray.toList.loop, if_neg (by rw [size_strOf]; simp)]
  simp
theorem toList0 : (strOf []).toList.isEmpty = true := by
  unfold ByteArray.toList
  rw [ByteArray.toList.loop, if_neg (by rw [size_strOf]; simp)]; rfl
def fl3 (c0 c1 c2 : Nat) (x : Deed) (long : Int) : List Bool := [fitsP c0 x.f1 long, fitsP c1 x.f2 long, fitsP c2 x.f3 long]
theorem right3 {c0 c1 c2 : Nat} {x : Deed} {long : Int} (h : formP x.f0 = [c0, c1, c2]) : rightP x long = (fl3 c0 c1 c2 x long).all id := by
  unfold rightP; rw [h]; simp [fl3]
set_option maxRecDepth 20000 in
set_option maxHeartbeats 8000000 in
theorem oRight (x : Deed) (long : Int) (e w : World) (X : HProp) (hT : Tops e X) (hw : Holds e w [X]) :
    Calls Tryd.prog 14 #[.agg (encA x).toArray, .int .i64 long] w fun en w' => en = .returned (.bool (rightP x long)) ∧ Holds e w' [X] := by
  have hA : encA x = [.int .i64 x.f0, .int .i64 x.f1, .int .i64 x.f2, .int .i64 x.f3] := rfl
  have HT := Sep.hid hT; clear hT
  rcases form_cases x.f0 with ⟨hf, _⟩ | ⟨c0, c1, c2, hf, m0, m1, m2⟩
  · have hb : rightP x long = false := by unfold rightP; rw [hf]
    have Hf := Sep.hid hf; clear hf
    rw [hb, hA]; clear hb hA
    refine Sep.calls_post ?_
    intro Post_ hPost_
    have HP := Sep.hid hPost_
    clear hPost_
    go_enter Tryd.func14, Tryd.ntmps14
    go_wp2_with (first | (refine wpList_on rfl (wp_box rfl hw ?_); intro bx_ w_ hw_; clear hw; have hw := hw_; clear hw_; (try simp only [List.map_cons, List.map_nil, List.getD_cons_zero, List.getD_cons_succ, List.getD_nil, List.set_cons_zero, List.set_cons_succ, List.cons_append, List.nil_append, Act.eval, Array.getD_eq_getD_getElem?, List.getElem?_toArray, List.getElem?_cons_succ, List.getElem?_cons_zero, Option.getD_some, Value.cells] at hw); (try simp (disch := first | (simp; done) | (simp; omega)) only [Sep.mid_set, Sep.mid_set2, Sep.mid_set0, Sep.mid_splice, Sep.mid_splice0, List.set_cons_zero, List.set_cons_succ] at hw); (try simp only [Sep.splice, List.take_succ_cons, List.take_zero, List.drop_succ_cons, List.drop_zero, List.length_cons, List.length_nil, Nat.reduceAdd, List.cons_append, List.nil_append] at hw); (try replace hc0 := Sep.Holds.cells hw (i := 0) rfl); (try replace hc1 := Sep.Holds.cells hw (i := 1) rfl); (try replace hc2 := Sep.Holds.cells hw (i := 2) rfl); (try replace hc3 := Sep.Holds.cells hw (i := 3) rfl); (try replace hc4 := Sep.Holds.cells hw (i := 4) rfl); (try replace hc5 := Sep.Holds.cells hw (i := 5) rfl); (try replace hc6 := Sep.Holds.cells hw (i := 6) rfl)))
    refine (oForm x.f0 _).mono ?_
    rintro _ _ ⟨rfl, rfl⟩
    rw [Hf.out]
    go_wp2_with (first | (refine wpList_on rfl (wp_alloc rfl hw ?_); intro b6_ w_ hw_; clear hw; have hw := hw_; clear hw_; (try simp only [List.map_cons, List.map_nil, List.getD_cons_zero, List.getD_cons_succ, List.getD_nil, List.set_cons_zero, List.set_cons_succ, List.cons_append, List.nil_append, Act.eval, Array.getD_eq_getD_getElem?, List.getElem?_toArray, List.getElem?_cons_succ, List.getElem?_cons_zero, Option.getD_some, Value.cells] at hw); (try simp (disch := first | (simp; done) | (simp; omega)) only [Sep.mid_set, Sep.mid_set2, Sep.mid_set0, Sep.mid_splice, Sep.mid_splice0, List.set_cons_zero, List.set_cons_succ] at hw); (try simp only [Sep.splice, List.take_succ_cons, List.take_zero, List.drop_succ_cons, List.drop_zero, List.length_cons, List.length_nil, Nat.reduceAdd, List.cons_append, List.nil_append] at hw); (try replace hc0 := Sep.Holds.cells hw (i := 0) rfl); (try replace hc1 := Sep.Holds.cells hw (i := 1) rfl); (try replace hc2 := Sep.Holds.cells hw (i := 2) rfl); (try replace hc3 := Sep.Holds.cells hw (i := 3) rfl); (try replace hc4 := Sep.Holds.cells hw (i := 4) rfl); (try replace hc5 := Sep.Holds.cells hw (i := 5) rfl); (try replace hc6 := Sep.Holds.cells hw (i := 6) rfl)) | (refine wpList_on rfl (wp_storeAll (vs := [.int .i64 x.f1, .int .i64 x.f2, .int .i64 x.f3]) rfl rfl (by rfl) hw (i := 2) rfl rfl rfl (by simp [Value.oneCell']) ?_); intro w_ hw_; clear hw; have hw := hw_; clear hw_; (try simp only [List.map_cons, List.map_nil, List.getD_cons_zero, List.getD_cons_succ, List.getD_nil, List.set_cons_zero, List.set_cons_succ, List.cons_append, List.nil_append, Act.eval, Array.getD_eq_getD_getElem?, List.getElem?_toArray, List.getElem?_cons_succ, List.getElem?_cons_zero, Option.getD_some, Value.cells] at hw); (try simp (disch := first | (simp; done) | (simp; omega)) only [Sep.mid_set, Sep.mid_set2, Sep.mid_set0, Sep.mid_splice, Sep.mid_splice0, List.set_cons_zero, List.set_cons_succ] at hw); (try simp only [Sep.splice, List.take_succ_cons, List.take_zero, List.drop_succ_cons, List.drop_zero, List.length_cons, List.length_nil, Nat.reduceAdd, List.cons_append, List.nil_append] at hw); (try replace hc0 := Sep.Holds.cells hw (i := 0) rfl); (try replace hc1 := Sep.Holds.cells hw (i := 1) rfl); (try replace hc2 := Sep.Holds.cells hw (i := 2) rfl); (try replace hc3 := Sep.Holds.cells hw (i := 3) rfl); (try replace hc4 := Sep.Holds.cells hw (i := 4) rfl); (try replace hc5 := Sep.Holds.cells hw (i := 5) rfl); (try replace hc6 := Sep.Holds.cells hw (i := 6) rfl)) | (refine wpList_on rfl (wp_rangeStr Tryd.underlying9 rfl rfl hw ?_); intro it_ w_ hw_; clear hw; have hw := hw_; clear hw_; (try simp only [List.map_cons, List.map_nil, List.getD_cons_zero, List.getD_cons_succ, List.getD_nil, List.set_cons_zero, List.set_cons_succ, List.cons_append, List.nil_append, Act.eval, Array.getD_eq_getD_getElem?, List.getElem?_toArray, List.getElem?_cons_succ, List.getElem?_cons_zero, Option.getD_some, Value.cells] at hw); (try simp (disch := first | (simp; done) | (simp; omega)) only [Sep.mid_set, Sep.mid_set2, Sep.mid_set0, Sep.mid_splice, Sep.mid_splice0, List.set_cons_zero, List.set_cons_succ] at hw); (try simp only [Sep.splice, List.take_succ_cons, List.take_zero, List.drop_succ_cons, List.drop_zero, List.length_cons, List.length_nil, Nat.reduceAdd, List.cons_append, List.nil_append] at hw); (try replace hc0 := Sep.Holds.cells hw (i := 0) rfl); (try replace hc1 := Sep.Holds.cells hw (i := 1) rfl); (try replace hc2 := Sep.Holds.cells hw (i := 2) rfl); (try replace hc3 := Sep.Holds.cells hw (i := 3) rfl); (try replace hc4 := Sep.Holds.cells hw (i := 4) rfl); (try replace hc5 := Sep.Holds.cells hw (i := 5) rfl); (try replace hc6 := Sep.Holds.cells hw (i := 6) rfl); (try simp only [Act.put, List.setIfInBounds_toArray, List.set_cons_zero, List.set_cons_succ])))
    have Hw0 := Sep.hid hw; clear hw; (try clear hc0); (try clear hc1); (try clear hc2); (try clear hc3); (try clear hc4); (try clear hc5); (try clear hc6)
    go_loopw [21] (fun u wr => Holds e wr [X, pt bx_ [.int .i64 x.f0, .int .i64 x.f1, .int .i64 x.f2, .int .i64 x.f3] 23, pt b6_ [.int .i64 x.f1, .int .i64 x.f2, .int .i64 x.f3] 56, pto it_ (.stringIter (strOf []) 0)]) (fun _ wr => strLeft it_ wr)
    case atStart => exact Hw0.out
    case round =>
      clear Hw0
      have hw := hrel; clear hrel
      go_wp2_with (first | (refine wpList_on rfl (wp_nextEnd rfl rfl hw (i := 3) rfl (by decide) ?_); (try simp only [Act.put, List.setIfInBounds_toArray, List.set_cons_zero, List.set_cons_succ])))
      exact HP.out _ _ ⟨by rw [toList0]; rfl, hw.sel [0] (by decide)⟩
  · rw [right3 hf, hA]; clear hA
    have Hf := Sep.hid hf; clear hf
    have M0 := Sep.hid m0; have M1 := Sep.hid m1; have M2 := Sep.hid m2
    clear m0 m1 m2
    refine Sep.calls_post ?_
    intro Post_ hPost_
    have HP := Sep.hid hPost_
    clear hPost_
    go_enter Tryd.func14, Tryd.ntmps14
    go_wp2_with (first | (refine wpList_on rfl (wp_box rfl hw ?_); intro bx_ w_ hw_; clear hw; have hw := hw_; clear hw_; (try simp only [List.map_cons, List.map_nil, List.getD_cons_zero, List.getD_cons_succ, List.getD_nil, List.set_cons_zero, List.set_cons_succ, List.cons_append, List.nil_append, Act.eval, Array.getD_eq_getD_getElem?, List.getElem?_toArray, List.getElem?_cons_succ, List.getElem?_cons_zero, Option.getD_some, Value.cells] at hw); (try simp (disch := first | (simp; done) | (simp; omega)) only [Sep.mid_set, Sep.mid_set2, Sep.mid_set0, Sep.mid_splice, Sep.mid_splice0, List.set_cons_zero, List.set_cons_succ] at hw); (try simp only [Sep.splice, List.take_succ_cons, List.take_zero, List.drop_succ_cons, List.drop_zero, List.length_cons, List.length_nil, Nat.reduceAdd, List.cons_append, List.nil_append] at hw); (try replace hc0 := Sep.Holds.cells hw (i := 0) rfl); (try replace hc1 := Sep.Holds.cells hw (i := 1) rfl); (try replace hc2 := Sep.Holds.cells hw (i := 2) rfl); (try replace hc3 := Sep.Holds.cells hw (i := 3) rfl); (try replace hc4 := Sep.Holds.cells hw (i := 4) rfl); (try replace hc5 := Sep.Holds.cells hw (i := 5) rfl); (try replace hc6 := Sep.Holds.cells hw (i := 6) rfl)))
    refine (oForm x.f0 _).mono ?_
    rintro _ _ ⟨rfl, rfl⟩
    rw [Hf.out]
    go_wp2_with (first | (refine wpList_on rfl (wp_alloc rfl hw ?_); intro b6_ w_ hw_; clear hw; have hw := hw_; clear hw_; (try simp only [List.map_cons, List.map_nil, List.getD_cons_zero, List.getD_cons_succ, List.getD_nil, List.set_cons_zero, List.set_cons_succ, List.cons_append, List.nil_append, Act.eval, Array.getD_eq_getD_getElem?, List.getElem?_toArray, List.getElem?_cons_succ, List.getElem?_cons_zero, Option.getD_some, Value.cells] at hw); (try simp (disch := first | (simp; done) | (simp; omega)) only [Sep.mid_set, Sep.mid_set2, Sep.mid_set0, Sep.mid_splice, Sep.mid_splice0, List.set_cons_zero, List.set_cons_succ] at hw); (try simp only [Sep.splice, List.take_succ_cons, List.take_zero, List.drop_succ_cons, List.drop_zero, List.length_cons, List.length_nil, Nat.reduceAdd, List.cons_append, List.nil_append] at hw); (try replace hc0 := Sep.Holds.cells hw (i := 0) rfl); (try replace hc1 := Sep.Holds.cells hw (i := 1) rfl); (try replace hc2 := Sep.Holds.cells hw (i := 2) rfl); (try replace hc3 := Sep.Holds.cells hw (i := 3) rfl); (try replace hc4 := Sep.Holds.cells hw (i := 4) rfl); (try replace hc5 := Sep.Holds.cells hw (i := 5) rfl); (try replace hc6 := Sep.Holds.cells hw (i := 6) rfl)) | (refine wpList_on rfl (wp_storeAll (vs := [.int .i64 x.f1, .int .i64 x.f2, .int .i64 x.f3]) rfl rfl (by rfl) hw (i := 2) rfl rfl rfl (by simp [Value.oneCell']) ?_); intro w_ hw_; clear hw; have hw := hw_; clear hw_; (try simp only [List.map_cons, List.map_nil, List.getD_cons_zero, List.getD_cons_succ, List.getD_nil, List.set_cons_zero, List.set_cons_succ, List.cons_append, List.nil_append, Act.eval, Array.getD_eq_getD_getElem?, List.getElem?_toArray, List.getElem?_cons_succ, List.getElem?_cons_zero, Option.getD_some, Value.cells] at hw); (try simp (disch := first | (simp; done) | (simp; omega)) only [Sep.mid_set, Sep.mid_set2, Sep.mid_set0, Sep.mid_splice, Sep.mid_splice0, List.set_cons_zero, List.set_cons_succ] at hw); (try simp only [Sep.splice, List.take_succ_cons, List.take_zero, List.drop_succ_cons, List.drop_zero, List.length_cons, List.length_nil, Nat.reduceAdd, List.cons_append, List.nil_append] at hw); (try replace hc0 := Sep.Holds.cells hw (i := 0) rfl); (try replace hc1 := Sep.Holds.cells hw (i := 1) rfl); (try replace hc2 := Sep.Holds.cells hw (i := 2) rfl); (try replace hc3 := Sep.Holds.cells hw (i := 3) rfl); (try replace hc4 := Sep.Holds.cells hw (i := 4) rfl); (try replace hc5 := Sep.Holds.cells hw (i := 5) rfl); (try replace hc6 := Sep.Holds.cells hw (i := 6) rfl)) | (refine wpList_on rfl (wp_rangeStr Tryd.underlying9 rfl rfl hw ?_); intro it_ w_ hw_; clear hw; have hw := hw_; clear hw_; (try simp only [List.map_cons, List.map_nil, List.getD_cons_zero, List.getD_cons_succ, List.getD_nil, List.set_cons_zero, List.set_cons_succ, List.cons_append, List.nil_append, Act.eval, Array.getD_eq_getD_getElem?, List.getElem?_toArray, List.getElem?_cons_succ, List.getElem?_cons_zero, Option.getD_some, Value.cells] at hw); (try simp (disch := first | (simp; done) | (simp; omega)) only [Sep.mid_set, Sep.mid_set2, Sep.mid_set0, Sep.mid_splice, Sep.mid_splice0, List.set_cons_zero, List.set_cons_succ] at hw); (try simp only [Sep.splice, List.take_succ_cons, List.take_zero, List.drop_succ_cons, List.drop_zero, List.length_cons, List.length_nil, Nat.reduceAdd, List.cons_append, List.nil_append] at hw); (try replace hc0 := Sep.Holds.cells hw (i := 0) rfl); (try replace hc1 := Sep.Holds.cells hw (i := 1) rfl); (try replace hc2 := Sep.Holds.cells hw (i := 2) rfl); (try replace hc3 := Sep.Holds.cells hw (i := 3) rfl); (try replace hc4 := Sep.Holds.cells hw (i := 4) rfl); (try replace hc5 := Sep.Holds.cells hw (i := 5) rfl); (try replace hc6 := Sep.Holds.cells hw (i := 6) rfl); (try simp only [Act.put, List.setIfInBounds_toArray, List.set_cons_zero, List.set_cons_succ])))
    have Hw0 := Sep.hid hw; clear hw; (try clear hc0); (try clear hc1); (try clear hc2); (try clear hc3); (try clear hc4); (try clear hc5); (try clear hc6)
    go_loopw [21] (fun u wr => ∃ k : Nat, k ≤ 3 ∧ Hid (((fl3 c0 c1 c2 x long).take k).all id = true) ∧ Holds e wr [X, pt bx_ [.int .i64 x.f0, .int .i64 x.f1, .int .i64 x.f2, .int .i64 x.f3] 23, pt b6_ [.int .i64 x.f1, .int .i64 x.f2, .int .i64 x.f3] 56, pto it_ (.stringIter (strOf [c0, c1, c2]) k)]) (fun _ wr => strLeft it_ wr)
    case atStart => exact ⟨0, by decide, Sep.hid rfl, Hw0.out⟩
    case round =>
      clear Hw0
      obtain ⟨k, hk, Hp, hw⟩ := hrel
      have Hm := Sep.hid (Holds.strLeft hw (i := 3) rfl)
      match k, hk with
      | 0, _ =>
        (try replace hc0 := Sep.Holds.cells hw (i := 0) rfl); (try replace hc1 := Sep.Holds.cells hw (i := 1) rfl); (try replace hc2 := Sep.Holds.cells hw (i := 2) rfl); (try replace hc3 := Sep.Holds.cells hw (i := 3) rfl); (try replace hc4 := Sep.Holds.cells hw (i := 4) rfl); (try replace hc5 := Sep.Holds.cells hw (i := 5) rfl); (try replace hc6 := Sep.Holds.cells hw (i := 6) rfl)
        go_wp2_with (first | (refine wpList_on rfl (wp_nextStr rfl rfl hw (i := 3) rfl (by rw [size_strOf]; simp) (decode_strOf _ _ c0 rfl (letters_lt M0.out)) ?_); intro w_ hw_; clear hw; have hw := hw_; clear hw_; (try simp only [List.map_cons, List.map_nil, List.getD_cons_zero, List.getD_cons_succ, List.getD_nil, List.set_cons_zero, List.set_cons_succ, List.cons_append, List.nil_append, Act.eval, Array.getD_eq_getD_getElem?, List.getElem?_toArray, List.getElem?_cons_succ, List.getElem?_cons_zero, Option.getD_some, Value.cells] at hw); (try simp (disch := first | (simp; done) | (simp; omega)) only [Sep.mid_set, Sep.mid_set2, Sep.mid_set0, Sep.mid_splice, Sep.mid_splice0, List.set_cons_zero, List.set_cons_succ] at hw); (try simp only [Sep.splice, List.take_succ_cons, List.take_zero, List.drop_succ_cons, List.drop_zero, List.length_cons, List.length_nil, Nat.reduceAdd, List.cons_append, List.nil_append] at hw); (try replace hc0 := Sep.Holds.cells hw (i := 0) rfl); (try replace hc1 := Sep.Holds.cells hw (i := 1) rfl); (try replace hc2 := Sep.Holds.cells hw (i := 2) rfl); (try replace hc3 := Sep.Holds.cells hw (i := 3) rfl); (try replace hc4 := Sep.Holds.cells hw (i := 4) rfl); (try replace hc5 := Sep.Holds.cells hw (i := 5) rfl); (try replace hc6 := Sep.Holds.cells hw (i := 6) rfl); (try simp only [Act.put, List.setIfInBounds_toArray, List.set_cons_zero, List.set_cons_succ])))
        refine (oFits c0 M0.out x.f1 long _ (HT.out _ _ 0 hw rfl)).mono ?_
        rintro _ _ ⟨rfl, rfl⟩
        cases hb : fitsP c0 x.f1 long with
        | true =>
          have Hb := Sep.hid hb; clear hb
          go_wp2_with fail
          go_roundw
          case rel => exact ⟨0 + 1, by decide, Sep.hid (by simp only [fl3, List.take_succ_cons, List.take_zero, List.all_cons, List.all_nil, id]; simp [Hb.out]), hw⟩
          case measure => rw [Holds.strLeft hw (i := 3) rfl, Hm.out, size_strOf]; simp
        | false =>
          have Hb := Sep.hid hb; clear hb
          go_wp2_with fail
          exact HP.out _ _ ⟨by simp [fl3, Hb.out], hw.sel [0] (by decide)⟩
      | 1, _ =>
        (try replace hc0 := Sep.Holds.cells hw (i := 0) rfl); (try replace hc1 := Sep.Holds.cells hw (i := 1) rfl); (try replace hc2 := Sep.Holds.cells hw (i := 2) rfl); (try replace hc3 := Sep.Holds.cells hw (i := 3) rfl); (try replace hc4 := Sep.Holds.cells hw (i := 4) rfl); (try replace hc5 := Sep.Holds.cells hw (i := 5) rfl); (try replace hc6 := Sep.Holds.cells hw (i := 6) rfl)
        go_wp2_with (first | (refine wpList_on rfl (wp_nextStr rfl rfl hw (i := 3) rfl (by rw [size_strOf]; simp) (decode_strOf _ _ c1 rfl (letters_lt M1.out)) ?_); intro w_ hw_; clear hw; have hw := hw_; clear hw_; (try simp only [List.map_cons, List.map_nil, List.getD_cons_zero, List.getD_cons_succ, List.getD_nil, List.set_cons_zero, List.set_cons_succ, List.cons_append, List.nil_append, Act.eval, Array.getD_eq_getD_getElem?, List.getElem?_toArray, List.getElem?_cons_succ, List.getElem?_cons_zero, Option.getD_some, Value.cells] at hw); (try simp (disch := first | (simp; done) | (simp; omega)) only [Sep.mid_set, Sep.mid_set2, Sep.mid_set0, Sep.mid_splice, Sep.mid_splice0, List.set_cons_zero, List.set_cons_succ] at hw); (try simp only [Sep.splice, List.take_succ_cons, List.take_zero, List.drop_succ_cons, List.drop_zero, List.length_cons, List.length_nil, Nat.reduceAdd, List.cons_append, List.nil_append] at hw); (try replace hc0 := Sep.Holds.cells hw (i := 0) rfl); (try replace hc1 := Sep.Holds.cells hw (i := 1) rfl); (try replace hc2 := Sep.Holds.cells hw (i := 2) rfl); (try replace hc3 := Sep.Holds.cells hw (i := 3) rfl); (try replace hc4 := Sep.Holds.cells hw (i := 4) rfl); (try replace hc5 := Sep.Holds.cells hw (i := 5) rfl); (try replace hc6 := Sep.Holds.cells hw (i := 6) rfl); (try simp only [Act.put, List.setIfInBounds_toArray, List.set_cons_zero, List.set_cons_succ])))
        refine (oFits c1 M1.out x.f2 long _ (HT.out _ _ 0 hw rfl)).mono ?_
        rintro _ _ ⟨rfl, rfl⟩
        cases hb : fitsP c1 x.f2 long with
        | true =>
          have Hb := Sep.hid hb; clear hb
          go_wp2_with fail
          go_roundw
          case rel => exact ⟨1 + 1, by decide, Sep.hid (by simp only [fl3, List.take_succ_cons, List.take_zero, List.all_cons, List.all_nil, id]; have h := Hp.out; simp only [fl3, List.take_succ_cons, List.take_zero, List.all_cons, List.all_nil, id] at h; simp_all [Hb.out]), hw⟩
          case measure => rw [Holds.strLeft hw (i := 3) rfl, Hm.out, size_strOf]; simp
        | false =>
          have Hb := Sep.hid hb; clear hb
          go_wp2_with fail
          exact HP.out _ _ ⟨by simp [fl3, Hb.out], hw.sel [0] (by decide)⟩
      | 2, _ =>
        (try replace hc0 := Sep.Holds.cells hw (i := 0) rfl); (try replace hc1 := Sep.Holds.cells hw (i := 1) rfl); (try replace hc2 := Sep.Holds.cells hw (i := 2) rfl); (try replace hc3 := Sep.Holds.cells hw (i := 3) rfl); (try replace hc4 := Sep.Holds.cells hw (i := 4) rfl); (try replace hc5 := Sep.Holds.cells hw (i := 5) rfl); (try replace hc6 := Sep.Holds.cells hw (i := 6) rfl)
        go_wp2_with (first | (refine wpList_on rfl (wp_nextStr rfl rfl hw (i := 3) rfl (by rw [size_strOf]; simp) (decode_strOf _ _ c2 rfl (letters_lt M2.out)) ?_); intro w_ hw_; clear hw; have hw := hw_; clear hw_; (try simp only [List.map_cons, List.map_nil, List.getD_cons_zero, List.getD_cons_succ, List.getD_nil, List.set_cons_zero, List.set_cons_succ, List.cons_append, List.nil_append, Act.eval, Array.getD_eq_getD_getElem?, List.getElem?_toArray, List.getElem?_cons_succ, List.getElem?_cons_zero, Option.getD_some, Value.cells] at hw); (try simp (disch := first | (simp; done) | (simp; omega)) only [Sep.mid_set, Sep.mid_set2, Sep.mid_set0, Sep.mid_splice, Sep.mid_splice0, List.set_cons_zero, List.set_cons_succ] at hw); (try simp only [Sep.splice, List.take_succ_cons, List.take_zero, List.drop_succ_cons, List.drop_zero, List.length_cons, List.length_nil, Nat.reduceAdd, List.cons_append, List.nil_append] at hw); (try replace hc0 := Sep.Holds.cells hw (i := 0) rfl); (try replace hc1 := Sep.Holds.cells hw (i := 1) rfl); (try replace hc2 := Sep.Holds.cells hw (i := 2) rfl); (try replace hc3 := Sep.Holds.cells hw (i := 3) rfl); (try replace hc4 := Sep.Holds.cells hw (i := 4) rfl); (try replace hc5 := Sep.Holds.cells hw (i := 5) rfl); (try replace hc6 := Sep.Holds.cells hw (i := 6) rfl); (try simp only [Act.put, List.setIfInBounds_toArray, List.set_cons_zero, List.set_cons_succ])))
        refine (oFits c2 M2.out x.f3 long _ (HT.out _ _ 0 hw rfl)).mono ?_
        rintro _ _ ⟨rfl, rfl⟩
        cases hb : fitsP c2 x.f3 long with
        | true =>
          have Hb := Sep.hid hb; clear hb
          go_wp2_with fail
          go_roundw
          case rel => exact ⟨2 + 1, by decide, Sep.hid (by simp only [fl3, List.take_succ_cons, List.take_zero, List.all_cons, List.all_nil, id]; have h := Hp.out; simp only [fl3, List.take_succ_cons, List.take_zero, List.all_cons, List.all_nil, id] at h; simp_all [Hb.out]), hw⟩
          case measure => rw [Holds.strLeft hw (i := 3) rfl, Hm.out, size_strOf]; simp
        | false =>
          have Hb := Sep.hid hb; clear hb
          go_wp2_with fail
          exact HP.out _ _ ⟨by simp [fl3, Hb.out], hw.sel [0] (by decide)⟩
      | 3, _ =>
        have Hr : Hid ((fl3 c0 c1 c2 x long).all id = true) := Sep.hid (by have h := Hp.out; rwa [List.take_of_length_le (by simp [fl3])] at h)
        go_wp2_with (first | (refine wpList_on rfl (wp_nextEnd rfl rfl hw (i := 3) rfl (by rw [size_strOf]; simp) ?_); (try simp only [Act.put, List.setIfInBounds_toArray, List.set_cons_zero, List.set_cons_succ])))
        exact HP.out _ _ ⟨by rw [toList3, Hr.out]; rfl, hw.sel [0] (by decide)⟩
end Go.Proofs.YtmokklkckecmdaaDoor
