/-
  The walks of join, give, and of what gives.
-/
import Derived.Test.YtlngkjgoacelfaaRwW
namespace Go.Proofs.Ytlngkjgoacelfaa
set_option linter.unusedSimpArgs false
set_option linter.unusedVariables false
open Go.RowKit Go.Sep Go.RingM

set_option maxHeartbeats 2000000 in
theorem concat_calls (b : Nat) (u v : Value) (l : List Int) (y : Int) (hl : l.length ≤ 1000) (e w : World) (R : HProp) (hw : Holds e w [R, IsInts u l, IsInts v [y], pt b [u, v] 33]) :
    Calls Try.prog 44 #[.slice (some ⟨b, 0, none⟩) 2 2] w fun en w' => ∃ x, en = .returned x ∧ Holds e w' [R, IsInts u l, IsInts v [y], pt b [u, v] 33, IsInts x (l ++ [y])] := by
  have hw : Holds e w [R, Sl 3 1 u l.length (encI l), Sl 3 1 v 1 (encI [y]), pt b [u, v] 33] := hw
  obtain ⟨ua, uc, rfl⟩ := Sl.value (i := 1) rfl hw
  obtain ⟨va, vc, rfl⟩ := Sl.value (i := 2) rfl hw
  generalize hn' : l.length = n at *
  have Hn := Sep.hid hn'; clear hn'
  have hwr : IntKind.i64.wrap ((n : Int) + 1) = ((n + 1 : Nat) : Int) := IntWalk.i64_in _ (by omega)
  have hwr0 : IntKind.i64.wrap (0 + (n : Int)) = (n : Int) := by rw [Int.zero_add]; exact IntWalk.i64_in _ (by omega)
  refine Sep.calls_post ?_
  intro Post_ hPost_
  have HP := Sep.hid hPost_
  clear hPost_
  go_enter Try.func44, Try.ntmps44
  go_wp2_with fail
  have Hw0 := Sep.hid hw; clear hw
  go_loopw [3, 11] (fun sv iv wr => ∃ (k s : Nat), ((k = 0 ∧ s = 0) ∨ (k = 1 ∧ s = n) ∨ (k = 2 ∧ s = n + 1)) ∧ sv = .int .i64 s ∧ iv = .int .i64 k ∧ Holds e wr [R, Sl 3 1 (.slice ua n uc) n (encI l), Sl 3 1 (.slice va 1 vc) 1 (encI [y]), pt b [.slice ua n uc, .slice va 1 vc] 33]) (fun _ iv _ => 2 - (intOf iv).toNat)
  case atStart => exact ⟨0, 0, .inl ⟨rfl, rfl⟩, rfl, rfl, Hw0.out⟩
  case round =>
    clear Hw0
    obtain ⟨k, s, hks, rfl, rfl, hw⟩ := hrel
    (try replace hc0 := Sep.Holds.cells hw (i := 0) rfl); (try replace hc1 := Sep.Holds.cells hw (i := 1) rfl); (try replace hc2 := Sep.Holds.cells hw (i := 2) rfl); (try replace hc3 := Sep.Holds.cells hw (i := 3) rfl); (try replace hc4 := Sep.Holds.cells hw (i := 4) rfl); (try replace hc5 := Sep.Holds.cells hw (i := 5) rfl); (try replace hc6 := Sep.Holds.cells hw (i := 6) rfl)
    rcases hks with ⟨rfl, rfl⟩ | ⟨rfl, rfl⟩ | ⟨rfl, rfl⟩
    · go_wp2_with fail
      go_roundw
      case rel => exact ⟨1, n, .inr (.inl ⟨rfl, rfl⟩), by go_num, by go_num, hw⟩
      case measure => simp [intOf]
    · go_wp2_with fail
      go_roundw
      case rel => exact ⟨2, s + 1, .inr (.inr ⟨rfl, rfl⟩), by go_num, by go_num, hw⟩
      case measure => simp [intOf]
    · (try clear hc0); (try clear hc1); (try clear hc2); (try clear hc3); (try clear hc4); (try clear hc5); (try clear hc6)
      go_wp2_with fail
      refine (grow_calls (n + 1) (by omega) (by omega) e _ _ hw.focus0).mono ?_
      rintro en_ w_ ⟨x, rfl, hw_⟩
      clear hw; have hw := Holds.unfocus0 hw_; clear hw_
      (try simp only [List.map_cons, List.map_nil, List.getD_cons_zero, List.getD_cons_succ, List.getD_nil, List.set_cons_zero, List.set_cons_succ, List.cons_append, List.nil_append, Act.eval, Array.getD_eq_getD_getElem?, List.getElem?_toArray, List.getElem?_cons_succ, List.getElem?_cons_zero, Option.getD_some, Value.cells] at hw); (try simp (disch := first | (simp; done) | (simp; omega)) only [Sep.mid_set, Sep.mid_set2, Sep.mid_set0, Sep.mid_splice, Sep.mid_splice0, List.set_cons_zero, List.set_cons_succ] at hw); (try simp only [Sep.splice, List.take_succ_cons, List.take_zero, List.drop_succ_cons, List.drop_zero, List.length_cons, List.length_nil, Nat.reduceAdd, List.cons_append, List.nil_append] at hw)
      go_wp2_with fail
      have Hw1 := Sep.hid hw; clear hw
      go_loopw [6, 27] (fun nv iv wr => ∃ (k : Nat) (m : List Int), ((k = 0 ∧ m = []) ∨ (k = 1 ∧ m = l) ∨ (k = 2 ∧ m = l ++ [y])) ∧ iv = .int .i64 k ∧ Holds e wr [R, Sl 3 1 (.slice ua n uc) n (encI l), Sl 3 1 (.slice va 1 vc) 1 (encI [y]), pt b [.slice ua n uc, .slice va 1 vc] 33, IsInts nv m]) (fun _ iv _ => 2 - (intOf iv).toNat)
      case atStart => exact ⟨0, [], .inl ⟨rfl, rfl⟩, rfl, Hw1.out⟩
      case round =>
        clear Hw1
        obtain ⟨k, m, hks, rfl, hw⟩ := hrel
        obtain ⟨na, nc, rfl⟩ := Sl.value (i := 4) rfl hw
        (try replace hc0 := Sep.Holds.cells hw (i := 0) rfl); (try replace hc1 := Sep.Holds.cells hw (i := 1) rfl); (try replace hc2 := Sep.Holds.cells hw (i := 2) rfl); (try replace hc3 := Sep.Holds.cells hw (i := 3) rfl); (try replace hc4 := Sep.Holds.cells hw (i := 4) rfl); (try replace hc5 := Sep.Holds.cells hw (i := 5) rfl); (try replace hc6 := Sep.Holds.cells hw (i := 6) rfl)
        rcases hks with ⟨rfl, rfl⟩ | ⟨rfl, rfl⟩ | ⟨rfl, rfl⟩
        · have hw : Holds e wr [R, Sl 3 1 (.slice ua n uc) n (encI l), Sl 3 1 (.slice va 1 vc) 1 (encI [y]), pt b [.slice ua n uc, .slice va 1 vc] 33, Sl 3 1 (.slice na 0 nc) 0 []] := hw
          (try replace hc0 := Sep.Holds.cells hw (i := 0) rfl); (try replace hc1 := Sep.Holds.cells hw (i := 1) rfl); (try replace hc2 := Sep.Holds.cells hw (i := 2) rfl); (try replace hc3 := Sep.Holds.cells hw (i := 3) rfl); (try replace hc4 := Sep.Holds.cells hw (i := 4) rfl); (try replace hc5 := Sep.Holds.cells hw (i := 5) rfl); (try replace hc6 := Sep.Holds.cells hw (i := 6) rfl)
          go_wp2_with (at_builtin; refine wpList_on rfl (wp_appendSl (i := 4) (j := 1) rfl rfl hw rfl rfl rfl (by first | exact encI_one _ | simp [Value.oneCell']) (by rfl) (by (try unfold maxLen); omega) (by (try unfold maxLen); omega) ?_); intro a2_ cap2_ w_ hw_; (try simp only [Nat.zero_add, List.nil_append] at hw_); clear hw; have hw := hw_; clear hw_; (try simp only [List.map_cons, List.map_nil, List.getD_cons_zero, List.getD_cons_succ, List.getD_nil, List.set_cons_zero, List.set_cons_succ, List.cons_append, List.nil_append, Act.eval, Array.getD_eq_getD_getElem?, List.getElem?_toArray, List.getElem?_cons_succ, List.getElem?_cons_zero, Option.getD_some, Value.cells] at hw); (try simp (disch := first | (simp; done) | (simp; omega)) only [Sep.mid_set, Sep.mid_set2, Sep.mid_set0, Sep.mid_splice, Sep.mid_splice0, List.set_cons_zero, List.set_cons_succ] at hw); (try simp only [Sep.splice, List.take_succ_cons, List.take_zero, List.drop_succ_cons, List.drop_zero, List.length_cons, List.length_nil, Nat.reduceAdd, List.cons_append, List.nil_append] at hw); (try replace hc0 := Sep.Holds.cells hw (i := 0) rfl); (try replace hc1 := Sep.Holds.cells hw (i := 1) rfl); (try replace hc2 := Sep.Holds.cells hw (i := 2) rfl); (try replace hc3 := Sep.Holds.cells hw (i := 3) rfl); (try replace hc4 := Sep.Holds.cells hw (i := 4) rfl); (try replace hc5 := Sep.Holds.cells hw (i := 5) rfl); (try replace hc6 := Sep.Holds.cells hw (i := 6) rfl))
          go_roundw
          case rel => exact ⟨1, l, .inr (.inl ⟨rfl, rfl⟩), by go_num, by unfold IsInts; rw [Hn.out]; exact hw⟩
          case measure => simp [intOf]
        · have hw : Holds e wr [R, Sl 3 1 (.slice ua n uc) n (encI m), Sl 3 1 (.slice va 1 vc) 1 (encI [y]), pt b [.slice ua n uc, .slice va 1 vc] 33, Sl 3 1 (.slice na m.length nc) n (encI m)] := by unfold IsInts at hw; rw [Hn.out] at hw ⊢; exact hw
          rw [Hn.out] at hw ⊢
          (try replace hc0 := Sep.Holds.cells hw (i := 0) rfl); (try replace hc1 := Sep.Holds.cells hw (i := 1) rfl); (try replace hc2 := Sep.Holds.cells hw (i := 2) rfl); (try replace hc3 := Sep.Holds.cells hw (i := 3) rfl); (try replace hc4 := Sep.Holds.cells hw (i := 4) rfl); (try replace hc5 := Sep.Holds.cells hw (i := 5) rfl); (try replace hc6 := Sep.Holds.cells hw (i := 6) rfl)
          go_wp2_with (at_builtin; refine wpList_on rfl (wp_appendSl (i := 4) (j := 2) rfl rfl hw rfl rfl rfl (by first | exact encI_one _ | simp [Value.oneCell']) (by rfl) (by (try unfold maxLen); omega) (by (try unfold maxLen); omega) ?_); intro a2_ cap2_ w_ hw_; (try simp only [Nat.zero_add, List.nil_append] at hw_); clear hw; have hw := hw_; clear hw_; (try simp only [List.map_cons, List.map_nil, List.getD_cons_zero, List.getD_cons_succ, List.getD_nil, List.set_cons_zero, List.set_cons_succ, List.cons_append, List.nil_append, Act.eval, Array.getD_eq_getD_getElem?, List.getElem?_toArray, List.getElem?_cons_succ, List.getElem?_cons_zero, Option.getD_some, Value.cells] at hw); (try simp (disch := first | (simp; done) | (simp; omega)) only [Sep.mid_set, Sep.mid_set2, Sep.mid_set0, Sep.mid_splice, Sep.mid_splice0, List.set_cons_zero, List.set_cons_succ] at hw); (try simp only [Sep.splice, List.take_succ_cons, List.take_zero, List.drop_succ_cons, List.drop_zero, List.length_cons, List.length_nil, Nat.reduceAdd, List.cons_append, List.nil_append] at hw); (try replace hc0 := Sep.Holds.cells hw (i := 0) rfl); (try replace hc1 := Sep.Holds.cells hw (i := 1) rfl); (try replace hc2 := Sep.Holds.cells hw (i := 2) rfl); (try replace hc3 := Sep.Holds.cells hw (i := 3) rfl); (try replace hc4 := Sep.Holds.cells hw (i := 4) rfl); (try replace hc5 := Sep.Holds.cells hw (i := 5) rfl); (try replace hc6 := Sep.Holds.cells hw (i := 6) rfl))
          go_roundw
          case rel => exact ⟨2, m ++ [y], .inr (.inr ⟨rfl, rfl⟩), by go_num, by rw [← sl_snoc, Hn.out]; exact hw⟩
          case measure => simp [intOf]
        · go_wp2_with fail
          refine HP.out _ _ ⟨_, rfl, ?_⟩
          unfold IsInts at hw ⊢
          rw [Hn.out]
          exact hw
set_option maxHeartbeats 400000 in
theorem join_calls (b : Nat) (u v : Value) (l : List Int) (y : Int) (hl : l.length ≤ 1000) (e w : World) (R : HProp) (hw : Holds e w [R, IsInts u l, IsInts v [y], pt b [u, v] 33]) :
    Calls Try.prog 40 #[.slice (some ⟨b, 0, none⟩) 2 2] w fun en w' => ∃ x, en = .returned x ∧ Holds e w' [R, IsInts u l, IsInts v [y], pt b [u, v] 33, IsInts x (l ++ [y])] := by
  refine Sep.calls_post ?_
  intro Post_ hPost_
  have HP := Sep.hid hPost_
  clear hPost_
  go_enter Try.func40, Try.ntmps40
  go_wp2_with fail
  refine (concat_calls b u v l y hl e _ _ hw).mono ?_
  rintro en_ w_ ⟨x, rfl, hw_⟩
  clear hw
  go_wp2_with fail
  exact HP.out _ _ ⟨x, rfl, hw_⟩
set_option maxHeartbeats 4000000 in
theorem oGive (p : Nat) (M : LM) (e w : World) (X : HProp) (hw : Holds e w [X, IsRW p M]) :
    Calls Try.prog 32 #[.pointer (some ⟨p, 0, none⟩)] w fun en w' => ∃ v, en = .returned v ∧ Holds e w' [X, IsRW p M.give.2, IsInts v M.give.1] := by
  have Hok' := Sep.hid (rw_ok (i := 1) rfl hw).2.give
  have Hlen := Sep.hid (rw_len (i := 1) rfl hw).1
  have Hw0 := Sep.hid hw
  obtain ⟨r, hw⟩ := exL.open_ hw
  have hw := hw.open_ 1 rfl
  (try simp only [List.map_cons, List.map_nil, List.getD_cons_zero, List.getD_cons_succ, List.getD_nil, List.set_cons_zero, List.set_cons_succ, List.cons_append, List.nil_append, Act.eval, Array.getD_eq_getD_getElem?, List.getElem?_toArray, List.getElem?_cons_succ, List.getElem?_cons_zero, Option.getD_some, Value.cells] at hw); (try simp (disch := first | (simp; done) | (simp; omega)) only [Sep.mid_set, Sep.mid_set2, Sep.mid_set0, Sep.mid_splice, Sep.mid_splice0, List.set_cons_zero, List.set_cons_succ] at hw); (try simp only [Sep.splice, List.take_succ_cons, List.take_zero, List.drop_succ_cons, List.drop_zero, List.length_cons, List.length_nil, Nat.reduceAdd, List.cons_append, List.nil_append] at hw)
  rcases give_cases M with ⟨hwt, hb⟩ | ⟨hwt, hww, hb⟩ | ⟨y, l, hwt, hww, hrd, hb⟩ | ⟨y, l, hwt, hww, hrd, hb⟩
  · rw [hb]; clear hb
    obtain ⟨x, m, hx⟩ : ∃ x m, M.wt = x :: m := by
      cases h : M.wt with
      | nil => exact absurd h hwt
      | cons x m => exact ⟨x, m, rfl⟩
    have Hx := Sep.hid hx; clear hx hwt
    have hpos : (0 : Int) < (m.length : Int) + 1 := by omega
    (try replace hc0 := Sep.Holds.cells hw (i := 0) rfl); (try replace hc1 := Sep.Holds.cells hw (i := 1) rfl); (try replace hc2 := Sep.Holds.cells hw (i := 2) rfl); (try replace hc3 := Sep.Holds.cells hw (i := 3) rfl); (try replace hc4 := Sep.Holds.cells hw (i := 4) rfl); (try replace hc5 := Sep.Holds.cells hw (i := 5) rfl); (try replace hc6 := Sep.Holds.cells hw (i := 6) rfl)
    refine Sep.calls_post ?_
    intro Post_ hPost_
    have HP := Sep.hid hPost_
    clear hPost_
    go_enter Try.func32, Try.ntmps32
    go_wp2_with fail
    refine (wLen r M.n [M.wr, M.ww, M.rd, M.wt] 3 e _ _ (hw.focus1 2 rfl)).mono ?_
    rintro _ w_ ⟨rfl, rfl⟩
    rw [show (((([M.wr, M.ww, M.rd, M.wt] : List (List Int)).getD 3 []).length : Nat) : Int) = ((m.length : Int) + 1) by show ((M.wt.length : Nat) : Int) = _; rw [Hx.out]; simp]
    go_wp2_with fail
    exact HP.out _ _ ⟨_, rfl, Hw0.out.addEmp (Sl.nil _ _ _)⟩
  · rw [hb] at Hok' ⊢; clear hb
    have Hwt := Sep.hid hwt; have Hww := Sep.hid hww; clear hwt hww
    (try replace hc0 := Sep.Holds.cells hw (i := 0) rfl); (try replace hc1 := Sep.Holds.cells hw (i := 1) rfl); (try replace hc2 := Sep.Holds.cells hw (i := 2) rfl); (try replace hc3 := Sep.Holds.cells hw (i := 3) rfl); (try replace hc4 := Sep.Holds.cells hw (i := 4) rfl); (try replace hc5 := Sep.Holds.cells hw (i := 5) rfl); (try replace hc6 := Sep.Holds.cells hw (i := 6) rfl)
    refine Sep.calls_post ?_
    intro Post_ hPost_
    have HP := Sep.hid hPost_
    clear hPost_
    go_enter Try.func32, Try.ntmps32
    go_wp2_with fail
    refine (wLen r M.n [M.wr, M.ww, M.rd, M.wt] 3 e _ _ (hw.focus1 2 rfl)).mono ?_
    rintro _ w_ ⟨rfl, rfl⟩
    rw [show (((([M.wr, M.ww, M.rd, M.wt] : List (List Int)).getD 3 []).length : Nat) : Int) = 0 by show ((M.wt.length : Nat) : Int) = _; rw [Hwt.out]; rfl]
    go_wp2_with fail
    refine (wLen r M.n [M.wr, M.ww, M.rd, M.wt] 1 e _ _ (hw.focus1 2 rfl)).mono ?_
    rintro _ w_ ⟨rfl, rfl⟩
    rw [show (((([M.wr, M.ww, M.rd, M.wt] : List (List Int)).getD 1 []).length : Nat) : Int) = 0 by show ((M.ww.length : Nat) : Int) = _; rw [Hww.out]; rfl]
    go_wp2_with fail
    rw [Hwt.out, Hww.out] at hw
    have Hw1 := Sep.hid hw; clear hw Hw0
    (try clear hc0); (try clear hc1); (try clear hc2); (try clear hc3); (try clear hc4); (try clear hc5); (try clear hc6)
    go_loopw [3] (fun ov wr => ∃ (a o : List Int), o ++ a = M.wr ∧ Holds e wr [X, pt p [.pointer (some ⟨r, 0, none⟩)] 61, IsRows r M.n [a, [], M.rd ++ o, []], IsInts ov o]) (fun ov _ => M.wr.length - slLen ov)
    case atStart => exact ⟨M.wr, [], rfl, by rw [List.append_nil]; exact (Hw1.out.sel [0, 1, 2] (by decide)).addEmp (Sl.nil _ _ _)⟩
    case round =>
      clear Hw1
      obtain ⟨a, o, hoa, hw⟩ := hrel
      have Hoa := Sep.hid hoa; clear hoa
      obtain ⟨oa, oc, rfl⟩ := Sl.value (i := 3) rfl hw
      (try replace hc0 := Sep.Holds.cells hw (i := 0) rfl); (try replace hc1 := Sep.Holds.cells hw (i := 1) rfl); (try replace hc2 := Sep.Holds.cells hw (i := 2) rfl); (try replace hc3 := Sep.Holds.cells hw (i := 3) rfl); (try replace hc4 := Sep.Holds.cells hw (i := 4) rfl); (try replace hc5 := Sep.Holds.cells hw (i := 5) rfl); (try replace hc6 := Sep.Holds.cells hw (i := 6) rfl)
      cases a with
      | nil =>
        go_wp2_with fail
        refine (wLen r M.n [[], [], M.rd ++ o, []] 0 e _ _ (hw.focus1 2 rfl)).mono ?_
        rintro _ w_ ⟨rfl, rfl⟩
        rw [show (((([[], [], M.rd ++ o, []] : List (List Int)).getD 0 []).length : Nat) : Int) = 0 from rfl]
        go_wp2_with fail
        refine HP.out _ _ ⟨_, rfl, ?_⟩
        have h1 : o = M.wr := by rw [← Hoa.out, List.append_nil]
        rw [← h1] at Hok' ⊢
        have h := (Holds.group [X, IsInts (.slice oa o.length oc) o] _ (hw.sel [0, 3, 1, 2] (by decide))).addFct Hok'.out
        have h2 := exL.mk (f := rwParts p ⟨M.n, [], [], M.rd ++ o, []⟩) r h
        exact (Holds.ungroup [X, IsInts (.slice oa o.length oc) o] [_] h2).sel [0, 2, 1] (by decide)
      | cons y l =>
        have Hol : Hid (o.length + 1 + l.length = M.wr.length) := Sep.hid (by rw [← Hoa.out]; simp; omega)
        have hpos : (0 : Int) < (l.length : Int) + 1 := by omega
        go_wp2_with fail
        refine (wLen r M.n [y :: l, [], M.rd ++ o, []] 0 e _ _ (hw.focus1 2 rfl)).mono ?_
        rintro _ w_ ⟨rfl, rfl⟩
        rw [show (((([y :: l, [], M.rd ++ o, []] : List (List Int)).getD 0 []).length : Nat) : Int) = (l.length : Int) + 1 by simp]
        go_wp2_with fail
        have hw2 := Holds.group [X, IsInts (.slice oa o.length oc) o] _ (hw.sel [0, 3, 1, 2] (by decide))
        refine (rMove02 p r M.n l [] (M.rd ++ o) [] y e _ _ hw2).mono ?_
        rintro en_ w_ ⟨mv, rfl, hw_⟩
        clear hw hw2; (try clear hc0); (try clear hc1); (try clear hc2); (try clear hc3); (try clear hc4); (try clear hc5); (try clear hc6); have hw := Holds.ungroup [X, IsInts (.slice oa o.length oc) o] _ hw_; clear hw_
        (try simp only [List.map_cons, List.map_nil, List.getD_cons_zero, List.getD_cons_succ, List.getD_nil, List.set_cons_zero, List.set_cons_succ, List.cons_append, List.nil_append, Act.eval, Array.getD_eq_getD_getElem?, List.getElem?_toArray, List.getElem?_cons_succ, List.getElem?_cons_zero, Option.getD_some, Value.cells] at hw); (try simp (disch := first | (simp; done) | (simp; omega)) only [Sep.mid_set, Sep.mid_set2, Sep.mid_set0, Sep.mid_splice, Sep.mid_splice0, List.set_cons_zero, List.set_cons_succ] at hw); (try simp only [Sep.splice, List.take_succ_cons, List.take_zero, List.drop_succ_cons, List.drop_zero, List.length_cons, List.length_nil, Nat.reduceAdd, List.cons_append, List.nil_append] at hw)
        obtain ⟨ma, mc, rfl⟩ := Sl.value (i := 4) rfl hw
        go_wp2_with fail
        have hw := hw.allocCells [.slice oa o.length oc, .slice ma [y].length mc] 33
        (try simp only [List.map_cons, List.map_nil, List.getD_cons_zero, List.getD_cons_succ, List.getD_nil, List.set_cons_zero, List.set_cons_succ, List.cons_append, List.nil_append, Act.eval, Array.getD_eq_getD_getElem?, List.getElem?_toArray, List.getElem?_cons_succ, List.getElem?_cons_zero, Option.getD_some, Value.cells] at hw); (try simp (disch := first | (simp; done) | (simp; omega)) only [Sep.mid_set, Sep.mid_set2, Sep.mid_set0, Sep.mid_splice, Sep.mid_splice0, List.set_cons_zero, List.set_cons_succ] at hw); (try simp only [Sep.splice, List.take_succ_cons, List.take_zero, List.drop_succ_cons, List.drop_zero, List.length_cons, List.length_nil, Nat.reduceAdd, List.cons_append, List.nil_append] at hw)
        have hw := Holds.group [X, pt p [.pointer (some ⟨r, 0, none⟩)] 61, IsRows r M.n [l, [], M.rd ++ o ++ [y], []]] _ (hw.sel [0, 2, 3, 1, 4, 5] (by decide))
        refine (join_calls _ _ _ o y (by have := Hol.out; have := Hlen.out; omega) e _ _ hw).mono ?_
        rintro en_ w_ ⟨jv, rfl, hw_⟩
        clear hw; have hw := Holds.ungroup [X, pt p [.pointer (some ⟨r, 0, none⟩)] 61, IsRows r M.n [l, [], M.rd ++ o ++ [y], []]] _ hw_; clear hw_
        (try simp only [List.map_cons, List.map_nil, List.getD_cons_zero, List.getD_cons_succ, List.getD_nil, List.set_cons_zero, List.set_cons_succ, List.cons_append, List.nil_append, Act.eval, Array.getD_eq_getD_getElem?, List.getElem?_toArray, List.getElem?_cons_succ, List.getElem?_cons_zero, Option.getD_some, Value.cells] at hw); (try simp (disch := first | (simp; done) | (simp; omega)) only [Sep.mid_set, Sep.mid_set2, Sep.mid_set0, Sep.mid_splice, Sep.mid_splice0, List.set_cons_zero, List.set_cons_succ] at hw); (try simp only [Sep.splice, List.take_succ_cons, List.take_zero, List.drop_succ_cons, List.drop_zero, List.length_cons, List.length_nil, Nat.reduceAdd, List.cons_append, List.nil_append] at hw)
        obtain ⟨ja, jc, rfl⟩ := Sl.value (i := 6) rfl hw
        have hjl : (o ++ [y]).length = o.length + 1 := by simp
        rw [hjl] at hw ⊢
        clear hjl
        go_wp2_with fail
        go_roundw
        case rel => exact ⟨l, o ++ [y], by rw [← Hoa.out]; simp, by rw [← List.append_assoc]; exact hw.sel [0, 1, 2, 6] (by decide)⟩
        case measure => have := Hol.out; simp [slLen]; omega
  · rw [hb] at Hok' ⊢; clear hb
    have Hwt := Sep.hid hwt; have Hww := Sep.hid hww; have Hrd := Sep.hid hrd; clear hwt hww hrd
    have hpos : (0 : Int) < (l.length : Int) + 1 := by omega
    (try replace hc0 := Sep.Holds.cells hw (i := 0) rfl); (try replace hc1 := Sep.Holds.cells hw (i := 1) rfl); (try replace hc2 := Sep.Holds.cells hw (i := 2) rfl); (try replace hc3 := Sep.Holds.cells hw (i := 3) rfl); (try replace hc4 := Sep.Holds.cells hw (i := 4) rfl); (try replace hc5 := Sep.Holds.cells hw (i := 5) rfl); (try replace hc6 := Sep.Holds.cells hw (i := 6) rfl)
    refine Sep.calls_post ?_
    intro Post_ hPost_
    have HP := Sep.hid hPost_
    clear hPost_
    go_enter Try.func32, Try.ntmps32
    go_wp2_with fail
    refine (wLen r M.n [M.wr, M.ww, M.rd, M.wt] 3 e _ _ (hw.focus1 2 rfl)).mono ?_
    rintro _ w_ ⟨rfl, rfl⟩
    rw [show (((([M.wr, M.ww, M.rd, M.wt] : List (List Int)).getD 3 []).length : Nat) : Int) = 0 by show ((M.wt.length : Nat) : Int) = _; rw [Hwt.out]; rfl]
    go_wp2_with fail
    refine (wLen r M.n [M.wr, M.ww, M.rd, M.wt] 1 e _ _ (hw.focus1 2 rfl)).mono ?_
    rintro _ w_ ⟨rfl, rfl⟩
    rw [show (((([M.wr, M.ww, M.rd, M.wt] : List (List Int)).getD 1 []).length : Nat) : Int) = ((l.length : Int) + 1) by show ((M.ww.length : Nat) : Int) = _; rw [Hww.out]; simp]
    go_wp2_with fail
    refine (wLen r M.n [M.wr, M.ww, M.rd, M.wt] 2 e _ _ (hw.focus1 2 rfl)).mono ?_
    rintro _ w_ ⟨rfl, rfl⟩
    rw [show (((([M.wr, M.ww, M.rd, M.wt] : List (List Int)).getD 2 []).length : Nat) : Int) = 0 by show ((M.rd.length : Nat) : Int) = _; rw [Hrd.out]; rfl]
    rw [Hwt.out, Hww.out, Hrd.out] at hw
    go_wp2_with fail
    refine (rMove13 p r M.n M.wr l [] [] y e _ _ (hw.sel [0, 1, 2] (by decide))).mono ?_
    rintro en_ w_ ⟨v, rfl, hw_⟩
    clear hw; (try clear hc0); (try clear hc1); (try clear hc2); (try clear hc3); (try clear hc4); (try clear hc5); (try clear hc6)
    go_wp2_with fail
    refine HP.out _ _ ⟨v, rfl, ?_⟩
    have h := (Holds.group [X, IsInts v [y]] _ (hw_.sel [0, 3, 1, 2] (by decide))).addFct Hok'.out
    have h2 := exL.mk (f := rwParts p ⟨M.n, M.wr, l, [], [y]⟩) r h
    exact (Holds.ungroup [X, IsInts v [y]] [_] h2).sel [0, 2, 1] (by decide)
  · rw [hb]; clear hb
    have Hwt := Sep.hid hwt; have Hww := Sep.hid hww; clear hwt hww
    obtain ⟨x, m, hx⟩ : ∃ x m, M.rd = x :: m := by
      cases h : M.rd with
      | nil => exact absurd h hrd
      | cons x m => exact ⟨x, m, rfl⟩
    have Hrd := Sep.hid hx; clear hx hrd
    have hpos : (0 : Int) < (l.length : Int) + 1 := by omega
    have hpos2 : ¬ (m.length : Int) + 1 = 0 := by omega
    (try replace hc0 := Sep.Holds.cells hw (i := 0) rfl); (try replace hc1 := Sep.Holds.cells hw (i := 1) rfl); (try replace hc2 := Sep.Holds.cells hw (i := 2) rfl); (try replace hc3 := Sep.Holds.cells hw (i := 3) rfl); (try replace hc4 := Sep.Holds.cells hw (i := 4) rfl); (try replace hc5 := Sep.Holds.cells hw (i := 5) rfl); (try replace hc6 := Sep.Holds.cells hw (i := 6) rfl)
    refine Sep.calls_post ?_
    intro Post_ hPost_
    have HP := Sep.hid hPost_
    clear hPost_
    go_enter Try.func32, Try.ntmps32
    go_wp2_with fail
    refine (wLen r M.n [M.wr, M.ww, M.rd, M.wt] 3 e _ _ (hw.focus1 2 rfl)).mono ?_
    rintro _ w_ ⟨rfl, rfl⟩
    rw [show (((([M.wr, M.ww, M.rd, M.wt] : List (List Int)).getD 3 []).length : Nat) : Int) = 0 by show ((M.wt.length : Nat) : Int) = _; rw [Hwt.out]; rfl]
    go_wp2_with fail
    refine (wLen r M.n [M.wr, M.ww, M.rd, M.wt] 1 e _ _ (hw.focus1 2 rfl)).mono ?_
    rintro _ w_ ⟨rfl, rfl⟩
    rw [show (((([M.wr, M.ww, M.rd, M.wt] : List (List Int)).getD 1 []).length : Nat) : Int) = ((l.length : Int) + 1) by show ((M.ww.length : Nat) : Int) = _; rw [Hww.out]; simp]
    go_wp2_with fail
    refine (wLen r M.n [M.wr, M.ww, M.rd, M.wt] 2 e _ _ (hw.focus1 2 rfl)).mono ?_
    rintro _ w_ ⟨rfl, rfl⟩
    rw [show (((([M.wr, M.ww, M.rd, M.wt] : List (List Int)).getD 2 []).length : Nat) : Int) = ((m.length : Int) + 1) by show ((M.rd.length : Nat) : Int) = _; rw [Hrd.out]; simp]
    go_wp2_with fail
    exact HP.out _ _ ⟨_, rfl, Hw0.out.addEmp (Sl.nil _ _ _)⟩
end Go.Proofs.Ytlngkjgoacelfaa
