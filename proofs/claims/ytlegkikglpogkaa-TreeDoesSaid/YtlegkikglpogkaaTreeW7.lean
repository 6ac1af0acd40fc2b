/-
  The program's tree: Path and Chain.
-/
import Derived.Test.YtlegkikglpogkaaTreeW6
namespace Go.Proofs.Ytlegkikglpogkaa
set_option linter.unusedSimpArgs false
set_option linter.unusedVariables false
open Go.RowKit Go.Sep Go.TreeM

def upL (X : HProp) (p len cap : Nat) (a : Option Addr) (most : Int) (l : List Nd) (vs : List Value) : List HProp :=
  [X, pt p [.slice a len cap, .int .i64 most] 54, Sl 56 3 (.slice a len cap) len (tabC encN (tns l) vs), sepL (tabR rowN (tns l) vs)]
theorem upL_app {e w : World} {X Y : HProp} {p len cap : Nat} {a : Option Addr} {most : Int} {l : List Nd} {vs : List Value} {ov : Value} {n n' : Nat} {out out' : List Int} (h : n = n') (h2 : out = out') (hw : Holds e w (upL X p len cap a most l vs ++ [Y, Sl 3 1 ov n (encI out)])) : Holds e w (upL X p len cap a most l vs ++ [Y, Sl 3 1 ov n' (encI out')]) := h ▸ h2 ▸ hw
theorem snoc_rest {pre rest all : List Int} {c : Int} (h : pre ++ (c :: rest) = all) : (pre ++ [c]) ++ rest = all := by rw [← h]; simp
set_option maxHeartbeats 4000000 in
theorem upPath (p len cap : Nat) (a : Option Addr) (most : Int) (l : List Nd) (vs : List Value) (n : Int) (hok : Hid (TreeM.Ok l)) (hlen : Hid (l.length = len)) (hvl : Hid (vs.length = l.length)) (hl2 : len ≤ 200) (e w : World) (X : HProp) (hw : Holds e w (upL X p len cap a most l vs ++ [emp])) :
    Calls Try.prog 32 #[.pointer (some ⟨p, 0, none⟩), .int .i64 n, .slice none 0 0] w fun en w' => ∃ v, en = .returned v ∧ Holds e w' (upL X p len cap a most l vs ++ [emp, IsInts v (path l n)]) := by
  have Hpl := Sep.hid (path_len hok.out n)
  unfold upL at hw
  (try simp only [List.map_cons, List.map_nil, List.getD_cons_zero, List.getD_cons_succ, List.getD_nil, List.set_cons_zero, List.set_cons_succ, List.cons_append, List.nil_append, Act.eval, Array.getD_eq_getD_getElem?, List.getElem?_toArray, List.getElem?_cons_succ, List.getElem?_cons_zero, Option.getD_some, Value.cells] at hw); (try simp (disch := first | (simp; done) | (simp; omega)) only [Sep.mid_set, Sep.mid_set2, Sep.mid_set0, Sep.mid_splice, Sep.mid_splice0, List.set_cons_zero, List.set_cons_succ] at hw); (try simp only [Sep.splice, List.take_succ_cons, List.take_zero, List.drop_succ_cons, List.drop_zero, List.length_cons, List.length_nil, Nat.reduceAdd, List.cons_append, List.nil_append] at hw)
  (try replace hc0 := Sep.Holds.cells hw (i := 0) rfl); (try replace hc1 := Sep.Holds.cells hw (i := 1) rfl); (try replace hc2 := Sep.Holds.cells hw (i := 2) rfl); (try replace hc3 := Sep.Holds.cells hw (i := 3) rfl); (try replace hc4 := Sep.Holds.cells hw (i := 4) rfl); (try replace hc5 := Sep.Holds.cells hw (i := 5) rfl); (try replace hc6 := Sep.Holds.cells hw (i := 6) rfl)
  refine Sep.calls_post ?_
  intro Post_ hPost_
  have HP := Sep.hid hPost_
  clear hPost_
  go_enter Try.func32, Try.ntmps32
  go_wp2_with (refine wpList_on rfl (wp_box rfl hw ?_); intro b4 w_ hw_; clear hw; have hw := hw_; clear hw_; (try simp only [List.map_cons, List.map_nil, List.getD_cons_zero, List.getD_cons_succ, List.getD_nil, List.set_cons_zero, List.set_cons_succ, List.cons_append, List.nil_append, Act.eval, Array.getD_eq_getD_getElem?, List.getElem?_toArray, List.getElem?_cons_succ, List.getElem?_cons_zero, Option.getD_some, Value.cells] at hw); (try simp (disch := first | (simp; done) | (simp; omega)) only [Sep.mid_set, Sep.mid_set2, Sep.mid_set0, Sep.mid_splice, Sep.mid_splice0, List.set_cons_zero, List.set_cons_succ] at hw); (try simp only [Sep.splice, List.take_succ_cons, List.take_zero, List.drop_succ_cons, List.drop_zero, List.length_cons, List.length_nil, Nat.reduceAdd, List.cons_append, List.nil_append] at hw); (try replace hc0 := Sep.Holds.cells hw (i := 0) rfl); (try replace hc1 := Sep.Holds.cells hw (i := 1) rfl); (try replace hc2 := Sep.Holds.cells hw (i := 2) rfl); (try replace hc3 := Sep.Holds.cells hw (i := 3) rfl); (try replace hc4 := Sep.Holds.cells hw (i := 4) rfl); (try replace hc5 := Sep.Holds.cells hw (i := 5) rfl); (try replace hc6 := Sep.Holds.cells hw (i := 6) rfl))
  have Hw0 := Sep.hid (hw.addEmp (X := Sl 3 1 (.slice none 0 0) 0 (encI [])) (Sl.nil _ _ _)); clear hw; (try clear hc0); (try clear hc1); (try clear hc2); (try clear hc3); (try clear hc4); (try clear hc5); (try clear hc6)
  go_loopw [7] (fun ov wr => ∃ (c : Int) (pre : List Int) (oa : Option Addr) (on oc : Nat), ov = .slice oa on oc ∧ Hid (pre.length = on ∧ pre ++ path l c = path l n) ∧ Holds e wr [X, pt p [.slice a len cap, .int .i64 most] 54, Sl 56 3 (.slice a len cap) len (tabC encN (tns l) vs), sepL (tabR rowN (tns l) vs), emp, pt b4 [.int .i64 c] 3, Sl 3 1 ov on (encI pre)]) (fun ov _ => 1000 - slLen ov)
  case atStart => exact ⟨n, [], none, 0, 0, rfl, Sep.hid ⟨rfl, rfl⟩, Hw0.out⟩
  case round =>
    clear Hw0
    obtain ⟨c, pre, oa, on, oc, rfl, Hpre, hw⟩ := hrel
    (try replace hc0 := Sep.Holds.cells hw (i := 0) rfl); (try replace hc1 := Sep.Holds.cells hw (i := 1) rfl); (try replace hc2 := Sep.Holds.cells hw (i := 2) rfl); (try replace hc3 := Sep.Holds.cells hw (i := 3) rfl); (try replace hc4 := Sep.Holds.cells hw (i := 4) rfl); (try replace hc5 := Sep.Holds.cells hw (i := 5) rfl); (try replace hc6 := Sep.Holds.cells hw (i := 6) rfl)
    have hon : on ≤ 200 := by
      have h1 := Hpre.out.1
      have h2 := congrArg List.length Hpre.out.2
      rw [List.length_append] at h2
      have h3 := Hpl.out
      rw [hlen.out] at h3
      omega
    go_wp2_with fail
    refine (tThere p len cap a l c hlen _ (hc1 0)).mono ?_
    rintro _ w_ ⟨rfl, rfl⟩
    cases hb : there l c with
    | false =>
      have Hp : Hid (pre = path l n) := Sep.hid (by have h := Hpre.out.2; rw [path_no hb, List.append_nil] at h; exact h)
      clear hb
      go_wp2_with fail
      refine HP.out _ _ ⟨_, rfl, ?_⟩
      have h := hw.sel [0, 1, 2, 3, 4, 6] (by decide)
      have h1 := Hpre.out.1
      subst h1
      rw [← Hp.out]
      exact h
    | true =>
      obtain ⟨k, x, rfl, hk, hx, _⟩ := there_get hb
      have Hov : Hid (overOf l (k : Int) = x.over) := Sep.hid (get_there hx).2.2.1
      have Hct : Hid (cutOf l (k : Int) = x.cut) := Sep.hid (get_there hx).2.2.2
      have Hst := Sep.hid (path_yes hok.out hb)
      have hon2 : on + 1 ≤ len := by
        have h1 := Hpre.out.1
        have h2 := congrArg List.length Hpre.out.2
        rw [List.length_append, Hst.out, List.length_cons] at h2
        have h3 := Hpl.out
        rw [hlen.out] at h3
        omega
      rw [hlen.out] at hk
      obtain ⟨v, hv, _⟩ := tab_get (R := rowN) (by rw [hvl.out, tns_length]) (tns_get hx)
      have Hx := Sep.hid hx; have Hv := Sep.hid hv
      clear hb hx hv
      have hmf : ∀ (fn : Fn) (first cap : Array Value) (w : World), (Instr.makeFunc fn first cap).run Try.prog w = .ok (.func fn first cap) w := fun _ _ _ _ => rfl
      go_wp2_with (first | (refine wpList_on rfl (wp_bsl1 rfl rfl (by rfl) (by rfl) (by decide) hw ?_); intro b_ w_ hw_; clear hw; have hw := hw_; clear hw_; (try simp only [List.map_cons, List.map_nil, List.getD_cons_zero, List.getD_cons_succ, List.getD_nil, List.set_cons_zero, List.set_cons_succ, List.cons_append, List.nil_append, Act.eval, Array.getD_eq_getD_getElem?, List.getElem?_toArray, List.getElem?_cons_succ, List.getElem?_cons_zero, Option.getD_some, Value.cells] at hw); (try simp (disch := first | (simp; done) | (simp; omega)) only [Sep.mid_set, Sep.mid_set2, Sep.mid_set0, Sep.mid_splice, Sep.mid_splice0, List.set_cons_zero, List.set_cons_succ] at hw); (try simp only [Sep.splice, List.take_succ_cons, List.take_zero, List.drop_succ_cons, List.drop_zero, List.length_cons, List.length_nil, Nat.reduceAdd, List.cons_append, List.nil_append] at hw); (try replace hc0 := Sep.Holds.cells hw (i := 0) rfl); (try replace hc1 := Sep.Holds.cells hw (i := 1) rfl); (try replace hc2 := Sep.Holds.cells hw (i := 2) rfl); (try replace hc3 := Sep.Holds.cells hw (i := 3) rfl); (try replace hc4 := Sep.Holds.cells hw (i := 4) rfl); (try replace hc5 := Sep.Holds.cells hw (i := 5) rfl); (try replace hc6 := Sep.Holds.cells hw (i := 6) rfl)) | (at_builtin; refine wpList_on rfl (wp_appendPt (i := 6) (j := 7) rfl rfl hw rfl rfl rfl (by rfl) (by simp [Value.oneCell']) (by decide) (by rfl) (by (try unfold maxLen); omega) (by (try unfold maxLen); omega) ?_); intro b2_ cap2_ off2_ w_ hcap2_ hw_; clear hw; have hw := hw_; clear hw_; (try simp only [List.map_cons, List.map_nil, List.getD_cons_zero, List.getD_cons_succ, List.getD_nil, List.set_cons_zero, List.set_cons_succ, List.cons_append, List.nil_append, Act.eval, Array.getD_eq_getD_getElem?, List.getElem?_toArray, List.getElem?_cons_succ, List.getElem?_cons_zero, Option.getD_some, Value.cells] at hw); (try simp (disch := first | (simp; done) | (simp; omega)) only [Sep.mid_set, Sep.mid_set2, Sep.mid_set0, Sep.mid_splice, Sep.mid_splice0, List.set_cons_zero, List.set_cons_succ] at hw); (try simp only [Sep.splice, List.take_succ_cons, List.take_zero, List.drop_succ_cons, List.drop_zero, List.length_cons, List.length_nil, Nat.reduceAdd, List.cons_append, List.nil_append] at hw); (try replace hc0 := Sep.Holds.cells hw (i := 0) rfl); (try replace hc1 := Sep.Holds.cells hw (i := 1) rfl); (try replace hc2 := Sep.Holds.cells hw (i := 2) rfl); (try replace hc3 := Sep.Holds.cells hw (i := 3) rfl); (try replace hc4 := Sep.Holds.cells hw (i := 4) rfl); (try replace hc5 := Sep.Holds.cells hw (i := 5) rfl); (try replace hc6 := Sep.Holds.cells hw (i := 6) rfl)))
      have hw := hw.sel [0, 1, 2, 3, 4, 5, 6] (by decide)
      (try simp only [List.map_cons, List.map_nil, List.getD_cons_zero, List.getD_cons_succ, List.getD_nil, List.set_cons_zero, List.set_cons_succ, List.cons_append, List.nil_append, Act.eval, Array.getD_eq_getD_getElem?, List.getElem?_toArray, List.getElem?_cons_succ, List.getElem?_cons_zero, Option.getD_some, Value.cells] at hw); (try simp (disch := first | (simp; done) | (simp; omega)) only [Sep.mid_set, Sep.mid_set2, Sep.mid_set0, Sep.mid_splice, Sep.mid_splice0, List.set_cons_zero, List.set_cons_succ] at hw); (try simp only [Sep.splice, List.take_succ_cons, List.take_zero, List.drop_succ_cons, List.drop_zero, List.length_cons, List.length_nil, Nat.reduceAdd, List.cons_append, List.nil_append] at hw)
      (try replace hc0 := Sep.Holds.cells hw (i := 0) rfl); (try replace hc1 := Sep.Holds.cells hw (i := 1) rfl); (try replace hc2 := Sep.Holds.cells hw (i := 2) rfl); (try replace hc3 := Sep.Holds.cells hw (i := 3) rfl); (try replace hc4 := Sep.Holds.cells hw (i := 4) rfl); (try replace hc5 := Sep.Holds.cells hw (i := 5) rfl); (try replace hc6 := Sep.Holds.cells hw (i := 6) rfl)
      refine (cfNil _ _).mono ?_
      rintro _ w_ ⟨rfl, rfl⟩
      obtain ⟨b, off, rfl, g0, g1, g2⟩ := node_at (i := 2) hw rfl hlen.out hvl.out Hx.out Hv.out
      go_wp2_with fail
      refine wp_region_L [8] [(3, (fun w' => w' = (w_).drew)), (4, (fun w' => w' = (w_).drew)), (7, (fun w' => w' = (w_).drew))] (n := 9) (listed := (marks 9 0)) (by kernel_rfl) rfl (by kernel_rfl) ?conds1 ?_
      case conds1 =>
       intro c hc
       simp only [List.mem_cons, List.not_mem_nil, or_false] at hc
       rcases hc with rfl | rfl | rfl
       · rfl
       · rfl
       · rfl
      replace hw := hw.drew
      (clear g0 g1 g2; obtain ⟨b2, off2, hb2, g0, g1, g2⟩ := node_at (i := 2) hw rfl hlen.out hvl.out Hx.out Hv.out; cases hb2; (try replace hc0 := Sep.Holds.cells hw (i := 0) rfl); (try replace hc1 := Sep.Holds.cells hw (i := 1) rfl); (try replace hc2 := Sep.Holds.cells hw (i := 2) rfl); (try replace hc3 := Sep.Holds.cells hw (i := 3) rfl); (try replace hc4 := Sep.Holds.cells hw (i := 4) rfl); (try replace hc5 := Sep.Holds.cells hw (i := 5) rfl); (try replace hc6 := Sep.Holds.cells hw (i := 6) rfl))
      refine wpL_q 0 ?_ rfl (Or.inl ⟨by rfl, fun w_ hS_ => ?_⟩) (marks 9 1) ?_
      rotate_left
      next => (go_simp; try (first | rfl | exact (Bool.not_not _).symm))
      try simp only [Act.put, List.setIfInBounds_toArray, List.set_cons_zero, List.set_cons_succ]
      refine wpL_q 1 ?_ rfl (Or.inl ⟨by rfl, fun w_ hS_ => ?_⟩) (marks 9 3) ?_
      rotate_left
      next => (go_simp; try (first | rfl | exact (Bool.not_not _).symm))
      try simp only [Act.put, List.setIfInBounds_toArray, List.set_cons_zero, List.set_cons_succ]
      refine wpL_q 2 ?_ rfl (Or.inl ⟨by rfl, fun w_ hS_ => ?_⟩) (marks 9 7) ?_
      rotate_left
      next => (go_simp; try (first | rfl | exact (Bool.not_not _).symm))
      try simp only [Act.put, List.setIfInBounds_toArray, List.set_cons_zero, List.set_cons_succ]
      refine wpL_m 3 ?_ rfl (.head _) (Or.inl ⟨by rfl, fun w_ hS_ => ?_⟩) (marks 9 15) ?_
      rotate_left
      next => (subst hS_; go_simp; try (first | rfl | exact (Bool.not_not _).symm))
      try simp only [Act.put, List.setIfInBounds_toArray, List.set_cons_zero, List.set_cons_succ]
      refine wpL_m 4 ?_ rfl (.tail _ (.head _)) (Or.inl ⟨by rfl, fun w_ hS_ => ?_⟩) (marks 9 31) ?_
      rotate_left
      next => (subst hS_; go_simp; try (first | rfl | exact (Bool.not_not _).symm))
      try simp only [Act.put, List.setIfInBounds_toArray, List.set_cons_zero, List.set_cons_succ]
      refine wpL_q 5 ?_ rfl (Or.inl ⟨by rfl, fun w_ hS_ => ?_⟩) (marks 9 63) ?_
      rotate_left
      next => (go_simp; try (first | rfl | exact (Bool.not_not _).symm))
      try simp only [Act.put, List.setIfInBounds_toArray, List.set_cons_zero, List.set_cons_succ]
      refine wpL_q 6 ?_ rfl (Or.inl ⟨by rfl, fun w_ hS_ => ?_⟩) (marks 9 127) ?_
      rotate_left
      next => (go_simp; try (first | rfl | exact (Bool.not_not _).symm))
      try simp only [Act.put, List.setIfInBounds_toArray, List.set_cons_zero, List.set_cons_succ]
      refine wpL_m 7 ?_ rfl (.tail _ (.tail _ (.head _))) (Or.inl ⟨by rfl, fun w_ hS_ => ?_⟩) (marks 9 255) ?_
      rotate_left
      next => (subst hS_; go_simp; try (first | rfl | exact (Bool.not_not _).symm))
      try simp only [Act.put, List.setIfInBounds_toArray, List.set_cons_zero, List.set_cons_succ]
      refine wpL_o 8 rfl (by rfl) (marks 9 511) ?_
      (refine wp_store1 (v := _) rfl rfl rfl hw (i := 5) rfl (by simp [Sep.mid_length, Act.eval, Value.cells]; try omega) rfl ?_; intro w_ hw_; clear hw; have hw := hw_; clear hw_; (try simp only [List.map_cons, List.map_nil, List.getD_cons_zero, List.getD_cons_succ, List.getD_nil, List.set_cons_zero, List.set_cons_succ, List.cons_append, List.nil_append, Act.eval, Array.getD_eq_getD_getElem?, List.getElem?_toArray, List.getElem?_cons_succ, List.getElem?_cons_zero, Option.getD_some, Value.cells] at hw); (try simp (disch := first | (simp; done) | (simp; omega)) only [Sep.mid_set, Sep.mid_set2, Sep.mid_set0, Sep.mid_splice, Sep.mid_splice0, List.set_cons_zero, List.set_cons_succ] at hw); (try simp only [Sep.splice, List.take_succ_cons, List.take_zero, List.drop_succ_cons, List.drop_zero, List.length_cons, List.length_nil, Nat.reduceAdd, List.cons_append, List.nil_append] at hw); (try replace hc0 := Sep.Holds.cells hw (i := 0) rfl); (try replace hc1 := Sep.Holds.cells hw (i := 1) rfl); (try replace hc2 := Sep.Holds.cells hw (i := 2) rfl); (try replace hc3 := Sep.Holds.cells hw (i := 3) rfl); (try replace hc4 := Sep.Holds.cells hw (i := 4) rfl); (try replace hc5 := Sep.Holds.cells hw (i := 5) rfl); (try replace hc6 := Sep.Holds.cells hw (i := 6) rfl))
      refine ⟨(SL.drop 8 (by kernel_rfl) (SL.drop 8 (by kernel_rfl) (SL.drop 8 (by kernel_rfl) SL.nil))), ?_⟩
      try simp only [Act.put, List.setIfInBounds_toArray, List.set_cons_zero, List.set_cons_succ]
      all_goals refine wpL_done (by kernel_rfl) ?_ _
      clear g0 g1 g2
      go_wp2_with fail
      go_roundw
      case rel => exact ⟨x.over, pre ++ [(k : Int)], _, on + 1, _, rfl, Sep.hid ⟨by rw [List.length_append, Hpre.out.1]; rfl, snoc_rest (by rw [← Hov.out, ← Hst.out]; exact Hpre.out.2)⟩, by rw [encI_append]; exact hw⟩
      case measure => simp [slLen]; omega
set_option maxHeartbeats 4000000 in
theorem upChain (p len cap be : Nat) (a : Option Addr) (most : Int) (l : List Nd) (vs : List Value) (n : Int) (hok : Hid (TreeM.Ok l)) (hlen : Hid (l.length = len)) (hvl : Hid (vs.length = l.length)) (hl2 : len ≤ 200) (e w : World) (X : HProp) (hw : Holds e w (upL X p len cap a most l vs ++ [pt be [cutF p] 41])) :
    Calls Try.prog 32 #[.pointer (some ⟨p, 0, none⟩), .int .i64 n, .slice (some ⟨be, 0, none⟩) 1 1] w fun en w' => ∃ v, en = .returned v ∧ Holds e w' (upL X p len cap a most l vs ++ [pt be [cutF p] 41, IsInts v (chain l n)]) := by
  have Hpl := Sep.hid (chain_len hok.out n)
  unfold upL at hw
  (try simp only [List.map_cons, List.map_nil, List.getD_cons_zero, List.getD_cons_succ, List.getD_nil, List.set_cons_zero, List.set_cons_succ, List.cons_append, List.nil_append, Act.eval, Array.getD_eq_getD_getElem?, List.getElem?_toArray, List.getElem?_cons_succ, List.getElem?_cons_zero, Option.getD_some, Value.cells] at hw); (try simp (disch := first | (simp; done) | (simp; omega)) only [Sep.mid_set, Sep.mid_set2, Sep.mid_set0, Sep.mid_splice, Sep.mid_splice0, List.set_cons_zero, List.set_cons_succ] at hw); (try simp only [Sep.splice, List.take_succ_cons, List.take_zero, List.drop_succ_cons, List.drop_zero, List.length_cons, List.length_nil, Nat.reduceAdd, List.cons_append, List.nil_append] at hw)
  (try replace hc0 := Sep.Holds.cells hw (i := 0) rfl); (try replace hc1 := Sep.Holds.cells hw (i := 1) rfl); (try replace hc2 := Sep.Holds.cells hw (i := 2) rfl); (try replace hc3 := Sep.Holds.cells hw (i := 3) rfl); (try replace hc4 := Sep.Holds.cells hw (i := 4) rfl); (try replace hc5 := Sep.Holds.cells hw (i := 5) rfl); (try replace hc6 := Sep.Holds.cells hw (i := 6) rfl)
  refine Sep.calls_post ?_
  intro Post_ hPost_
  have HP := Sep.hid hPost_
  clear hPost_
  go_enter Try.func32, Try.ntmps32
  go_wp2_with (refine wpList_on rfl (wp_box rfl hw ?_); intro b4 w_ hw_; clear hw; have hw := hw_; clear hw_; (try simp only [List.map_cons, List.map_nil, List.getD_cons_zero, List.getD_cons_succ, List.getD_nil, List.set_cons_zero, List.set_cons_succ, List.cons_append, List.nil_append, Act.eval, Array.getD_eq_getD_getElem?, List.getElem?_toArray, List.getElem?_cons_succ, List.getElem?_cons_zero, Option.getD_some, Value.cells] at hw); (try simp (disch := first | (simp; done) | (simp; omega)) only [Sep.mid_set, Sep.mid_set2, Sep.mid_set0, Sep.mid_splice, Sep.mid_splice0, List.set_cons_zero, List.set_cons_succ] at hw); (try simp only [Sep.splice, List.take_succ_cons, List.take_zero, List.drop_succ_cons, List.drop_zero, List.length_cons, List.length_nil, Nat.reduceAdd, List.cons_append, List.nil_append] at hw); (try replace hc0 := Sep.Holds.cells hw (i := 0) rfl); (try replace hc1 := Sep.Holds.cells hw (i := 1) rfl); (try replace hc2 := Sep.Holds.cells hw (i := 2) rfl); (try replace hc3 := Sep.Holds.cells hw (i := 3) rfl); (try replace hc4 := Sep.Holds.cells hw (i := 4) rfl); (try replace hc5 := Sep.Holds.cells hw (i := 5) rfl); (try replace hc6 := Sep.Holds.cells hw (i := 6) rfl))
  have Hw0 := Sep.hid (hw.addEmp (X := Sl 3 1 (.slice none 0 0) 0 (encI [])) (Sl.nil _ _ _)); clear hw; (try clear hc0); (try clear hc1); (try clear hc2); (try clear hc3); (try clear hc4); (try clear hc5); (try clear hc6)
  go_loopw [7] (fun ov wr => ∃ (c : Int) (pre : List Int) (oa : Option Addr) (on oc : Nat), ov = .slice oa on oc ∧ Hid (pre.length = on ∧ pre ++ chain l c = chain l n) ∧ Holds e wr [X, pt p [.slice a len cap, .int .i64 most] 54, Sl 56 3 (.slice a len cap) len (tabC encN (tns l) vs), sepL (tabR rowN (tns l) vs), pt be [cutF p] 41, pt b4 [.int .i64 c] 3, Sl 3 1 ov on (encI pre)]) (fun ov _ => 1000 - slLen ov)
  case atStart => exact ⟨n, [], none, 0, 0, rfl, Sep.hid ⟨rfl, rfl⟩, Hw0.out⟩
  case round =>
    clear Hw0
    obtain ⟨c, pre, oa, on, oc, rfl, Hpre, hw⟩ := hrel
    (try replace hc0 := Sep.Holds.cells hw (i := 0) rfl); (try replace hc1 := Sep.Holds.cells hw (i := 1) rfl); (try replace hc2 := Sep.Holds.cells hw (i := 2) rfl); (try replace hc3 := Sep.Holds.cells hw (i := 3) rfl); (try replace hc4 := Sep.Holds.cells hw (i := 4) rfl); (try replace hc5 := Sep.Holds.cells hw (i := 5) rfl); (try replace hc6 := Sep.Holds.cells hw (i := 6) rfl)
    have hon : on ≤ 200 := by
      have h1 := Hpre.out.1
      have h2 := congrArg List.length Hpre.out.2
      rw [List.length_append] at h2
      have h3 := Hpl.out
      rw [hlen.out] at h3
      omega
    go_wp2_with fail
    refine (tThere p len cap a l c hlen _ (hc1 0)).mono ?_
    rintro _ w_ ⟨rfl, rfl⟩
    cases hb : there l c with
    | false =>
      have Hp : Hid (pre = chain l n) := Sep.hid (by have h := Hpre.out.2; rw [chain_no hb, List.append_nil] at h; exact h)
      clear hb
      go_wp2_with fail
      refine HP.out _ _ ⟨_, rfl, ?_⟩
      have h := hw.sel [0, 1, 2, 3, 4, 6] (by decide)
      have h1 := Hpre.out.1
      subst h1
      rw [← Hp.out]
      exact h
    | true =>
      obtain ⟨k, x, rfl, hk, hx, _⟩ := there_get hb
      have Hov : Hid (overOf l (k : Int) = x.over) := Sep.hid (get_there hx).2.2.1
      have Hct : Hid (cutOf l (k : Int) = x.cut) := Sep.hid (get_there hx).2.2.2
      have Hst := Sep.hid (chain_yes hok.out hb)
      have hon2 : on + 1 ≤ len := by
        have h1 := Hpre.out.1
        have h2 := congrArg List.length Hpre.out.2
        rw [List.length_append, Hst.out, List.length_cons] at h2
        have h3 := Hpl.out
        rw [hlen.out] at h3
        omega
      rw [hlen.out] at hk
      obtain ⟨v, hv, _⟩ := tab_get (R := rowN) (by rw [hvl.out, tns_length]) (tns_get hx)
      have Hx := Sep.hid hx; have Hv := Sep.hid hv
      clear hb hx hv
      have hmf : ∀ (fn : Fn) (first cap : Array Value) (w : World), (Instr.makeFunc fn first cap).run Try.prog w = .ok (.func fn first cap) w := fun _ _ _ _ => rfl
      go_wp2_with (first | (refine wpList_on rfl (wp_bsl1 rfl rfl (by rfl) (by rfl) (by decide) hw ?_); intro b_ w_ hw_; clear hw; have hw := hw_; clear hw_; (try simp only [List.map_cons, List.map_nil, List.getD_cons_zero, List.getD_cons_succ, List.getD_nil, List.set_cons_zero, List.set_cons_succ, List.cons_append, List.nil_append, Act.eval, Array.getD_eq_getD_getElem?, List.getElem?_toArray, List.getElem?_cons_succ, List.getElem?_cons_zero, Option.getD_some, Value.cells] at hw); (try simp (disch := first | (simp; done) | (simp; omega)) only [Sep.mid_set, Sep.mid_set2, Sep.mid_set0, Sep.mid_splice, Sep.mid_splice0, List.set_cons_zero, List.set_cons_succ] at hw); (try simp only [Sep.splice, List.take_succ_cons, List.take_zero, List.drop_succ_cons, List.drop_zero, List.length_cons, List.length_nil, Nat.reduceAdd, List.cons_append, List.nil_append] at hw); (try replace hc0 := Sep.Holds.cells hw (i := 0) rfl); (try replace hc1 := Sep.Holds.cells hw (i := 1) rfl); (try replace hc2 := Sep.Holds.cells hw (i := 2) rfl); (try replace hc3 := Sep.Holds.cells hw (i := 3) rfl); (try replace hc4 := Sep.Holds.cells hw (i := 4) rfl); (try replace hc5 := Sep.Holds.cells hw (i := 5) rfl); (try replace hc6 := Sep.Holds.cells hw (i := 6) rfl)) | (at_builtin; refine wpList_on rfl (wp_appendPt (i := 6) (j := 7) rfl rfl hw rfl rfl rfl (by rfl) (by simp [Value.oneCell']) (by decide) (by rfl) (by (try unfold maxLen); omega) (by (try unfold maxLen); omega) ?_); intro b2_ cap2_ off2_ w_ hcap2_ hw_; clear hw; have hw := hw_; clear hw_; (try simp only [List.map_cons, List.map_nil, List.getD_cons_zero, List.getD_cons_succ, List.getD_nil, List.set_cons_zero, List.set_cons_succ, List.cons_append, List.nil_append, Act.eval, Array.getD_eq_getD_getElem?, List.getElem?_toArray, List.getElem?_cons_succ, List.getElem?_cons_zero, Option.getD_some, Value.cells] at hw); (try simp (disch := first | (simp; done) | (simp; omega)) only [Sep.mid_set, Sep.mid_set2, Sep.mid_set0, Sep.mid_splice, Sep.mid_splice0, List.set_cons_zero, List.set_cons_succ] at hw); (try simp only [Sep.splice, List.take_succ_cons, List.take_zero, List.drop_succ_cons, List.drop_zero, List.length_cons, List.length_nil, Nat.reduceAdd, List.cons_append, List.nil_append] at hw); (try replace hc0 := Sep.Holds.cells hw (i := 0) rfl); (try replace hc1 := Sep.Holds.cells hw (i := 1) rfl); (try replace hc2 := Sep.Holds.cells hw (i := 2) rfl); (try replace hc3 := Sep.Holds.cells hw (i := 3) rfl); (try replace hc4 := Sep.Holds.cells hw (i := 4) rfl); (try replace hc5 := Sep.Holds.cells hw (i := 5) rfl); (try replace hc6 := Sep.Holds.cells hw (i := 6) rfl)))
      have hw := hw.sel [0, 1, 2, 3, 4, 5, 6] (by decide)
      (try simp only [List.map_cons, List.map_nil, List.getD_cons_zero, List.getD_cons_succ, List.getD_nil, List.set_cons_zero, List.set_cons_succ, List.cons_append, List.nil_append, Act.eval, Array.getD_eq_getD_getElem?, List.getElem?_toArray, List.getElem?_cons_succ, List.getElem?_cons_zero, Option.getD_some, Value.cells] at hw); (try simp (disch := first | (simp; done) | (simp; omega)) only [Sep.mid_set, Sep.mid_set2, Sep.mid_set0, Sep.mid_splice, Sep.mid_splice0, List.set_cons_zero, List.set_cons_succ] at hw); (try simp only [Sep.splice, List.take_succ_cons, List.take_zero, List.drop_succ_cons, List.drop_zero, List.length_cons, List.length_nil, Nat.reduceAdd, List.cons_append, List.nil_append] at hw)
      (try replace hc0 := Sep.Holds.cells hw (i := 0) rfl); (try replace hc1 := Sep.Holds.cells hw (i := 1) rfl); (try replace hc2 := Sep.Holds.cells hw (i := 2) rfl); (try replace hc3 := Sep.Holds.cells hw (i := 3) rfl); (try replace hc4 := Sep.Holds.cells hw (i := 4) rfl); (try replace hc5 := Sep.Holds.cells hw (i := 5) rfl); (try replace hc6 := Sep.Holds.cells hw (i := 6) rfl)
      refine (cfCut p b4 be len cap a l k hlen _ (hc1 0) (Sep.hid (nodes_at (i := 2) hw rfl hlen.out hvl.out)) (hc5 0) (hc4 0)).mono ?_
      rintro _ w_ ⟨rfl, rfl⟩
      rw [Hct.out]
      cases hc : x.cut with
      | true =>
        have Hp : Hid (pre ++ [(k : Int)] = chain l n) := Sep.hid (by have h := Hpre.out.2; rw [Hst.out, Hct.out, hc] at h; simpa using h)
        clear hc
        go_wp2_with fail
        refine HP.out _ _ ⟨_, rfl, ?_⟩
        have h := hw.sel [0, 1, 2, 3, 4, 6] (by decide)
        have h1 := Hpre.out.1
        subst h1
        rw [← Hp.out]
        unfold IsInts
        rw [encI_append, List.length_append]
        exact h
      | false =>
        have Hst2 : Hid (chain l (k : Int) = (k : Int) :: chain l x.over) := Sep.hid (by rw [Hst.out, Hct.out, hc, Hov.out]; simp)
        clear hc
        obtain ⟨b, off, rfl, g0, g1, g2⟩ := node_at (i := 2) hw rfl hlen.out hvl.out Hx.out Hv.out
        go_wp2_with fail
        refine wp_region_L [8] [(3, (fun w' => w' = (w_).drew)), (4, (fun w' => w' = (w_).drew)), (7, (fun w' => w' = (w_).drew))] (n := 9) (listed := (marks 9 0)) (by kernel_rfl) rfl (by kernel_rfl) ?conds2 ?_
        case conds2 =>
         intro c hc
         simp only [List.mem_cons, List.not_mem_nil, or_false] at hc
         rcases hc with rfl | rfl | rfl
         · rfl
         · rfl
         · rfl
        replace hw := hw.drew
        (clear g0 g1 g2; obtain ⟨b2, off2, hb2, g0, g1, g2⟩ := node_at (i := 2) hw rfl hlen.out hvl.out Hx.out Hv.out; cases hb2; (try replace hc0 := Sep.Holds.cells hw (i := 0) rfl); (try replace hc1 := Sep.Holds.cells hw (i := 1) rfl); (try replace hc2 := Sep.Holds.cells hw (i := 2) rfl); (try replace hc3 := Sep.Holds.cells hw (i := 3) rfl); (try replace hc4 := Sep.Holds.cells hw (i := 4) rfl); (try replace hc5 := Sep.Holds.cells hw (i := 5) rfl); (try replace hc6 := Sep.Holds.cells hw (i := 6) rfl))
        refine wpL_q 0 ?_ rfl (Or.inl ⟨by rfl, fun w_ hS_ => ?_⟩) (marks 9 1) ?_
        rotate_left
        next => (go_simp; try (first | rfl | exact (Bool.not_not _).symm))
        try simp only [Act.put, List.setIfInBounds_toArray, List.set_cons_zero, List.set_cons_succ]
        refine wpL_q 1 ?_ rfl (Or.inl ⟨by rfl, fun w_ hS_ => ?_⟩) (marks 9 3) ?_
        rotate_left
        next => (go_simp; try (first | rfl | exact (Bool.not_not _).symm))
        try simp only [Act.put, List.setIfInBounds_toArray, List.set_cons_zero, List.set_cons_succ]
        refine wpL_q 2 ?_ rfl (Or.inl ⟨by rfl, fun w_ hS_ => ?_⟩) (marks 9 7) ?_
        rotate_left
        next => (go_simp; try (first | rfl | exact (Bool.not_not _).symm))
        try simp only [Act.put, List.setIfInBounds_toArray, List.set_cons_zero, List.set_cons_succ]
        refine wpL_m 3 ?_ rfl (.head _) (Or.inl ⟨by rfl, fun w_ hS_ => ?_⟩) (marks 9 15) ?_
        rotate_left
        next => (subst hS_; go_simp; try (first | rfl | exact (Bool.not_not _).symm))
        try simp only [Act.put, List.setIfInBounds_toArray, List.set_cons_zero, List.set_cons_succ]
        refine wpL_m 4 ?_ rfl (.tail _ (.head _)) (Or.inl ⟨by rfl, fun w_ hS_ => ?_⟩) (marks 9 31) ?_
        rotate_left
        next => (subst hS_; go_simp; try (first | rfl | exact (Bool.not_not _).symm))
        try simp only [Act.put, List.setIfInBounds_toArray, List.set_cons_zero, List.set_cons_succ]
        refine wpL_q 5 ?_ rfl (Or.inl ⟨by rfl, fun w_ hS_ => ?_⟩) (marks 9 63) ?_
        rotate_left
        next => (go_simp; try (first | rfl | exact (Bool.not_not _).symm))
        try simp only [Act.put, List.setIfInBounds_toArray, List.set_cons_zero, List.set_cons_succ]
        refine wpL_q 6 ?_ rfl (Or.inl ⟨by rfl, fun w_ hS_ => ?_⟩) (marks 9 127) ?_
        rotate_left
        next => (go_simp; try (first | rfl | exact (Bool.not_not _).symm))
        try simp only [Act.put, List.setIfInBounds_toArray, List.set_cons_zero, List.set_cons_succ]
        refine wpL_m 7 ?_ rfl (.tail _ (.tail _ (.head _))) (Or.inl ⟨by rfl, fun w_ hS_ => ?_⟩) (marks 9 255) ?_
        rotate_left
        next => (subst hS_; go_simp; try (first | rfl | exact (Bool.not_not _).symm))
        try simp only [Act.put, List.setIfInBounds_toArray, List.set_cons_zero, List.set_cons_succ]
        refine wpL_o 8 rfl (by rfl) (marks 9 511) ?_
        (refine wp_store1 (v := _) rfl rfl rfl hw (i := 5) rfl (by simp [Sep.mid_length, Act.eval, Value.cells]; try omega) rfl ?_; intro w_ hw_; clear hw; have hw := hw_; clear hw_; (try simp only [List.map_cons, List.map_nil, List.getD_cons_zero, List.getD_cons_succ, List.getD_nil, List.set_cons_zero, List.set_cons_succ, List.cons_append, List.nil_append, Act.eval, Array.getD_eq_getD_getElem?, List.getElem?_toArray, List.getElem?_cons_succ, List.getElem?_cons_zero, Option.getD_some, Value.cells] at hw); (try simp (disch := first | (simp; done) | (simp; omega)) only [Sep.mid_set, Sep.mid_set2, Sep.mid_set0, Sep.mid_splice, Sep.mid_splice0, List.set_cons_zero, List.set_cons_succ] at hw); (try simp only [Sep.splice, List.take_succ_cons, List.take_zero, List.drop_succ_cons, List.drop_zero, List.length_cons, List.length_nil, Nat.reduceAdd, List.cons_append, List.nil_append] at hw); (try replace hc0 := Sep.Holds.cells hw (i := 0) rfl); (try replace hc1 := Sep.Holds.cells hw (i := 1) rfl); (try replace hc2 := Sep.Holds.cells hw (i := 2) rfl); (try replace hc3 := Sep.Holds.cells hw (i := 3) rfl); (try replace hc4 := Sep.Holds.cells hw (i := 4) rfl); (try replace hc5 := Sep.Holds.cells hw (i := 5) rfl); (try replace hc6 := Sep.Holds.cells hw (i := 6) rfl))
        refine ⟨(SL.drop 8 (by kernel_rfl) (SL.drop 8 (by kernel_rfl) (SL.drop 8 (by kernel_rfl) SL.nil))), ?_⟩
        try simp only [Act.put, List.setIfInBounds_toArray, List.set_cons_zero, List.set_cons_succ]
        all_goals refine wpL_done (by kernel_rfl) ?_ _
        clear g0 g1 g2
        go_wp2_with fail
        go_roundw
        case rel => exact ⟨x.over, pre ++ [(k : Int)], _, on + 1, _, rfl, Sep.hid ⟨by rw [List.length_append, Hpre.out.1]; rfl, snoc_rest (by rw [← Hst2.out]; exact Hpre.out.2)⟩, by rw [encI_append]; exact hw⟩
        case measure => simp [slLen]; omega
end Go.Proofs.Ytlegkikglpogkaa
