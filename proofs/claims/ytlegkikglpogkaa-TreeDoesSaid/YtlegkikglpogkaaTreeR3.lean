/-
  The document's own tree: Reach, Chain, Path, as one part.
-/
import Derived.Test.YtlegkikglpogkaaTreeR2
namespace Go.Proofs.Ytlegkikglpogkaa
set_option linter.unusedSimpArgs false
set_option linter.unusedVariables false
open Go.RowKit Go.Sep Go.TreeM

set_option maxHeartbeats 1600000 in
theorem rReach (p len cap : Nat) (a : Option Addr) (most : Int) (l : List Nd) (n : Int) (hok : Hid (TreeM.Ok l)) (hlen : Hid (l.length = len)) (hl2 : len ≤ 200) (e w : World) (X : HProp) (hw : Holds e w (rL X p len cap a most l)) :
    Calls Try.prog 21 #[.pointer (some ⟨p, 0, none⟩), .int .i64 n] w fun en w' => ∃ v, en = .returned v ∧ Holds e w' (rL X p len cap a most l ++ [IsInts v (reach l n)]) := by
  cases hb : there l n with
  | true =>
    obtain ⟨k, rfl⟩ : ∃ k : Nat, n = (k : Int) := ⟨n.toNat, by have := there_iff.1 hb; omega⟩
    exact rReachN p len cap a most l hok hlen hl2 _ k (Sep.hid rfl) (Sep.hid hb) e w X hw
  | false =>
    rw [reach_no hb]
    have Hb := Sep.hid hb; clear hb
    unfold rL at hw
    (try replace hc0 := Sep.Holds.cells hw (i := 0) rfl); (try replace hc1 := Sep.Holds.cells hw (i := 1) rfl); (try replace hc2 := Sep.Holds.cells hw (i := 2) rfl); (try replace hc3 := Sep.Holds.cells hw (i := 3) rfl); (try replace hc4 := Sep.Holds.cells hw (i := 4) rfl); (try replace hc5 := Sep.Holds.cells hw (i := 5) rfl); (try replace hc6 := Sep.Holds.cells hw (i := 6) rfl)
    refine Sep.calls_post ?_
    intro Post_ hPost_
    have HP := Sep.hid hPost_
    clear hPost_
    go_enter Try.func21, Try.ntmps21
    go_wp2_with (refine wpList_on rfl (wp_bsl0 rfl hw ?_); intro b_ w_ hw_; replace hw_ := hw_.newSl (i := 3) rfl 1 0 rfl (by decide); clear hw; have hw := hw_; clear hw_; (try simp only [List.map_cons, List.map_nil, List.getD_cons_zero, List.getD_cons_succ, List.getD_nil, List.set_cons_zero, List.set_cons_succ, List.cons_append, List.nil_append, Act.eval, Array.getD_eq_getD_getElem?, List.getElem?_toArray, List.getElem?_cons_succ, List.getElem?_cons_zero, Option.getD_some, Value.cells] at hw); (try simp (disch := first | (simp; done) | (simp; omega)) only [Sep.mid_set, Sep.mid_set2, Sep.mid_set0, Sep.mid_splice, Sep.mid_splice0, List.set_cons_zero, List.set_cons_succ] at hw); (try simp only [Sep.splice, List.take_succ_cons, List.take_zero, List.drop_succ_cons, List.drop_zero, List.length_cons, List.length_nil, Nat.reduceAdd, List.cons_append, List.nil_append] at hw); (try replace hc0 := Sep.Holds.cells hw (i := 0) rfl); (try replace hc1 := Sep.Holds.cells hw (i := 1) rfl); (try replace hc2 := Sep.Holds.cells hw (i := 2) rfl); (try replace hc3 := Sep.Holds.cells hw (i := 3) rfl); (try replace hc4 := Sep.Holds.cells hw (i := 4) rfl); (try replace hc5 := Sep.Holds.cells hw (i := 5) rfl); (try replace hc6 := Sep.Holds.cells hw (i := 6) rfl))
    refine (rThere p len cap a l n hlen _ (hc1 0)).mono ?_
    rintro _ w_ ⟨rfl, rfl⟩
    rw [Hb.out]
    go_wp2_with fail
    exact HP.out _ _ ⟨_, rfl, hw⟩
set_option maxHeartbeats 4000000 in
theorem rPath (p len cap : Nat) (a : Option Addr) (most : Int) (l : List Nd) (n : Int) (hok : Hid (TreeM.Ok l)) (hlen : Hid (l.length = len)) (hl2 : len ≤ 200) (e w : World) (X : HProp) (hw : Holds e w (rL X p len cap a most l)) :
    Calls Try.prog 25 #[.pointer (some ⟨p, 0, none⟩), .int .i64 n] w fun en w' => ∃ v, en = .returned v ∧ Holds e w' (rL X p len cap a most l ++ [IsInts v (path l n)]) := by
  have Hpl := Sep.hid (path_len hok.out n)
  unfold rL at hw
  (try replace hc0 := Sep.Holds.cells hw (i := 0) rfl); (try replace hc1 := Sep.Holds.cells hw (i := 1) rfl); (try replace hc2 := Sep.Holds.cells hw (i := 2) rfl); (try replace hc3 := Sep.Holds.cells hw (i := 3) rfl); (try replace hc4 := Sep.Holds.cells hw (i := 4) rfl); (try replace hc5 := Sep.Holds.cells hw (i := 5) rfl); (try replace hc6 := Sep.Holds.cells hw (i := 6) rfl)
  refine Sep.calls_post ?_
  intro Post_ hPost_
  have HP := Sep.hid hPost_
  clear hPost_
  go_enter Try.func25, Try.ntmps25
  go_wp2_with (refine wpList_on rfl (wp_bsl0 rfl hw ?_); intro b_ w_ hw_; replace hw_ := hw_.newSl (i := 3) rfl 1 0 rfl (by decide); clear hw; have hw := hw_; clear hw_; (try simp only [List.map_cons, List.map_nil, List.getD_cons_zero, List.getD_cons_succ, List.getD_nil, List.set_cons_zero, List.set_cons_succ, List.cons_append, List.nil_append, Act.eval, Array.getD_eq_getD_getElem?, List.getElem?_toArray, List.getElem?_cons_succ, List.getElem?_cons_zero, Option.getD_some, Value.cells] at hw); (try simp (disch := first | (simp; done) | (simp; omega)) only [Sep.mid_set, Sep.mid_set2, Sep.mid_set0, Sep.mid_splice, Sep.mid_splice0, List.set_cons_zero, List.set_cons_succ] at hw); (try simp only [Sep.splice, List.take_succ_cons, List.take_zero, List.drop_succ_cons, List.drop_zero, List.length_cons, List.length_nil, Nat.reduceAdd, List.cons_append, List.nil_append] at hw); (try replace hc0 := Sep.Holds.cells hw (i := 0) rfl); (try replace hc1 := Sep.Holds.cells hw (i := 1) rfl); (try replace hc2 := Sep.Holds.cells hw (i := 2) rfl); (try replace hc3 := Sep.Holds.cells hw (i := 3) rfl); (try replace hc4 := Sep.Holds.cells hw (i := 4) rfl); (try replace hc5 := Sep.Holds.cells hw (i := 5) rfl); (try replace hc6 := Sep.Holds.cells hw (i := 6) rfl))
  have Hw0 := Sep.hid hw; clear hw; (try clear hc0); (try clear hc1); (try clear hc2); (try clear hc3); (try clear hc4); (try clear hc5); (try clear hc6)
  go_loopw [1, 5] (fun cv ov wr => ∃ (c : Int) (pre : List Int) (oa : Option Addr) (on oc : Nat), cv = .int .i64 c ∧ ov = .slice oa on oc ∧ Hid (pre.length = on ∧ pre ++ path l c = path l n) ∧ Holds e wr [X, pt p [.slice a len cap, .int .i64 most] 39, Sl 43 2 (.slice a len cap) len (l.flatMap encR), Sl 3 1 ov on (encI pre)]) (fun _ ov _ => 1000 - slLen ov)
  case atStart => exact ⟨n, [], _, 0, _, rfl, rfl, Sep.hid ⟨rfl, rfl⟩, Hw0.out⟩
  case round =>
    clear Hw0
    obtain ⟨c, pre, oa, on, oc, rfl, rfl, Hpre, hw⟩ := hrel
    (try replace hc0 := Sep.Holds.cells hw (i := 0) rfl); (try replace hc1 := Sep.Holds.cells hw (i := 1) rfl); (try replace hc2 := Sep.Holds.cells hw (i := 2) rfl); (try replace hc3 := Sep.Holds.cells hw (i := 3) rfl); (try replace hc4 := Sep.Holds.cells hw (i := 4) rfl); (try replace hc5 := Sep.Holds.cells hw (i := 5) rfl); (try replace hc6 := Sep.Holds.cells hw (i := 6) rfl)
    have hon : on ≤ 200 := by
      have h1 := Hpre.out.1
      have h2 := congrArg List.length Hpre.out.2
      rw [List.length_append] at h2
      have h3 := Hpl.out
      rw [hlen.out] at h3
      omega
    go_wp2_with fail
    refine (rThere p len cap a l c hlen _ (hc1 0)).mono ?_
    rintro _ w_ ⟨rfl, rfl⟩
    cases hb : there l c with
    | false =>
      have Hp : Hid (pre = path l n) := Sep.hid (by have h := Hpre.out.2; rw [path_no hb, List.append_nil] at h; exact h)
      clear hb
      go_wp2_with fail
      refine HP.out _ _ ⟨_, rfl, ?_⟩
      rw [← Hp.out, isInts_at Hpre.out.1]
      exact hw
    | true =>
      obtain ⟨k, x, rfl, hk, hx, _⟩ := there_get hb
      have Hov : Hid (overOf l (k : Int) = x.over) := Sep.hid (get_there hx).2.2.1
      have Hct : Hid (cutOf l (k : Int) = x.cut) := Sep.hid (get_there hx).2.2.2
      have Hst := Sep.hid (path_yes hok.out hb)
      have hon2 : on + 1 ≤ len := by
        have h1 := Hpre.out.1
        have h2 := congrArg List.length Hpre.out.2
        rw [List.length_append, Hst.out, List.length_cons] at h2
        have h3 := Hpl.out
        rw [hlen.out] at h3
        omega
      rw [hlen.out] at hk
      have Hx := Sep.hid hx
      clear hb hx
      obtain ⟨b, off, hb, _⟩ := rnodes_at (i := 2) hw rfl hlen.out k x Hx.out
      subst hb
      go_upto_region 4 with (first | (refine wpList_on rfl (wp_bsl1 rfl rfl (by rfl) (by rfl) (by decide) hw ?_); intro b_ w_ hw_; clear hw; have hw := hw_; clear hw_; (try simp only [List.map_cons, List.map_nil, List.getD_cons_zero, List.getD_cons_succ, List.getD_nil, List.set_cons_zero, List.set_cons_succ, List.cons_append, List.nil_append, Act.eval, Array.getD_eq_getD_getElem?, List.getElem?_toArray, List.getElem?_cons_succ, List.getElem?_cons_zero, Option.getD_some, Value.cells] at hw); (try simp (disch := first | (simp; done) | (simp; omega)) only [Sep.mid_set, Sep.mid_set2, Sep.mid_set0, Sep.mid_splice, Sep.mid_splice0, List.set_cons_zero, List.set_cons_succ] at hw); (try simp only [Sep.splice, List.take_succ_cons, List.take_zero, List.drop_succ_cons, List.drop_zero, List.length_cons, List.length_nil, Nat.reduceAdd, List.cons_append, List.nil_append] at hw); (try replace hc0 := Sep.Holds.cells hw (i := 0) rfl); (try replace hc1 := Sep.Holds.cells hw (i := 1) rfl); (try replace hc2 := Sep.Holds.cells hw (i := 2) rfl); (try replace hc3 := Sep.Holds.cells hw (i := 3) rfl); (try replace hc4 := Sep.Holds.cells hw (i := 4) rfl); (try replace hc5 := Sep.Holds.cells hw (i := 5) rfl); (try replace hc6 := Sep.Holds.cells hw (i := 6) rfl)) | (at_builtin; refine wpList_on rfl (wp_appendPt (i := 3) (j := 4) rfl rfl hw rfl rfl rfl (by rfl) (by simp [Value.oneCell']) (by decide) (by rfl) (by (try unfold maxLen); omega) (by (try unfold maxLen); omega) ?_); intro b2_ cap2_ off2_ w_ hcap2_ hw_; clear hw; have hw := hw_; clear hw_; (try simp only [List.map_cons, List.map_nil, List.getD_cons_zero, List.getD_cons_succ, List.getD_nil, List.set_cons_zero, List.set_cons_succ, List.cons_append, List.nil_append, Act.eval, Array.getD_eq_getD_getElem?, List.getElem?_toArray, List.getElem?_cons_succ, List.getElem?_cons_zero, Option.getD_some, Value.cells] at hw); (try simp (disch := first | (simp; done) | (simp; omega)) only [Sep.mid_set, Sep.mid_set2, Sep.mid_set0, Sep.mid_splice, Sep.mid_splice0, List.set_cons_zero, List.set_cons_succ] at hw); (try simp only [Sep.splice, List.take_succ_cons, List.take_zero, List.drop_succ_cons, List.drop_zero, List.length_cons, List.length_nil, Nat.reduceAdd, List.cons_append, List.nil_append] at hw); (try replace hc0 := Sep.Holds.cells hw (i := 0) rfl); (try replace hc1 := Sep.Holds.cells hw (i := 1) rfl); (try replace hc2 := Sep.Holds.cells hw (i := 2) rfl); (try replace hc3 := Sep.Holds.cells hw (i := 3) rfl); (try replace hc4 := Sep.Holds.cells hw (i := 4) rfl); (try replace hc5 := Sep.Holds.cells hw (i := 5) rfl); (try replace hc6 := Sep.Holds.cells hw (i := 6) rfl)))
      have hw := hw.sel [0, 1, 2, 3] (by decide)
      (try simp only [List.map_cons, List.map_nil, List.getD_cons_zero, List.getD_cons_succ, List.getD_nil, List.set_cons_zero, List.set_cons_succ, List.cons_append, List.nil_append, Act.eval, Array.getD_eq_getD_getElem?, List.getElem?_toArray, List.getElem?_cons_succ, List.getElem?_cons_zero, Option.getD_some, Value.cells] at hw); (try simp (disch := first | (simp; done) | (simp; omega)) only [Sep.mid_set, Sep.mid_set2, Sep.mid_set0, Sep.mid_splice, Sep.mid_splice0, List.set_cons_zero, List.set_cons_succ] at hw); (try simp only [Sep.splice, List.take_succ_cons, List.take_zero, List.drop_succ_cons, List.drop_zero, List.length_cons, List.length_nil, Nat.reduceAdd, List.cons_append, List.nil_append] at hw)
      (try replace hc0 := Sep.Holds.cells hw (i := 0) rfl); (try replace hc1 := Sep.Holds.cells hw (i := 1) rfl); (try replace hc2 := Sep.Holds.cells hw (i := 2) rfl); (try replace hc3 := Sep.Holds.cells hw (i := 3) rfl); (try replace hc4 := Sep.Holds.cells hw (i := 4) rfl); (try replace hc5 := Sep.Holds.cells hw (i := 5) rfl); (try replace hc6 := Sep.Holds.cells hw (i := 6) rfl)
      obtain ⟨b2, off2, hb2, g0, g1⟩ := rnodes_at (i := 2) hw rfl hlen.out k x Hx.out
      cases hb2
      go_wp2_with fail
      go_roundw
      case rel => exact ⟨x.over, pre ++ [(k : Int)], _, on + 1, _, rfl, rfl, Sep.hid ⟨by rw [List.length_append, Hpre.out.1]; rfl, snoc_rest (by rw [← Hov.out, ← Hst.out]; exact Hpre.out.2)⟩, by rw [encI_append]; exact hw⟩
      case measure => simp [slLen]; omega
set_option maxHeartbeats 4000000 in
theorem rChain (p len cap : Nat) (a : Option Addr) (most : Int) (l : List Nd) (n : Int) (hok : Hid (TreeM.Ok l)) (hlen : Hid (l.length = len)) (hl2 : len ≤ 200) (e w : World) (X : HProp) (hw : Holds e w (rL X p len cap a most l)) :
    Calls Try.prog 23 #[.pointer (some ⟨p, 0, none⟩), .int .i64 n] w fun en w' => ∃ v, en = .returned v ∧ Holds e w' (rL X p len cap a most l ++ [IsInts v (chain l n)]) := by
  have Hpl := Sep.hid (chain_len hok.out n)
  unfold rL at hw
  (try replace hc0 := Sep.Holds.cells hw (i := 0) rfl); (try replace hc1 := Sep.Holds.cells hw (i := 1) rfl); (try replace hc2 := Sep.Holds.cells hw (i := 2) rfl); (try replace hc3 := Sep.Holds.cells hw (i := 3) rfl); (try replace hc4 := Sep.Holds.cells hw (i := 4) rfl); (try replace hc5 := Sep.Holds.cells hw (i := 5) rfl); (try replace hc6 := Sep.Holds.cells hw (i := 6) rfl)
  refine Sep.calls_post ?_
  intro Post_ hPost_
  have HP := Sep.hid hPost_
  clear hPost_
  go_enter Try.func23, Try.ntmps23
  go_wp2_with (refine wpList_on rfl (wp_bsl0 rfl hw ?_); intro b_ w_ hw_; replace hw_ := hw_.newSl (i := 3) rfl 1 0 rfl (by decide); clear hw; have hw := hw_; clear hw_; (try simp only [List.map_cons, List.map_nil, List.getD_cons_zero, List.getD_cons_succ, List.getD_nil, List.set_cons_zero, List.set_cons_succ, List.cons_append, List.nil_append, Act.eval, Array.getD_eq_getD_getElem?, List.getElem?_toArray, List.getElem?_cons_succ, List.getElem?_cons_zero, Option.getD_some, Value.cells] at hw); (try simp (disch := first | (simp; done) | (simp; omega)) only [Sep.mid_set, Sep.mid_set2, Sep.mid_set0, Sep.mid_splice, Sep.mid_splice0, List.set_cons_zero, List.set_cons_succ] at hw); (try simp only [Sep.splice, List.take_succ_cons, List.take_zero, List.drop_succ_cons, List.drop_zero, List.length_cons, List.length_nil, Nat.reduceAdd, List.cons_append, List.nil_append] at hw); (try replace hc0 := Sep.Holds.cells hw (i := 0) rfl); (try replace hc1 := Sep.Holds.cells hw (i := 1) rfl); (try replace hc2 := Sep.Holds.cells hw (i := 2) rfl); (try replace hc3 := Sep.Holds.cells hw (i := 3) rfl); (try replace hc4 := Sep.Holds.cells hw (i := 4) rfl); (try replace hc5 := Sep.Holds.cells hw (i := 5) rfl); (try replace hc6 := Sep.Holds.cells hw (i := 6) rfl))
  have Hw0 := Sep.hid hw; clear hw; (try clear hc0); (try clear hc1); (try clear hc2); (try clear hc3); (try clear hc4); (try clear hc5); (try clear hc6)
  go_loopw [1, 5] (fun cv ov wr => ∃ (c : Int) (pre : List Int) (oa : Option Addr) (on oc : Nat), cv = .int .i64 c ∧ ov = .slice oa on oc ∧ Hid (pre.length = on ∧ pre ++ chain l c = chain l n) ∧ Holds e wr [X, pt p [.slice a len cap, .int .i64 most] 39, Sl 43 2 (.slice a len cap) len (l.flatMap encR), Sl 3 1 ov on (encI pre)]) (fun _ ov _ => 1000 - slLen ov)
  case atStart => exact ⟨n, [], _, 0, _, rfl, rfl, Sep.hid ⟨rfl, rfl⟩, Hw0.out⟩
  case round =>
    clear Hw0
    obtain ⟨c, pre, oa, on, oc, rfl, rfl, Hpre, hw⟩ := hrel
    (try replace hc0 := Sep.Holds.cells hw (i := 0) rfl); (try replace hc1 := Sep.Holds.cells hw (i := 1) rfl); (try replace hc2 := Sep.Holds.cells hw (i := 2) rfl); (try replace hc3 := Sep.Holds.cells hw (i := 3) rfl); (try replace hc4 := Sep.Holds.cells hw (i := 4) rfl); (try replace hc5 := Sep.Holds.cells hw (i := 5) rfl); (try replace hc6 := Sep.Holds.cells hw (i := 6) rfl)
    have hon : on ≤ 200 := by
      have h1 := Hpre.out.1
      have h2 := congrArg List.length Hpre.out.2
      rw [List.length_append] at h2
      have h3 := Hpl.out
      rw [hlen.out] at h3
      omega
    go_wp2_with fail
    refine (rThere p len cap a l c hlen _ (hc1 0)).mono ?_
    rintro _ w_ ⟨rfl, rfl⟩
    cases hb : there l c with
    | false =>
      have Hp : Hid (pre = chain l n) := Sep.hid (by have h := Hpre.out.2; rw [chain_no hb, List.append_nil] at h; exact h)
      clear hb
      go_wp2_with fail
      refine HP.out _ _ ⟨_, rfl, ?_⟩
      rw [← Hp.out, isInts_at Hpre.out.1]
      exact hw
    | true =>
      obtain ⟨k, x, rfl, hk, hx, _⟩ := there_get hb
      have Hov : Hid (overOf l (k : Int) = x.over) := Sep.hid (get_there hx).2.2.1
      have Hct : Hid (cutOf l (k : Int) = x.cut) := Sep.hid (get_there hx).2.2.2
      have Hst := Sep.hid (chain_yes hok.out hb)
      have hon2 : on + 1 ≤ len := by
        have h1 := Hpre.out.1
        have h2 := congrArg List.length Hpre.out.2
        rw [List.length_append, Hst.out, List.length_cons] at h2
        have h3 := Hpl.out
        rw [hlen.out] at h3
        omega
      rw [hlen.out] at hk
      have Hx := Sep.hid hx
      clear hb hx
      obtain ⟨b, off, hb, _⟩ := rnodes_at (i := 2) hw rfl hlen.out k x Hx.out
      subst hb
      go_upto_region 4 with (first | (refine wpList_on rfl (wp_bsl1 rfl rfl (by rfl) (by rfl) (by decide) hw ?_); intro b_ w_ hw_; clear hw; have hw := hw_; clear hw_; (try simp only [List.map_cons, List.map_nil, List.getD_cons_zero, List.getD_cons_succ, List.getD_nil, List.set_cons_zero, List.set_cons_succ, List.cons_append, List.nil_append, Act.eval, Array.getD_eq_getD_getElem?, List.getElem?_toArray, List.getElem?_cons_succ, List.getElem?_cons_zero, Option.getD_some, Value.cells] at hw); (try simp (disch := first | (simp; done) | (simp; omega)) only [Sep.mid_set, Sep.mid_set2, Sep.mid_set0, Sep.mid_splice, Sep.mid_splice0, List.set_cons_zero, List.set_cons_succ] at hw); (try simp only [Sep.splice, List.take_succ_cons, List.take_zero, List.drop_succ_cons, List.drop_zero, List.length_cons, List.length_nil, Nat.reduceAdd, List.cons_append, List.nil_append] at hw); (try replace hc0 := Sep.Holds.cells hw (i := 0) rfl); (try replace hc1 := Sep.Holds.cells hw (i := 1) rfl); (try replace hc2 := Sep.Holds.cells hw (i := 2) rfl); (try replace hc3 := Sep.Holds.cells hw (i := 3) rfl); (try replace hc4 := Sep.Holds.cells hw (i := 4) rfl); (try replace hc5 := Sep.Holds.cells hw (i := 5) rfl); (try replace hc6 := Sep.Holds.cells hw (i := 6) rfl)) | (at_builtin; refine wpList_on rfl (wp_appendPt (i := 3) (j := 4) rfl rfl hw rfl rfl rfl (by rfl) (by simp [Value.oneCell']) (by decide) (by rfl) (by (try unfold maxLen); omega) (by (try unfold maxLen); omega) ?_); intro b2_ cap2_ off2_ w_ hcap2_ hw_; clear hw; have hw := hw_; clear hw_; (try simp only [List.map_cons, List.map_nil, List.getD_cons_zero, List.getD_cons_succ, List.getD_nil, List.set_cons_zero, List.set_cons_succ, List.cons_append, List.nil_append, Act.eval, Array.getD_eq_getD_getElem?, List.getElem?_toArray, List.getElem?_cons_succ, List.getElem?_cons_zero, Option.getD_some, Value.cells] at hw); (try simp (disch := first | (simp; done) | (simp; omega)) only [Sep.mid_set, Sep.mid_set2, Sep.mid_set0, Sep.mid_splice, Sep.mid_splice0, List.set_cons_zero, List.set_cons_succ] at hw); (try simp only [Sep.splice, List.take_succ_cons, List.take_zero, List.drop_succ_cons, List.drop_zero, List.length_cons, List.length_nil, Nat.reduceAdd, List.cons_append, List.nil_append] at hw); (try replace hc0 := Sep.Holds.cells hw (i := 0) rfl); (try replace hc1 := Sep.Holds.cells hw (i := 1) rfl); (try replace hc2 := Sep.Holds.cells hw (i := 2) rfl); (try replace hc3 := Sep.Holds.cells hw (i := 3) rfl); (try replace hc4 := Sep.Holds.cells hw (i := 4) rfl); (try replace hc5 := Sep.Holds.cells hw (i := 5) rfl); (try replace hc6 := Sep.Holds.cells hw (i := 6) rfl)))
      have hw := hw.sel [0, 1, 2, 3] (by decide)
      (try simp only [List.map_cons, List.map_nil, List.getD_cons_zero, List.getD_cons_succ, List.getD_nil, List.set_cons_zero, List.set_cons_succ, List.cons_append, List.nil_append, Act.eval, Array.getD_eq_getD_getElem?, List.getElem?_toArray, List.getElem?_cons_succ, List.getElem?_cons_zero, Option.getD_some, Value.cells] at hw); (try simp (disch := first | (simp; done) | (simp; omega)) only [Sep.mid_set, Sep.mid_set2, Sep.mid_set0, Sep.mid_splice, Sep.mid_splice0, List.set_cons_zero, List.set_cons_succ] at hw); (try simp only [Sep.splice, List.take_succ_cons, List.take_zero, List.drop_succ_cons, List.drop_zero, List.length_cons, List.length_nil, Nat.reduceAdd, List.cons_append, List.nil_append] at hw)
      (try replace hc0 := Sep.Holds.cells hw (i := 0) rfl); (try replace hc1 := Sep.Holds.cells hw (i := 1) rfl); (try replace hc2 := Sep.Holds.cells hw (i := 2) rfl); (try replace hc3 := Sep.Holds.cells hw (i := 3) rfl); (try replace hc4 := Sep.Holds.cells hw (i := 4) rfl); (try replace hc5 := Sep.Holds.cells hw (i := 5) rfl); (try replace hc6 := Sep.Holds.cells hw (i := 6) rfl)
      obtain ⟨b2, off2, hb2, g0, g1⟩ := rnodes_at (i := 2) hw rfl hlen.out k x Hx.out
      cases hb2
      cases hc : x.cut with
      | true =>
        have Hp : Hid (pre ++ [(k : Int)] = chain l n) := Sep.hid (by have h := Hpre.out.2; rw [Hst.out, Hct.out, hc] at h; simpa using h)
        rw [hc] at g1
        clear hc
        go_wp2_with fail
        refine HP.out _ _ ⟨_, rfl, ?_⟩
        rw [← Hp.out, isInts_at (n := on + 1) (by rw [List.length_append, Hpre.out.1]; rfl), encI_append]
        exact hw
      | false =>
        have Hst2 : Hid (chain l (k : Int) = (k : Int) :: chain l x.over) := Sep.hid (by rw [Hst.out, Hct.out, hc, Hov.out]; simp)
        rw [hc] at g1
        clear hc
        go_wp2_with fail
        go_roundw
        case rel => exact ⟨x.over, pre ++ [(k : Int)], _, on + 1, _, rfl, rfl, Sep.hid ⟨by rw [List.length_append, Hpre.out.1]; rfl, snoc_rest (by rw [← Hst2.out]; exact Hpre.out.2)⟩, by rw [encI_append]; exact hw⟩
        case measure => simp [slLen]; omega
end Go.Proofs.Ytlegkikglpogkaa
