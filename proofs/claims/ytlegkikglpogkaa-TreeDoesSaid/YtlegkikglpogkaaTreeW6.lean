/-
  The program's tree: Reach; who is gone up from a node.
-/
import Derived.Test.YtlegkikglpogkaaTreeW5
namespace Go.Proofs.Ytlegkikglpogkaa
set_option linter.unusedSimpArgs false
set_option linter.unusedVariables false
open Go.RowKit Go.Sep Go.TreeM

theorem tree_close {e w : World} {X : HProp} {p len cap : Nat} {T : Tree} {a : Option Addr} {vs : List Value} (hlen : T.l.length = len) (hvl : vs.length = T.l.length)
    (hw : Holds e w [X, pt p [.slice a len cap, .int .i64 T.most] 54, Sl 56 3 (.slice a len cap) len (tabC encN (tns T.l) vs), sepL (tabR rowN (tns T.l) vs)]) : Holds e w [X, IsTree p T] := by
  subst hlen
  exact exL.mk (f := treeParts p T) ⟨a, cap, vs⟩ (hw.addFct hvl)
theorem tree_close2 {e w : World} {X Y : HProp} {p len cap : Nat} {T : Tree} {a : Option Addr} {vs : List Value} (hlen : T.l.length = len) (hvl : vs.length = T.l.length)
    (hw : Holds e w [X, pt p [.slice a len cap, .int .i64 T.most] 54, Sl 56 3 (.slice a len cap) len (tabC encN (tns T.l) vs), sepL (tabR rowN (tns T.l) vs), Y]) : Holds e w [X, IsTree p T, Y] := by
  have h1 := Holds.group [X, Y] _ (hw.sel [0, 4, 1, 2, 3] (by decide))
  exact (Holds.ungroup [X, Y] _ (tree_close hlen hvl h1)).sel [0, 2, 1] (by decide)
set_option maxHeartbeats 4000000 in
theorem tReach (p : Nat) (T : Tree) (hT : T.Ok) (n : Int) (e w : World) (X : HProp) (hw : Holds e w [X, IsTree p T]) :
    Calls Try.prog 20 #[.pointer (some ⟨p, 0, none⟩), .int .i64 n] w fun en w' => ∃ v, en = .returned v ∧ Holds e w' [X, IsTree p T, IsInts v (reach T.l n)] := by
  have HT := Sep.hid hT; clear hT
  obtain ⟨⟨a, cap, vs⟩, hw⟩ := exL.open_ hw
  have hw := hw.open_ 1 rfl
  (try simp only [List.map_cons, List.map_nil, List.getD_cons_zero, List.getD_cons_succ, List.getD_nil, List.set_cons_zero, List.set_cons_succ, List.cons_append, List.nil_append, Act.eval, Array.getD_eq_getD_getElem?, List.getElem?_toArray, List.getElem?_cons_succ, List.getElem?_cons_zero, Option.getD_some, Value.cells] at hw); (try simp (disch := first | (simp; done) | (simp; omega)) only [Sep.mid_set, Sep.mid_set2, Sep.mid_set0, Sep.mid_splice, Sep.mid_splice0, List.set_cons_zero, List.set_cons_succ] at hw); (try simp only [Sep.splice, List.take_succ_cons, List.take_zero, List.drop_succ_cons, List.drop_zero, List.length_cons, List.length_nil, Nat.reduceAdd, List.cons_append, List.nil_append] at hw)
  obtain ⟨len, hlen'⟩ : ∃ n, T.l.length = n := ⟨_, rfl⟩
  have hlen := Sep.hid hlen'
  have hvl := Sep.hid (Holds.fct (i := 4) rfl hw)
  rw [hlen'] at hw
  clear hlen'
  replace hw := hw.sel [0, 1, 2, 3] (by decide)
  (try simp only [List.map_cons, List.map_nil, List.getD_cons_zero, List.getD_cons_succ, List.getD_nil, List.set_cons_zero, List.set_cons_succ, List.cons_append, List.nil_append, Act.eval, Array.getD_eq_getD_getElem?, List.getElem?_toArray, List.getElem?_cons_succ, List.getElem?_cons_zero, Option.getD_some, Value.cells] at hw); (try simp (disch := first | (simp; done) | (simp; omega)) only [Sep.mid_set, Sep.mid_set2, Sep.mid_set0, Sep.mid_splice, Sep.mid_splice0, List.set_cons_zero, List.set_cons_succ] at hw); (try simp only [Sep.splice, List.take_succ_cons, List.take_zero, List.drop_succ_cons, List.drop_zero, List.length_cons, List.length_nil, Nat.reduceAdd, List.cons_append, List.nil_append] at hw)
  (try replace hc0 := Sep.Holds.cells hw (i := 0) rfl); (try replace hc1 := Sep.Holds.cells hw (i := 1) rfl); (try replace hc2 := Sep.Holds.cells hw (i := 2) rfl); (try replace hc3 := Sep.Holds.cells hw (i := 3) rfl); (try replace hc4 := Sep.Holds.cells hw (i := 4) rfl); (try replace hc5 := Sep.Holds.cells hw (i := 5) rfl); (try replace hc6 := Sep.Holds.cells hw (i := 6) rfl)
  have hl2 : len ≤ 1000 := by have := HT.out.2; rw [hlen.out] at this; omega
  cases hb : there T.l n with
  | false =>
    rw [reach_no hb]
    have Hb := Sep.hid hb; clear hb
    refine Sep.calls_post ?_
    intro Post_ hPost_
    have HP := Sep.hid hPost_
    clear hPost_
    go_enter Try.func20, Try.ntmps20
    go_wp2_with (first | (refine wpList_on rfl (wp_box rfl hw ?_); intro b_ w_ hw_; clear hw; have hw := hw_; clear hw_; (try simp only [List.map_cons, List.map_nil, List.getD_cons_zero, List.getD_cons_succ, List.getD_nil, List.set_cons_zero, List.set_cons_succ, List.cons_append, List.nil_append, Act.eval, Array.getD_eq_getD_getElem?, List.getElem?_toArray, List.getElem?_cons_succ, List.getElem?_cons_zero, Option.getD_some, Value.cells] at hw); (try simp (disch := first | (simp; done) | (simp; omega)) only [Sep.mid_set, Sep.mid_set2, Sep.mid_set0, Sep.mid_splice, Sep.mid_splice0, List.set_cons_zero, List.set_cons_succ] at hw); (try simp only [Sep.splice, List.take_succ_cons, List.take_zero, List.drop_succ_cons, List.drop_zero, List.length_cons, List.length_nil, Nat.reduceAdd, List.cons_append, List.nil_append] at hw); (try replace hc0 := Sep.Holds.cells hw (i := 0) rfl); (try replace hc1 := Sep.Holds.cells hw (i := 1) rfl); (try replace hc2 := Sep.Holds.cells hw (i := 2) rfl); (try replace hc3 := Sep.Holds.cells hw (i := 3) rfl); (try replace hc4 := Sep.Holds.cells hw (i := 4) rfl); (try replace hc5 := Sep.Holds.cells hw (i := 5) rfl); (try replace hc6 := Sep.Holds.cells hw (i := 6) rfl)) | (refine wpList_on rfl (wp_alloc rfl hw ?_); intro b_ w_ hw_; clear hw; have hw := hw_; clear hw_; (try simp only [List.map_cons, List.map_nil, List.getD_cons_zero, List.getD_cons_succ, List.getD_nil, List.set_cons_zero, List.set_cons_succ, List.cons_append, List.nil_append, Act.eval, Array.getD_eq_getD_getElem?, List.getElem?_toArray, List.getElem?_cons_succ, List.getElem?_cons_zero, Option.getD_some, Value.cells] at hw); (try simp (disch := first | (simp; done) | (simp; omega)) only [Sep.mid_set, Sep.mid_set2, Sep.mid_set0, Sep.mid_splice, Sep.mid_splice0, List.set_cons_zero, List.set_cons_succ] at hw); (try simp only [Sep.splice, List.take_succ_cons, List.take_zero, List.drop_succ_cons, List.drop_zero, List.length_cons, List.length_nil, Nat.reduceAdd, List.cons_append, List.nil_append] at hw); (try replace hc0 := Sep.Holds.cells hw (i := 0) rfl); (try replace hc1 := Sep.Holds.cells hw (i := 1) rfl); (try replace hc2 := Sep.Holds.cells hw (i := 2) rfl); (try replace hc3 := Sep.Holds.cells hw (i := 3) rfl); (try replace hc4 := Sep.Holds.cells hw (i := 4) rfl); (try replace hc5 := Sep.Holds.cells hw (i := 5) rfl); (try replace hc6 := Sep.Holds.cells hw (i := 6) rfl)))
    refine (tThere p len cap a T.l n hlen _ (hc1 0)).mono ?_
    rintro _ w_ ⟨rfl, rfl⟩
    rw [Hb.out]
    go_wp2_with fail
    exact HP.out _ _ ⟨_, rfl, tree_close2 hlen.out hvl.out ((hw.sel [0, 1, 2, 3] (by decide)).addEmp (X := IsInts (.slice none 0 0) []) (Sl.nil _ _ _))⟩
  | true =>
    obtain ⟨k, hk⟩ : ∃ k : Nat, n = (k : Int) := ⟨n.toNat, by have := there_iff.1 hb; omega⟩
    subst hk
    have Hb := Sep.hid hb; clear hb
    have Hrl := Sep.hid (reach_len HT.out.1 Hb.out)
    refine Sep.calls_post ?_
    intro Post_ hPost_
    have HP := Sep.hid hPost_
    clear hPost_
    go_enter Try.func20, Try.ntmps20
    go_wp2_with (first | (refine wpList_on rfl (wp_box rfl hw ?_); intro bt w_ hw_; clear hw; have hw := hw_; clear hw_; (try simp only [List.map_cons, List.map_nil, List.getD_cons_zero, List.getD_cons_succ, List.getD_nil, List.set_cons_zero, List.set_cons_succ, List.cons_append, List.nil_append, Act.eval, Array.getD_eq_getD_getElem?, List.getElem?_toArray, List.getElem?_cons_succ, List.getElem?_cons_zero, Option.getD_some, Value.cells] at hw); (try simp (disch := first | (simp; done) | (simp; omega)) only [Sep.mid_set, Sep.mid_set2, Sep.mid_set0, Sep.mid_splice, Sep.mid_splice0, List.set_cons_zero, List.set_cons_succ] at hw); (try simp only [Sep.splice, List.take_succ_cons, List.take_zero, List.drop_succ_cons, List.drop_zero, List.length_cons, List.length_nil, Nat.reduceAdd, List.cons_append, List.nil_append] at hw); (try replace hc0 := Sep.Holds.cells hw (i := 0) rfl); (try replace hc1 := Sep.Holds.cells hw (i := 1) rfl); (try replace hc2 := Sep.Holds.cells hw (i := 2) rfl); (try replace hc3 := Sep.Holds.cells hw (i := 3) rfl); (try replace hc4 := Sep.Holds.cells hw (i := 4) rfl); (try replace hc5 := Sep.Holds.cells hw (i := 5) rfl); (try replace hc6 := Sep.Holds.cells hw (i := 6) rfl)) | (refine wpList_on rfl (wp_alloc rfl hw ?_); intro bo w_ hw_; clear hw; have hw := hw_; clear hw_; (try simp only [List.map_cons, List.map_nil, List.getD_cons_zero, List.getD_cons_succ, List.getD_nil, List.set_cons_zero, List.set_cons_succ, List.cons_append, List.nil_append, Act.eval, Array.getD_eq_getD_getElem?, List.getElem?_toArray, List.getElem?_cons_succ, List.getElem?_cons_zero, Option.getD_some, Value.cells] at hw); (try simp (disch := first | (simp; done) | (simp; omega)) only [Sep.mid_set, Sep.mid_set2, Sep.mid_set0, Sep.mid_splice, Sep.mid_splice0, List.set_cons_zero, List.set_cons_succ] at hw); (try simp only [Sep.splice, List.take_succ_cons, List.take_zero, List.drop_succ_cons, List.drop_zero, List.length_cons, List.length_nil, Nat.reduceAdd, List.cons_append, List.nil_append] at hw); (try replace hc0 := Sep.Holds.cells hw (i := 0) rfl); (try replace hc1 := Sep.Holds.cells hw (i := 1) rfl); (try replace hc2 := Sep.Holds.cells hw (i := 2) rfl); (try replace hc3 := Sep.Holds.cells hw (i := 3) rfl); (try replace hc4 := Sep.Holds.cells hw (i := 4) rfl); (try replace hc5 := Sep.Holds.cells hw (i := 5) rfl); (try replace hc6 := Sep.Holds.cells hw (i := 6) rfl)))
    refine (tThere p len cap a T.l k hlen _ (hc1 0)).mono ?_
    rintro _ w_ ⟨rfl, rfl⟩
    rw [Hb.out]
    have hmf : ∀ (fn : Fn) (first cap : Array Value) (w : World), (Instr.makeFunc fn first cap).run Try.prog w = .ok (.func fn first cap) w := fun _ _ _ _ => rfl
    go_wp2_with (first | (refine wpList_on rfl (wp_alloc rfl hw ?_); intro bv w_ hw_; clear hw; have hw := hw_; clear hw_; (try simp only [List.map_cons, List.map_nil, List.getD_cons_zero, List.getD_cons_succ, List.getD_nil, List.set_cons_zero, List.set_cons_succ, List.cons_append, List.nil_append, Act.eval, Array.getD_eq_getD_getElem?, List.getElem?_toArray, List.getElem?_cons_succ, List.getElem?_cons_zero, Option.getD_some, Value.cells] at hw); (try simp (disch := first | (simp; done) | (simp; omega)) only [Sep.mid_set, Sep.mid_set2, Sep.mid_set0, Sep.mid_splice, Sep.mid_splice0, List.set_cons_zero, List.set_cons_succ] at hw); (try simp only [Sep.splice, List.take_succ_cons, List.take_zero, List.drop_succ_cons, List.drop_zero, List.length_cons, List.length_nil, Nat.reduceAdd, List.cons_append, List.nil_append] at hw); (try replace hc0 := Sep.Holds.cells hw (i := 0) rfl); (try replace hc1 := Sep.Holds.cells hw (i := 1) rfl); (try replace hc2 := Sep.Holds.cells hw (i := 2) rfl); (try replace hc3 := Sep.Holds.cells hw (i := 3) rfl); (try replace hc4 := Sep.Holds.cells hw (i := 4) rfl); (try replace hc5 := Sep.Holds.cells hw (i := 5) rfl); (try replace hc6 := Sep.Holds.cells hw (i := 6) rfl)) | (refine wpList_on rfl (wp_store1 (v := _) rfl rfl rfl hw (i := 6) rfl (by simp [Sep.mid_length, Act.eval, Value.cells]; try omega) rfl ?_); intro w_ hw_; clear hw; have hw := hw_; clear hw_; (try simp only [List.map_cons, List.map_nil, List.getD_cons_zero, List.getD_cons_succ, List.getD_nil, List.set_cons_zero, List.set_cons_succ, List.cons_append, List.nil_append, Act.eval, Array.getD_eq_getD_getElem?, List.getElem?_toArray, List.getElem?_cons_succ, List.getElem?_cons_zero, Option.getD_some, Value.cells] at hw); (try simp (disch := first | (simp; done) | (simp; omega)) only [Sep.mid_set, Sep.mid_set2, Sep.mid_set0, Sep.mid_splice, Sep.mid_splice0, List.set_cons_zero, List.set_cons_succ] at hw); (try simp only [Sep.splice, List.take_succ_cons, List.take_zero, List.drop_succ_cons, List.drop_zero, List.length_cons, List.length_nil, Nat.reduceAdd, List.cons_append, List.nil_append] at hw); (try replace hc0 := Sep.Holds.cells hw (i := 0) rfl); (try replace hc1 := Sep.Holds.cells hw (i := 1) rfl); (try replace hc2 := Sep.Holds.cells hw (i := 2) rfl); (try replace hc3 := Sep.Holds.cells hw (i := 3) rfl); (try replace hc4 := Sep.Holds.cells hw (i := 4) rfl); (try replace hc5 := Sep.Holds.cells hw (i := 5) rfl); (try replace hc6 := Sep.Holds.cells hw (i := 6) rfl)))
    have hv0 : Holds e w_ (visL X bo bt bv p len cap a T.most T.l vs (.slice none 0 0) 0 []) := (hw.sel [0, 5, 4, 6, 1, 2, 3] (by decide)).addEmp (Sl.nil _ _ _)
    refine (visit_calls p len cap bo bt bv a T.most T.l vs (Sep.hid HT.out.1) hlen hvl hl2 (T.l.length - k) k (Sep.hid rfl) Hb _ 0 [] (Sep.hid rfl) (Sep.hid (by have := Hrl.out; rw [hlen.out] at this; omega)) e _ X hv0).mono ?_
    rintro _ w2 ⟨⟨r, rfl⟩, ov, hw_⟩
    clear hw hv0; (try clear hc0); (try clear hc1); (try clear hc2); (try clear hc3); (try clear hc4); (try clear hc5); (try clear hc6)
    have hw := hw_; clear hw_
    unfold visL at hw
    (try replace hc0 := Sep.Holds.cells hw (i := 0) rfl); (try replace hc1 := Sep.Holds.cells hw (i := 1) rfl); (try replace hc2 := Sep.Holds.cells hw (i := 2) rfl); (try replace hc3 := Sep.Holds.cells hw (i := 3) rfl); (try replace hc4 := Sep.Holds.cells hw (i := 4) rfl); (try replace hc5 := Sep.Holds.cells hw (i := 5) rfl); (try replace hc6 := Sep.Holds.cells hw (i := 6) rfl)
    go_wp2_with fail
    refine HP.out _ _ ⟨_, rfl, ?_⟩
    rw [Nat.zero_add, List.nil_append] at hw
    exact tree_close2 (Y := IsInts ov (reach T.l k)) hlen.out hvl.out (hw.sel [0, 4, 5, 6, 7] (by decide))
set_option maxHeartbeats 1600000 in
theorem cfNil (fv : Value) (w : World) :
    Calls Try.prog 34 #[.slice none 0 0, fv] w fun en w' => en = .returned (.bool false) ∧ w' = w := by
  refine Sep.calls_post ?_
  intro Post_ hPost_
  have HP := Sep.hid hPost_
  clear hPost_
  go_enter Try.func34, Try.ntmps34
  go_wp2_with fail
  have h : Calls Try.prog 36 #[.slice none 0 0, fv] w fun en w' => en = .returned (.int .i64 (-1)) ∧ w' = w := by
    clear HP
    refine Sep.calls_post ?_
    intro Post_ hPost_
    have HP := Sep.hid hPost_
    clear hPost_
    go_enter Try.func36, Try.ntmps36
    go_wp2_with fail
    refine wp_loop_rounds 1 ?_
    rw [rounds_succ]
    go_wp2_with fail
    exact HP.out _ _ ⟨rfl, rfl⟩
  refine h.mono ?_
  rintro _ w_ ⟨rfl, rfl⟩
  go_wp2_with fail
  exact HP.out _ _ ⟨rfl, rfl⟩
def cutF (p : Nat) : Value := .func (.func 15) #[.pointer (some ⟨p, 0, none⟩)] #[]
set_option maxHeartbeats 1600000 in
theorem upClo (p b4 len cap : Nat) (a : Option Addr) (l : List Nd) (n : Int) (hlen : Hid (l.length = len)) (w : World) (hp : w.cell? ⟨p, 0, none⟩ = some (.slice a len cap)) (hns : Hid (NodesAt w a l)) (hb4 : w.cell? ⟨b4, 0, none⟩ = some (.int .i64 n)) :
    Calls Try.prog 35 #[cutF p, .pointer (some ⟨b4, 0, none⟩)] w fun en w' => en = .returned (.bool (cutOf l n)) ∧ w' = w := by
  unfold cutF
  refine Sep.calls_post ?_
  intro Post_ hPost_
  have HP := Sep.hid hPost_
  clear hPost_
  go_enter Try.func35, Try.ntmps35
  go_wp2_with fail
  refine (tCut p len cap a l n hlen _ hp hns).mono ?_
  rintro _ w_ ⟨rfl, rfl⟩
  go_wp2_with fail
  exact HP.out _ _ ⟨rfl, rfl⟩
set_option maxHeartbeats 1600000 in
theorem ixCut (p b4 be len cap : Nat) (a : Option Addr) (l : List Nd) (n : Int) (hlen : Hid (l.length = len)) (w : World) (hp : w.cell? ⟨p, 0, none⟩ = some (.slice a len cap)) (hns : Hid (NodesAt w a l)) (hb4 : w.cell? ⟨b4, 0, none⟩ = some (.int .i64 n)) (hbe : w.cell? ⟨be, 0, none⟩ = some (cutF p)) :
    Calls Try.prog 36 #[.slice (some ⟨be, 0, none⟩) 1 1, .func (.func 35) #[] #[.pointer (some ⟨b4, 0, none⟩)]] w fun en w' => en = .returned (.int .i64 (if cutOf l n then 0 else -1)) ∧ w' = w := by
  have Hp := Sep.hid hp; have Hb4 := Sep.hid hb4
  refine Sep.calls_post ?_
  intro Post_ hPost_
  have HP := Sep.hid hPost_
  clear hPost_
  go_enter Try.func36, Try.ntmps36
  go_wp2_with fail
  refine wp_loop_rounds 2 ?_
  rw [rounds_succ]
  go_wp2_with fail
  refine (upClo p b4 len cap a l n hlen _ Hp.out hns Hb4.out).mono ?_
  rintro _ w_ ⟨rfl, rfl⟩
  cases hc : cutOf l n with
  | true =>
    rw [hc] at HP
    have HC := Sep.hid hc; clear hc
    go_wp2_with fail
    exact HP.out _ _ ⟨rfl, rfl⟩
  | false =>
    rw [hc] at HP
    have HC := Sep.hid hc; clear hc
    go_wp2_with fail
    rw [rounds_succ]
    go_wp2_with fail
    exact HP.out _ _ ⟨rfl, rfl⟩
set_option maxHeartbeats 1600000 in
theorem cfCut (p b4 be len cap : Nat) (a : Option Addr) (l : List Nd) (n : Int) (hlen : Hid (l.length = len)) (w : World) (hp : w.cell? ⟨p, 0, none⟩ = some (.slice a len cap)) (hns : Hid (NodesAt w a l)) (hb4 : w.cell? ⟨b4, 0, none⟩ = some (.int .i64 n)) (hbe : w.cell? ⟨be, 0, none⟩ = some (cutF p)) :
    Calls Try.prog 34 #[.slice (some ⟨be, 0, none⟩) 1 1, .func (.func 35) #[] #[.pointer (some ⟨b4, 0, none⟩)]] w fun en w' => en = .returned (.bool (cutOf l n)) ∧ w' = w := by
  refine Sep.calls_post ?_
  intro Post_ hPost_
  have HP := Sep.hid hPost_
  clear hPost_
  go_enter Try.func34, Try.ntmps34
  go_wp2_with fail
  refine (ixCut p b4 be len cap a l n hlen _ hp hns hb4 hbe).mono ?_
  rintro _ w_ ⟨rfl, rfl⟩
  cases hc : cutOf l n with
  | true =>
    rw [hc] at HP
    clear hc
    simp only [if_true]
    go_wp2_with fail
    exact HP.out _ _ ⟨rfl, rfl⟩
  | false =>
    rw [hc] at HP
    clear hc
    simp only [Bool.false_eq_true, if_false]
    go_wp2_with fail
    exact HP.out _ _ ⟨rfl, rfl⟩
end Go.Proofs.Ytlegkikglpogkaa
