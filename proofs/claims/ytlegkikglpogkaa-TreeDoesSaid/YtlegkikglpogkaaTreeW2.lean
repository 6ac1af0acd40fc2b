/-
  The program's tree: New, Kids, and how a node is put.
-/
import Derived.Test.YtlegkikglpogkaaTreeW
namespace Go.Proofs.Ytlegkikglpogkaa
set_option linter.unusedSimpArgs false
set_option linter.unusedVariables false
open Go.RowKit Go.Sep Go.TreeM

set_option maxHeartbeats 800000 in
theorem tClone (v : Value) (xs : List Int) (hxs : xs.length ≤ 1000000) (e w : World) (X : HProp) (hw : Holds e w [X, IsInts v xs]) :
    Calls Try.prog 30 #[v] w fun en w' => ∃ v', en = .returned v' ∧ Holds e w' [X, IsInts v xs, IsInts v' xs] := by
  rcases Holds.openSl (i := 1) hw rfl with ⟨rfl, h2, h3⟩ | ⟨b, cap, pre, post, rfl, _, _, _, _⟩
  · have hx : xs = [] := by
      have : xs.length = 0 := h2
      exact List.length_eq_zero_iff.1 this
    subst hx
    have qS : ∀ (w : World) (a : Option Addr) (n c : Nat), (binOp .eql 45 (.slice a n c) (.slice none 0 0)).run Try.prog w = .ok (.bool a.isNone) w := fun w a n c => Lib.run_eql_slice_nil (P := Try.prog) w _ _ a n c 0 0 Try.underlying45
    refine Sep.calls_post ?_
    intro Post_ hPost_
    have HP := Sep.hid hPost_
    clear hPost_
    go_enter Try.func30, Try.ntmps30
    go_wp2_with fail
    exact HP.out _ _ ⟨_, rfl, hw.addEmp (Sl.nil _ _ _)⟩
  · obtain ⟨n, hn⟩ : ∃ n, xs.length = n := ⟨_, rfl⟩
    have Hn := Sep.hid hn
    have hw : Holds e w [X, Sl 3 1 (.slice (some ⟨b, pre.length, none⟩) xs.length cap) xs.length (encI xs)] := hw
    rw [hn] at hw hxs ⊢
    clear hn
    have qS : ∀ (w : World) (a : Option Addr) (n c : Nat), (binOp .eql 45 (.slice a n c) (.slice none 0 0)).run Try.prog w = .ok (.bool a.isNone) w := fun w a n c => Lib.run_eql_slice_nil (P := Try.prog) w _ _ a n c 0 0 Try.underlying45
    refine Sep.calls_post ?_
    intro Post_ hPost_
    have HP := Sep.hid hPost_
    clear hPost_
    go_enter Try.func30, Try.ntmps30
    go_wp2_with (first | (refine wpList_on rfl (wp_bsl0 rfl hw ?_); intro b_ w_ hw_; replace hw_ := hw_.newSl (i := 2) rfl 1 0 rfl (by decide); clear hw; have hw := hw_; clear hw_; (try simp only [List.map_cons, List.map_nil, List.getD_cons_zero, List.getD_cons_succ, List.getD_nil, List.set_cons_zero, List.set_cons_succ, List.cons_append, List.nil_append, Act.eval, Array.getD_eq_getD_getElem?, List.getElem?_toArray, List.getElem?_cons_succ, List.getElem?_cons_zero, Option.getD_some, Value.cells] at hw); (try simp (disch := first | (simp; done) | (simp; omega)) only [Sep.mid_set, Sep.mid_set2, Sep.mid_set0, Sep.mid_splice, Sep.mid_splice0, List.set_cons_zero, List.set_cons_succ] at hw); (try simp only [Sep.splice, List.take_succ_cons, List.take_zero, List.drop_succ_cons, List.drop_zero, List.length_cons, List.length_nil, Nat.reduceAdd, List.cons_append, List.nil_append] at hw); (try replace hc0 := Sep.Holds.cells hw (i := 0) rfl); (try replace hc1 := Sep.Holds.cells hw (i := 1) rfl); (try replace hc2 := Sep.Holds.cells hw (i := 2) rfl); (try replace hc3 := Sep.Holds.cells hw (i := 3) rfl); (try replace hc4 := Sep.Holds.cells hw (i := 4) rfl); (try replace hc5 := Sep.Holds.cells hw (i := 5) rfl); (try replace hc6 := Sep.Holds.cells hw (i := 6) rfl)) | (at_builtin; refine wpList_on rfl (wp_appendSl (i := 2) (j := 1) (u := .slice (some ⟨b, pre.length, none⟩) n cap) rfl rfl hw rfl rfl rfl (by first | exact encI_one _ | simp [Value.oneCell']) (by rfl) (by (try unfold maxLen); omega) (by (try unfold maxLen); omega) ?_); intro a2_ cap2_ w_ hw_; (try simp only [Nat.zero_add, List.nil_append] at hw_); clear hw; have hw := hw_; clear hw_; (try simp only [List.map_cons, List.map_nil, List.getD_cons_zero, List.getD_cons_succ, List.getD_nil, List.set_cons_zero, List.set_cons_succ, List.cons_append, List.nil_append, Act.eval, Array.getD_eq_getD_getElem?, List.getElem?_toArray, List.getElem?_cons_succ, List.getElem?_cons_zero, Option.getD_some, Value.cells] at hw); (try simp (disch := first | (simp; done) | (simp; omega)) only [Sep.mid_set, Sep.mid_set2, Sep.mid_set0, Sep.mid_splice, Sep.mid_splice0, List.set_cons_zero, List.set_cons_succ] at hw); (try simp only [Sep.splice, List.take_succ_cons, List.take_zero, List.drop_succ_cons, List.drop_zero, List.length_cons, List.length_nil, Nat.reduceAdd, List.cons_append, List.nil_append] at hw); (try replace hc0 := Sep.Holds.cells hw (i := 0) rfl); (try replace hc1 := Sep.Holds.cells hw (i := 1) rfl); (try replace hc2 := Sep.Holds.cells hw (i := 2) rfl); (try replace hc3 := Sep.Holds.cells hw (i := 3) rfl); (try replace hc4 := Sep.Holds.cells hw (i := 4) rfl); (try replace hc5 := Sep.Holds.cells hw (i := 5) rfl); (try replace hc6 := Sep.Holds.cells hw (i := 6) rfl)))
    refine HP.out _ _ ⟨_, rfl, ?_⟩
    rw [← Hn.out] at hw
    unfold IsInts
    rw [Hn.out]
    rw [Hn.out] at hw
    exact hw
theorem kidsRow_end {l : List Nd} (hok : Ok l) (n : Nat) (hn : l.length ≤ n) : kidsRow l n = [] := by
  rw [List.eq_nil_iff_forall_not_mem]
  intro k hk
  obtain ⟨h1, h2⟩ := mem_kidsRow.1 hk
  have := hok.over_lt h1
  have := there_iff.1 h1
  omega
theorem tns_push_none {l : List Nd} (hok : Ok l) {x : Nd} (hx : x.over = -1) : tns (l ++ [x]) = tns l ++ [⟨x, []⟩] := by
  apply List.ext_getElem?
  intro i
  unfold tns
  rw [List.getElem?_mapIdx]
  by_cases hi : i < l.length
  · rw [List.getElem?_append_left hi, List.getElem?_append_left (by simpa using hi), List.getElem?_mapIdx]
    rw [kidsRow_push, hx, if_neg (by omega), List.append_nil]
  · rw [List.getElem?_append_right (by omega), List.getElem?_append_right (by simpa using hi), List.length_mapIdx]
    by_cases h0 : i = l.length
    · subst h0
      rw [Nat.sub_self]
      show some (TN.mk x _) = some (TN.mk x [])
      rw [kidsRow_push, hx, if_neg (by omega), List.append_nil, kidsRow_end hok _ (Nat.le_refl _)]
    · obtain ⟨j, hj⟩ : ∃ j, i - l.length = j + 1 := ⟨i - l.length - 1, by omega⟩
      rw [hj]; rfl
theorem tns_push_at {l : List Nd} (hok : Ok l) {x y : Nd} {k : Nat} (hx : x.over = (k : Int)) (hy : l[k]? = some y) : tns (l ++ [x]) = (tns l ++ [TN.mk x []]).set k (TN.mk y (kidsRow l k ++ [(l.length : Int)])) := by
  have hk := (List.getElem?_eq_some_iff.1 hy).1
  apply List.ext_getElem?
  intro i
  rw [List.getElem?_set]
  unfold tns
  rw [List.getElem?_mapIdx]
  by_cases hik : k = i
  · subst hik
    rw [if_pos rfl, if_pos (by simp; omega), List.getElem?_append_left hk, hy]
    show some (TN.mk y _) = some (TN.mk y _)
    rw [kidsRow_push, hx, if_pos rfl]
  · rw [if_neg hik]
    by_cases hi : i < l.length
    · rw [List.getElem?_append_left hi, List.getElem?_append_left (by simpa using hi), List.getElem?_mapIdx]
      rw [kidsRow_push, hx, if_neg (by omega), List.append_nil]
    · rw [List.getElem?_append_right (by omega), List.getElem?_append_right (by simpa using hi), List.length_mapIdx]
      by_cases h0 : i = l.length
      · subst h0
        rw [Nat.sub_self]
        show some (TN.mk x _) = some (TN.mk x [])
        rw [kidsRow_push, hx, if_neg (by omega), List.append_nil, kidsRow_end hok _ (Nat.le_refl _)]
      · obtain ⟨j, hj⟩ : ∃ j, i - l.length = j + 1 := ⟨i - l.length - 1, by omega⟩
        rw [hj]; rfl
set_option maxHeartbeats 800000 in
theorem tNew_ok (n : Int) (n1 : 1 ≤ n) (n2 : n ≤ 200) (e w : World) (X : HProp) (hw : Holds e w [X]) :
    Calls Try.prog 7 #[.int .i64 n] w fun en w' => ∃ p, en = .returned (.tuple #[.pointer (some ⟨p, 0, none⟩), .int .i64 0]) ∧ Holds e w' [X, IsTree p ⟨[], n⟩] := by
  refine Sep.calls_post ?_
  intro Post_ hPost_
  have HP := Sep.hid hPost_
  clear hPost_
  go_enter Try.func7, Try.ntmps7
  go_wp2_with (refine wpList_on rfl (wp_box rfl hw ?_); intro b_ w_ hw_; clear hw; have hw := hw_; clear hw_; (try simp only [List.map_cons, List.map_nil, List.getD_cons_zero, List.getD_cons_succ, List.getD_nil, List.set_cons_zero, List.set_cons_succ, List.cons_append, List.nil_append, Act.eval, Array.getD_eq_getD_getElem?, List.getElem?_toArray, List.getElem?_cons_succ, List.getElem?_cons_zero, Option.getD_some, Value.cells] at hw); (try simp (disch := first | (simp; done) | (simp; omega)) only [Sep.mid_set, Sep.mid_set2, Sep.mid_set0, Sep.mid_splice, Sep.mid_splice0, List.set_cons_zero, List.set_cons_succ] at hw); (try simp only [Sep.splice, List.take_succ_cons, List.take_zero, List.drop_succ_cons, List.drop_zero, List.length_cons, List.length_nil, Nat.reduceAdd, List.cons_append, List.nil_append] at hw); (try replace hc0 := Sep.Holds.cells hw (i := 0) rfl); (try replace hc1 := Sep.Holds.cells hw (i := 1) rfl); (try replace hc2 := Sep.Holds.cells hw (i := 2) rfl); (try replace hc3 := Sep.Holds.cells hw (i := 3) rfl); (try replace hc4 := Sep.Holds.cells hw (i := 4) rfl); (try replace hc5 := Sep.Holds.cells hw (i := 5) rfl); (try replace hc6 := Sep.Holds.cells hw (i := 6) rfl))
  refine HP.out _ _ ⟨_, rfl, ?_⟩
  have h1 := hw.addEmp (X := Sl 56 3 (.slice none 0 0) 0 (tabC encN [] [])) (Sl.nil _ _ _)
  have h2 := h1.addEmp (X := sepL (tabR rowN [] [])) (by exact ⟨fun _ _ => none, by simp [tabR], by simp, by simp⟩)
  exact exL.mk (f := treeParts _ ⟨[], n⟩) ⟨none, 0, []⟩ (h2.addFct (p := ([] : List Value).length = ([] : List Nd).length) rfl)
set_option maxHeartbeats 800000 in
theorem tNew_no (n : Int) (h : n < 1 ∨ 200 < n) (w : World) :
    Calls Try.prog 7 #[.int .i64 n] w fun en w' => en = .returned (.tuple #[.pointer none, .int .i64 1]) ∧ w' = w := by
  by_cases h1 : n < 1
  · clear h
    refine Sep.calls_post ?_
    intro Post_ hPost_
    have HP := Sep.hid hPost_
    clear hPost_
    go_enter Try.func7, Try.ntmps7
    go_wp2_with fail
    exact HP.out _ _ ⟨rfl, rfl⟩
  · have h2 : 200 < n := by omega
    clear h
    refine Sep.calls_post ?_
    intro Post_ hPost_
    have HP := Sep.hid hPost_
    clear hPost_
    go_enter Try.func7, Try.ntmps7
    go_wp2_with fail
    exact HP.out _ _ ⟨rfl, rfl⟩
set_option maxHeartbeats 1600000 in
theorem tKids (p : Nat) (T : Tree) (hT : T.Ok) (n : Int) (e w : World) (X : HProp) (hw : Holds e w [X, IsTree p T]) :
    Calls Try.prog 18 #[.pointer (some ⟨p, 0, none⟩), .int .i64 n] w fun en w' => ∃ v, en = .returned v ∧ Holds e w' [X, IsTree p T, IsInts v (kids T.l n)] := by
  have Hw0 := Sep.hid hw
  have HT := Sep.hid hT; clear hT
  obtain ⟨⟨a, cap, vs⟩, hw⟩ := exL.open_ hw
  have hw := hw.open_ 1 rfl
  (try simp only [List.map_cons, List.map_nil, List.getD_cons_zero, List.getD_cons_succ, List.getD_nil, List.set_cons_zero, List.set_cons_succ, List.cons_append, List.nil_append, Act.eval, Array.getD_eq_getD_getElem?, List.getElem?_toArray, List.getElem?_cons_succ, List.getElem?_cons_zero, Option.getD_some, Value.cells] at hw); (try simp (disch := first | (simp; done) | (simp; omega)) only [Sep.mid_set, Sep.mid_set2, Sep.mid_set0, Sep.mid_splice, Sep.mid_splice0, List.set_cons_zero, List.set_cons_succ] at hw); (try simp only [Sep.splice, List.take_succ_cons, List.take_zero, List.drop_succ_cons, List.drop_zero, List.length_cons, List.length_nil, Nat.reduceAdd, List.cons_append, List.nil_append] at hw)
  obtain ⟨len, hlen'⟩ : ∃ n, T.l.length = n := ⟨_, rfl⟩
  have hlen := Sep.hid hlen'
  have hvl := Sep.hid (Holds.fct (i := 4) rfl hw)
  rw [hlen'] at hw
  clear hlen'
  replace hw := hw.sel [0, 1, 2, 3] (by decide)
  (try simp only [List.map_cons, List.map_nil, List.getD_cons_zero, List.getD_cons_succ, List.getD_nil, List.set_cons_zero, List.set_cons_succ, List.cons_append, List.nil_append, Act.eval, Array.getD_eq_getD_getElem?, List.getElem?_toArray, List.getElem?_cons_succ, List.getElem?_cons_zero, Option.getD_some, Value.cells] at hw); (try simp (disch := first | (simp; done) | (simp; omega)) only [Sep.mid_set, Sep.mid_set2, Sep.mid_set0, Sep.mid_splice, Sep.mid_splice0, List.set_cons_zero, List.set_cons_succ] at hw); (try simp only [Sep.splice, List.take_succ_cons, List.take_zero, List.drop_succ_cons, List.drop_zero, List.length_cons, List.length_nil, Nat.reduceAdd, List.cons_append, List.nil_append] at hw)
  (try replace hc0 := Sep.Holds.cells hw (i := 0) rfl); (try replace hc1 := Sep.Holds.cells hw (i := 1) rfl); (try replace hc2 := Sep.Holds.cells hw (i := 2) rfl); (try replace hc3 := Sep.Holds.cells hw (i := 3) rfl); (try replace hc4 := Sep.Holds.cells hw (i := 4) rfl); (try replace hc5 := Sep.Holds.cells hw (i := 5) rfl); (try replace hc6 := Sep.Holds.cells hw (i := 6) rfl)
  cases hb : there T.l n with
  | false =>
    have hk : kids T.l n = [] := by unfold kids; rw [hb]; rfl
    rw [hk]
    have Hb := Sep.hid hb; clear hb hk
    refine Sep.calls_post ?_
    intro Post_ hPost_
    have HP := Sep.hid hPost_
    clear hPost_
    go_enter Try.func18, Try.ntmps18
    go_wp2_with fail
    refine (tThere p len cap a T.l n hlen _ (hc1 0)).mono ?_
    rintro _ w_ ⟨rfl, rfl⟩
    rw [Hb.out]
    go_wp2_with fail
    exact HP.out _ _ ⟨_, rfl, Hw0.out.addEmp (Sl.nil _ _ _)⟩
  | true =>
    obtain ⟨k, x, rfl, hk, hx, _⟩ := there_get hb
    have hkk : kids T.l k = kidsRow T.l k := by unfold kids; rw [hb]; rfl
    rw [hkk]
    rw [hlen.out] at hk
    have Hx := Sep.hid (tns_get hx)
    obtain ⟨v, hv, hr⟩ := tab_get (R := rowN) (by rw [hvl.out, tns_length]) Hx.out
    have Hv := Sep.hid hv; have Hr := Sep.hid hr
    obtain ⟨b, off, rfl, h0, h1, h2⟩ := node_at (i := 2) hw rfl hlen.out hvl.out hx hv
    have Hb := Sep.hid hb; clear hb hx hv hr hkk Hw0
    refine Sep.calls_post ?_
    intro Post_ hPost_
    have HP := Sep.hid hPost_
    clear hPost_
    go_enter Try.func18, Try.ntmps18
    go_wp2_with fail
    refine (tThere p len cap _ T.l k hlen _ (hc1 0)).mono ?_
    rintro _ w_ ⟨rfl, rfl⟩
    rw [Hb.out]
    go_wp2_with fail
    have hw := hw.pick 3 k rfl Hr.out
    have hw : Holds e w_ (_ ++ [IsInts v (kidsRow T.l k)]) := hw
    refine (tClone v (kidsRow T.l k) (Nat.le_trans (kidsRow_length _ _) (by rw [hlen.out]; have := HT.out.2; rw [hlen.out] at this; omega)) e _ _ (hw.focus1 4 rfl)).mono ?_
    rintro _ w2 ⟨v', rfl, hw_⟩
    clear hw; (try clear hc0); (try clear hc1); (try clear hc2); (try clear hc3); (try clear hc4); (try clear hc5); (try clear hc6); have hw := Holds.unfocus1 4 (by simp) hw_; clear hw_
    (try simp only [List.map_cons, List.map_nil, List.getD_cons_zero, List.getD_cons_succ, List.getD_nil, List.set_cons_zero, List.set_cons_succ, List.cons_append, List.nil_append, Act.eval, Array.getD_eq_getD_getElem?, List.getElem?_toArray, List.getElem?_cons_succ, List.getElem?_cons_zero, Option.getD_some, Value.cells] at hw); (try simp (disch := first | (simp; done) | (simp; omega)) only [Sep.mid_set, Sep.mid_set2, Sep.mid_set0, Sep.mid_splice, Sep.mid_splice0, List.set_cons_zero, List.set_cons_succ] at hw); (try simp only [Sep.splice, List.take_succ_cons, List.take_zero, List.drop_succ_cons, List.drop_zero, List.length_cons, List.length_nil, Nat.reduceAdd, List.cons_append, List.nil_append] at hw)
    go_wp2_with fail
    have hw := Holds.unpick (L := [X, pt p [.slice (some ⟨b, off, none⟩) len cap, .int .i64 T.most] 54, Sl 56 3 (.slice (some ⟨b, off, none⟩) len cap) len (tabC encN (tns T.l) vs), sepL ((tabR rowN (tns T.l) vs).set k emp), IsInts v' (kidsRow T.l k)]) (R := tabR rowN (tns T.l) vs) (B := IsInts v (kidsRow T.l k)) 3 k rfl (by rw [tabR_length (by rw [hvl.out, tns_length]), tns_length, hlen.out]; exact hk) (hw.sel [0, 1, 2, 3, 5, 4] (by decide))
    (try simp only [List.map_cons, List.map_nil, List.getD_cons_zero, List.getD_cons_succ, List.getD_nil, List.set_cons_zero, List.set_cons_succ, List.cons_append, List.nil_append, Act.eval, Array.getD_eq_getD_getElem?, List.getElem?_toArray, List.getElem?_cons_succ, List.getElem?_cons_zero, Option.getD_some, Value.cells] at hw); (try simp (disch := first | (simp; done) | (simp; omega)) only [Sep.mid_set, Sep.mid_set2, Sep.mid_set0, Sep.mid_splice, Sep.mid_splice0, List.set_cons_zero, List.set_cons_succ] at hw); (try simp only [Sep.splice, List.take_succ_cons, List.take_zero, List.drop_succ_cons, List.drop_zero, List.length_cons, List.length_nil, Nat.reduceAdd, List.cons_append, List.nil_append] at hw)
    have e1 : (tabR rowN (tns T.l) vs).set k (IsInts v (kidsRow T.l k)) = tabR rowN (tns T.l) vs := tabR_same Hx.out Hv.out
    rw [e1] at hw
    refine HP.out _ _ ⟨_, rfl, ?_⟩
    have h3 : Holds e w2 [sepL [X, IsInts v' (kidsRow T.l k)], pt p [.slice (some ⟨b, off, none⟩) len cap, .int .i64 T.most] 54, Sl 56 3 (.slice (some ⟨b, off, none⟩) len cap) len (tabC encN (tns T.l) vs), sepL (tabR rowN (tns T.l) vs)] := Holds.group [X, IsInts v' (kidsRow T.l k)] _ (hw.sel [0, 4, 1, 2, 3] (by decide))
    rw [← hlen.out] at h3
    have h4 : Holds e w2 [sepL [X, IsInts v' (kidsRow T.l k)], IsTree p T] := exL.mk (f := treeParts p T) ⟨some ⟨b, off, none⟩, cap, vs⟩ (h3.addFct hvl.out)
    exact (Holds.ungroup [X, IsInts v' (kidsRow T.l k)] _ h4).sel [0, 2, 1] (by decide)
end Go.Proofs.Ytlegkikglpogkaa
