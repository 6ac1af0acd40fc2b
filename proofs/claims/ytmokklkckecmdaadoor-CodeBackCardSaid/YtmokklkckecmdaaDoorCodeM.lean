/-
  The walks of May, the program's and the document's, over instructions that are read.
-/
import Derived.Test.YtmokklkckecmdaaDoorCodeS
namespace Go.Proofs.YtmokklkckecmdaaDoor
set_option linter.unusedSimpArgs false
set_option linter.unusedVariables false
open Go.RowKit Go.Sep

/-- Instructions that can be read. -/
def ReadsA (w : World) (a : Option Addr) (l : List Deed) : Prop := ∀ (k : Nat) (x : Deed), l[k]? = some x → ∃ p : Addr, a = some p ∧ ∀ (j : Nat) (c : Value), (encA x)[j]? = some c → w.cell? ((p.add (k * 4)).add j) = some c
def RdA (e : World) (X : HProp) (a : Option Addr) (l : List Deed) : Prop := ∀ (w : World) (L : List HProp) (i : Nat), Holds e w L → L[i]? = some X → ReadsA w a l
theorem Tops.sep {e : World} {A : HProp} {M : List HProp} (h : Tops e A) : Tops e (sepL (A :: M)) := by
  intro w L i hw hi
  have hil := (List.getElem?_eq_some_iff.1 hi).1
  exact h w _ i (hw.open_ i hi) (by rw [List.getElem?_append_left (by simpa using hil), List.getElem?_set_self hil])
theorem RdA.sep {e : World} {A : HProp} {M : List HProp} {a : Option Addr} {l : List Deed} (h : RdA e A a l) : RdA e (sepL (A :: M)) a l := by
  intro w L i hw hi
  have hil := (List.getElem?_eq_some_iff.1 hi).1
  exact h w _ i (hw.open_ i hi) (by rw [List.getElem?_append_left (by simpa using hil), List.getElem?_set_self hil])
def badP (l : List Deed) (n : Int) : Bool := l.any (fun x => !rightP x n)
theorem take_bad {l : List Deed} {k : Nat} {x : Deed} {n : Int} (h : badP (l.take k) n = false) (hx : l[k]? = some x) (hr : rightP x n = true) : badP (l.take (k + 1)) n = false := by
  unfold badP at h ⊢
  rw [List.take_add_one, hx]
  simp only [Option.toList_some, List.any_append, h, List.any_cons, List.any_nil, hr]; rfl
theorem bad_at {l : List Deed} {k : Nat} {x : Deed} {n : Int} (hx : l[k]? = some x) (hr : rightP x n = false) : badP l n = true := by
  unfold badP
  rw [List.any_eq_true]
  exact ⟨x, List.mem_of_getElem? hx, by rw [hr]; rfl⟩
set_option maxHeartbeats 4000000 in
theorem oMay1 (x : Deed) (bx n ca : Nat) (a : Option Addr) (e w : World) (X : HProp) (hT : Tops e X) (hw : Holds e w [X, pt bx [.slice a n ca] 24]) :
    Calls Tryd.prog 28 #[.agg (encA x).toArray, .pointer (some ⟨bx, 0, none⟩)] w fun en w' => en = .returned (.bool (!rightP x n)) ∧ Holds e w' [X, pt bx [.slice a n ca] 24] := by
  have hA : encA x = [.int .i64 x.f0, .int .i64 x.f1, .int .i64 x.f2, .int .i64 x.f3] := rfl
  rw [hA]; clear hA
  have HT := Sep.hid hT; clear hT
  refine Sep.calls_post ?_
  intro Post_ hPost_
  have HP := Sep.hid hPost_
  clear hPost_
  go_enter Tryd.func28, Tryd.ntmps28
  go_wp2_with (first | (refine wpList_on rfl (wp_box rfl hw ?_); intro b_ w_ hw_; clear hw; have hw := hw_; clear hw_; (try simp only [List.map_cons, List.map_nil, List.getD_cons_zero, List.getD_cons_succ, List.getD_nil, List.set_cons_zero, List.set_cons_succ, List.cons_append, List.nil_append, Act.eval, Array.getD_eq_getD_getElem?, List.getElem?_toArray, List.getElem?_cons_succ, List.getElem?_cons_zero, Option.getD_some, Value.cells] at hw); (try simp (disch := first | (simp; done) | (simp; omega)) only [Sep.mid_set, Sep.mid_set2, Sep.mid_set0, Sep.mid_splice, Sep.mid_splice0, List.set_cons_zero, List.set_cons_succ] at hw); (try simp only [Sep.splice, List.take_succ_cons, List.take_zero, List.drop_succ_cons, List.drop_zero, List.length_cons, List.length_nil, Nat.reduceAdd, List.cons_append, List.nil_append] at hw); (try replace hc0 := Sep.Holds.cells hw (i := 0) rfl); (try replace hc1 := Sep.Holds.cells hw (i := 1) rfl); (try replace hc2 := Sep.Holds.cells hw (i := 2) rfl); (try replace hc3 := Sep.Holds.cells hw (i := 3) rfl); (try replace hc4 := Sep.Holds.cells hw (i := 4) rfl); (try replace hc5 := Sep.Holds.cells hw (i := 5) rfl); (try replace hc6 := Sep.Holds.cells hw (i := 6) rfl)))
  refine (oRight x n e _ _ HT.out.sep hw.focus0).mono ?_
  rintro _ w_ ⟨rfl, hw_⟩
  clear hw; (try clear hc0); (try clear hc1); (try clear hc2); (try clear hc3); (try clear hc4); (try clear hc5); (try clear hc6); have hw := Holds.unfocus0 hw_; clear hw_
  (try simp only [List.map_cons, List.map_nil, List.getD_cons_zero, List.getD_cons_succ, List.getD_nil, List.set_cons_zero, List.set_cons_succ, List.cons_append, List.nil_append, Act.eval, Array.getD_eq_getD_getElem?, List.getElem?_toArray, List.getElem?_cons_succ, List.getElem?_cons_zero, Option.getD_some, Value.cells] at hw); (try simp (disch := first | (simp; done) | (simp; omega)) only [Sep.mid_set, Sep.mid_set2, Sep.mid_set0, Sep.mid_splice, Sep.mid_splice0, List.set_cons_zero, List.set_cons_succ] at hw); (try simp only [Sep.splice, List.take_succ_cons, List.take_zero, List.drop_succ_cons, List.drop_zero, List.length_cons, List.length_nil, Nat.reduceAdd, List.cons_append, List.nil_append] at hw)
  go_wp2_with fail
  exact HP.out _ _ ⟨rfl, hw.sel [0, 1] (by decide)⟩
set_option maxHeartbeats 4000000 in
theorem oIndex (l : List Deed) (n ca bx : Nat) (a : Option Addr) (hn : Hid (l.length = n)) (hn2 : n ≤ 1000000) (e w : World) (X : HProp) (hT : Tops e X) (hR : RdA e X a l) (hw : Holds e w [X, pt bx [.slice a n ca] 24]) :
    Calls Tryd.prog 32 #[.slice a n ca, .func (.func 28) #[] #[.pointer (some ⟨bx, 0, none⟩)]] w fun en w' => (∃ k : Int, en = .returned (.int .i64 k) ∧ decide (0 ≤ k) = badP l n) ∧ Holds e w' [X, pt bx [.slice a n ca] 24] := by
  have HT := Sep.hid hT; clear hT
  have HR := Sep.hid hR; clear hR
  refine Sep.calls_post ?_
  intro Post_ hPost_
  have HP := Sep.hid hPost_
  clear hPost_
  go_enter Tryd.func32, Tryd.ntmps32
  go_wp2_with fail
  have Hw0 := Sep.hid hw; clear hw; (try clear hc0); (try clear hc1); (try clear hc2); (try clear hc3); (try clear hc4); (try clear hc5); (try clear hc6)
  go_loopw [8] (fun i wr => ∃ k : Nat, k ≤ n ∧ i = .int .i64 k ∧ Hid (badP (l.take k) n = false) ∧ Holds e wr [X, pt bx [.slice a n ca] 24]) (fun i _ => n - (intOf i).toNat)
  case atStart => exact ⟨0, Nat.zero_le _, rfl, Sep.hid (by simp [badP]), Hw0.out⟩
  case round =>
    clear Hw0
    obtain ⟨k, hk, rfl, Hno, hw⟩ := hrel
    by_cases hlt : k < n
    · obtain ⟨x, hx⟩ : ∃ x, l[k]? = some x := ⟨_, List.getElem?_eq_getElem (by rw [hn.out]; exact hlt)⟩
      obtain ⟨p, rfl, hc⟩ := HR.out _ _ 0 hw rfl k x hx
      have Hc := Sep.hid hc; clear hc
      have Hx := Sep.hid hx; clear hx
      go_wp2_with (first | (refine wpList_on rfl (wp_of_run (run_loadAd (vs := encA x) rfl rfl rfl Hc.out) ?_); (try simp only [Act.put, List.setIfInBounds_toArray, List.set_cons_zero, List.set_cons_succ])))
      refine (oMay1 x bx n ca _ e _ X HT.out hw).mono ?_
      rintro _ w_ ⟨rfl, hw_⟩
      clear hw; (try clear hc0); (try clear hc1); (try clear hc2); (try clear hc3); (try clear hc4); (try clear hc5); (try clear hc6); have hw := hw_; clear hw_
      cases hr : rightP x n with
      | true =>
        have Hr := Sep.hid hr; clear hr
        go_wp2_with fail
        go_roundw
        case rel => exact ⟨k + 1, by omega, by go_num, Sep.hid (take_bad Hno.out Hx.out Hr.out), hw⟩
        case measure => simp [intOf]; omega
      | false =>
        have Hr := Sep.hid hr; clear hr
        go_wp2_with fail
        exact HP.out _ _ ⟨⟨_, rfl, by rw [bad_at Hx.out Hr.out]; simp⟩, hw⟩
    · have hke : n = k := by omega
      subst hke
      have Hb : Hid (badP l n = false) := Sep.hid (by have h := Hno.out; rwa [List.take_of_length_le (by rw [hn.out]; omega)] at h)
      go_wp2_with fail
      exact HP.out _ _ ⟨⟨_, rfl, by rw [Hb.out]; decide⟩, hw⟩
set_option maxHeartbeats 4000000 in
theorem oContains (l : List Deed) (n ca bx : Nat) (a : Option Addr) (hn : Hid (l.length = n)) (hn2 : n ≤ 1000000) (e w : World) (X : HProp) (hT : Tops e X) (hR : RdA e X a l) (hw : Holds e w [X, pt bx [.slice a n ca] 24]) :
    Calls Tryd.prog 27 #[.slice a n ca, .func (.func 28) #[] #[.pointer (some ⟨bx, 0, none⟩)]] w fun en w' => en = .returned (.bool (badP l n)) ∧ Holds e w' [X, pt bx [.slice a n ca] 24] := by
  refine Sep.calls_post ?_
  intro Post_ hPost_
  have HP := Sep.hid hPost_
  clear hPost_
  go_enter Tryd.func27, Tryd.ntmps27
  go_wp2_with fail
  refine (oIndex l n ca bx a hn hn2 e _ X hT hR hw).mono ?_
  rintro _ w_ ⟨⟨k, rfl, hk⟩, hw_⟩
  have Hk := Sep.hid hk; clear hk
  go_wp2_with fail
  exact HP.out _ _ ⟨by rw [← Hk.out]; rfl, hw_⟩
theorem may_bad (l : List Deed) : mayP l = (decide (1 ≤ l.length ∧ l.length ≤ 24) && !badP l l.length) := by
  unfold mayP badP
  rw [List.not_any_eq_all_not]
  simp
set_option maxHeartbeats 4000000 in
theorem oMay (l : List Deed) (n ca : Nat) (a : Option Addr) (hn : Hid (l.length = n)) (e w : World) (X : HProp) (hT : Tops e X) (hR : RdA e X a l) (hw : Holds e w [X]) :
    Calls Tryd.prog 16 #[.slice a n ca] w fun en w' => en = .returned (.bool (mayP l)) ∧ Holds e w' [X] := by
  have HT := Sep.hid hT; clear hT
  have HR := Sep.hid hR; clear hR
  have hmf : ∀ (fn : Fn) (first cap : Array Value) (w : World), (Instr.makeFunc fn first cap).run Tryd.prog w = .ok (.func fn first cap) w := fun _ _ _ _ => rfl
  have Hb : Hid (mayP l = (decide (1 ≤ n ∧ n ≤ 24) && !badP l n)) := Sep.hid (by rw [may_bad, hn.out])
  by_cases h1 : (1 : Int) ≤ n
  · by_cases h2 : (n : Int) ≤ 24
    · refine Sep.calls_post ?_
      intro Post_ hPost_
      have HP := Sep.hid hPost_
      clear hPost_
      go_enter Tryd.func16, Tryd.ntmps16
      go_wp2_with (first | (refine wpList_on rfl (wp_box rfl hw ?_); intro bx_ w_ hw_; clear hw; have hw := hw_; clear hw_; (try simp only [List.map_cons, List.map_nil, List.getD_cons_zero, List.getD_cons_succ, List.getD_nil, List.set_cons_zero, List.set_cons_succ, List.cons_append, List.nil_append, Act.eval, Array.getD_eq_getD_getElem?, List.getElem?_toArray, List.getElem?_cons_succ, List.getElem?_cons_zero, Option.getD_some, Value.cells] at hw); (try simp (disch := first | (simp; done) | (simp; omega)) only [Sep.mid_set, Sep.mid_set2, Sep.mid_set0, Sep.mid_splice, Sep.mid_splice0, List.set_cons_zero, List.set_cons_succ] at hw); (try simp only [Sep.splice, List.take_succ_cons, List.take_zero, List.drop_succ_cons, List.drop_zero, List.length_cons, List.length_nil, Nat.reduceAdd, List.cons_append, List.nil_append] at hw); (try replace hc0 := Sep.Holds.cells hw (i := 0) rfl); (try replace hc1 := Sep.Holds.cells hw (i := 1) rfl); (try replace hc2 := Sep.Holds.cells hw (i := 2) rfl); (try replace hc3 := Sep.Holds.cells hw (i := 3) rfl); (try replace hc4 := Sep.Holds.cells hw (i := 4) rfl); (try replace hc5 := Sep.Holds.cells hw (i := 5) rfl); (try replace hc6 := Sep.Holds.cells hw (i := 6) rfl)))
      refine (oContains l n ca bx_ a hn (by omega) e _ X HT.out HR.out hw).mono ?_
      rintro _ w_ ⟨rfl, hw_⟩
      clear hw; (try clear hc0); (try clear hc1); (try clear hc2); (try clear hc3); (try clear hc4); (try clear hc5); (try clear hc6); have hw := hw_; clear hw_
      go_wp2_with fail
      exact HP.out _ _ ⟨by rw [Hb.out, decide_eq_true (by omega)]; rfl, hw.sel [0] (by decide)⟩
    · refine Sep.calls_post ?_
      intro Post_ hPost_
      have HP := Sep.hid hPost_
      clear hPost_
      go_enter Tryd.func16, Tryd.ntmps16
      go_wp2_with (first | (refine wpList_on rfl (wp_box rfl hw ?_); intro bx_ w_ hw_; clear hw; have hw := hw_; clear hw_; (try simp only [List.map_cons, List.map_nil, List.getD_cons_zero, List.getD_cons_succ, List.getD_nil, List.set_cons_zero, List.set_cons_succ, List.cons_append, List.nil_append, Act.eval, Array.getD_eq_getD_getElem?, List.getElem?_toArray, List.getElem?_cons_succ, List.getElem?_cons_zero, Option.getD_some, Value.cells] at hw); (try simp (disch := first | (simp; done) | (simp; omega)) only [Sep.mid_set, Sep.mid_set2, Sep.mid_set0, Sep.mid_splice, Sep.mid_splice0, List.set_cons_zero, List.set_cons_succ] at hw); (try simp only [Sep.splice, List.take_succ_cons, List.take_zero, List.drop_succ_cons, List.drop_zero, List.length_cons, List.length_nil, Nat.reduceAdd, List.cons_append, List.nil_append] at hw); (try replace hc0 := Sep.Holds.cells hw (i := 0) rfl); (try replace hc1 := Sep.Holds.cells hw (i := 1) rfl); (try replace hc2 := Sep.Holds.cells hw (i := 2) rfl); (try replace hc3 := Sep.Holds.cells hw (i := 3) rfl); (try replace hc4 := Sep.Holds.cells hw (i := 4) rfl); (try replace hc5 := Sep.Holds.cells hw (i := 5) rfl); (try replace hc6 := Sep.Holds.cells hw (i := 6) rfl)))
      exact HP.out _ _ ⟨by rw [Hb.out, decide_eq_false (by omega)]; rfl, hw.sel [0] (by decide)⟩
  · refine Sep.calls_post ?_
    intro Post_ hPost_
    have HP := Sep.hid hPost_
    clear hPost_
    go_enter Tryd.func16, Tryd.ntmps16
    go_wp2_with (first | (refine wpList_on rfl (wp_box rfl hw ?_); intro bx_ w_ hw_; clear hw; have hw := hw_; clear hw_; (try simp only [List.map_cons, List.map_nil, List.getD_cons_zero, List.getD_cons_succ, List.getD_nil, List.set_cons_zero, List.set_cons_succ, List.cons_append, List.nil_append, Act.eval, Array.getD_eq_getD_getElem?, List.getElem?_toArray, List.getElem?_cons_succ, List.getElem?_cons_zero, Option.getD_some, Value.cells] at hw); (try simp (disch := first | (simp; done) | (simp; omega)) only [Sep.mid_set, Sep.mid_set2, Sep.mid_set0, Sep.mid_splice, Sep.mid_splice0, List.set_cons_zero, List.set_cons_succ] at hw); (try simp only [Sep.splice, List.take_succ_cons, List.take_zero, List.drop_succ_cons, List.drop_zero, List.length_cons, List.length_nil, Nat.reduceAdd, List.cons_append, List.nil_append] at hw); (try replace hc0 := Sep.Holds.cells hw (i := 0) rfl); (try replace hc1 := Sep.Holds.cells hw (i := 1) rfl); (try replace hc2 := Sep.Holds.cells hw (i := 2) rfl); (try replace hc3 := Sep.Holds.cells hw (i := 3) rfl); (try replace hc4 := Sep.Holds.cells hw (i := 4) rfl); (try replace hc5 := Sep.Holds.cells hw (i := 5) rfl); (try replace hc6 := Sep.Holds.cells hw (i := 6) rfl)))
    exact HP.out _ _ ⟨by rw [Hb.out, decide_eq_false (by omega)]; rfl, hw.sel [0] (by decide)⟩
set_option maxHeartbeats 4000000 in
theorem rMay (l : List Deed) (n ca : Nat) (a : Option Addr) (hn : Hid (l.length = n)) (hn2 : n ≤ 1000000) (e w : World) (X : HProp) (hR : RdA e X a l) (hw : Holds e w [X]) :
    Calls Tryd.prog 17 #[.slice a n ca] w fun en w' => en = .returned (.bool (mayP l)) ∧ Holds e w' [X] := by
  have HR := Sep.hid hR; clear hR
  have Hb : Hid (mayP l = (decide (1 ≤ n ∧ n ≤ 24) && !badP l n)) := Sep.hid (by rw [may_bad, hn.out])
  refine Sep.calls_post ?_
  intro Post_ hPost_
  have HP := Sep.hid hPost_
  clear hPost_
  go_enter Tryd.func17, Tryd.ntmps17
  go_wp2_with fail
  have Hw0 := Sep.hid hw; clear hw; (try clear hc0); (try clear hc1); (try clear hc2); (try clear hc3); (try clear hc4); (try clear hc5); (try clear hc6)
  go_loopw [3] (fun i wr => ∃ k : Nat, k ≤ n ∧ i = .int .i64 k ∧ Hid (badP (l.take k) n = false) ∧ Holds e wr [X]) (fun i _ => n - (intOf i).toNat)
  case atStart => exact ⟨0, Nat.zero_le _, rfl, Sep.hid (by simp [badP]), Hw0.out⟩
  case round =>
    clear Hw0
    obtain ⟨k, hk, rfl, Hno, hw⟩ := hrel
    by_cases hlt : k < n
    · obtain ⟨x, hx⟩ : ∃ x, l[k]? = some x := ⟨_, List.getElem?_eq_getElem (by rw [hn.out]; exact hlt)⟩
      obtain ⟨p, rfl, hc⟩ := HR.out _ _ 0 hw rfl k x hx
      have Hc := Sep.hid hc; clear hc
      have Hx := Sep.hid hx; clear hx
      go_wp2_with (first | (refine wpList_on rfl (wp_of_run (run_loadAd (vs := encA x) rfl rfl rfl Hc.out) ?_); (try simp only [Act.put, List.setIfInBounds_toArray, List.set_cons_zero, List.set_cons_succ])))
      refine (rRight x n e _ X hw).mono ?_
      rintro _ w_ ⟨rfl, hw_⟩
      clear hw; (try clear hc0); (try clear hc1); (try clear hc2); (try clear hc3); (try clear hc4); (try clear hc5); (try clear hc6); have hw := hw_; clear hw_
      cases hr : rightP x n with
      | true =>
        have Hr := Sep.hid hr; clear hr
        go_wp2_with fail
        go_roundw
        case rel => exact ⟨k + 1, by omega, by go_num, Sep.hid (take_bad Hno.out Hx.out Hr.out), hw⟩
        case measure => simp [intOf]; omega
      | false =>
        have Hr := Sep.hid hr; clear hr
        go_wp2_with fail
        exact HP.out _ _ ⟨by rw [Hb.out, bad_at Hx.out Hr.out]; simp, hw⟩
    · have hke : n = k := by omega
      subst hke
      have Hb2 : Hid (badP l n = false) := Sep.hid (by have h := Hno.out; rwa [List.take_of_length_le (by rw [hn.out]; omega)] at h)
      have Hb3 : Hid (mayP l = decide (1 ≤ n ∧ n ≤ 24)) := Sep.hid (by rw [Hb.out, Hb2.out]; simp)
      by_cases h1 : (1 : Int) ≤ n
      · go_wp2_with fail
        have e1 : decide (1 ≤ n ∧ n ≤ 24) = decide (n ≤ 24) := by
          have : 1 ≤ n := by omega
          simp [this]
        exact HP.out _ _ ⟨by rw [Hb3.out, e1]; first | rfl | (simp; omega), hw⟩
      · go_wp2_with fail
        exact HP.out _ _ ⟨by rw [Hb3.out, decide_eq_false (by omega)], hw⟩
end Go.Proofs.YtmokklkckecmdaaDoor
