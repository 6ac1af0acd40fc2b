/-
  The walks of a condition's loops over a function: told, Signal, Broadcast.
-/
import Derived.Test.YtcefnihhlbeebaaCondW
import Derived.Test.YtcefnihhlbeebaaSepRound
import Derived.WalkKit
import Derived.LoopIn
import Derived.BigFrameIn
import Derived.OwnWalkIn
namespace Go.Proofs.Ytcefnihhlbeebaa
set_option linter.unusedSimpArgs false
set_option linter.unusedVariables false
open Go.RowKit Go.Sep Go.RingM

theorem enters27 : ∀ args w, (callFunc 27 args).run Try.prog w = .ok (.enter 27 args) w := callFunc_run ⟨_, Try.func27, rfl, by kernel_rfl⟩
theorem takeNil (r n : Nat) (e w : World) (X : HProp) (hw : Holds e w [X, IsRows r n [[]]]) :
    Calls Try.prog 28 #[.pointer (some ⟨r, 0, none⟩), .int .i64 0] w fun en w' => en = .returned (.tuple #[.int .i64 (-1), .bool false]) ∧ Holds e w' [X, IsRows r n [[]]] :=
  wTake r n [[]] 0 (by simp) e w X hw
theorem takeCons (r n : Nat) (t : Int) (l : List Int) (e w : World) (X : HProp) (hw : Holds e w [X, IsRows r n [t :: l]]) :
    Calls Try.prog 28 #[.pointer (some ⟨r, 0, none⟩), .int .i64 0] w fun en w' => en = .returned (.tuple #[.int .i64 t, .bool true]) ∧ Holds e w' [X, IsRows r n [l]] :=
  wTake r n [t :: l] 0 (by simp) e w X hw
def isTold (p bx : Nat) (M : CM) (Xg : List Told → HProp) (l : List Told) (k : Nat) (e w : World) : Prop :=
  ∃ pre rest, l = pre ++ rest ∧ rest.length = k ∧ Holds e w [Xg pre, pt bx [.pointer (some ⟨p, 0, none⟩)] 24, IsCond p { M with w := rest }]
set_option maxHeartbeats 4000000 in
theorem told1_in (p bx l : Nat) (M : CM) (e : World) (Xg Xs : List Told → HProp)
    (hY : ∀ (pre : List Told) (x : Told) (C : HProp) (w : World), pre ++ [x] <+: M.w → Holds e w [C, Xg pre] → YieldAt Fence.wide 8 Try.prog l #[.agg #[.int .i64 x.1, .int .i64 x.2]] w fun en w' =>
      (en = .returned (.bool true) ∧ Holds e w' [C, Xg (pre ++ [x])]) ∨ (en = .returned (.bool false) ∧ Holds e w' [C, Xs (pre ++ [x])]))
    (w : World) (hw : Holds e w [Xg [], pt bx [.pointer (some ⟨p, 0, none⟩)] 24, IsCond p M]) :
    CallsIn Fence.wide 9 Try.prog 27 #[.func (.yield l) #[] #[], .pointer (some ⟨bx, 0, none⟩)] w fun en w' => (∃ v, en = .returned v) ∧
      (Holds e w' [Xg M.w, pt bx [.pointer (some ⟨p, 0, none⟩)] 24, IsCond p { M with w := [] }] ∨
        ∃ us x vs, M.w = us ++ x :: vs ∧ Holds e w' [Xs (us ++ [x]), pt bx [.pointer (some ⟨p, 0, none⟩)] 24, IsCond p { M with w := vs }]) := by
  have H0 : Hid (isTold p bx M Xg M.w M.w.length e w) := Sep.hid ⟨[], M.w, rfl, rfl, hw⟩
  clear hw
  refine Sep.callsIn_post ?_
  intro Post_ hPost_
  have HP := Sep.hid hPost_
  clear hPost_
  refine callsIn_of_wp Try.func27 rfl trivial ?_
  simp only [Try.ntmps27, List.size_toArray, List.length_cons, List.length_nil, Nat.reduceAdd, Nat.reduceSub, Array.replicate_succ, Array.replicate_zero, List.push_toArray, List.append_toArray, List.nil_append, List.cons_append]
  gi_wp2
  gi_loopw [3] (fun x wr => Hid (∃ k, isTold p bx M Xg M.w k e wr)) (fun _ wr => ghost (fun k w => isTold p bx M Xg M.w k e w) wr)
  case atStart => exact Sep.hid ⟨_, H0.out⟩
  case round =>
    clear H0
    obtain ⟨k, hk⟩ := hrel.out
    have Hle : Hid (∀ j w', isTold p bx M Xg M.w j e w' → ghost (fun k w => isTold p bx M Xg M.w k e w) w' ≤ j) := Sep.hid (fun j w' h => ghost_le (G := fun k w => isTold p bx M Xg M.w k e w) h)
    obtain ⟨pre, rest, hM, hlen, hw⟩ := ghost_spec (G := fun k w => isTold p bx M Xg M.w k e w) hk
    clear hrel hk
    have HM := Sep.hid hM; clear hM
    have Hlen := Sep.hid hlen; clear hlen
    obtain ⟨⟨r, b, ks⟩, hw⟩ := hw.open' (i := 2) rfl
    have hw := hw.open_ 2 rfl
    (try simp only [List.map_cons, List.map_nil, List.getD_cons_zero, List.getD_cons_succ, List.getD_nil, List.set_cons_zero, List.set_cons_succ, List.cons_append, List.nil_append, Act.eval, Array.getD_eq_getD_getElem?, List.getElem?_toArray, List.getElem?_cons_succ, List.getElem?_cons_zero, Option.getD_some, Value.cells] at hw); (try simp (disch := first | (simp; done) | (simp; omega)) only [Sep.mid_set, Sep.mid_set2, Sep.mid_set0, Sep.mid_splice, Sep.mid_splice0, List.set_cons_zero, List.set_cons_succ] at hw); (try simp only [Sep.splice, List.take_succ_cons, List.take_zero, List.drop_succ_cons, List.drop_zero, List.length_cons, List.length_nil, Nat.reduceAdd, List.cons_append, List.nil_append] at hw)
    have Hf := Sep.hid (Holds.fct (i := 5) rfl hw)
    replace hw := hw.sel [0, 1, 2, 3, 4] (by decide)
    (try simp only [List.map_cons, List.map_nil, List.getD_cons_zero, List.getD_cons_succ, List.getD_nil, List.set_cons_zero, List.set_cons_succ, List.cons_append, List.nil_append, Act.eval, Array.getD_eq_getD_getElem?, List.getElem?_toArray, List.getElem?_cons_succ, List.getElem?_cons_zero, Option.getD_some, Value.cells] at hw); (try simp (disch := first | (simp; done) | (simp; omega)) only [Sep.mid_set, Sep.mid_set2, Sep.mid_set0, Sep.mid_splice, Sep.mid_splice0, List.set_cons_zero, List.set_cons_succ] at hw); (try simp only [Sep.splice, List.take_succ_cons, List.take_zero, List.drop_succ_cons, List.drop_zero, List.length_cons, List.length_nil, Nat.reduceAdd, List.cons_append, List.nil_append] at hw)
    cases rest with
    | nil =>
      (try replace hc0 := Sep.Holds.cells hw (i := 0) rfl); (try replace hc1 := Sep.Holds.cells hw (i := 1) rfl); (try replace hc2 := Sep.Holds.cells hw (i := 2) rfl); (try replace hc3 := Sep.Holds.cells hw (i := 3) rfl); (try replace hc4 := Sep.Holds.cells hw (i := 4) rfl); (try replace hc5 := Sep.Holds.cells hw (i := 5) rfl); (try replace hc6 := Sep.Holds.cells hw (i := 6) rfl)
      gi_wp2_with fail
      refine ⟨trivial, ?_⟩
      refine (Wide.wide.calls (takeNil r M.n e _ _ (hw.focus1 3 rfl))).mono ?_
      rintro en_ w_ ⟨rfl, hw_⟩
      clear hw; (try clear hc0); (try clear hc1); (try clear hc2); (try clear hc3); (try clear hc4); (try clear hc5); (try clear hc6); have hw := Holds.unfocus1 3 (by simp) hw_; clear hw_
      (try simp only [List.map_cons, List.map_nil, List.getD_cons_zero, List.getD_cons_succ, List.getD_nil, List.set_cons_zero, List.set_cons_succ, List.cons_append, List.nil_append, Act.eval, Array.getD_eq_getD_getElem?, List.getElem?_toArray, List.getElem?_cons_succ, List.getElem?_cons_zero, Option.getD_some, Value.cells] at hw); (try simp (disch := first | (simp; done) | (simp; omega)) only [Sep.mid_set, Sep.mid_set2, Sep.mid_set0, Sep.mid_splice, Sep.mid_splice0, List.set_cons_zero, List.set_cons_succ] at hw); (try simp only [Sep.splice, List.take_succ_cons, List.take_zero, List.drop_succ_cons, List.drop_zero, List.length_cons, List.length_nil, Nat.reduceAdd, List.cons_append, List.nil_append] at hw)
      (try replace hc0 := Sep.Holds.cells hw (i := 0) rfl); (try replace hc1 := Sep.Holds.cells hw (i := 1) rfl); (try replace hc2 := Sep.Holds.cells hw (i := 2) rfl); (try replace hc3 := Sep.Holds.cells hw (i := 3) rfl); (try replace hc4 := Sep.Holds.cells hw (i := 4) rfl); (try replace hc5 := Sep.Holds.cells hw (i := 5) rfl); (try replace hc6 := Sep.Holds.cells hw (i := 6) rfl)
      gi_wp2_with fail
      refine ⟨fun _ _ => trivial, ?_⟩
      gi_wp2_with fail
      refine bodyPost_ret (results_none rfl _ _ _) rfl ?_
      refine HP.out _ _ ⟨⟨_, rfl⟩, .inl ?_⟩
      have e1 : M.w = pre := by rw [HM.out, List.append_nil]
      rw [e1]
      have h := Holds.group [Xg pre, pt bx [.pointer (some ⟨p, 0, none⟩)] 24] _ hw
      have h2 := exL.mk (f := condParts p { M with w := [] }) ⟨r, b, ks⟩ (h.addFct Hf.out)
      exact Holds.ungroup [Xg pre, pt bx [.pointer (some ⟨p, 0, none⟩)] 24] [_] h2
    | cons x rest =>
      obtain ⟨t, kk⟩ := x
      have hp := Hf.out.1.pos t (by simp [ts])
      obtain ⟨q, rfl⟩ : ∃ q : Nat, t = q := ⟨t.toNat, by omega⟩
      have hqn : q < M.n := by have := hp.2; simp only at this; omega
      have hlk := encI_get (Hf.out.2.2 ((q : Int), kk) (by simp))
      simp only [Int.toNat_natCast] at hlk
      clear hp
      (try replace hc0 := Sep.Holds.cells hw (i := 0) rfl); (try replace hc1 := Sep.Holds.cells hw (i := 1) rfl); (try replace hc2 := Sep.Holds.cells hw (i := 2) rfl); (try replace hc3 := Sep.Holds.cells hw (i := 3) rfl); (try replace hc4 := Sep.Holds.cells hw (i := 4) rfl); (try replace hc5 := Sep.Holds.cells hw (i := 5) rfl); (try replace hc6 := Sep.Holds.cells hw (i := 6) rfl)
      gi_wp2_with fail
      refine ⟨trivial, ?_⟩
      refine (Wide.wide.calls (takeCons r M.n (q : Int) (ts rest) e _ _ (hw.focus1 3 rfl))).mono ?_
      rintro en_ w_ ⟨rfl, hw_⟩
      clear hw; (try clear hc0); (try clear hc1); (try clear hc2); (try clear hc3); (try clear hc4); (try clear hc5); (try clear hc6); have hw := Holds.unfocus1 3 (by simp) hw_; clear hw_
      (try simp only [List.map_cons, List.map_nil, List.getD_cons_zero, List.getD_cons_succ, List.getD_nil, List.set_cons_zero, List.set_cons_succ, List.cons_append, List.nil_append, Act.eval, Array.getD_eq_getD_getElem?, List.getElem?_toArray, List.getElem?_cons_succ, List.getElem?_cons_zero, Option.getD_some, Value.cells] at hw); (try simp (disch := first | (simp; done) | (simp; omega)) only [Sep.mid_set, Sep.mid_set2, Sep.mid_set0, Sep.mid_splice, Sep.mid_splice0, List.set_cons_zero, List.set_cons_succ] at hw); (try simp only [Sep.splice, List.take_succ_cons, List.take_zero, List.drop_succ_cons, List.drop_zero, List.length_cons, List.length_nil, Nat.reduceAdd, List.cons_append, List.nil_append] at hw)
      obtain ⟨fn, tmps, assign, body, hy, hR⟩ := hY pre ((q : Int), kk) _ w_ ⟨rest, by rw [HM.out]; simp⟩ (hw.focus1 0 rfl)
      have Hf2 : Hid (CM.Ok { M with w := rest } ∧ ks.length = M.n ∧ ∀ y ∈ rest, ks[y.1.toNat]? = some y.2) := Sep.hid ⟨ok_sub Hf.out.1 (List.sublist_cons_self _ _), Hf.out.2.1, fun y hy => Hf.out.2.2 y (List.mem_cons_of_mem _ hy)⟩
      (try replace hc0 := Sep.Holds.cells hw (i := 0) rfl); (try replace hc1 := Sep.Holds.cells hw (i := 1) rfl); (try replace hc2 := Sep.Holds.cells hw (i := 2) rfl); (try replace hc3 := Sep.Holds.cells hw (i := 3) rfl); (try replace hc4 := Sep.Holds.cells hw (i := 4) rfl); (try replace hc5 := Sep.Holds.cells hw (i := 5) rfl); (try replace hc6 := Sep.Holds.cells hw (i := 6) rfl)
      gi_wp2_with fail
      refine hR.mono ?_
      rintro en_ w3 (⟨rfl, hw_⟩ | ⟨rfl, hw_⟩)
      · clear hw; (try clear hc0); (try clear hc1); (try clear hc2); (try clear hc3); (try clear hc4); (try clear hc5); (try clear hc6); have hw := Holds.unfocus1 0 (by simp) hw_; clear hw_
        (try simp only [List.map_cons, List.map_nil, List.getD_cons_zero, List.getD_cons_succ, List.getD_nil, List.set_cons_zero, List.set_cons_succ, List.cons_append, List.nil_append, Act.eval, Array.getD_eq_getD_getElem?, List.getElem?_toArray, List.getElem?_cons_succ, List.getElem?_cons_zero, Option.getD_some, Value.cells] at hw); (try simp (disch := first | (simp; done) | (simp; omega)) only [Sep.mid_set, Sep.mid_set2, Sep.mid_set0, Sep.mid_splice, Sep.mid_splice0, List.set_cons_zero, List.set_cons_succ] at hw); (try simp only [Sep.splice, List.take_succ_cons, List.take_zero, List.drop_succ_cons, List.drop_zero, List.length_cons, List.length_nil, Nat.reduceAdd, List.cons_append, List.nil_append] at hw)
        have hw3 : Holds e w3 [Xg (pre ++ [((q : Int), kk)]), pt bx [.pointer (some ⟨p, 0, none⟩)] 24, IsCond p { M with w := rest }] := by
          have h := Holds.group [Xg (pre ++ [((q : Int), kk)]), pt bx [.pointer (some ⟨p, 0, none⟩)] 24] _ hw
          have h2 := exL.mk (f := condParts p { M with w := rest }) ⟨r, b, ks⟩ (h.addFct Hf2.out)
          exact Holds.ungroup [Xg (pre ++ [((q : Int), kk)]), pt bx [.pointer (some ⟨p, 0, none⟩)] 24] [_] h2
        have hg : isTold p bx M Xg M.w rest.length e w3 := ⟨pre ++ [((q : Int), kk)], rest, by rw [HM.out]; simp, rfl, hw3⟩
        have Hg := Sep.hid hg; clear hg hw3
        gi_wp2_with fail
        go_roundw
        case rel => exact Sep.hid ⟨_, Hg.out⟩
        case measure =>
          have h1 := Hle.out _ _ Hg.out
          have h2 := Hlen.out
          simp only [List.length_cons] at h2
          omega
      · clear hw; (try clear hc0); (try clear hc1); (try clear hc2); (try clear hc3); (try clear hc4); (try clear hc5); (try clear hc6); have hw := Holds.unfocus1 0 (by simp) hw_; clear hw_
        (try simp only [List.map_cons, List.map_nil, List.getD_cons_zero, List.getD_cons_succ, List.getD_nil, List.set_cons_zero, List.set_cons_succ, List.cons_append, List.nil_append, Act.eval, Array.getD_eq_getD_getElem?, List.getElem?_toArray, List.getElem?_cons_succ, List.getElem?_cons_zero, Option.getD_some, Value.cells] at hw); (try simp (disch := first | (simp; done) | (simp; omega)) only [Sep.mid_set, Sep.mid_set2, Sep.mid_set0, Sep.mid_splice, Sep.mid_splice0, List.set_cons_zero, List.set_cons_succ] at hw); (try simp only [Sep.splice, List.take_succ_cons, List.take_zero, List.drop_succ_cons, List.drop_zero, List.length_cons, List.length_nil, Nat.reduceAdd, List.cons_append, List.nil_append] at hw)
        gi_wp2_with fail
        refine bodyPost_ret (results_none rfl _ _ _) rfl ?_
        refine HP.out _ _ ⟨⟨_, rfl⟩, .inr ⟨pre, ((q : Int), kk), rest, HM.out, ?_⟩⟩
        have h := Holds.group [Xs (pre ++ [((q : Int), kk)]), pt bx [.pointer (some ⟨p, 0, none⟩)] 24] _ hw
        have h2 := exL.mk (f := condParts p { M with w := rest }) ⟨r, b, ks⟩ (h.addFct Hf2.out)
        exact Holds.ungroup [Xs (pre ++ [((q : Int), kk)]), pt bx [.pointer (some ⟨p, 0, none⟩)] 24] [_] h2
end Go.Proofs.Ytcefnihhlbeebaa
