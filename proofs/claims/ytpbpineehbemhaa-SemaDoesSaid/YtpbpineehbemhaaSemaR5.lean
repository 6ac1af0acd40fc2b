/-
  The walks of the document's own methods of a semaphore: Acquire, Release, Leave, told by the model.
-/
import Derived.Test.YtpbpineehbemhaaSemaR4
namespace Go.Proofs.Ytpbpineehbemhaa
set_option linter.unusedSimpArgs false
set_option linter.unusedVariables false
open Go.RowKit Go.Sep Go.RingM

theorem wn_len (M : SM) : M.wn.length = M.w.length := by unfold SM.wn; exact List.length_map _
theorem dn_len (M : SM) : M.dn.length = M.d.length := by unfold SM.dn; exact List.length_map _
theorem wn_le {M : SM} (h : M.Ok) : ∀ x ∈ M.wn, x ≤ 9223372036854775807 := by
  intro x hx
  unfold SM.wn at hx
  obtain ⟨t, _, rfl⟩ := List.mem_map.1 hx
  exact (SM.wt_pos h t).2
theorem may_of {M : SM} {t n : Int} : (¬ (0 ≤ t ∧ t < M.n) → M.may t n = 3) ∧ (0 ≤ t ∧ t < M.n → n < 0 → M.may t n = 1) ∧ (0 ≤ t ∧ t < M.n → ¬ n < 0 → t ∈ M.w ∨ t ∈ M.d → M.may t n = 6) ∧ (0 ≤ t ∧ t < M.n → ¬ n < 0 → ¬ (t ∈ M.w ∨ t ∈ M.d) → M.may t n = 0) := by
  unfold SM.may
  refine ⟨fun h => by rw [if_pos h], fun h h2 => by rw [if_neg (fun hh => hh h), if_pos h2], fun h h2 h3 => by rw [if_neg (fun hh => hh h), if_neg h2, if_pos h3], fun h h2 h3 => by rw [if_neg (fun hh => hh h), if_neg h2, if_neg h3]⟩
def SM.ask (M : SM) (t n : Int) (b : Bool) : Bool × Int × SM := if b then M.acq t n else M.tryA t n
theorem ask_no {M : SM} {t n k : Int} (b : Bool) (hk : ¬ k = 0) (hm : M.may t n = k) : M.ask t n b = (false, k, M) := by
  unfold SM.ask
  rcases acq_cases M t n with ⟨_, h1, h2⟩ | ⟨h0, _⟩
  · rw [hm] at h1 h2; cases b <;> simp [h1, h2]
  · exact absurd (hm.symm.trans h0) hk
theorem fAcquire (p : Nat) (M : SM) (t n : Int) (b : Bool) (hok : M.Ok) (hl : M.w.length ≤ 1000 ∧ M.d.length ≤ 1000) (hn : n ≤ 9223372036854775807) (e w : World) (X : HProp) (hw : Holds e w [X, IsRef p M]) :
    Calls Try.prog 11 #[.pointer (some ⟨p, 0, none⟩), .int .i64 t, .int .i64 n, .bool b] w fun en w' => en = .returned (.tuple #[.bool (M.ask t n b).1, .int .i64 (M.ask t n b).2.1]) ∧ Holds e w' [X, IsRef p (M.ask t n b).2.2] := by
  have hbd : M.held ≤ 9223372036854775807 ∧ n ≤ 9223372036854775807 ∧ M.room ≤ 9223372036854775807 := ⟨by have := hok.h1; have := hok.h2; omega, hn, hok.h2⟩
  rw [isRef_eq] at hw
  obtain ⟨m3, m1, m6, m0⟩ := @may_of M t n
  by_cases ht : 0 ≤ t ∧ t < M.n
  · by_cases hn0 : n < 0
    · rw [ask_no b (by decide) (m1 ht hn0)]
      exact aErr p M.n M.held M.room M.w M.d M.wn M.dn t n b 1 (.inr ⟨rfl, ht.1, ht.2, hn0⟩) e w X hw
    · by_cases hin : t ∈ M.w ∨ t ∈ M.d
      · rw [ask_no b (by decide) (m6 ht hn0 hin)]
        exact aWaits p M.n M.held M.room M.w M.d M.wn M.dn t n b ht.1 ht.2 hn0 hin hl e w X hw
      · rcases acq_cases M t n with ⟨hm, _⟩ | ⟨_, _, _, _, h1, h2, ⟨hwn, hf, hb1, hb2⟩ | ⟨hnf, hb2, hcs⟩⟩
        · exact absurd (m0 ht hn0 hin) hm
        · have hb : M.ask t n b = (true, 0, { M with held := M.held + n }) := by unfold SM.ask; cases b <;> simp [hb1, hb2]
          rw [hb]
          have hq : IsRef p { M with held := M.held + n } = IsRS p M.n (M.held + n) M.room M.w M.d M.wn M.dn := rfl
          rw [hq, hwn]
          rw [hwn] at hw
          exact aTake p M.n M.held M.room M.d M.wn M.dn t n b ht.1 ht.2 hn0 h2 hl.2 hbd hf e w X hw
        · have hput : Put M.room M.w M.d M.wn M.dn t n b (M.ask t n b).2.2.w (M.ask t n b).2.2.d (M.ask t n b).2.2.wn (M.ask t n b).2.2.dn ∧ (M.ask t n b).1 = false ∧ (M.ask t n b).2.1 = 0 ∧ (M.ask t n b).2.2.n = M.n ∧ (M.ask t n b).2.2.held = M.held ∧ (M.ask t n b).2.2.room = M.room := by
            cases b with
            | false =>
              have hb : M.ask t n false = (false, 0, M) := by unfold SM.ask; simp [hb2]
              rw [hb]
              exact ⟨⟨.inl ⟨rfl, rfl, rfl, rfl, rfl⟩⟩, rfl, rfl, rfl, rfl, rfl⟩
            | true =>
              rcases hcs with ⟨hlt, hb1⟩ | ⟨hlt, hb1⟩
              · have hb : M.ask t n true = (false, 0, { M with d := M.d ++ [t], f := setI M.f t (some n) }) := by unfold SM.ask; simp [hb1]
                rw [hb]
                refine ⟨⟨.inr (.inl ⟨rfl, hlt, rfl, rfl, (map_put _ h1).symm, ?_⟩)⟩, rfl, rfl, rfl, rfl, rfl⟩
                show (M.d ++ [t]).map (fun x => ((setI M.f t (some n)) x).getD 0) = M.dn ++ [n]
                rw [List.map_append, map_put _ h2]
                simp [setI]; rfl
              · have hb : M.ask t n true = (false, 0, { M with w := M.w ++ [t], f := setI M.f t (some n) }) := by unfold SM.ask; simp [hb1]
                rw [hb]
                refine ⟨⟨.inr (.inr ⟨rfl, by omega, rfl, rfl, ?_, (map_put _ h2).symm⟩)⟩, rfl, rfl, rfl, rfl, rfl⟩
                show (M.w ++ [t]).map (fun x => ((setI M.f t (some n)) x).getD 0) = M.wn ++ [n]
                rw [List.map_append, map_put _ h1]
                simp [setI]; rfl
          obtain ⟨hput, e1, e2, e3, e4, e5⟩ := hput
          rw [isRef_eq, e1, e2, e3, e4, e5]
          generalize (M.ask t n b).2.2.w = w2 at *
          generalize (M.ask t n b).2.2.d = d2 at *
          generalize (M.ask t n b).2.2.wn = wn2 at *
          generalize (M.ask t n b).2.2.dn = dn2 at *
          have l1 := wn_len M
          have l2 := dn_len M
          generalize M.wn = wn at *
          generalize M.dn = dn at *
          cases hwn : M.w with
          | nil =>
            have hf : fits M.held n M.room = false := by
              cases hq : fits M.held n M.room with
              | false => rfl
              | true => exact absurd ⟨hwn, hq⟩ hnf
            rw [hwn] at hw hput l1
            exact aNo0 p M.n M.held M.room M.d wn dn t n b w2 d2 wn2 dn2 hput ht.1 ht.2 hn0 h2 ⟨hl.2, by rw [l1]; simp, by rw [l2]; exact hl.2⟩ hbd hf e w X hw
          | cons y l =>
            rw [hwn] at hw hput h1 l1 hl
            exact aNo1 p M.n M.held M.room y l M.d wn dn t n b w2 d2 wn2 dn2 hput ht.1 ht.2 hn0 h1 h2 ⟨hl.1, hl.2, by rw [l1]; exact hl.1, by rw [l2]; exact hl.2⟩ hbd e w X hw
  · rw [ask_no b (by decide) (m3 ht)]
    exact aErr p M.n M.held M.room M.w M.d M.wn M.dn t n b 3 (.inl ⟨rfl, by omega⟩) e w X hw
theorem fGiveM (p : Nat) (M : SM) (hok : M.Ok) (hl : M.w.length ≤ 1000) (e w : World) (X : HProp) (hw : Holds e w [X, IsRef p M]) :
    Calls Try.prog 29 #[.pointer (some ⟨p, 0, none⟩)] w fun en w' => ∃ v, en = .returned v ∧ Holds e w' [X, IsRef p M.give.2, IsInts v M.give.1] := by
  have h := fGive p M.n M.held M.room M.w M.d M.wn M.dn (wn_len M) hl (by have := hok.h1; have := hok.h2; omega) hok.h2 (wn_le hok) e w X hw
  obtain ⟨g1, g2, g3⟩ := give_gv hok
  rw [g1] at h
  have g4 := give_n M.w M
  rw [isRef_eq, g2, g3, show M.give.2.n = M.n from g4.1, show M.give.2.room = M.room from g4.2.1]
  exact h
theorem fWantsM (p : Nat) (M : SM) (t : Int) (hok : M.Ok) (hl : M.w.length ≤ 1000 ∧ M.d.length ≤ 1000) (e w : World) (X : HProp) (hw : Holds e w [X, IsRef p M]) :
    Calls Try.prog 19 #[.pointer (some ⟨p, 0, none⟩), .int .i64 t] w fun en w' => en = .returned (.tuple #[.int .i64 (M.wt t), .bool (M.f t).isSome]) ∧ Holds e w' [X, IsRef p M] := by
  have h := fWants p M.n M.held M.room M.w M.d M.wt t hl e w X hw
  have e1 : (if t ∈ M.w ∨ t ∈ M.d then M.wt t else 0) = M.wt t := by
    split
    · rfl
    · rename_i hn; unfold SM.wt; rw [hok.none hn]; rfl
  have e2 : decide (t ∈ M.w ∨ t ∈ M.d) = (M.f t).isSome := by
    rw [Bool.eq_iff_iff, decide_eq_true_iff]; exact (hok.is t).symm
  rw [e1, e2] at h
  exact h
set_option maxHeartbeats 1600000 in
theorem fRelease (p : Nat) (M : SM) (n : Int) (hok : M.Ok) (hl : M.w.length ≤ 1000) (e w : World) (X : HProp) (hw : Holds e w [X, IsRef p M]) :
    Calls Try.prog 12 #[.pointer (some ⟨p, 0, none⟩), .int .i64 n] w fun en w' => ∃ v, en = .returned (.tuple #[v, .int .i64 (M.rel n).2.1]) ∧ Holds e w' [X, IsRef p (M.rel n).2.2, IsInts v (M.rel n).1] := by
  have Hw0 := Sep.hid hw
  have Hok := Sep.hid hok; clear hok
  have Hl := Sep.hid hl; clear hl
  by_cases hn : n < 0
  · have hb : M.rel n = ([], 1, M) := by unfold SM.rel; rw [if_pos hn]
    rw [hb]; clear hb
    refine Sep.calls_post ?_
    intro Post_ hPost_
    have HP := Sep.hid hPost_
    clear hPost_
    go_enter Try.func12, Try.ntmps12
    go_wp2_with fail
    exact HP.out _ _ ⟨_, rfl, Hw0.out.addEmp (Sl.nil _ _ _)⟩
  by_cases hh : M.held < n
  · have hb : M.rel n = ([], 4, M) := by unfold SM.rel; rw [if_neg hn, if_pos hh]
    rw [hb]; clear hb
    obtain ⟨x, hw⟩ := exL.open_ hw
    have hw := hw.open_ 1 rfl
    (try simp only [List.map_cons, List.map_nil, List.getD_cons_zero, List.getD_cons_succ, List.getD_nil, List.set_cons_zero, List.set_cons_succ, List.cons_append, List.nil_append, Act.eval, Array.getD_eq_getD_getElem?, List.getElem?_toArray, List.getElem?_cons_succ, List.getElem?_cons_zero, Option.getD_some, Value.cells] at hw); (try simp (disch := first | (simp; done) | (simp; omega)) only [Sep.mid_set, Sep.mid_set2, Sep.mid_set0, Sep.mid_splice, Sep.mid_splice0, List.set_cons_zero, List.set_cons_succ] at hw); (try simp only [Sep.splice, List.take_succ_cons, List.take_zero, List.drop_succ_cons, List.drop_zero, List.length_cons, List.length_nil, Nat.reduceAdd, List.cons_append, List.nil_append] at hw)
    (try replace hc0 := Sep.Holds.cells hw (i := 0) rfl); (try replace hc1 := Sep.Holds.cells hw (i := 1) rfl); (try replace hc2 := Sep.Holds.cells hw (i := 2) rfl); (try replace hc3 := Sep.Holds.cells hw (i := 3) rfl); (try replace hc4 := Sep.Holds.cells hw (i := 4) rfl); (try replace hc5 := Sep.Holds.cells hw (i := 5) rfl); (try replace hc6 := Sep.Holds.cells hw (i := 6) rfl)
    refine Sep.calls_post ?_
    intro Post_ hPost_
    have HP := Sep.hid hPost_
    clear hPost_
    go_enter Try.func12, Try.ntmps12
    go_wp2_with fail
    exact HP.out _ _ ⟨_, rfl, Hw0.out.addEmp (Sl.nil _ _ _)⟩
  · have hb : M.rel n = ((SM.give ⟨M.n, M.held - n, M.room, M.w, M.d, M.f⟩).1, 0, (SM.give ⟨M.n, M.held - n, M.room, M.w, M.d, M.f⟩).2) := by unfold SM.rel; rw [if_neg hn, if_neg hh]
    rw [hb]; clear hb
    have hwr : IntKind.i64.wrap (M.held - n) = M.held - n := IntWalk.i64_in _ (by have := Hok.out.h2; have := Hok.out.h1; omega)
    have Hok2 := Sep.hid (Hok.out.room (x := M.held - n) (by omega) (by have := Hok.out.h1; omega))
    clear Hw0
    obtain ⟨x, hw⟩ := exL.open_ hw
    have hw := hw.open_ 1 rfl
    (try simp only [List.map_cons, List.map_nil, List.getD_cons_zero, List.getD_cons_succ, List.getD_nil, List.set_cons_zero, List.set_cons_succ, List.cons_append, List.nil_append, Act.eval, Array.getD_eq_getD_getElem?, List.getElem?_toArray, List.getElem?_cons_succ, List.getElem?_cons_zero, Option.getD_some, Value.cells] at hw); (try simp (disch := first | (simp; done) | (simp; omega)) only [Sep.mid_set, Sep.mid_set2, Sep.mid_set0, Sep.mid_splice, Sep.mid_splice0, List.set_cons_zero, List.set_cons_succ] at hw); (try simp only [Sep.splice, List.take_succ_cons, List.take_zero, List.drop_succ_cons, List.drop_zero, List.length_cons, List.length_nil, Nat.reduceAdd, List.cons_append, List.nil_append] at hw)
    (try replace hc0 := Sep.Holds.cells hw (i := 0) rfl); (try replace hc1 := Sep.Holds.cells hw (i := 1) rfl); (try replace hc2 := Sep.Holds.cells hw (i := 2) rfl); (try replace hc3 := Sep.Holds.cells hw (i := 3) rfl); (try replace hc4 := Sep.Holds.cells hw (i := 4) rfl); (try replace hc5 := Sep.Holds.cells hw (i := 5) rfl); (try replace hc6 := Sep.Holds.cells hw (i := 6) rfl)
    refine Sep.calls_post ?_
    intro Post_ hPost_
    have HP := Sep.hid hPost_
    clear hPost_
    go_enter Try.func12, Try.ntmps12
    go_wp2_with ((first | refine wpList_on rfl (wp_store1 (v := _) rfl rfl rfl hw (i := 0) rfl (by simp [Sep.mid_length, Act.eval, Value.cells]; try omega) rfl ?_) | refine wpList_on rfl (wp_store1 (v := _) rfl rfl rfl hw (i := 1) rfl (by simp [Sep.mid_length, Act.eval, Value.cells]; try omega) rfl ?_) | refine wpList_on rfl (wp_store1 (v := _) rfl rfl rfl hw (i := 2) rfl (by simp [Sep.mid_length, Act.eval, Value.cells]; try omega) rfl ?_) | refine wpList_on rfl (wp_store1 (v := _) rfl rfl rfl hw (i := 3) rfl (by simp [Sep.mid_length, Act.eval, Value.cells]; try omega) rfl ?_) | refine wpList_on rfl (wp_store1 (v := _) rfl rfl rfl hw (i := 4) rfl (by simp [Sep.mid_length, Act.eval, Value.cells]; try omega) rfl ?_)); intro w_ hw_; clear hw; have hw := hw_; clear hw_; (try simp only [List.map_cons, List.map_nil, List.getD_cons_zero, List.getD_cons_succ, List.getD_nil, List.set_cons_zero, List.set_cons_succ, List.cons_append, List.nil_append, Act.eval, Array.getD_eq_getD_getElem?, List.getElem?_toArray, List.getElem?_cons_succ, List.getElem?_cons_zero, Option.getD_some, Value.cells] at hw); (try simp (disch := first | (simp; done) | (simp; omega)) only [Sep.mid_set, Sep.mid_set2, Sep.mid_set0, Sep.mid_splice, Sep.mid_splice0, List.set_cons_zero, List.set_cons_succ] at hw); (try simp only [Sep.splice, List.take_succ_cons, List.take_zero, List.drop_succ_cons, List.drop_zero, List.length_cons, List.length_nil, Nat.reduceAdd, List.cons_append, List.nil_append] at hw); (try replace hc0 := Sep.Holds.cells hw (i := 0) rfl); (try replace hc1 := Sep.Holds.cells hw (i := 1) rfl); (try replace hc2 := Sep.Holds.cells hw (i := 2) rfl); (try replace hc3 := Sep.Holds.cells hw (i := 3) rfl); (try replace hc4 := Sep.Holds.cells hw (i := 4) rfl); (try replace hc5 := Sep.Holds.cells hw (i := 5) rfl); (try replace hc6 := Sep.Holds.cells hw (i := 6) rfl))
    have hw : Holds e w_ [X, IsRef p ⟨M.n, M.held - n, M.room, M.w, M.d, M.f⟩] := exL.mk (f := refParts p ⟨M.n, M.held - n, M.room, M.w, M.d, M.f⟩) x hw
    (try clear hc0); (try clear hc1); (try clear hc2); (try clear hc3); (try clear hc4); (try clear hc5); (try clear hc6)
    refine (fGiveM p ⟨M.n, M.held - n, M.room, M.w, M.d, M.f⟩ Hok2.out Hl.out e _ _ hw).mono ?_
    rintro en_ w_ ⟨v, rfl, hw_⟩
    clear hw; have hw := hw_; clear hw_
    go_wp2_with fail
    exact HP.out _ _ ⟨v, rfl, hw⟩
end Go.Proofs.Ytpbpineehbemhaa
