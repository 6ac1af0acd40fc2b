/-
  SemaSum: the walk.
-/
import Derived.Test.YtpbpineehbemhaaSemaDo
import Derived.Test.YtpbpineehbemhaaReads
import Derived.Deep.CutBlock
import Derived.Deep.DeepCutAuto
namespace Go.Proofs.Ytpbpineehbemhaa
set_option linter.unusedSimpArgs false
set_option linter.unusedVariables false
open Go.RowKit Go.Sep Go.RingM

theorem giveGo_split : ∀ (l : List Int) (M : SM), M.w = l → M.w = (SM.giveGo l M).1 ++ (SM.giveGo l M).2.w
  | [], M, h => by rw [h]; show [] = [] ++ M.w; rw [h]; rfl
  | t :: l, M, h => by
    unfold SM.giveGo
    split
    · have e : (M.step t).w = l := by show M.w.tail = l; rw [h]; rfl
      have := giveGo_split l (M.step t) e
      rw [h, ← e]
      conv => lhs; rw [this]
      rw [e]; rfl
    · rfl
theorem give_split (M : SM) : M.w = M.give.1 ++ M.give.2.w := giveGo_split _ M rfl
/-- Nobody waits first where it fits. -/
def SM.First (M : SM) : Prop := ∀ y l, M.w = y :: l → fits M.held (M.wt y) M.room = false
theorem giveGo_first : ∀ (l : List Int) (M : SM), M.w = l → (SM.giveGo l M).2.First
  | [], M, h => fun y l e => by have e : M.w = y :: l := e; rw [h] at e; cases e
  | t :: l, M, h => by
    unfold SM.giveGo
    split
    · exact giveGo_first l (M.step t) (by show M.w.tail = l; rw [h]; rfl)
    · rename_i hf
      intro y l' e
      have e : M.w = y :: l' := e
      rw [h] at e; cases e
      simpa using hf
/-- Who is given, one behind the other. -/
def chain (g : Int → Int) (room : Int) : Int → List Int → Int → Prop
  | h, [], h' => h = h'
  | h, t :: l, h' => (0 ≤ t ∧ t < 20) ∧ fits h (g t) room = true ∧ chain g room (h + g t) l h'
theorem chain_congr {g g' : Int → Int} {room h' : Int} : ∀ (l : List Int) (h : Int), (∀ x ∈ l, g x = g' x) → chain g room h l h' → chain g' room h l h'
  | [], h, _, hc => hc
  | t :: l, h, hg, hc => by
    obtain ⟨h1, h2, h3⟩ := hc
    rw [hg t (by simp)] at h2 h3
    exact ⟨h1, h2, chain_congr l _ (fun x hx => hg x (by simp [hx])) h3⟩
theorem giveGo_chain : ∀ (l : List Int) (M : SM), M.w = l → M.Ok → (∀ x ∈ l, 0 ≤ x ∧ x < 20) → chain M.wt M.room M.held (SM.giveGo l M).1 (SM.giveGo l M).2.held
  | [], M, h, _, _ => rfl
  | t :: l, M, h, hok, hp => by
    unfold SM.giveGo
    split
    · rename_i hf
      have e : (M.step t).w = l := by show M.w.tail = l; rw [h]; rfl
      refine ⟨hp t (by simp), hf, ?_⟩
      have := giveGo_chain l (M.step t) e (hok.step h hf) (fun x hx => hp x (by simp [hx]))
      have hnd := hok.nd
      rw [h] at hnd
      have ht : t ∉ l := fun hh => by
        have h1 : (t :: (l ++ M.d)).Nodup := by simpa using hnd
        exact (List.nodup_cons.1 h1).1 (by simp [hh])
      refine chain_congr _ _ (fun x hx => ?_) this
      have hsub : x ∈ l := by
        have hs := giveGo_split l (M.step t) e
        rw [e] at hs
        rw [hs]; simp [hx]
      show ((setI M.f t none) x).getD 0 = (M.f x).getD 0
      unfold setI
      rw [if_neg (fun e2 => ht (by rw [← e2]; exact hsub))]
    · rfl
theorem giveGo_f : ∀ (l : List Int) (M : SM) (x v : Int), (SM.giveGo l M).2.f x = some v → M.f x = some v
  | [], M, x, v, h => h
  | t :: l, M, x, v, h => by
    unfold SM.giveGo at h
    split at h
    · have := giveGo_f l (M.step t) x v h
      have this : setI M.f t none x = some v := this
      unfold setI at this
      split at this
      · cases this
      · exact this
    · exact h
theorem sum_first (M : SM) (d : Deed) (hok : M.Ok) (hf : M.First) : (M.act d).2.2.2.First := by
  unfold SM.act
  split
  · rcases acq_cases M d.f1 d.f2 with ⟨hm, hb, _⟩ | ⟨hm, _, _, _, hr1, _, ⟨hw, _, hb, _⟩ | ⟨hnf, _, ⟨hr, hb⟩ | ⟨hr, hb⟩⟩⟩
    · rw [hb]; exact hf
    · rw [hb]; intro y l e; have e : M.w = y :: l := e; rw [hw] at e; cases e
    · rw [hb]; intro y l e
      have e : M.w = y :: l := e
      have h1 := hf y l e
      have hne : ¬ y = d.f1 := fun h => hr1 (by rw [e, h]; simp)
      show fits M.held ((setI M.f d.f1 (some d.f2) y).getD 0) M.room = false
      unfold setI; rw [if_neg hne]; exact h1
    · rw [hb]; intro y l e
      have e : M.w ++ [d.f1] = y :: l := e
      show fits M.held ((setI M.f d.f1 (some d.f2) y).getD 0) M.room = false
      cases hw : M.w with
      | nil =>
        rw [hw] at e
        simp only [List.nil_append, List.cons.injEq] at e
        unfold setI; rw [if_pos e.1.symm]
        cases hq : fits M.held d.f2 M.room with
        | false => exact hq
        | true => exact absurd ⟨hw, hq⟩ hnf
      | cons z k =>
        rw [hw] at e
        simp only [List.cons_append, List.cons.injEq] at e
        have h1 := hf z k hw
        have hne : ¬ y = d.f1 := fun h => hr1 (by rw [hw, e.1, h]; simp)
        unfold setI; rw [if_neg hne, ← e.1]; exact h1
  split
  · rcases acq_cases M d.f1 d.f2 with ⟨hm, _, hb⟩ | ⟨hm, _, _, _, _, _, ⟨hw, _, _, hb⟩ | ⟨hnf, hb, _⟩⟩
    · rw [hb]; exact hf
    · rw [hb]; intro y l e; have e : M.w = y :: l := e; rw [hw] at e; cases e
    · rw [hb]; exact hf
  split
  · unfold SM.rel
    split
    · exact hf
    split
    · exact hf
    · exact giveGo_first _ _ rfl
  split
  · unfold SM.leave
    split
    · exact giveGo_first _ _ rfl
    · exact hf
  · exact hf
/-- What an act does to what is held, and who is given. -/
theorem sum_cases (M : SM) (d : Deed) (hok : M.Ok) (hn : M.n = 20) (hp : ∀ x ∈ M.w, 0 ≤ x ∧ x < 20) : ∃ o M' b er, M.act d = (o, b, er, M') ∧ (M'.n = M.n ∧ M'.room = M.room) ∧ (
    (¬ er = 0 ∧ b = false ∧ o = [] ∧ M' = M) ∨
    (er = 0 ∧ b = true ∧ (d.f0 = 0 ∨ d.f0 = 1) ∧ o = [] ∧ fits M.held d.f2 M.room = true ∧ M'.held = M.held + d.f2 ∧ M'.f = M.f) ∨
    (er = 0 ∧ b = false ∧ d.f0 = 0 ∧ o = [] ∧ (0 ≤ d.f1 ∧ d.f1 < 20) ∧ M'.held = M.held ∧ M'.f = setI M.f d.f1 (some d.f2)) ∨
    (er = 0 ∧ b = false ∧ d.f0 = 1 ∧ o = [] ∧ M' = M) ∨
    (er = 0 ∧ b = false ∧ d.f0 = 2 ∧ (0 ≤ d.f2 ∧ d.f2 ≤ M.held) ∧ chain M.wt M.room (M.held - d.f2) o M'.held ∧ (∀ x v, M'.f x = some v → M.f x = some v) ∧ (∀ x ∈ o, x ∈ M.w)) ∨
    (er = 0 ∧ (¬ d.f0 = 0 ∧ ¬ d.f0 = 1 ∧ ¬ d.f0 = 2) ∧ chain M.wt M.room M.held o M'.held ∧ (∀ x v, M'.f x = some v → M.f x = some v) ∧ (∀ x ∈ o, x ∈ M.w))) := by
  refine ⟨(M.act d).1, (M.act d).2.2.2, (M.act d).2.1, (M.act d).2.2.1, rfl, act_n M d, ?_⟩
  by_cases h0 : d.f0 = 0
  · have hb : M.act d = ([], (M.acq d.f1 d.f2).1, (M.acq d.f1 d.f2).2.1, (M.acq d.f1 d.f2).2.2) := by unfold SM.act; rw [if_pos h0]
    rw [hb]
    rcases acq_cases M d.f1 d.f2 with ⟨hm, hb, _⟩ | ⟨hm, ht0, htn, _, _, _, ⟨hw, hf, hb, _⟩ | ⟨hnf, _, ⟨hr, hb⟩ | ⟨hr, hb⟩⟩⟩
    · rw [hb]; exact .inl ⟨hm, rfl, rfl, rfl⟩
    · rw [hb]; exact .inr (.inl ⟨rfl, rfl, .inl h0, rfl, hf, rfl, rfl⟩)
    all_goals rw [hb]; rw [hn] at htn; exact .inr (.inr (.inl ⟨rfl, rfl, h0, rfl, ⟨ht0, htn⟩, rfl, rfl⟩))
  by_cases h1 : d.f0 = 1
  · have hb : M.act d = ([], (M.tryA d.f1 d.f2).1, (M.tryA d.f1 d.f2).2.1, (M.tryA d.f1 d.f2).2.2) := by unfold SM.act; rw [if_neg h0, if_pos h1]
    rw [hb]
    rcases acq_cases M d.f1 d.f2 with ⟨hm, _, hb⟩ | ⟨hm, _, _, _, _, _, ⟨hw, hf, _, hb⟩ | ⟨hnf, hb, _⟩⟩
    · rw [hb]; exact .inl ⟨hm, rfl, rfl, rfl⟩
    · rw [hb]; exact .inr (.inl ⟨rfl, rfl, .inr h1, rfl, hf, rfl, rfl⟩)
    · rw [hb]; exact .inr (.inr (.inr (.inl ⟨rfl, rfl, h1, rfl, rfl⟩)))
  by_cases h2 : d.f0 = 2
  · have hb : M.act d = ((M.rel d.f2).1, false, (M.rel d.f2).2.1, (M.rel d.f2).2.2) := by unfold SM.act; rw [if_neg h0, if_neg h1, if_pos h2]
    rw [hb]; unfold SM.rel
    by_cases hx : d.f2 < 0
    · rw [if_pos hx]; exact .inl ⟨(show ¬ (1 : Int) = 0 by decide), rfl, rfl, rfl⟩
    · rw [if_neg hx]
      by_cases hh : M.held < d.f2
      · rw [if_pos hh]; exact .inl ⟨(show ¬ (4 : Int) = 0 by decide), rfl, rfl, rfl⟩
      · rw [if_neg hh]
        have hok2 := hok.room (x := M.held - d.f2) (by omega) (by have := hok.h1; omega)
        refine .inr (.inr (.inr (.inr (.inl ⟨rfl, rfl, h2, by omega, giveGo_chain _ _ rfl hok2 hp, fun x v h => giveGo_f M.w ⟨M.n, M.held - d.f2, M.room, M.w, M.d, M.f⟩ x v h, fun x hx => ?_⟩))))
        have hs := give_split ⟨M.n, M.held - d.f2, M.room, M.w, M.d, M.f⟩
        show x ∈ (SM.mk M.n (M.held - d.f2) M.room M.w M.d M.f).w
        rw [hs]; exact List.mem_append_left _ hx
  have hdone : (¬ (0 : Int) = 0 ∨ True) := .inr trivial
  by_cases h3 : d.f0 = 3
  · have hb : M.act d = ((M.leave d.f1).1, (M.leave d.f1).2.1, 0, (M.leave d.f1).2.2) := by unfold SM.act; rw [if_neg h0, if_neg h1, if_neg h2, if_pos h3]
    rw [hb]; unfold SM.leave
    split
    · have hsub : ∀ x ∈ (M.drop d.f1).give.1, x ∈ without M.w d.f1 := fun x hx => by
        have hs := give_split (M.drop d.f1)
        show x ∈ (M.drop d.f1).w
        rw [hs]; exact List.mem_append_left _ hx
      have hc := giveGo_chain _ (M.drop d.f1) rfl (hok.drop d.f1) (fun x hx => hp x (without_mem.1 hx).1)
      refine .inr (.inr (.inr (.inr (.inr ⟨rfl, ⟨h0, h1, h2⟩, chain_congr _ _ (fun x hx => ?_) hc, fun x v h => ?_, fun x hx => (without_mem.1 (hsub x hx)).1⟩))))
      · show ((setI M.f d.f1 none) x).getD 0 = (M.f x).getD 0
        unfold setI; rw [if_neg (without_mem.1 (hsub x hx)).2]
      · have h := giveGo_f _ (M.drop d.f1) x v h
        have h : setI M.f d.f1 none x = some v := h
        unfold setI at h
        split at h
        · cases h
        · exact h
    · exact .inr (.inr (.inr (.inr (.inr ⟨rfl, ⟨h0, h1, h2⟩, rfl, fun _ _ h => h, fun x hx => by cases hx⟩))))
  · have hb : M.act d = ([], false, 0, M) := by unfold SM.act; rw [if_neg h0, if_neg h1, if_neg h2, if_neg h3]
    rw [hb]
    exact .inr (.inr (.inr (.inr (.inr ⟨rfl, ⟨h0, h1, h2⟩, rfl, fun _ _ h => h, fun x hx => by cases hx⟩))))
theorem encI_set (l : List Int) (k : Nat) (x : Int) : (encI l).set k (.int .i64 x) = encI (l.set k x) := by unfold encI; rw [List.map_set]
theorem act_len (M : SM) (d : Deed) : (M.act d).1.length ≤ M.w.length := by
  have hg : ∀ M : SM, M.give.1.length ≤ M.w.length := fun M => by
    have h : M.w.length = (M.give.1 ++ M.give.2.w).length := by rw [← give_split M]
    rw [List.length_append] at h; omega
  unfold SM.act
  split
  · simp
  split
  · simp
  split
  · unfold SM.rel
    split
    · simp
    split
    · simp
    · exact hg ⟨M.n, M.held - d.f2, M.room, M.w, M.d, M.f⟩
  split
  · unfold SM.leave
    split
    · exact Nat.le_trans (hg (M.drop d.f1)) (without_len _ _)
    · simp
  · simp
/-- The row, with a length of its own name. -/
theorem row_as {e w : World} {L : List HProp} {i : Nat} {v : Value} {l m : List Int} (hw : Holds e w L) (hi : L[i]? = some (IsInts v l)) (h : l = m) (n : Nat) (hn : m.length = n) : Holds e w (L.set i (Sl 3 1 v n (encI m))) := by
  subst h; subst hn
  exact hw.imp (i := i) _ hi (fun _ h => h)
/-- What was asked for stands in its place. -/
def Asked (f : Int → Option Int) (aq : List Int) : Prop := aq.length = 20 ∧ ∀ x v, f x = some v → (0 ≤ x ∧ x < 20) ∧ aq[x.toNat]? = some v
theorem Asked.getD {M : SM} {aq : List Int} (h : Asked M.f aq) {x : Int} (hx : (M.f x).isSome = true) : M.wt x = aq.getD x.toNat 0 := by
  unfold SM.wt
  cases hf : M.f x with
  | none => rw [hf] at hx; cases hx
  | some v => rw [List.getD_eq_getElem?_getD, (h.2 x v hf).2]
theorem Asked.mono {f f' : Int → Option Int} {aq : List Int} (h : Asked f aq) (hs : ∀ x v, f' x = some v → f x = some v) : Asked f' aq := ⟨h.1, fun x v hx => h.2 x v (hs x v hx)⟩
theorem Asked.set {f : Int → Option Int} {aq : List Int} (h : Asked f aq) {k : Nat} {v : Int} (hk : k < 20) : Asked (setI f (k : Int) (some v)) (aq.set k v) := by
  refine ⟨by rw [List.length_set]; exact h.1, fun x u hx => ?_⟩
  unfold setI at hx
  split at hx
  · rename_i e; subst e; cases hx
    refine ⟨by omega, ?_⟩
    rw [Int.toNat_natCast, List.getElem?_set_self (by rw [h.1]; exact hk)]
  · rename_i e
    have h1 := h.2 x u hx
    refine ⟨h1.1, ?_⟩
    rw [List.getElem?_set_ne (by omega)]; exact h1.2
def gOf (aq : List Int) : Int → Int := fun x => aq.getD x.toNat 0
set_option maxRecDepth 20000 in
set_option maxHeartbeats 40000000 in
theorem sema_sum_walk (e : World) (n0 : Int) (hn0 : Hid (-9223372036854775808 ≤ n0 ∧ n0 ≤ 9223372036854775807)) (a1 : Option Addr) (cap1 : Nat) (l1 : List Deed) (hl1 : Hid (ActsAt e a1 l1)) (hlen1 : l1.length ≤ 9223372036854775807) :
    Calls Try.prog 4 #[.int .i64 n0, .slice a1 l1.length cap1] e fun en w' => en = .returned (.bool true) ∧ Holds e w' [Old e] := by
  have hw := Holds.start e
  by_cases hlong : (100 : Int) < l1.length
  · refine Sep.calls_post ?_
    intro Post_ hPost_
    have HP := Sep.hid hPost_
    clear hPost_
    go_enter Try.func4, Try.ntmps4
    go_wp2_with fail
    refine (awake_calls e _ _ hw.focus0).mono ?_
    rintro en_ w_ ⟨rfl, hw_⟩
    clear hw; (try clear hc0); (try clear hc1); (try clear hc2); (try clear hc3); (try clear hc4); (try clear hc5); (try clear hc6); have hw := Holds.unfocus0 hw_; clear hw_
    (try simp only [List.map_cons, List.map_nil, List.getD_cons_zero, List.getD_cons_succ, List.getD_nil, List.set_cons_zero, List.set_cons_succ, List.cons_append, List.nil_append, Act.eval, Array.getD_eq_getD_getElem?, List.getElem?_toArray, List.getElem?_cons_succ, List.getElem?_cons_zero, Option.getD_some, Value.cells] at hw); (try simp (disch := first | (simp; done) | (simp; omega)) only [Sep.mid_set, Sep.mid_set2, Sep.mid_set0, Sep.mid_splice, Sep.mid_splice0, List.set_cons_zero, List.set_cons_succ] at hw); (try simp only [Sep.splice, List.take_succ_cons, List.take_zero, List.drop_succ_cons, List.drop_zero, List.length_cons, List.length_nil, Nat.reduceAdd, List.cons_append, List.nil_append] at hw)
    go_wp2_with fail
    exact HP.out _ _ ⟨rfl, hw.sel [0] (by decide)⟩
  by_cases hneg : n0 < 0
  · refine Sep.calls_post ?_
    intro Post_ hPost_
    have HP := Sep.hid hPost_
    clear hPost_
    go_enter Try.func4, Try.ntmps4
    go_wp2_with fail
    refine (awake_calls e _ _ hw.focus0).mono ?_
    rintro en_ w_ ⟨rfl, hw_⟩
    clear hw; (try clear hc0); (try clear hc1); (try clear hc2); (try clear hc3); (try clear hc4); (try clear hc5); (try clear hc6); have hw := Holds.unfocus0 hw_; clear hw_
    (try simp only [List.map_cons, List.map_nil, List.getD_cons_zero, List.getD_cons_succ, List.getD_nil, List.set_cons_zero, List.set_cons_succ, List.cons_append, List.nil_append, Act.eval, Array.getD_eq_getD_getElem?, List.getElem?_toArray, List.getElem?_cons_succ, List.getElem?_cons_zero, Option.getD_some, Value.cells] at hw); (try simp (disch := first | (simp; done) | (simp; omega)) only [Sep.mid_set, Sep.mid_set2, Sep.mid_set0, Sep.mid_splice, Sep.mid_splice0, List.set_cons_zero, List.set_cons_succ] at hw); (try simp only [Sep.splice, List.take_succ_cons, List.take_zero, List.drop_succ_cons, List.drop_zero, List.length_cons, List.length_nil, Nat.reduceAdd, List.cons_append, List.nil_append] at hw)
    go_wp2_with fail
    exact HP.out _ _ ⟨rfl, hw.sel [0] (by decide)⟩
  generalize hlen' : l1.length = len at *
  have Hlen := Sep.hid hlen'; clear hlen'
  have hlong2 : len ≤ 100 := by omega
  have Hn0 : Hid (0 ≤ n0 ∧ n0 ≤ 9223372036854775807) := Sep.hid ⟨by omega, hn0.out.2⟩
  clear hn0
  refine Sep.calls_post ?_
  intro Post_ hPost_
  have HP := Sep.hid hPost_
  clear hPost_
  go_enter Try.func4, Try.ntmps4
  go_wp2_with fail
  refine (awake_calls e _ _ hw.focus0).mono ?_
  rintro en_ w_ ⟨rfl, hw_⟩
  clear hw; (try clear hc0); (try clear hc1); (try clear hc2); (try clear hc3); (try clear hc4); (try clear hc5); (try clear hc6); have hw := Holds.unfocus0 hw_; clear hw_
  (try simp only [List.map_cons, List.map_nil, List.getD_cons_zero, List.getD_cons_succ, List.getD_nil, List.set_cons_zero, List.set_cons_succ, List.cons_append, List.nil_append, Act.eval, Array.getD_eq_getD_getElem?, List.getElem?_toArray, List.getElem?_cons_succ, List.getElem?_cons_zero, Option.getD_some, Value.cells] at hw); (try simp (disch := first | (simp; done) | (simp; omega)) only [Sep.mid_set, Sep.mid_set2, Sep.mid_set0, Sep.mid_splice, Sep.mid_splice0, List.set_cons_zero, List.set_cons_succ] at hw); (try simp only [Sep.splice, List.take_succ_cons, List.take_zero, List.drop_succ_cons, List.drop_zero, List.length_cons, List.length_nil, Nat.reduceAdd, List.cons_append, List.nil_append] at hw)
  go_wp2_with fail
  refine (oNew_ok 20 n0 (by decide) (by decide) Hn0.out.1 Hn0.out.2 e _ _ hw.focus0).mono ?_
  rintro en_ w_ ⟨p, rfl, hw_⟩
  clear hw; have hw := Holds.unfocus0 hw_; clear hw_
  (try simp only [List.map_cons, List.map_nil, List.getD_cons_zero, List.getD_cons_succ, List.getD_nil, List.set_cons_zero, List.set_cons_succ, List.cons_append, List.nil_append, Act.eval, Array.getD_eq_getD_getElem?, List.getElem?_toArray, List.getElem?_cons_succ, List.getElem?_cons_zero, Option.getD_some, Value.cells] at hw); (try simp (disch := first | (simp; done) | (simp; omega)) only [Sep.mid_set, Sep.mid_set2, Sep.mid_set0, Sep.mid_splice, Sep.mid_splice0, List.set_cons_zero, List.set_cons_succ] at hw); (try simp only [Sep.splice, List.take_succ_cons, List.take_zero, List.drop_succ_cons, List.drop_zero, List.length_cons, List.length_nil, Nat.reduceAdd, List.cons_append, List.nil_append] at hw)
  go_wp2_with (first | (refine wpList_on rfl (wp_alloc rfl hw ?_); intro ba w_ hw_; clear hw; have hw := hw_; clear hw_; (try simp only [List.map_cons, List.map_nil, List.getD_cons_zero, List.getD_cons_succ, List.getD_nil, List.set_cons_zero, List.set_cons_succ, List.cons_append, List.nil_append, Act.eval, Array.getD_eq_getD_getElem?, List.getElem?_toArray, List.getElem?_cons_succ, List.getElem?_cons_zero, Option.getD_some, Value.cells] at hw); (try simp (disch := first | (simp; done) | (simp; omega)) only [Sep.mid_set, Sep.mid_set2, Sep.mid_set0, Sep.mid_splice, Sep.mid_splice0, List.set_cons_zero, List.set_cons_succ] at hw); (try simp only [Sep.splice, List.take_succ_cons, List.take_zero, List.drop_succ_cons, List.drop_zero, List.length_cons, List.length_nil, Nat.reduceAdd, List.cons_append, List.nil_append] at hw); (try replace hc0 := Sep.Holds.cells hw (i := 0) rfl); (try replace hc1 := Sep.Holds.cells hw (i := 1) rfl); (try replace hc2 := Sep.Holds.cells hw (i := 2) rfl); (try replace hc3 := Sep.Holds.cells hw (i := 3) rfl); (try replace hc4 := Sep.Holds.cells hw (i := 4) rfl); (try replace hc5 := Sep.Holds.cells hw (i := 5) rfl); (try replace hc6 := Sep.Holds.cells hw (i := 6) rfl)) | ((first | refine wpList_on rfl (wp_storeN (vs := _) rfl rfl rfl hw (i := 0) rfl rfl (by simp [Sep.mid_length, Act.eval, Value.cells]; try omega) (by simp [Value.oneCell', Act.eval, Value.cells]) ?_) | refine wpList_on rfl (wp_storeN (vs := _) rfl rfl rfl hw (i := 1) rfl rfl (by simp [Sep.mid_length, Act.eval, Value.cells]; try omega) (by simp [Value.oneCell', Act.eval, Value.cells]) ?_) | refine wpList_on rfl (wp_storeN (vs := _) rfl rfl rfl hw (i := 2) rfl rfl (by simp [Sep.mid_length, Act.eval, Value.cells]; try omega) (by simp [Value.oneCell', Act.eval, Value.cells]) ?_) | refine wpList_on rfl (wp_storeN (vs := _) rfl rfl rfl hw (i := 3) rfl rfl (by simp [Sep.mid_length, Act.eval, Value.cells]; try omega) (by simp [Value.oneCell', Act.eval, Value.cells]) ?_) | refine wpList_on rfl (wp_storeN (vs := _) rfl rfl rfl hw (i := 4) rfl rfl (by simp [Sep.mid_length, Act.eval, Value.cells]; try omega) (by simp [Value.oneCell', Act.eval, Value.cells]) ?_)); intro w_ hw_; clear hw; have hw := hw_; clear hw_; (try simp only [List.map_cons, List.map_nil, List.getD_cons_zero, List.getD_cons_succ, List.getD_nil, List.set_cons_zero, List.set_cons_succ, List.cons_append, List.nil_append, Act.eval, Array.getD_eq_getD_getElem?, List.getElem?_toArray, List.getElem?_cons_succ, List.getElem?_cons_zero, Option.getD_some, Value.cells] at hw); (try simp (disch := first | (simp; done) | (simp; omega)) only [Sep.mid_set, Sep.mid_set2, Sep.mid_set0, Sep.mid_splice, Sep.mid_splice0, List.set_cons_zero, List.set_cons_succ] at hw); (try simp only [Sep.splice, List.take_succ_cons, List.take_zero, List.drop_succ_cons, List.drop_zero, List.length_cons, List.length_nil, Nat.reduceAdd, List.cons_append, List.nil_append] at hw); (try replace hc0 := Sep.Holds.cells hw (i := 0) rfl); (try replace hc1 := Sep.Holds.cells hw (i := 1) rfl); (try replace hc2 := Sep.Holds.cells hw (i := 2) rfl); (try replace hc3 := Sep.Holds.cells hw (i := 3) rfl); (try replace hc4 := Sep.Holds.cells hw (i := 4) rfl); (try replace hc5 := Sep.Holds.cells hw (i := 5) rfl); (try replace hc6 := Sep.Holds.cells hw (i := 6) rfl)))
  have hw : Holds e _ [Old e, IsSema p ⟨20, 0, n0, [], [], fun _ => none⟩, pt ba (encI (List.replicate 20 0)) 52] := hw
  have Hw0 := Sep.hid hw; clear hw
  (try clear hc0); (try clear hc1); (try clear hc2); (try clear hc3); (try clear hc4); (try clear hc5); (try clear hc6)
  go_loopw [7, 41] (fun hv i wr => ∃ (q : Nat) (M : SM) (aq : List Int), q ≤ len ∧ i = .int .i64 q ∧ hv = .int .i64 M.held ∧ (M.n = 20 ∧ M.room = n0) ∧ Asked M.f aq ∧ M.First ∧ Holds e wr [Old e, IsSema p M, pt ba (encI aq) 52]) (fun _ i _ => len - (intOf i).toNat)
  case atStart => exact ⟨0, ⟨20, 0, n0, [], [], fun _ => none⟩, List.replicate 20 0, Nat.zero_le _, rfl, rfl, ⟨rfl, rfl⟩, ⟨rfl, fun x v h => by cases h⟩, (fun y l h => by cases h), Hw0.out⟩
  case round =>
    clear Hw0
    obtain ⟨q, M, aq, hq, rfl, rfl, hst, hasked, hfirst, hw⟩ := hrel
    have Hst := Sep.hid hst; clear hst
    have Has := Sep.hid hasked; clear hasked
    by_cases hlt : q < len
    · obtain ⟨d, hd⟩ : ∃ d, l1[q]? = some d := ⟨_, List.getElem?_eq_getElem (by rw [Hlen.out]; exact hlt)⟩
      obtain ⟨hdok, ad, rfl, hcell⟩ := hl1.out q d hd
      have Hcell := Sep.hid hcell; clear hcell hd
      have Hdok := Sep.hid hdok; clear hdok
      obtain ⟨f0, f1, f2⟩ := d
      obtain ⟨hrw, hok⟩ := sema_ok (i := 1) rfl hw
      have Hok := Sep.hid hok; clear hok
      have Hfi : Hid ((M.act ⟨f0, f1, f2⟩).2.2.2.First ∧ (M.act ⟨f0, f1, f2⟩).2.2.2.Ok) := Sep.hid ⟨sum_first M ⟨f0, f1, f2⟩ Hok.out hfirst, Hok.out.act _ Hdok.out.2.2.2⟩
      clear hfirst
      obtain ⟨o, M', b, er, hb, hnr2, hcs⟩ := sum_cases M ⟨f0, f1, f2⟩ Hok.out Hst.out.1 (fun x hx => by have h1 := hrw.pos M.w (by simp) x hx; have := Hst.out.1; omega)
      clear hrw
      have Hcs := Sep.hid hcs; clear hcs
      have Hnr2 : Hid (M'.n = 20 ∧ M'.room = n0) := Sep.hid ⟨hnr2.1.trans Hst.out.1, hnr2.2.trans Hst.out.2⟩; clear hnr2
      have hol := act_len M ⟨f0, f1, f2⟩
      rw [hb] at Hfi hol
      have hol2 : o.length ≤ 1000 := Nat.le_trans hol (sema_len (i := 1) rfl hw).1
      clear hol
      have Hb := Sep.hid hb; clear hb
      go_wp2_with (first | ((with_reducible refine wpList_act (x := ?hx0x11) (y := ?hy0x11) (x1 := ?hx1x11) (x3 := ?hx3x11) (y3 := ?hy3x11) (cap := ?hcpx11) (vs := encA ⟨f0, f1, f2⟩) (q := q) (ad := ad) ti32 agg32 sl22 ?a1x11 ?a2x11 hlt hw (i := 0) ?a3x11 ?a4x11 ?a5x11 (encA_one ⟨f0, f1, f2⟩) Hcell.out ?b0x11 ?c0x11 ?b1x11 ?c1x11 ?d1x11 ?b2x11 ?c2x11 ?b3x11 ?c3x11 ?d3x11 ?f3x11 ?ggx11); (case b0x11 => rfl); (case b1x11 => rfl); (case b2x11 => rfl); (case b3x11 => rfl); (case a1x11 => rfl); (case a2x11 => rfl); (case a3x11 => rfl); (case a4x11 => rfl); (case a5x11 => rfl); (case c0x11 => rfl); (case c1x11 => rfl); (case d1x11 => rfl); (case c2x11 => rfl); (case c3x11 => (intro b; rfl)); (case d3x11 => (intro b; rfl)); (case f3x11 => (intro b; rfl)); intro bd w_ hw_; simp only [encA] at hw_; clear hw; have hw := hw_; clear hw_; (try simp only [List.map_cons, List.map_nil, List.getD_cons_zero, List.getD_cons_succ, List.getD_nil, List.set_cons_zero, List.set_cons_succ, List.cons_append, List.nil_append, Act.eval, Array.getD_eq_getD_getElem?, List.getElem?_toArray, List.getElem?_cons_succ, List.getElem?_cons_zero, Option.getD_some, Value.cells] at hw); (try simp (disch := first | (simp; done) | (simp; omega)) only [Sep.mid_set, Sep.mid_set2, Sep.mid_set0, Sep.mid_splice, Sep.mid_splice0, List.set_cons_zero, List.set_cons_succ] at hw); (try simp only [Sep.splice, List.take_succ_cons, List.take_zero, List.drop_succ_cons, List.drop_zero, List.length_cons, List.length_nil, Nat.reduceAdd, List.cons_append, List.nil_append] at hw); (try replace hc0 := Sep.Holds.cells hw (i := 0) rfl); (try replace hc1 := Sep.Holds.cells hw (i := 1) rfl); (try replace hc2 := Sep.Holds.cells hw (i := 2) rfl); (try replace hc3 := Sep.Holds.cells hw (i := 3) rfl); (try replace hc4 := Sep.Holds.cells hw (i := 4) rfl); (try replace hc5 := Sep.Holds.cells hw (i := 5) rfl); (try replace hc6 := Sep.Holds.cells hw (i := 6) rfl)) | (refine wpList_on rfl (wp_loadN (vs := encA ⟨f0, f1, f2⟩) rfl rfl hw (i := 3) rfl rfl (by intro j v hj; simpa [encA] using hj) ?_)))
      have hdo := fun w X hw => do_calls p M ⟨f0, f1, f2⟩ Hdok.out.2.2.2 e w X hw
      simp only [Hb.out] at hdo
      refine (hdo _ _ (hw.focus1 1 rfl)).mono ?_
      rintro en_ w_ ⟨v, rfl, hw_⟩
      clear hw; (try clear hc0); (try clear hc1); (try clear hc2); (try clear hc3); (try clear hc4); (try clear hc5); (try clear hc6); have hw := Holds.unfocus1 1 (by simp) hw_; clear hw_ hdo Hb
      (try simp only [List.map_cons, List.map_nil, List.getD_cons_zero, List.getD_cons_succ, List.getD_nil, List.set_cons_zero, List.set_cons_succ, List.cons_append, List.nil_append, Act.eval, Array.getD_eq_getD_getElem?, List.getElem?_toArray, List.getElem?_cons_succ, List.getElem?_cons_zero, Option.getD_some, Value.cells] at hw); (try simp (disch := first | (simp; done) | (simp; omega)) only [Sep.mid_set, Sep.mid_set2, Sep.mid_set0, Sep.mid_splice, Sep.mid_splice0, List.set_cons_zero, List.set_cons_succ] at hw); (try simp only [Sep.splice, List.take_succ_cons, List.take_zero, List.drop_succ_cons, List.drop_zero, List.length_cons, List.length_nil, Nat.reduceAdd, List.cons_append, List.nil_append] at hw)
      obtain ⟨oa, oc, rfl⟩ := Sl.value (i := 4) rfl hw
      obtain ⟨no, hno⟩ : ∃ no, o.length = no := ⟨_, rfl⟩
      rw [hno] at hw ⊢ hol2
      have Hno := Sep.hid hno; clear hno
      (try replace hc0 := Sep.Holds.cells hw (i := 0) rfl); (try replace hc1 := Sep.Holds.cells hw (i := 1) rfl); (try replace hc2 := Sep.Holds.cells hw (i := 2) rfl); (try replace hc3 := Sep.Holds.cells hw (i := 3) rfl); (try replace hc4 := Sep.Holds.cells hw (i := 4) rfl); (try replace hc5 := Sep.Holds.cells hw (i := 5) rfl); (try replace hc6 := Sep.Holds.cells hw (i := 6) rfl)
      go_upto_block 2 with fail
      go_cut [7] (fun hv wx => ∃ (h1 : Int) (aq1 : List Int), hv = .int .i64 h1 ∧ Asked M'.f aq1 ∧ chain (gOf aq1) n0 h1 o M'.held ∧ Holds e wx [Old e, IsSema p M', pt ba (encI aq1) 52, IsInts (.slice oa no oc) o])
      case first =>
        as_aux_lemma =>
        have Hle : Hid (0 ≤ M.held ∧ M.held ≤ n0) := Sep.hid ⟨Hok.out.h0, by have := Hok.out.h1; rw [Hst.out.2] at this; exact this⟩
        have hrm : M.room = n0 := Hst.out.2
        have hcs := Hcs.out
        rw [hrm] at hcs
        clear Hcs hrm
        have meet : ∀ (h1 : Int) (g : Int → Int), chain g n0 h1 o M'.held → (∀ x ∈ o, (M.f x).isSome = true) → g = M.wt → chain (gOf aq) n0 h1 o M'.held := fun h1 g hc hx he => by
          subst he
          exact chain_congr o h1 (fun x hxo => Has.out.getD (hx x hxo)) hc
        have Hmeet := Sep.hid meet; clear meet
        rcases hcs with ⟨he, rfl, rfl, rfl⟩ | ⟨rfl, rfl, hd, rfl, hf, hh, hff⟩ | ⟨rfl, rfl, hd, rfl, hx, hh, hff⟩ | ⟨rfl, rfl, hd, rfl, rfl⟩ | ⟨rfl, rfl, hd, hx, hc, hs, hin⟩ | ⟨rfl, ⟨hd0, hd1, hd2⟩, hc, hs, hin⟩
        · obtain rfl : no = 0 := Hno.out.symm
          go_wp2_with fail
          go_meet
          exact ⟨M'.held, aq, rfl, Has.out, rfl, hw.sel [0, 1, 2, 4] (by decide)⟩
        · obtain rfl : no = 0 := Hno.out.symm
          have hd : f0 = 0 ∨ f0 = 1 := hd
          have Hf : Hid (fits M.held f2 n0 = true) := Sep.hid hf
          have hfi := (fits_iff _ _ _).1 Hf.out
          have hwr : IntKind.i64.wrap (M.held + f2) = M.held + f2 := IntWalk.i64_in _ (by have := Hn0.out.2; omega)
          have Hh : Hid (M.held + f2 = M'.held) := Sep.hid hh.symm
          have Hff := Sep.hid hff
          clear hf hfi hh hff
          rcases hd with rfl | rfl
          · go_wp2_with fail
            refine (sFits M.held f2 n0 Hn0.out.2 _).mono ?_
            rintro _ w_ ⟨rfl, rfl⟩
            rw [Hf.out]
            go_wp2_with fail
            go_meet
            exact ⟨M.held + f2, aq, rfl, by rw [Hff.out]; exact Has.out, Hh.out, hw.sel [0, 1, 2, 4] (by decide)⟩
          · go_wp2_with fail
            refine (sFits M.held f2 n0 Hn0.out.2 _).mono ?_
            rintro _ w_ ⟨rfl, rfl⟩
            rw [Hf.out]
            go_wp2_with fail
            go_meet
            exact ⟨M.held + f2, aq, rfl, by rw [Hff.out]; exact Has.out, Hh.out, hw.sel [0, 1, 2, 4] (by decide)⟩
        · obtain rfl : no = 0 := Hno.out.symm
          obtain rfl : f0 = 0 := hd
          obtain ⟨k, rfl⟩ : ∃ k : Nat, f1 = (k : Int) := ⟨f1.toNat, by have : 0 ≤ f1 := hx.1; omega⟩
          have hk : (k : Int) < 20 := hx.2
          have hk2 : k < 20 := by omega
          have Hff : Hid (M'.f = setI M.f k (some f2)) := Sep.hid hff
          have Hh : Hid (M.held = M'.held) := Sep.hid hh.symm
          clear hff hh hx
          go_wp2_with (refine wpList_on rfl (wp_store1 (v := .int .i64 f2) rfl rfl rfl hw (i := 2) rfl (by rw [encI_length, Has.out.1]; omega) rfl ?_); intro w_ hw_; rw [encI_set] at hw_; clear hw; have hw := hw_; clear hw_; (try simp only [List.map_cons, List.map_nil, List.getD_cons_zero, List.getD_cons_succ, List.getD_nil, List.set_cons_zero, List.set_cons_succ, List.cons_append, List.nil_append, Act.eval, Array.getD_eq_getD_getElem?, List.getElem?_toArray, List.getElem?_cons_succ, List.getElem?_cons_zero, Option.getD_some, Value.cells] at hw); (try simp (disch := first | (simp; done) | (simp; omega)) only [Sep.mid_set, Sep.mid_set2, Sep.mid_set0, Sep.mid_splice, Sep.mid_splice0, List.set_cons_zero, List.set_cons_succ] at hw); (try simp only [Sep.splice, List.take_succ_cons, List.take_zero, List.drop_succ_cons, List.drop_zero, List.length_cons, List.length_nil, Nat.reduceAdd, List.cons_append, List.nil_append] at hw); (try replace hc0 := Sep.Holds.cells hw (i := 0) rfl); (try replace hc1 := Sep.Holds.cells hw (i := 1) rfl); (try replace hc2 := Sep.Holds.cells hw (i := 2) rfl); (try replace hc3 := Sep.Holds.cells hw (i := 3) rfl); (try replace hc4 := Sep.Holds.cells hw (i := 4) rfl); (try replace hc5 := Sep.Holds.cells hw (i := 5) rfl); (try replace hc6 := Sep.Holds.cells hw (i := 6) rfl))
          go_meet
          exact ⟨M.held, aq.set k f2, rfl, by rw [Hff.out]; exact Has.out.set hk2, Hh.out, hw.sel [0, 1, 2, 4] (by decide)⟩
        · obtain rfl : no = 0 := Hno.out.symm
          obtain rfl : f0 = 1 := hd
          go_wp2_with fail
          go_meet
          exact ⟨M'.held, aq, rfl, Has.out, rfl, hw.sel [0, 1, 2, 4] (by decide)⟩
        · obtain rfl : f0 = 2 := hd
          have hx1 : 0 ≤ f2 := hx.1
          have hx2 : f2 ≤ M.held := hx.2
          have hwr : IntKind.i64.wrap (M.held - f2) = M.held - f2 := IntWalk.i64_in _ (by have := Hn0.out.2; have := Hle.out; omega)
          have Hc : Hid (chain M.wt n0 (M.held - f2) o M'.held) := Sep.hid hc
          have Hs := Sep.hid hs
          have Hin := Sep.hid hin
          clear hx hc hs hin
          go_wp2_with fail
          go_meet
          exact ⟨M.held - f2, aq, rfl, Has.out.mono Hs.out, Hmeet.out _ _ Hc.out (fun x hx => (Hok.out.is x).2 (.inl (Hin.out x hx))) rfl, hw.sel [0, 1, 2, 4] (by decide)⟩
        · have hd0 : ¬ f0 = 0 := hd0
          have hd1 : ¬ f0 = 1 := hd1
          have hd2 : ¬ f0 = 2 := hd2
          have Hc : Hid (chain M.wt n0 M.held o M'.held) := Sep.hid hc
          have Hs := Sep.hid hs
          have Hin := Sep.hid hin
          clear hc hs hin
          by_cases hlow : f0 ≤ 1
          · have hlow2 : ¬ 0 ≤ f0 := by omega
            go_wp2_with fail
            go_meet
            exact ⟨M.held, aq, rfl, Has.out.mono Hs.out, Hmeet.out _ _ Hc.out (fun x hx => (Hok.out.is x).2 (.inl (Hin.out x hx))) rfl, hw.sel [0, 1, 2, 4] (by decide)⟩
          · go_wp2_with fail
            go_meet
            exact ⟨M.held, aq, rfl, Has.out.mono Hs.out, Hmeet.out _ _ Hc.out (fun x hx => (Hok.out.is x).2 (.inl (Hin.out x hx))) rfl, hw.sel [0, 1, 2, 4] (by decide)⟩
      case rest =>
        as_aux_lemma =>
        clear Hcs Hok Hdok Hcell hw
        (try clear hc0); (try clear hc1); (try clear hc2); (try clear hc3); (try clear hc4); (try clear hc5); (try clear hc6)
        obtain ⟨h1, aq1, rfl, hask, hch, hw⟩ := hcut
        have Has1 := Sep.hid hask; clear hask
        have Hch := Sep.hid hch; clear hch
        go_wp2_with fail
        have Hw1 := Sep.hid hw; clear hw
        go_loopw [7, 119] (fun hv j wx => ∃ (k : Nat) (h : Int), k ≤ no ∧ j = .int .i64 k ∧ hv = .int .i64 h ∧ chain (gOf aq1) n0 h (o.drop k) M'.held ∧ Holds e wx [Old e, IsSema p M', pt ba (encI aq1) 52, IsInts (.slice oa no oc) o]) (fun _ j _ => no - (intOf j).toNat)
        case atStart => exact ⟨0, h1, Nat.zero_le _, rfl, rfl, Hch.out, Hw1.out⟩
        case round =>
          as_aux_lemma =>
          clear Hw1
          obtain ⟨k, h, hk, rfl, rfl, hc, hw⟩ := hrel
          by_cases hlk : k < no
          · obtain ⟨t, ht⟩ : ∃ t, o[k]? = some t := ⟨_, List.getElem?_eq_getElem (by rw [Hno.out]; exact hlk)⟩
            have hdr : o.drop k = t :: o.drop (k + 1) := by
              rw [List.drop_eq_getElem_cons (by rw [Hno.out]; exact hlk)]
              congr 1
              have := (List.getElem?_eq_some_iff.1 ht).2
              exact this
            rw [hdr] at hc
            obtain ⟨⟨ht0, ht20⟩, hf, hc⟩ := hc
            obtain ⟨tn, rfl⟩ : ∃ tn : Nat, t = (tn : Int) := ⟨t.toNat, by omega⟩
            have htn : tn < 20 := by omega
            have hw' := row_as (i := 3) hw rfl rfl no Hno.out
            obtain ⟨bo, oo, rfl, go⟩ := num_at (i := 3) hw' rfl ht
            clear hw'
            have hg : gOf aq1 (tn : Int) = aq1.getD tn 0 := rfl
            rw [hg] at hf hc
            generalize hgv : aq1.getD tn 0 = gv at *
            have gk := Sep.Holds.cells hw (i := 2) rfl tn
            have gaq : aq1[tn]? = some gv := by
              rw [List.getElem?_eq_getElem (by rw [Has1.out.1]; exact htn), ← hgv, List.getD_eq_getElem?_getD, List.getElem?_eq_getElem (by rw [Has1.out.1]; exact htn)]; rfl
            rw [encI_get gaq] at gk
            clear gaq
            have Hf : Hid (fits h gv n0 = true) := Sep.hid hf
            have hfi := (fits_iff _ _ _).1 Hf.out
            have hwr : IntKind.i64.wrap (h + gv) = h + gv := IntWalk.i64_in _ (by have := Hn0.out.2; omega)
            have Hc : Hid (chain (gOf aq1) n0 (h + gv) (o.drop (k + 1)) M'.held) := Sep.hid hc
            clear hf hfi hc ht hdr hgv hg
            go_wp2_with fail
            refine (sFits h gv n0 Hn0.out.2 _).mono ?_
            rintro _ w_ ⟨rfl, rfl⟩
            rw [Hf.out]
            go_wp2_with fail
            go_roundw
            case rel => exact ⟨k + 1, h + gv, by omega, by go_num, rfl, Hc.out, hw⟩
            case measure => simp [intOf]; omega
          · have hke : k = no := by omega
            rw [hke, List.drop_eq_nil_of_le (by rw [Hno.out]; exact Nat.le_refl _)] at hc
            obtain rfl : h = M'.held := hc
            have hp1 : 0 ≤ M'.held := Hfi.out.2.h0
            have hp2 : M'.held ≤ n0 := by have := Hfi.out.2.h1; rw [Hnr2.out.2] at this; exact this
            clear hke
            go_wp2_with fail
            have Hln := Sep.hid (sema_len (i := 1) rfl hw)
            have Hrw := Sep.hid (sema_ok (i := 1) rfl hw).1
            refine (oWaiting p M' e _ _ (hw.focus1 1 rfl)).mono ?_
            rintro en_ w_ ⟨u, v, rfl, hw_⟩
            clear hw; (try clear hc0); (try clear hc1); (try clear hc2); (try clear hc3); (try clear hc4); (try clear hc5); (try clear hc6); have hw := Holds.unfocus1 1 (by simp) hw_; clear hw_
            (try simp only [List.map_cons, List.map_nil, List.getD_cons_zero, List.getD_cons_succ, List.getD_nil, List.set_cons_zero, List.set_cons_succ, List.cons_append, List.nil_append, Act.eval, Array.getD_eq_getD_getElem?, List.getElem?_toArray, List.getElem?_cons_succ, List.getElem?_cons_zero, Option.getD_some, Value.cells] at hw); (try simp (disch := first | (simp; done) | (simp; omega)) only [Sep.mid_set, Sep.mid_set2, Sep.mid_set0, Sep.mid_splice, Sep.mid_splice0, List.set_cons_zero, List.set_cons_succ] at hw); (try simp only [Sep.splice, List.take_succ_cons, List.take_zero, List.drop_succ_cons, List.drop_zero, List.length_cons, List.length_nil, Nat.reduceAdd, List.cons_append, List.nil_append] at hw)
            obtain ⟨ua, uc, rfl⟩ := Sl.value (i := 4) rfl hw
            obtain ⟨va, vc, rfl⟩ := Sl.value (i := 5) rfl hw
            obtain ⟨nw, hnw⟩ : ∃ k, M'.w.length = k := ⟨_, rfl⟩
            obtain ⟨nd, hnd⟩ : ∃ k, M'.d.length = k := ⟨_, rfl⟩
            rw [hnw, hnd] at hw ⊢
            have hl1 : nw ≤ 1000 := by have := Hln.out.1; omega
            have hl2 : nd ≤ 1000 := by have := Hln.out.2; omega
            have Hnw := Sep.hid hnw; have Hnd := Sep.hid hnd
            clear hnw hnd
            have hw := row_as (i := 4) hw rfl rfl nw Hnw.out
            have hw := row_as (i := 5) hw rfl rfl nd Hnd.out
            (try simp only [List.map_cons, List.map_nil, List.getD_cons_zero, List.getD_cons_succ, List.getD_nil, List.set_cons_zero, List.set_cons_succ, List.cons_append, List.nil_append, Act.eval, Array.getD_eq_getD_getElem?, List.getElem?_toArray, List.getElem?_cons_succ, List.getElem?_cons_zero, Option.getD_some, Value.cells] at hw); (try simp (disch := first | (simp; done) | (simp; omega)) only [Sep.mid_set, Sep.mid_set2, Sep.mid_set0, Sep.mid_splice, Sep.mid_splice0, List.set_cons_zero, List.set_cons_succ] at hw); (try simp only [Sep.splice, List.take_succ_cons, List.take_zero, List.drop_succ_cons, List.drop_zero, List.length_cons, List.length_nil, Nat.reduceAdd, List.cons_append, List.nil_append] at hw)
            go_wp2_with (first
              | (go_at_call 16; refine (oHeld p M' e _ _ (hw.focus1 1 rfl)).mono ?_; rintro _ w_ ⟨rfl, rfl⟩)
              | (refine wpList_on rfl (wp_bsl0 rfl hw ?_); intro b_ w_ hw_; replace hw_ := hw_.newSl (i := 6) rfl 1 0 rfl (by decide); clear hw; have hw := hw_; clear hw_; (try simp only [List.map_cons, List.map_nil, List.getD_cons_zero, List.getD_cons_succ, List.getD_nil, List.set_cons_zero, List.set_cons_succ, List.cons_append, List.nil_append, Act.eval, Array.getD_eq_getD_getElem?, List.getElem?_toArray, List.getElem?_cons_succ, List.getElem?_cons_zero, Option.getD_some, Value.cells] at hw); (try simp (disch := first | (simp; done) | (simp; omega)) only [Sep.mid_set, Sep.mid_set2, Sep.mid_set0, Sep.mid_splice, Sep.mid_splice0, List.set_cons_zero, List.set_cons_succ] at hw); (try simp only [Sep.splice, List.take_succ_cons, List.take_zero, List.drop_succ_cons, List.drop_zero, List.length_cons, List.length_nil, Nat.reduceAdd, List.cons_append, List.nil_append] at hw); (try replace hc0 := Sep.Holds.cells hw (i := 0) rfl); (try replace hc1 := Sep.Holds.cells hw (i := 1) rfl); (try replace hc2 := Sep.Holds.cells hw (i := 2) rfl); (try replace hc3 := Sep.Holds.cells hw (i := 3) rfl); (try replace hc4 := Sep.Holds.cells hw (i := 4) rfl); (try replace hc5 := Sep.Holds.cells hw (i := 5) rfl); (try replace hc6 := Sep.Holds.cells hw (i := 6) rfl)) | (at_builtin; refine wpList_on rfl (wp_appendSl (i := 6) (j := 4) rfl rfl hw rfl rfl rfl (by first | exact encI_one _ | simp [Value.oneCell']) (by rfl) (by (try unfold maxLen); omega) (by (try unfold maxLen); omega) ?_); intro a2_ cap2_ w_ hw_; (try simp only [Nat.zero_add, List.nil_append] at hw_); clear hw; have hw := hw_; clear hw_; (try simp only [List.map_cons, List.map_nil, List.getD_cons_zero, List.getD_cons_succ, List.getD_nil, List.set_cons_zero, List.set_cons_succ, List.cons_append, List.nil_append, Act.eval, Array.getD_eq_getD_getElem?, List.getElem?_toArray, List.getElem?_cons_succ, List.getElem?_cons_zero, Option.getD_some, Value.cells] at hw); (try simp (disch := first | (simp; done) | (simp; omega)) only [Sep.mid_set, Sep.mid_set2, Sep.mid_set0, Sep.mid_splice, Sep.mid_splice0, List.set_cons_zero, List.set_cons_succ] at hw); (try simp only [Sep.splice, List.take_succ_cons, List.take_zero, List.drop_succ_cons, List.drop_zero, List.length_cons, List.length_nil, Nat.reduceAdd, List.cons_append, List.nil_append] at hw); (try replace hc0 := Sep.Holds.cells hw (i := 0) rfl); (try replace hc1 := Sep.Holds.cells hw (i := 1) rfl); (try replace hc2 := Sep.Holds.cells hw (i := 2) rfl); (try replace hc3 := Sep.Holds.cells hw (i := 3) rfl); (try replace hc4 := Sep.Holds.cells hw (i := 4) rfl); (try replace hc5 := Sep.Holds.cells hw (i := 5) rfl); (try replace hc6 := Sep.Holds.cells hw (i := 6) rfl)) | (at_builtin; refine wpList_on rfl (wp_appendSl (i := 6) (j := 5) rfl rfl hw rfl rfl rfl (by first | exact encI_one _ | simp [Value.oneCell']) (by rfl) (by (try unfold maxLen); omega) (by (try unfold maxLen); omega) ?_); intro a2_ cap2_ w_ hw_; (try simp only [Nat.zero_add, List.nil_append] at hw_); clear hw; have hw := hw_; clear hw_; (try simp only [List.map_cons, List.map_nil, List.getD_cons_zero, List.getD_cons_succ, List.getD_nil, List.set_cons_zero, List.set_cons_succ, List.cons_append, List.nil_append, Act.eval, Array.getD_eq_getD_getElem?, List.getElem?_toArray, List.getElem?_cons_succ, List.getElem?_cons_zero, Option.getD_some, Value.cells] at hw); (try simp (disch := first | (simp; done) | (simp; omega)) only [Sep.mid_set, Sep.mid_set2, Sep.mid_set0, Sep.mid_splice, Sep.mid_splice0, List.set_cons_zero, List.set_cons_succ] at hw); (try simp only [Sep.splice, List.take_succ_cons, List.take_zero, List.drop_succ_cons, List.drop_zero, List.length_cons, List.length_nil, Nat.reduceAdd, List.cons_append, List.nil_append] at hw); (try replace hc0 := Sep.Holds.cells hw (i := 0) rfl); (try replace hc1 := Sep.Holds.cells hw (i := 1) rfl); (try replace hc2 := Sep.Holds.cells hw (i := 2) rfl); (try replace hc3 := Sep.Holds.cells hw (i := 3) rfl); (try replace hc4 := Sep.Holds.cells hw (i := 4) rfl); (try replace hc5 := Sep.Holds.cells hw (i := 5) rfl); (try replace hc6 := Sep.Holds.cells hw (i := 6) rfl)))
            rw [← encI_append] at hw
            have Hw2 := Sep.hid hw; clear hw
            (try clear hc0); (try clear hc1); (try clear hc2); (try clear hc3); (try clear hc4); (try clear hc5); (try clear hc6)
            go_loopw [168] (fun j wx => ∃ k : Nat, k ≤ nw + nd ∧ j = .int .i64 k ∧ Holds e wx [Old e, IsSema p M', pt ba (encI aq1) 52, Sl 3 1 (.slice ua nw uc) nw (encI M'.w), Sl 3 1 (.slice a2_ (nw + nd) cap2_) (nw + nd) (encI (M'.w ++ M'.d))]) (fun j _ => (nw + nd) - (intOf j).toNat)
            case atStart => exact ⟨0, Nat.zero_le _, rfl, Hw2.out.sel [0, 1, 2, 4, 6] (by decide)⟩
            case round =>
              as_aux_lemma =>
              clear Hw2
              obtain ⟨k, hk, rfl, hw⟩ := hrel
              by_cases hlk : k < nw + nd
              · obtain ⟨t, ht⟩ : ∃ t, (M'.w ++ M'.d)[k]? = some t := ⟨_, List.getElem?_eq_getElem (by rw [List.length_append, Hnw.out, Hnd.out]; exact hlk)⟩
                have htm : t ∈ M'.w ∨ t ∈ M'.d := List.mem_append.1 (List.mem_of_getElem? ht)
                have hft := Hfi.out.2.get htm
                obtain ⟨⟨ht0, ht20⟩, haq⟩ := Has1.out.2 t _ hft
                have his : (M'.f t).isSome = true := by rw [hft]; rfl
                have Hx : Hid ((k < nw ∧ M'.wt t ≤ n0) ∨ (nw ≤ k ∧ n0 < M'.wt t)) := Sep.hid (by
                  by_cases hkn : k < nw
                  · refine .inl ⟨hkn, ?_⟩
                    rw [List.getElem?_append_left (by rw [Hnw.out]; exact hkn)] at ht
                    have := Hfi.out.2.lo t _ (List.mem_of_getElem? ht) hft
                    rw [Hnr2.out.2] at this; exact this
                  · refine .inr ⟨by omega, ?_⟩
                    rw [List.getElem?_append_right (by rw [Hnw.out]; omega)] at ht
                    have := Hfi.out.2.hi t _ (List.mem_of_getElem? ht) hft
                    rw [Hnr2.out.2] at this; exact this)
                obtain ⟨tn, rfl⟩ : ∃ tn : Nat, t = (tn : Int) := ⟨t.toNat, by omega⟩
                rw [Int.toNat_natCast] at haq
                obtain ⟨bo, oo, rfl, go⟩ := num_at (i := 4) hw rfl ht
                have gk := Sep.Holds.cells hw (i := 2) rfl tn
                rw [encI_get haq] at gk
                have Ht := Sep.hid ht
                have His := Sep.hid his
                clear ht htm hft haq his
                generalize hwt : M'.wt tn = wt at *
                have Hwt := Sep.hid hwt; clear hwt
                rcases Hx.out with ⟨hx1, hx2⟩ | ⟨hx1, hx2⟩
                · clear Hx
                  have hx3 : ¬ (nw : Int) ≤ (k : Int) := by omega
                  have hx4 : ¬ n0 < wt := by omega
                  have hx5 : ¬ nw ≤ k := by omega
                  have hx6 : (k : Int) < (nw : Int) := by omega
                  go_wp2_with fail
                  refine (oWants p M' tn e _ _ (hw.focus1 1 rfl)).mono ?_
                  rintro _ w_ ⟨rfl, rfl⟩
                  rw [His.out, Hwt.out]
                  go_wp2_with fail
                  go_roundw
                  case rel => exact ⟨k + 1, by omega, by go_num, hw⟩
                  case measure => simp [intOf]; omega
                · clear Hx
                  have hx3 : (nw : Int) ≤ (k : Int) := by omega
                  have hx4 : ¬ wt ≤ n0 := by omega
                  have hx5 : ¬ k < nw := by omega
                  have hx6 : ¬ (k : Int) < (nw : Int) := by omega
                  go_wp2_with fail
                  refine (oWants p M' tn e _ _ (hw.focus1 1 rfl)).mono ?_
                  rintro _ w_ ⟨rfl, rfl⟩
                  rw [His.out, Hwt.out]
                  go_wp2_with fail
                  go_roundw
                  case rel => exact ⟨k + 1, by omega, by go_num, hw⟩
                  case measure => simp [intOf]; omega
              · obtain hwn | ⟨y, l, hwn⟩ : M'.w = [] ∨ ∃ y l, M'.w = y :: l := by cases M'.w <;> simp
                · obtain rfl : nw = 0 := by rw [← Hnw.out, hwn]; rfl
                  clear hwn
                  go_wp2_with fail
                  go_roundw
                  case rel => exact ⟨q + 1, M', aq1, by omega, by go_num, rfl, Hnr2.out, Has1.out, Hfi.out.1, hw.sel [0, 1, 2] (by decide)⟩
                  case measure => simp [intOf]; omega
                · have hf := Hfi.out.1 y l hwn
                  rw [Hnr2.out.2] at hf
                  have hfy := Hfi.out.2.get (t := y) (.inl (by rw [hwn]; simp))
                  obtain ⟨⟨ht0, ht20⟩, haq⟩ := Has1.out.2 y _ hfy
                  obtain ⟨tn, rfl⟩ : ∃ tn : Nat, y = (tn : Int) := ⟨y.toNat, by omega⟩
                  rw [Int.toNat_natCast] at haq
                  obtain ⟨bo, oo, rfl, go⟩ := num_at (i := 3) (k := 0) hw rfl (show M'.w[0]? = some (tn : Int) by rw [hwn]; rfl)
                  have go1 : wr.cell? ⟨bo, oo, none⟩ = some (.int .i64 tn) := go
                  have gk := Sep.Holds.cells hw (i := 2) rfl tn
                  rw [encI_get haq] at gk
                  have hpos : 0 < nw := by rw [← Hnw.out, hwn]; simp
                  have Hf := Sep.hid hf
                  clear go hf hfy haq hwn
                  generalize M'.wt tn = wt at *
                  go_wp2_with fail
                  refine (sFits M'.held wt n0 Hn0.out.2 _).mono ?_
                  rintro _ w_ ⟨rfl, rfl⟩
                  rw [Hf.out]
                  go_wp2_with fail
                  go_roundw
                  case rel => exact ⟨q + 1, M', aq1, by omega, by go_num, rfl, Hnr2.out, Has1.out, Hfi.out.1, hw.sel [0, 1, 2] (by decide)⟩
                  case measure => simp [intOf]; omega
    · go_wp2_with fail
      exact HP.out _ _ ⟨rfl, hw.sel [0] (by decide)⟩
end Go.Proofs.Ytpbpineehbemhaa
