/-
  TaskDoes: the walk.
-/
import Derived.Test.YtmoikkfhlnogbaaTRefG
import Derived.Test.YtmoikkfhlnogbaaAloneM
import Derived.Deep.CutBlock
import Derived.Deep.DeepCutAuto
namespace Go.Proofs.Ytmoikkfhlnogbaa
set_option linter.unusedSimpArgs false
set_option linter.unusedVariables false
open Go.RowKit Go.Sep Go.TaskM

theorem St.change {T : Table} (h : St T) (n : Int) (m : Task → Bool) (g : Task → Task) (hg : ∀ t, (t.state = 1 ∨ t.state = 2 ∨ t.state = 3) → ((g t).state = 1 ∨ (g t).state = 2 ∨ (g t).state = 3)) : St (T.change n m g) := by
  unfold Table.change
  split
  · rename_i hc
    intro x hx
    rcases List.mem_or_eq_of_mem_set hx with hx | rfl
    · exact h x hx
    · have h2 : ∃ y, T.get n = some y := by
        unfold Table.can at hc
        cases hq : T.get n with
        | none => rw [hq] at hc; cases hc
        | some y => exact ⟨y, rfl⟩
      obtain ⟨y, hy⟩ := h2
      have h3 : T.getD n = y := by unfold Table.getD; rw [hy]; rfl
      rw [h3]
      unfold Table.get at hy
      split at hy
      · exact hg y (h y (List.mem_of_getElem? hy))
      · cases hy
  · exact h
theorem put_state (t : Task) (r x : Int) : (t.put r x).state = t.state := by
  unfold Task.put
  repeat' split
  all_goals rfl
theorem St.act {T : Table} (h : St T) (d : Deed) : St (actT T d) := by
  unfold actT
  repeat' split
  · unfold Table.begin_
    split
    · exact h
    · intro x hx
      rcases List.mem_append.1 hx with hx | hx
      · exact h x hx
      · rw [List.mem_singleton.1 hx]; exact .inl rfl
  · exact h.change _ _ _ fun t ht => ht
  · exact h.change _ _ _ fun t ht => by unfold setG; rw [put_state]; exact ht
  · exact h.change _ _ _ fun t ht => .inr (.inl rfl)
  · exact h
  · exact h.change _ _ _ fun t ht => ht
  · exact h
  · exact h.change _ _ _ fun t ht => .inl rfl
  · exact h.change _ _ _ fun t ht => .inr (.inr rfl)
  · exact h
theorem ref_back {e w : World} {A B : HProp} {r rl rcap : Nat} {T : Table} {ra : Option Addr} (hrl : T.l.length = rl)
    (hw : Holds e w [A, B, pt r [.slice ra rl rcap, .int .i64 T.most] 47, Sl 57 17 (.slice ra rl rcap) rl (T.l.flatMap encT)]) : Holds e w [A, B, IsR r T] :=
  Holds.ungroup [A, B] _ (ref_close hrl (Holds.group [A, B] _ hw))
theorem run_neS {o : Oper} {a : Act} {w : World} {x y : Operand} {yt : TypeId} (s : Task) (ho : o.op = .binOp .neq 57 x y yt) (hx : a.eval x = .agg (encT s).toArray) (hy : a.eval y = .agg (encT s).toArray) :
    (execOp a.eval o).run Try.prog w = .ok (.value (.bool false)) w := by
  have h := run_neR (w := w) s s ho hx hy
  simpa using h
theorem those_short (T : Table) (m : Task → Bool) : (T.those m).length ≤ T.l.length := by
  unfold Table.those
  rw [List.length_map]
  exact Nat.le_trans (List.length_filter_le _ _) (by simp)
set_option maxRecDepth 20000 in
set_option maxHeartbeats 40000000 in
theorem task_does_walk (e : World) (n0 : Int) (a1 : Option Addr) (cap1 : Nat) (l1 : List Deed) (hl1 : Hid (ActsAt e a1 l1)) (hlen1 : l1.length ≤ 9223372036854775807) (st ctx : Int) :
    Calls Try.prog 3 #[.int .i64 n0, .slice a1 l1.length cap1, .int .i64 st, .int .i64 ctx] e fun en w' => en = .returned (.bool true) ∧ Holds e w' [Old e] := by
  have hw := Holds.start e
  by_cases hwide : 30 < n0 ∧ n0 ≤ 200
  · obtain ⟨hw1, hw2⟩ := hwide
    refine Sep.calls_post ?_
    intro Post_ hPost_
    have HP := Sep.hid hPost_
    clear hPost_
    go_enter Try.func3, Try.ntmps3
    go_wp2_with fail
    refine (awake_calls e _ _ hw.focus0).mono ?_
    rintro en_ w_ ⟨rfl, hw_⟩
    clear hw; (try clear hc0); (try clear hc1); (try clear hc2); (try clear hc3); (try clear hc4); (try clear hc5); (try clear hc6); have hw := Holds.unfocus0 (N := []) hw_; clear hw_
    (try simp only [List.map_cons, List.map_nil, List.getD_cons_zero, List.getD_cons_succ, List.getD_nil, List.set_cons_zero, List.set_cons_succ, List.cons_append, List.nil_append, Act.eval, Array.getD_eq_getD_getElem?, List.getElem?_toArray, List.getElem?_cons_succ, List.getElem?_cons_zero, Option.getD_some, Value.cells] at hw); (try simp (disch := first | (simp; done) | (simp; omega)) only [Sep.mid_set, Sep.mid_set2, Sep.mid_set0, Sep.mid_splice, Sep.mid_splice0, List.set_cons_zero, List.set_cons_succ] at hw); (try simp only [Sep.splice, List.take_succ_cons, List.take_zero, List.drop_succ_cons, List.drop_zero, List.length_cons, List.length_nil, Nat.reduceAdd, List.cons_append, List.nil_append] at hw)
    go_wp2_with fail
    exact HP.out _ _ ⟨rfl, hw.sel [0] (by decide)⟩
  by_cases hlong : (100 : Int) < l1.length
  · by_cases h12 : n0 ≤ 30
    · clear hwide
      refine Sep.calls_post ?_
      intro Post_ hPost_
      have HP := Sep.hid hPost_
      clear hPost_
      go_enter Try.func3, Try.ntmps3
      go_wp2_with fail
      refine (awake_calls e _ _ hw.focus0).mono ?_
      rintro en_ w_ ⟨rfl, hw_⟩
      clear hw; (try clear hc0); (try clear hc1); (try clear hc2); (try clear hc3); (try clear hc4); (try clear hc5); (try clear hc6); have hw := Holds.unfocus0 (N := []) hw_; clear hw_
      (try simp only [List.map_cons, List.map_nil, List.getD_cons_zero, List.getD_cons_succ, List.getD_nil, List.set_cons_zero, List.set_cons_succ, List.cons_append, List.nil_append, Act.eval, Array.getD_eq_getD_getElem?, List.getElem?_toArray, List.getElem?_cons_succ, List.getElem?_cons_zero, Option.getD_some, Value.cells] at hw); (try simp (disch := first | (simp; done) | (simp; omega)) only [Sep.mid_set, Sep.mid_set2, Sep.mid_set0, Sep.mid_splice, Sep.mid_splice0, List.set_cons_zero, List.set_cons_succ] at hw); (try simp only [Sep.splice, List.take_succ_cons, List.take_zero, List.drop_succ_cons, List.drop_zero, List.length_cons, List.length_nil, Nat.reduceAdd, List.cons_append, List.nil_append] at hw)
      go_wp2_with fail
      exact HP.out _ _ ⟨rfl, hw.sel [0] (by decide)⟩
    · have h13 : (30 : Int) < n0 := by omega
      have h14 : ¬ n0 ≤ 200 := fun h => hwide ⟨h13, h⟩
      clear hwide h12
      refine Sep.calls_post ?_
      intro Post_ hPost_
      have HP := Sep.hid hPost_
      clear hPost_
      go_enter Try.func3, Try.ntmps3
      go_wp2_with fail
      refine (awake_calls e _ _ hw.focus0).mono ?_
      rintro en_ w_ ⟨rfl, hw_⟩
      clear hw; (try clear hc0); (try clear hc1); (try clear hc2); (try clear hc3); (try clear hc4); (try clear hc5); (try clear hc6); have hw := Holds.unfocus0 (N := []) hw_; clear hw_
      (try simp only [List.map_cons, List.map_nil, List.getD_cons_zero, List.getD_cons_succ, List.getD_nil, List.set_cons_zero, List.set_cons_succ, List.cons_append, List.nil_append, Act.eval, Array.getD_eq_getD_getElem?, List.getElem?_toArray, List.getElem?_cons_succ, List.getElem?_cons_zero, Option.getD_some, Value.cells] at hw); (try simp (disch := first | (simp; done) | (simp; omega)) only [Sep.mid_set, Sep.mid_set2, Sep.mid_set0, Sep.mid_splice, Sep.mid_splice0, List.set_cons_zero, List.set_cons_succ] at hw); (try simp only [Sep.splice, List.take_succ_cons, List.take_zero, List.drop_succ_cons, List.drop_zero, List.length_cons, List.length_nil, Nat.reduceAdd, List.cons_append, List.nil_append] at hw)
      go_wp2_with fail
      exact HP.out _ _ ⟨rfl, hw.sel [0] (by decide)⟩
  by_cases hbad : n0 < 1 ∨ 200 < n0
  · have Hbad := Sep.hid hbad
    have h12 : n0 ≤ 30 ∨ ((30 : Int) < n0 ∧ ¬ n0 ≤ 200) := by omega
    clear hbad hwide
    rcases h12 with h12 | ⟨h12, h13⟩
    all_goals
      refine Sep.calls_post ?_
      intro Post_ hPost_
      have HP := Sep.hid hPost_
      clear hPost_
      go_enter Try.func3, Try.ntmps3
      go_wp2_with fail
      refine (awake_calls e _ _ hw.focus0).mono ?_
      rintro en_ w_ ⟨rfl, hw_⟩
      clear hw; (try clear hc0); (try clear hc1); (try clear hc2); (try clear hc3); (try clear hc4); (try clear hc5); (try clear hc6); have hw := Holds.unfocus0 (N := []) hw_; clear hw_
      (try simp only [List.map_cons, List.map_nil, List.getD_cons_zero, List.getD_cons_succ, List.getD_nil, List.set_cons_zero, List.set_cons_succ, List.cons_append, List.nil_append, Act.eval, Array.getD_eq_getD_getElem?, List.getElem?_toArray, List.getElem?_cons_succ, List.getElem?_cons_zero, Option.getD_some, Value.cells] at hw); (try simp (disch := first | (simp; done) | (simp; omega)) only [Sep.mid_set, Sep.mid_set2, Sep.mid_set0, Sep.mid_splice, Sep.mid_splice0, List.set_cons_zero, List.set_cons_succ] at hw); (try simp only [Sep.splice, List.take_succ_cons, List.take_zero, List.drop_succ_cons, List.drop_zero, List.length_cons, List.length_nil, Nat.reduceAdd, List.cons_append, List.nil_append] at hw)
      go_wp2_with fail
      refine (tNew_no n0 Hbad.out _).mono ?_
      rintro _ w_ ⟨rfl, rfl⟩
      go_wp2_with fail
      refine (rNew_no n0 Hbad.out _).mono ?_
      rintro _ w_ ⟨rfl, rfl⟩
      go_wp2_with fail
      exact HP.out _ _ ⟨rfl, hw.sel [0] (by decide)⟩
  have n1 : 1 ≤ n0 := by omega
  have n30 : n0 ≤ 30 := by omega
  clear hbad hwide
  generalize hlen' : l1.length = len at *
  have Hlen := Sep.hid hlen'; clear hlen'
  have hlong2 : len ≤ 100 := by omega
  refine Sep.calls_post ?_
  intro Post_ hPost_
  have HP := Sep.hid hPost_
  clear hPost_
  go_enter Try.func3, Try.ntmps3
  go_wp2_with fail
  refine (awake_calls e _ _ hw.focus0).mono ?_
  rintro en_ w_ ⟨rfl, hw_⟩
  clear hw; (try clear hc0); (try clear hc1); (try clear hc2); (try clear hc3); (try clear hc4); (try clear hc5); (try clear hc6); have hw := Holds.unfocus0 (N := []) hw_; clear hw_
  (try simp only [List.map_cons, List.map_nil, List.getD_cons_zero, List.getD_cons_succ, List.getD_nil, List.set_cons_zero, List.set_cons_succ, List.cons_append, List.nil_append, Act.eval, Array.getD_eq_getD_getElem?, List.getElem?_toArray, List.getElem?_cons_succ, List.getElem?_cons_zero, Option.getD_some, Value.cells] at hw); (try simp (disch := first | (simp; done) | (simp; omega)) only [Sep.mid_set, Sep.mid_set2, Sep.mid_set0, Sep.mid_splice, Sep.mid_splice0, List.set_cons_zero, List.set_cons_succ] at hw); (try simp only [Sep.splice, List.take_succ_cons, List.take_zero, List.drop_succ_cons, List.drop_zero, List.length_cons, List.length_nil, Nat.reduceAdd, List.cons_append, List.nil_append] at hw)
  go_wp2_with fail
  refine (tNew_ok n0 n1 (by omega) e _ _ hw.focus0).mono ?_
  rintro en_ w_ ⟨p, rfl, hw_⟩
  clear hw; have hw := Holds.unfocus0 hw_; clear hw_
  (try simp only [List.map_cons, List.map_nil, List.getD_cons_zero, List.getD_cons_succ, List.getD_nil, List.set_cons_zero, List.set_cons_succ, List.cons_append, List.nil_append, Act.eval, Array.getD_eq_getD_getElem?, List.getElem?_toArray, List.getElem?_cons_succ, List.getElem?_cons_zero, Option.getD_some, Value.cells] at hw); (try simp (disch := first | (simp; done) | (simp; omega)) only [Sep.mid_set, Sep.mid_set2, Sep.mid_set0, Sep.mid_splice, Sep.mid_splice0, List.set_cons_zero, List.set_cons_succ] at hw); (try simp only [Sep.splice, List.take_succ_cons, List.take_zero, List.drop_succ_cons, List.drop_zero, List.length_cons, List.length_nil, Nat.reduceAdd, List.cons_append, List.nil_append] at hw)
  go_wp2_with fail
  refine (rNew_ok n0 n1 (by omega) e _ _ hw.focus0).mono ?_
  rintro en_ w_ ⟨r, rfl, hw_⟩
  clear hw; have hw := Holds.unfocus0 hw_; clear hw_
  (try simp only [List.map_cons, List.map_nil, List.getD_cons_zero, List.getD_cons_succ, List.getD_nil, List.set_cons_zero, List.set_cons_succ, List.cons_append, List.nil_append, Act.eval, Array.getD_eq_getD_getElem?, List.getElem?_toArray, List.getElem?_cons_succ, List.getElem?_cons_zero, Option.getD_some, Value.cells] at hw); (try simp (disch := first | (simp; done) | (simp; omega)) only [Sep.mid_set, Sep.mid_set2, Sep.mid_set0, Sep.mid_splice, Sep.mid_splice0, List.set_cons_zero, List.set_cons_succ] at hw); (try simp only [Sep.splice, List.take_succ_cons, List.take_zero, List.drop_succ_cons, List.drop_zero, List.length_cons, List.length_nil, Nat.reduceAdd, List.cons_append, List.nil_append] at hw)
  go_wp2_with fail
  have Hw0 := Sep.hid hw; clear hw
  (try clear hc0); (try clear hc1); (try clear hc2); (try clear hc3); (try clear hc4); (try clear hc5); (try clear hc6)
  go_loopw [63] (fun i wr => ∃ (q : Nat) (T : Table), q ≤ len ∧ i = .int .i64 q ∧ Hid (T.ok ∧ St T) ∧ Holds e wr [Old e, IsTable p T, IsR r T]) (fun i _ => len - (intOf i).toNat)
  case atStart => exact ⟨0, ⟨[], n0⟩, Nat.zero_le _, rfl, Sep.hid ⟨by unfold Table.ok; simp; omega, by intro x hx; cases hx⟩, Hw0.out⟩
  case round =>
    clear Hw0
    obtain ⟨q, T, hq, rfl, HT, hw⟩ := hrel
    by_cases hlt : q < len
    · obtain ⟨d, hd⟩ : ∃ d, l1[q]? = some d := ⟨_, List.getElem?_eq_getElem (by rw [Hlen.out]; exact hlt)⟩
      obtain ⟨ad, rfl, hcell⟩ := hl1.out q d hd
      have Hcell := Sep.hid hcell; clear hcell hd
      obtain ⟨x1, x2, x3, T', hb⟩ : ∃ x1 x2 x3 T', (actN T d, actB T d, actE T d, actT T d) = (x1, x2, x3, T') := ⟨_, _, _, _, rfl⟩
      have HT' : Hid (T'.ok ∧ St T') := Sep.hid (by injection hb with _ hb; injection hb with _ hb; injection hb with _ hb; rw [← hb]; exact ⟨HT.out.1.act d, HT.out.2.act d⟩)
      have hdo := fun w X hw => do_calls p T HT.out.1 d e w X hw
      have hb1 : actN T d = x1 := (Prod.mk.inj hb).1
      have hb2 : actB T d = x2 := (Prod.mk.inj (Prod.mk.inj hb).2).1
      have hb3 : actE T d = x3 := (Prod.mk.inj (Prod.mk.inj (Prod.mk.inj hb).2).2).1
      have hb4 : actT T d = T' := (Prod.mk.inj (Prod.mk.inj (Prod.mk.inj hb).2).2).2
      simp only [hb1, hb2, hb3, hb4] at hdo
      have Hb := Sep.hid (⟨hb1, hb2, hb3, hb4⟩ : _ ∧ _ ∧ _ ∧ _)
      clear hb hb1 hb2 hb3 hb4
      go_wp2_with (first
        | (refine wpList_on rfl (wp_loadOld (vs := encA d) rfl rfl hw (i := 0) rfl rfl (fun j v hj => Hcell.out j v hj) ?_))
        | (refine wpList_on rfl (wp_alloc (ti := ti34) rfl hw ?_); intro bd w_ hw_; clear hw; have hw := hw_; clear hw_; (try simp only [List.map_cons, List.map_nil, List.getD_cons_zero, List.getD_cons_succ, List.getD_nil, List.set_cons_zero, List.set_cons_succ, List.cons_append, List.nil_append, Act.eval, Array.getD_eq_getD_getElem?, List.getElem?_toArray, List.getElem?_cons_succ, List.getElem?_cons_zero, Option.getD_some, Value.cells] at hw); (try simp (disch := first | (simp; done) | (simp; omega)) only [Sep.mid_set, Sep.mid_set2, Sep.mid_set0, Sep.mid_splice, Sep.mid_splice0, List.set_cons_zero, List.set_cons_succ] at hw); (try simp only [Sep.splice, List.take_succ_cons, List.take_zero, List.drop_succ_cons, List.drop_zero, List.length_cons, List.length_nil, Nat.reduceAdd, List.cons_append, List.nil_append] at hw); (try replace hc0 := Sep.Holds.cells hw (i := 0) rfl); (try replace hc1 := Sep.Holds.cells hw (i := 1) rfl); (try replace hc2 := Sep.Holds.cells hw (i := 2) rfl); (try replace hc3 := Sep.Holds.cells hw (i := 3) rfl); (try replace hc4 := Sep.Holds.cells hw (i := 4) rfl); (try replace hc5 := Sep.Holds.cells hw (i := 5) rfl); (try replace hc6 := Sep.Holds.cells hw (i := 6) rfl))
        | (refine wpList_on rfl (wp_storeAll (vs := encA d) rfl rfl (by rfl) hw (i := 3) rfl rfl rfl (encA_one d) ?_); intro w_ hw_; clear hw; have hw := hw_; clear hw_; (try simp only [List.map_cons, List.map_nil, List.getD_cons_zero, List.getD_cons_succ, List.getD_nil, List.set_cons_zero, List.set_cons_succ, List.cons_append, List.nil_append, Act.eval, Array.getD_eq_getD_getElem?, List.getElem?_toArray, List.getElem?_cons_succ, List.getElem?_cons_zero, Option.getD_some, Value.cells] at hw); (try simp (disch := first | (simp; done) | (simp; omega)) only [Sep.mid_set, Sep.mid_set2, Sep.mid_set0, Sep.mid_splice, Sep.mid_splice0, List.set_cons_zero, List.set_cons_succ] at hw); (try simp only [Sep.splice, List.take_succ_cons, List.take_zero, List.drop_succ_cons, List.drop_zero, List.length_cons, List.length_nil, Nat.reduceAdd, List.cons_append, List.nil_append] at hw); (try replace hc0 := Sep.Holds.cells hw (i := 0) rfl); (try replace hc1 := Sep.Holds.cells hw (i := 1) rfl); (try replace hc2 := Sep.Holds.cells hw (i := 2) rfl); (try replace hc3 := Sep.Holds.cells hw (i := 3) rfl); (try replace hc4 := Sep.Holds.cells hw (i := 4) rfl); (try replace hc5 := Sep.Holds.cells hw (i := 5) rfl); (try replace hc6 := Sep.Holds.cells hw (i := 6) rfl))
        | (refine wpList_on rfl (wp_loadN (vs := encA d) rfl rfl hw (i := 3) rfl rfl (by intro j v hj; simpa using hj) ?_)))
      refine (hdo _ _ (hw.focus1 1 rfl)).mono ?_
      rintro en_ w_ ⟨rfl, hw_⟩
      clear hw; (try clear hc0); (try clear hc1); (try clear hc2); (try clear hc3); (try clear hc4); (try clear hc5); (try clear hc6); have hw := Holds.unfocus1 1 (by simp) hw_; clear hw_ hdo
      have hA : encA d = [.int .i64 d.do_, .int .i64 d.t, .int .i64 d.a, .int .i64 d.b, .int .i64 d.x, .int .i64 d.p.kind, .int .i64 d.p.obj, .int .i64 d.p.ctx, .int .i64 d.p.reg, .int .i64 d.p.lock, .int .i64 d.p.n] := rfl
      rw [hA] at hw; clear hA
      (try simp only [List.map_cons, List.map_nil, List.getD_cons_zero, List.getD_cons_succ, List.getD_nil, List.set_cons_zero, List.set_cons_succ, List.cons_append, List.nil_append, Act.eval, Array.getD_eq_getD_getElem?, List.getElem?_toArray, List.getElem?_cons_succ, List.getElem?_cons_zero, Option.getD_some, Value.cells] at hw); (try simp (disch := first | (simp; done) | (simp; omega)) only [Sep.mid_set, Sep.mid_set2, Sep.mid_set0, Sep.mid_splice, Sep.mid_splice0, List.set_cons_zero, List.set_cons_succ] at hw); (try simp only [Sep.splice, List.take_succ_cons, List.take_zero, List.drop_succ_cons, List.drop_zero, List.length_cons, List.length_nil, Nat.reduceAdd, List.cons_append, List.nil_append] at hw)
      (try replace hc0 := Sep.Holds.cells hw (i := 0) rfl); (try replace hc1 := Sep.Holds.cells hw (i := 1) rfl); (try replace hc2 := Sep.Holds.cells hw (i := 2) rfl); (try replace hc3 := Sep.Holds.cells hw (i := 3) rfl); (try replace hc4 := Sep.Holds.cells hw (i := 4) rfl); (try replace hc5 := Sep.Holds.cells hw (i := 5) rfl); (try replace hc6 := Sep.Holds.cells hw (i := 6) rfl)
      go_upto_block 2 with fail
      go_cut [18, 19, 20] from 64 to 206 (fun m was h wx => (m = .int .i64 x1 ∧ was = .bool x2 ∧ h = .int .i64 x3) ∧ Holds e wx [Old e, IsTable p T', IsR r T', pt bd [.int .i64 d.do_, .int .i64 d.t, .int .i64 d.a, .int .i64 d.b, .int .i64 d.x, .int .i64 d.p.kind, .int .i64 d.p.obj, .int .i64 d.p.ctx, .int .i64 d.p.reg, .int .i64 d.p.lock, .int .i64 d.p.n] 34])
      case first =>
        as_aux_lemma =>
        obtain ⟨hb1, hb2, hb3, hb4⟩ := Hb.out
        clear Hb HT'
        by_cases h0 : d.do_ = 0
        · obtain rfl : T.beginN = x1 := by rw [← hb1]; simp [actN, h0]
          obtain rfl : false = x2 := by rw [← hb2]; simp [actB, h0]
          obtain rfl : T.beginE = x3 := by rw [← hb3]; simp [actE, h0]
          obtain rfl : T.begin_ d.a d.b = T' := by rw [← hb4]; simp [actT, h0]
          clear hb1 hb2 hb3 hb4
          rw [h0] at hw
          (try replace hc0 := Sep.Holds.cells hw (i := 0) rfl); (try replace hc1 := Sep.Holds.cells hw (i := 1) rfl); (try replace hc2 := Sep.Holds.cells hw (i := 2) rfl); (try replace hc3 := Sep.Holds.cells hw (i := 3) rfl); (try replace hc4 := Sep.Holds.cells hw (i := 4) rfl); (try replace hc5 := Sep.Holds.cells hw (i := 5) rfl); (try replace hc6 := Sep.Holds.cells hw (i := 6) rfl)
          go_wp2_with fail
          refine (rBegin r T HT.out.1 d.a d.b e _ _ (hw.focus1 2 rfl)).mono ?_
          rintro _ w_ ⟨rfl, hw_⟩
          clear hw; (try clear hc0); (try clear hc1); (try clear hc2); (try clear hc3); (try clear hc4); (try clear hc5); (try clear hc6); have hw := Holds.unfocus1 2 (by simp) hw_; clear hw_
          (try simp only [List.map_cons, List.map_nil, List.getD_cons_zero, List.getD_cons_succ, List.getD_nil, List.set_cons_zero, List.set_cons_succ, List.cons_append, List.nil_append, Act.eval, Array.getD_eq_getD_getElem?, List.getElem?_toArray, List.getElem?_cons_succ, List.getElem?_cons_zero, Option.getD_some, Value.cells] at hw); (try simp (disch := first | (simp; done) | (simp; omega)) only [Sep.mid_set, Sep.mid_set2, Sep.mid_set0, Sep.mid_splice, Sep.mid_splice0, List.set_cons_zero, List.set_cons_succ] at hw); (try simp only [Sep.splice, List.take_succ_cons, List.take_zero, List.drop_succ_cons, List.drop_zero, List.length_cons, List.length_nil, Nat.reduceAdd, List.cons_append, List.nil_append] at hw)
          (try replace hc0 := Sep.Holds.cells hw (i := 0) rfl); (try replace hc1 := Sep.Holds.cells hw (i := 1) rfl); (try replace hc2 := Sep.Holds.cells hw (i := 2) rfl); (try replace hc3 := Sep.Holds.cells hw (i := 3) rfl); (try replace hc4 := Sep.Holds.cells hw (i := 4) rfl); (try replace hc5 := Sep.Holds.cells hw (i := 5) rfl); (try replace hc6 := Sep.Holds.cells hw (i := 6) rfl)
          go_wp2_with fail
          go_meet
          rw [h0]
          exact ⟨⟨rfl, rfl, rfl⟩, hw⟩
        by_cases h1 : d.do_ = 1
        · obtain rfl : (0 : Int) = x1 := by rw [← hb1]; simp [actN, h1]
          obtain rfl : T.can d.t ready = x2 := by rw [← hb2]; simp [actB, h1]
          obtain rfl : (0 : Int) = x3 := by rw [← hb3]; simp [actE, h1]
          obtain rfl : T.change d.t ready (goG d.a) = T' := by rw [← hb4]; simp [actT, h1, parkT]
          clear hb1 hb2 hb3 hb4 h0
          rw [h1] at hw
          (try replace hc0 := Sep.Holds.cells hw (i := 0) rfl); (try replace hc1 := Sep.Holds.cells hw (i := 1) rfl); (try replace hc2 := Sep.Holds.cells hw (i := 2) rfl); (try replace hc3 := Sep.Holds.cells hw (i := 3) rfl); (try replace hc4 := Sep.Holds.cells hw (i := 4) rfl); (try replace hc5 := Sep.Holds.cells hw (i := 5) rfl); (try replace hc6 := Sep.Holds.cells hw (i := 6) rfl)
          go_wp2_with fail
          refine (rGo r T d.t d.a e _ _ (hw.focus1 2 rfl)).mono ?_
          rintro _ w_ ⟨rfl, hw_⟩
          clear hw; (try clear hc0); (try clear hc1); (try clear hc2); (try clear hc3); (try clear hc4); (try clear hc5); (try clear hc6); have hw := Holds.unfocus1 2 (by simp) hw_; clear hw_
          (try simp only [List.map_cons, List.map_nil, List.getD_cons_zero, List.getD_cons_succ, List.getD_nil, List.set_cons_zero, List.set_cons_succ, List.cons_append, List.nil_append, Act.eval, Array.getD_eq_getD_getElem?, List.getElem?_toArray, List.getElem?_cons_succ, List.getElem?_cons_zero, Option.getD_some, Value.cells] at hw); (try simp (disch := first | (simp; done) | (simp; omega)) only [Sep.mid_set, Sep.mid_set2, Sep.mid_set0, Sep.mid_splice, Sep.mid_splice0, List.set_cons_zero, List.set_cons_succ] at hw); (try simp only [Sep.splice, List.take_succ_cons, List.take_zero, List.drop_succ_cons, List.drop_zero, List.length_cons, List.length_nil, Nat.reduceAdd, List.cons_append, List.nil_append] at hw)
          (try replace hc0 := Sep.Holds.cells hw (i := 0) rfl); (try replace hc1 := Sep.Holds.cells hw (i := 1) rfl); (try replace hc2 := Sep.Holds.cells hw (i := 2) rfl); (try replace hc3 := Sep.Holds.cells hw (i := 3) rfl); (try replace hc4 := Sep.Holds.cells hw (i := 4) rfl); (try replace hc5 := Sep.Holds.cells hw (i := 5) rfl); (try replace hc6 := Sep.Holds.cells hw (i := 6) rfl)
          go_wp2_with fail
          go_meet
          rw [h1]
          exact ⟨⟨rfl, rfl, rfl⟩, hw⟩
        by_cases h2 : d.do_ = 2
        · obtain rfl : (0 : Int) = x1 := by rw [← hb1]; simp [actN, h2]
          obtain rfl : (T.can d.t live && regOk d.a) = x2 := by rw [← hb2]; simp [actB, h2]
          obtain rfl : (0 : Int) = x3 := by rw [← hb3]; simp [actE, h2]
          obtain rfl : T.change d.t live (setG d.a d.x) = T' := by rw [← hb4]; simp [actT, h2, parkT]
          clear hb1 hb2 hb3 hb4 h0
          rw [h2] at hw
          (try replace hc0 := Sep.Holds.cells hw (i := 0) rfl); (try replace hc1 := Sep.Holds.cells hw (i := 1) rfl); (try replace hc2 := Sep.Holds.cells hw (i := 2) rfl); (try replace hc3 := Sep.Holds.cells hw (i := 3) rfl); (try replace hc4 := Sep.Holds.cells hw (i := 4) rfl); (try replace hc5 := Sep.Holds.cells hw (i := 5) rfl); (try replace hc6 := Sep.Holds.cells hw (i := 6) rfl)
          go_wp2_with fail
          refine (rSet r T HT.out.2 d.t d.a d.x e _ _ (hw.focus1 2 rfl)).mono ?_
          rintro _ w_ ⟨rfl, hw_⟩
          clear hw; (try clear hc0); (try clear hc1); (try clear hc2); (try clear hc3); (try clear hc4); (try clear hc5); (try clear hc6); have hw := Holds.unfocus1 2 (by simp) hw_; clear hw_
          (try simp only [List.map_cons, List.map_nil, List.getD_cons_zero, List.getD_cons_succ, List.getD_nil, List.set_cons_zero, List.set_cons_succ, List.cons_append, List.nil_append, Act.eval, Array.getD_eq_getD_getElem?, List.getElem?_toArray, List.getElem?_cons_succ, List.getElem?_cons_zero, Option.getD_some, Value.cells] at hw); (try simp (disch := first | (simp; done) | (simp; omega)) only [Sep.mid_set, Sep.mid_set2, Sep.mid_set0, Sep.mid_splice, Sep.mid_splice0, List.set_cons_zero, List.set_cons_succ] at hw); (try simp only [Sep.splice, List.take_succ_cons, List.take_zero, List.drop_succ_cons, List.drop_zero, List.length_cons, List.length_nil, Nat.reduceAdd, List.cons_append, List.nil_append] at hw)
          (try replace hc0 := Sep.Holds.cells hw (i := 0) rfl); (try replace hc1 := Sep.Holds.cells hw (i := 1) rfl); (try replace hc2 := Sep.Holds.cells hw (i := 2) rfl); (try replace hc3 := Sep.Holds.cells hw (i := 3) rfl); (try replace hc4 := Sep.Holds.cells hw (i := 4) rfl); (try replace hc5 := Sep.Holds.cells hw (i := 5) rfl); (try replace hc6 := Sep.Holds.cells hw (i := 6) rfl)
          go_wp2_with fail
          go_meet
          rw [h2]
          exact ⟨⟨rfl, rfl, rfl⟩, hw⟩
        by_cases h3 : d.do_ = 3
        · obtain rfl : (0 : Int) = x1 := by rw [← hb1]; simp [actN, h3]
          obtain rfl : (parkOk d.p && parkE T d.t false) = x2 := by rw [← hb2]; simp [actB, h3, parkE]
          obtain rfl : (0 : Int) = x3 := by rw [← hb3]; simp [actE, h3]
          obtain rfl : (if parkOk d.p then parkT T d.t d.p false else T) = T' := by rw [← hb4]; simp [actT, h3, parkT]
          clear hb1 hb2 hb3 hb4 h0
          rw [h3] at hw
          (try replace hc0 := Sep.Holds.cells hw (i := 0) rfl); (try replace hc1 := Sep.Holds.cells hw (i := 1) rfl); (try replace hc2 := Sep.Holds.cells hw (i := 2) rfl); (try replace hc3 := Sep.Holds.cells hw (i := 3) rfl); (try replace hc4 := Sep.Holds.cells hw (i := 4) rfl); (try replace hc5 := Sep.Holds.cells hw (i := 5) rfl); (try replace hc6 := Sep.Holds.cells hw (i := 6) rfl)
          go_wp2_with fail
          refine (rPark r T d.t d.p false e _ _ (hw.focus1 2 rfl)).mono ?_
          rintro _ w_ ⟨rfl, hw_⟩
          clear hw; (try clear hc0); (try clear hc1); (try clear hc2); (try clear hc3); (try clear hc4); (try clear hc5); (try clear hc6); have hw := Holds.unfocus1 2 (by simp) hw_; clear hw_
          (try simp only [List.map_cons, List.map_nil, List.getD_cons_zero, List.getD_cons_succ, List.getD_nil, List.set_cons_zero, List.set_cons_succ, List.cons_append, List.nil_append, Act.eval, Array.getD_eq_getD_getElem?, List.getElem?_toArray, List.getElem?_cons_succ, List.getElem?_cons_zero, Option.getD_some, Value.cells] at hw); (try simp (disch := first | (simp; done) | (simp; omega)) only [Sep.mid_set, Sep.mid_set2, Sep.mid_set0, Sep.mid_splice, Sep.mid_splice0, List.set_cons_zero, List.set_cons_succ] at hw); (try simp only [Sep.splice, List.take_succ_cons, List.take_zero, List.drop_succ_cons, List.drop_zero, List.length_cons, List.length_nil, Nat.reduceAdd, List.cons_append, List.nil_append] at hw)
          (try replace hc0 := Sep.Holds.cells hw (i := 0) rfl); (try replace hc1 := Sep.Holds.cells hw (i := 1) rfl); (try replace hc2 := Sep.Holds.cells hw (i := 2) rfl); (try replace hc3 := Sep.Holds.cells hw (i := 3) rfl); (try replace hc4 := Sep.Holds.cells hw (i := 4) rfl); (try replace hc5 := Sep.Holds.cells hw (i := 5) rfl); (try replace hc6 := Sep.Holds.cells hw (i := 6) rfl)
          go_wp2_with fail
          go_meet
          rw [h3]
          exact ⟨⟨rfl, rfl, rfl⟩, hw⟩
        by_cases h4 : d.do_ = 4
        · obtain rfl : (0 : Int) = x1 := by rw [← hb1]; simp [actN, h4]
          obtain rfl : (parkOk d.p && parkE T d.t true) = x2 := by rw [← hb2]; simp [actB, h4, parkE]
          obtain rfl : (0 : Int) = x3 := by rw [← hb3]; simp [actE, h4]
          obtain rfl : (if parkOk d.p then parkT T d.t d.p true else T) = T' := by rw [← hb4]; simp [actT, h4, parkT]
          clear hb1 hb2 hb3 hb4 h0
          rw [h4] at hw
          (try replace hc0 := Sep.Holds.cells hw (i := 0) rfl); (try replace hc1 := Sep.Holds.cells hw (i := 1) rfl); (try replace hc2 := Sep.Holds.cells hw (i := 2) rfl); (try replace hc3 := Sep.Holds.cells hw (i := 3) rfl); (try replace hc4 := Sep.Holds.cells hw (i := 4) rfl); (try replace hc5 := Sep.Holds.cells hw (i := 5) rfl); (try replace hc6 := Sep.Holds.cells hw (i := 6) rfl)
          go_wp2_with fail
          refine (rPark r T d.t d.p true e _ _ (hw.focus1 2 rfl)).mono ?_
          rintro _ w_ ⟨rfl, hw_⟩
          clear hw; (try clear hc0); (try clear hc1); (try clear hc2); (try clear hc3); (try clear hc4); (try clear hc5); (try clear hc6); have hw := Holds.unfocus1 2 (by simp) hw_; clear hw_
          (try simp only [List.map_cons, List.map_nil, List.getD_cons_zero, List.getD_cons_succ, List.getD_nil, List.set_cons_zero, List.set_cons_succ, List.cons_append, List.nil_append, Act.eval, Array.getD_eq_getD_getElem?, List.getElem?_toArray, List.getElem?_cons_succ, List.getElem?_cons_zero, Option.getD_some, Value.cells] at hw); (try simp (disch := first | (simp; done) | (simp; omega)) only [Sep.mid_set, Sep.mid_set2, Sep.mid_set0, Sep.mid_splice, Sep.mid_splice0, List.set_cons_zero, List.set_cons_succ] at hw); (try simp only [Sep.splice, List.take_succ_cons, List.take_zero, List.drop_succ_cons, List.drop_zero, List.length_cons, List.length_nil, Nat.reduceAdd, List.cons_append, List.nil_append] at hw)
          (try replace hc0 := Sep.Holds.cells hw (i := 0) rfl); (try replace hc1 := Sep.Holds.cells hw (i := 1) rfl); (try replace hc2 := Sep.Holds.cells hw (i := 2) rfl); (try replace hc3 := Sep.Holds.cells hw (i := 3) rfl); (try replace hc4 := Sep.Holds.cells hw (i := 4) rfl); (try replace hc5 := Sep.Holds.cells hw (i := 5) rfl); (try replace hc6 := Sep.Holds.cells hw (i := 6) rfl)
          go_wp2_with fail
          go_meet
          rw [h4]
          exact ⟨⟨rfl, rfl, rfl⟩, hw⟩
        by_cases h5 : d.do_ = 5
        · obtain rfl : (0 : Int) = x1 := by rw [← hb1]; simp [actN, h5]
          obtain rfl : T.can d.t parked = x2 := by rw [← hb2]; simp [actB, h5]
          obtain rfl : (0 : Int) = x3 := by rw [← hb3]; simp [actE, h5]
          obtain rfl : T.change d.t parked (wakeG d.x) = T' := by rw [← hb4]; simp [actT, h5, parkT]
          clear hb1 hb2 hb3 hb4 h0
          rw [h5] at hw
          (try replace hc0 := Sep.Holds.cells hw (i := 0) rfl); (try replace hc1 := Sep.Holds.cells hw (i := 1) rfl); (try replace hc2 := Sep.Holds.cells hw (i := 2) rfl); (try replace hc3 := Sep.Holds.cells hw (i := 3) rfl); (try replace hc4 := Sep.Holds.cells hw (i := 4) rfl); (try replace hc5 := Sep.Holds.cells hw (i := 5) rfl); (try replace hc6 := Sep.Holds.cells hw (i := 6) rfl)
          go_wp2_with fail
          refine (rWake r T HT.out.2 d.t d.x e _ _ (hw.focus1 2 rfl)).mono ?_
          rintro _ w_ ⟨rfl, hw_⟩
          clear hw; (try clear hc0); (try clear hc1); (try clear hc2); (try clear hc3); (try clear hc4); (try clear hc5); (try clear hc6); have hw := Holds.unfocus1 2 (by simp) hw_; clear hw_
          (try simp only [List.map_cons, List.map_nil, List.getD_cons_zero, List.getD_cons_succ, List.getD_nil, List.set_cons_zero, List.set_cons_succ, List.cons_append, List.nil_append, Act.eval, Array.getD_eq_getD_getElem?, List.getElem?_toArray, List.getElem?_cons_succ, List.getElem?_cons_zero, Option.getD_some, Value.cells] at hw); (try simp (disch := first | (simp; done) | (simp; omega)) only [Sep.mid_set, Sep.mid_set2, Sep.mid_set0, Sep.mid_splice, Sep.mid_splice0, List.set_cons_zero, List.set_cons_succ] at hw); (try simp only [Sep.splice, List.take_succ_cons, List.take_zero, List.drop_succ_cons, List.drop_zero, List.length_cons, List.length_nil, Nat.reduceAdd, List.cons_append, List.nil_append] at hw)
          (try replace hc0 := Sep.Holds.cells hw (i := 0) rfl); (try replace hc1 := Sep.Holds.cells hw (i := 1) rfl); (try replace hc2 := Sep.Holds.cells hw (i := 2) rfl); (try replace hc3 := Sep.Holds.cells hw (i := 3) rfl); (try replace hc4 := Sep.Holds.cells hw (i := 4) rfl); (try replace hc5 := Sep.Holds.cells hw (i := 5) rfl); (try replace hc6 := Sep.Holds.cells hw (i := 6) rfl)
          go_wp2_with fail
          go_meet
          rw [h5]
          exact ⟨⟨rfl, rfl, rfl⟩, hw⟩
        by_cases h6 : d.do_ = 6
        · obtain rfl : (0 : Int) = x1 := by rw [← hb1]; simp [actN, h6]
          obtain rfl : T.can d.t live = x2 := by rw [← hb2]; simp [actB, h6]
          obtain rfl : (0 : Int) = x3 := by rw [← hb3]; simp [actE, h6]
          obtain rfl : T.change d.t live (endG d.x) = T' := by rw [← hb4]; simp [actT, h6, parkT]
          clear hb1 hb2 hb3 hb4 h0
          rw [h6] at hw
          (try replace hc0 := Sep.Holds.cells hw (i := 0) rfl); (try replace hc1 := Sep.Holds.cells hw (i := 1) rfl); (try replace hc2 := Sep.Holds.cells hw (i := 2) rfl); (try replace hc3 := Sep.Holds.cells hw (i := 3) rfl); (try replace hc4 := Sep.Holds.cells hw (i := 4) rfl); (try replace hc5 := Sep.Holds.cells hw (i := 5) rfl); (try replace hc6 := Sep.Holds.cells hw (i := 6) rfl)
          go_wp2_with fail
          refine (rEnd r T HT.out.2 d.t d.x e _ _ (hw.focus1 2 rfl)).mono ?_
          rintro _ w_ ⟨rfl, hw_⟩
          clear hw; (try clear hc0); (try clear hc1); (try clear hc2); (try clear hc3); (try clear hc4); (try clear hc5); (try clear hc6); have hw := Holds.unfocus1 2 (by simp) hw_; clear hw_
          (try simp only [List.map_cons, List.map_nil, List.getD_cons_zero, List.getD_cons_succ, List.getD_nil, List.set_cons_zero, List.set_cons_succ, List.cons_append, List.nil_append, Act.eval, Array.getD_eq_getD_getElem?, List.getElem?_toArray, List.getElem?_cons_succ, List.getElem?_cons_zero, Option.getD_some, Value.cells] at hw); (try simp (disch := first | (simp; done) | (simp; omega)) only [Sep.mid_set, Sep.mid_set2, Sep.mid_set0, Sep.mid_splice, Sep.mid_splice0, List.set_cons_zero, List.set_cons_succ] at hw); (try simp only [Sep.splice, List.take_succ_cons, List.take_zero, List.drop_succ_cons, List.drop_zero, List.length_cons, List.length_nil, Nat.reduceAdd, List.cons_append, List.nil_append] at hw)
          (try replace hc0 := Sep.Holds.cells hw (i := 0) rfl); (try replace hc1 := Sep.Holds.cells hw (i := 1) rfl); (try replace hc2 := Sep.Holds.cells hw (i := 2) rfl); (try replace hc3 := Sep.Holds.cells hw (i := 3) rfl); (try replace hc4 := Sep.Holds.cells hw (i := 4) rfl); (try replace hc5 := Sep.Holds.cells hw (i := 5) rfl); (try replace hc6 := Sep.Holds.cells hw (i := 6) rfl)
          go_wp2_with fail
          go_meet
          rw [h6]
          exact ⟨⟨rfl, rfl, rfl⟩, hw⟩
        obtain rfl : (0 : Int) = x1 := by rw [← hb1]; simp [actN, h0]
        obtain rfl : false = x2 := by rw [← hb2]; simp [actB, h0, h1, h2, h3, h4, h5, h6]
        obtain rfl : (0 : Int) = x3 := by rw [← hb3]; simp [actE, h0]
        obtain rfl : T = T' := by rw [← hb4]; simp [actT, h0, h1, h2, h3, h4, h5, h6]
        clear hb1 hb2 hb3 hb4
        go_wp2_with fail
        go_meet
        exact ⟨⟨rfl, rfl, rfl⟩, hw⟩
      case rest =>
        clear hw; (try clear hc0); (try clear hc1); (try clear hc2); (try clear hc3); (try clear hc4); (try clear hc5); (try clear hc6)
        obtain ⟨⟨rfl, rfl, rfl⟩, hw⟩ := hcut
        clear Hb HT Hcell
        go_wp2_with fail
        obtain ⟨⟨ra, rcap⟩, hw⟩ := hw.open' (i := 2) rfl
        have hw := hw.open_ 2 rfl
        (try simp only [List.map_cons, List.map_nil, List.getD_cons_zero, List.getD_cons_succ, List.getD_nil, List.set_cons_zero, List.set_cons_succ, List.cons_append, List.nil_append, Act.eval, Array.getD_eq_getD_getElem?, List.getElem?_toArray, List.getElem?_cons_succ, List.getElem?_cons_zero, Option.getD_some, Value.cells] at hw); (try simp (disch := first | (simp; done) | (simp; omega)) only [Sep.mid_set, Sep.mid_set2, Sep.mid_set0, Sep.mid_splice, Sep.mid_splice0, List.set_cons_zero, List.set_cons_succ] at hw); (try simp only [Sep.splice, List.take_succ_cons, List.take_zero, List.drop_succ_cons, List.drop_zero, List.length_cons, List.length_nil, Nat.reduceAdd, List.cons_append, List.nil_append] at hw)
        obtain ⟨rl, hrl'⟩ : ∃ rl, T'.l.length = rl := ⟨_, rfl⟩
        have hrl := Sep.hid hrl'
        have hrl2 : rl ≤ 200 := by have h := HT'.out.1.len; rw [hrl'] at h; exact h
        rw [hrl'] at hw
        clear hrl'
        replace hw := hw.sel [0, 1, 3, 2, 4] (by decide)
        (try simp only [List.map_cons, List.map_nil, List.getD_cons_zero, List.getD_cons_succ, List.getD_nil, List.set_cons_zero, List.set_cons_succ, List.cons_append, List.nil_append, Act.eval, Array.getD_eq_getD_getElem?, List.getElem?_toArray, List.getElem?_cons_succ, List.getElem?_cons_zero, Option.getD_some, Value.cells] at hw); (try simp (disch := first | (simp; done) | (simp; omega)) only [Sep.mid_set, Sep.mid_set2, Sep.mid_set0, Sep.mid_splice, Sep.mid_splice0, List.set_cons_zero, List.set_cons_succ] at hw); (try simp only [Sep.splice, List.take_succ_cons, List.take_zero, List.drop_succ_cons, List.drop_zero, List.length_cons, List.length_nil, Nat.reduceAdd, List.cons_append, List.nil_append] at hw)
        (try replace hc0 := Sep.Holds.cells hw (i := 0) rfl); (try replace hc1 := Sep.Holds.cells hw (i := 1) rfl); (try replace hc2 := Sep.Holds.cells hw (i := 2) rfl); (try replace hc3 := Sep.Holds.cells hw (i := 3) rfl); (try replace hc4 := Sep.Holds.cells hw (i := 4) rfl); (try replace hc5 := Sep.Holds.cells hw (i := 5) rfl); (try replace hc6 := Sep.Holds.cells hw (i := 6) rfl)
        refine wp_region_L [15, 26, 29, 30, 36, 39, 40] [(19, (fun w' => Holds e w' [pt r [.slice ra rl rcap, .int .i64 T'.most] 47]))] (n := 43) (listed := (marks 43 0)) (by kernel_rfl) rfl (by kernel_rfl) ?conds1 ?_
        case conds1 =>
         intro c hc
         simp only [List.mem_cons, List.not_mem_nil, or_false] at hc
         rcases hc with rfl
         · exact (by replace hw := hw.drew; exact hw.sel [3] (by decide))
        replace hw := hw.drew
        (try replace hc0 := Sep.Holds.cells hw (i := 0) rfl); (try replace hc1 := Sep.Holds.cells hw (i := 1) rfl); (try replace hc2 := Sep.Holds.cells hw (i := 2) rfl); (try replace hc3 := Sep.Holds.cells hw (i := 3) rfl); (try replace hc4 := Sep.Holds.cells hw (i := 4) rfl); (try replace hc5 := Sep.Holds.cells hw (i := 5) rfl); (try replace hc6 := Sep.Holds.cells hw (i := 6) rfl)
        refine wpL_q 0 ?_ rfl (Or.inl ⟨by rfl, fun w_ hS_ => ?_⟩) (marks 43 1) ?_
        rotate_left
        next => (go_simp; try (first | rfl | exact (Bool.not_not _).symm))
        try simp only [Act.put, List.setIfInBounds_toArray, List.set_cons_zero, List.set_cons_succ]
        refine wpL_q 1 ?_ rfl (Or.inl ⟨by rfl, fun w_ hS_ => ?_⟩) (marks 43 3) ?_
        rotate_left
        next => (go_simp; try (first | rfl | exact (Bool.not_not _).symm))
        try simp only [Act.put, List.setIfInBounds_toArray, List.set_cons_zero, List.set_cons_succ]
        refine wpL_q 2 ?_ rfl (Or.inl ⟨by rfl, fun w_ hS_ => ?_⟩) (marks 43 7) ?_
        rotate_left
        next => (go_simp; try (first | rfl | exact (Bool.not_not _).symm))
        try simp only [Act.put, List.setIfInBounds_toArray, List.set_cons_zero, List.set_cons_succ]
        refine wpL_b 3 ?_ rfl (Or.inl ⟨by rfl, fun w_ hS_ => ?_⟩) (marks 43 15) ?_
        rotate_left
        next => (go_simp; try (first | rfl | exact (Bool.not_not _).symm))
        intro bb_ hg3
        cases bb_
        case' true =>
         (try simp only [decide_eq_true_eq, decide_eq_false_iff_not, beq_iff_eq, beq_eq_false_iff_ne, bne_iff_ne, bne_eq_false_iff_eq, Bool.not_eq_true', Bool.not_eq_false', Int.not_lt, Int.not_le] at hg3)
         first | (cases hg3; done) | (exfalso; omega; done)
        case' false =>
         (try simp only [decide_eq_true_eq, decide_eq_false_iff_not, beq_iff_eq, beq_eq_false_iff_ne, bne_iff_ne, bne_eq_false_iff_eq, Bool.not_eq_true', Bool.not_eq_false', Int.not_lt, Int.not_le] at hg3)
         first | (cases hg3; done) | (exfalso; omega; done) | skip
         all_goals
          try replace hg3 := Sep.hid hg3
          try simp only [Act.put, List.setIfInBounds_toArray, List.set_cons_zero, List.set_cons_succ]
          refine wpL_q 4 ?_ rfl (Or.inl ⟨by rfl, fun w_ hS_ => ?_⟩) (marks 43 31) ?_
          rotate_left
          next => (go_simp; try (first | rfl | exact (Bool.not_not _).symm))
          try simp only [Act.put, List.setIfInBounds_toArray, List.set_cons_zero, List.set_cons_succ]
          refine wpL_q 5 ?_ rfl (Or.inl ⟨by rfl, fun w_ hS_ => ?_⟩) (marks 43 63) ?_
          rotate_left
          next => (go_simp; try (first | rfl | exact (Bool.not_not _).symm))
          try simp only [Act.put, List.setIfInBounds_toArray, List.set_cons_zero, List.set_cons_succ]
          refine wpL_q 6 ?_ rfl (Or.inl ⟨by rfl, fun w_ hS_ => ?_⟩) (marks 43 127) ?_
          rotate_left
          next => (go_simp; try (first | rfl | exact (Bool.not_not _).symm))
          try simp only [Act.put, List.setIfInBounds_toArray, List.set_cons_zero, List.set_cons_succ]
        all_goals
         refine wpL_q 7 ?_ rfl (Or.inl ⟨by rfl, fun w_ hS_ => ?_⟩) (marks 43 255) ?_
         rotate_left
         next => (go_simp; try (first | rfl | exact (Bool.not_not _).symm))
         try simp only [Act.put, List.setIfInBounds_toArray, List.set_cons_zero, List.set_cons_succ]
         refine wpL_b 8 ?_ rfl (Or.inl ⟨by rfl, fun w_ hS_ => ?_⟩) (marks 43 511) ?_
         rotate_left
         next => (go_simp; try (first | rfl | exact (Bool.not_not _).symm))
         intro bb_ hg8
         cases bb_
         case' true =>
          (try simp only [decide_eq_true_eq, decide_eq_false_iff_not, beq_iff_eq, beq_eq_false_iff_ne, bne_iff_ne, bne_eq_false_iff_eq, Bool.not_eq_true', Bool.not_eq_false', Int.not_lt, Int.not_le] at hg8)
          first | (cases hg8; done) | (exfalso; omega; done)
         case' false =>
          (try simp only [decide_eq_true_eq, decide_eq_false_iff_not, beq_iff_eq, beq_eq_false_iff_ne, bne_iff_ne, bne_eq_false_iff_eq, Bool.not_eq_true', Bool.not_eq_false', Int.not_lt, Int.not_le] at hg8)
          first | (cases hg8; done) | (exfalso; omega; done) | skip
          all_goals
           try replace hg8 := Sep.hid hg8
           try simp only [Act.put, List.setIfInBounds_toArray, List.set_cons_zero, List.set_cons_succ]
           refine wpL_q 9 ?_ rfl (Or.inl ⟨by rfl, fun w_ hS_ => ?_⟩) (marks 43 1023) ?_
           rotate_left
           next => (go_simp; try (first | rfl | exact (Bool.not_not _).symm))
           try simp only [Act.put, List.setIfInBounds_toArray, List.set_cons_zero, List.set_cons_succ]
           refine wpL_q 10 ?_ rfl (Or.inl ⟨by rfl, fun w_ hS_ => ?_⟩) (marks 43 2047) ?_
           rotate_left
           next => (go_simp; try (first | rfl | exact (Bool.not_not _).symm))
           try simp only [Act.put, List.setIfInBounds_toArray, List.set_cons_zero, List.set_cons_succ]
           refine wpL_q 11 ?_ rfl (Or.inl ⟨by rfl, fun w_ hS_ => ?_⟩) (marks 43 4095) ?_
           rotate_left
           next => (go_simp; try (first | rfl | exact (Bool.not_not _).symm))
           try simp only [Act.put, List.setIfInBounds_toArray, List.set_cons_zero, List.set_cons_succ]
         all_goals
          refine wpL_q 12 ?_ rfl (Or.inl ⟨by rfl, fun w_ hS_ => ?_⟩) (marks 43 8191) ?_
          rotate_left
          next => (go_simp; try (first | rfl | exact (Bool.not_not _).symm))
          try simp only [Act.put, List.setIfInBounds_toArray, List.set_cons_zero, List.set_cons_succ]
          refine wpL_b 13 ?_ rfl (Or.inl ⟨by rfl, fun w_ hS_ => ?_⟩) (marks 43 16383) ?_
          rotate_left
          next => (go_simp; try (first | rfl | exact (Bool.not_not _).symm))
          intro bb_ hg13
          cases bb_
          case' true =>
           (try simp only [decide_eq_true_eq, decide_eq_false_iff_not, beq_iff_eq, beq_eq_false_iff_ne, bne_iff_ne, bne_eq_false_iff_eq, Bool.not_eq_true', Bool.not_eq_false', Int.not_lt, Int.not_le] at hg13)
           first | (cases hg13; done) | (exfalso; omega; done)
          case' false =>
           (try simp only [decide_eq_true_eq, decide_eq_false_iff_not, beq_iff_eq, beq_eq_false_iff_ne, bne_iff_ne, bne_eq_false_iff_eq, Bool.not_eq_true', Bool.not_eq_false', Int.not_lt, Int.not_le] at hg13)
           first | (cases hg13; done) | (exfalso; omega; done) | skip
           all_goals
            try replace hg13 := Sep.hid hg13
            try simp only [Act.put, List.setIfInBounds_toArray, List.set_cons_zero, List.set_cons_succ]
            refine wpL_q 14 ?_ rfl (Or.inl ⟨by rfl, fun w_ hS_ => ?_⟩) (marks 43 32767) ?_
            rotate_left
            next => (go_simp; try (first | rfl | exact (Bool.not_not _).symm))
            try simp only [Act.put, List.setIfInBounds_toArray, List.set_cons_zero, List.set_cons_succ]
            refine wpL_q 16 ?_ rfl (Or.inl ⟨by rfl, fun w_ hS_ => ?_⟩) (marks 43 98303) ?_
            rotate_left
            next => (go_simp; try (first | rfl | exact (Bool.not_not _).symm))
            try simp only [Act.put, List.setIfInBounds_toArray, List.set_cons_zero, List.set_cons_succ]
            refine wpL_q 17 ?_ rfl (Or.inl ⟨by rfl, fun w_ hS_ => ?_⟩) (marks 43 229375) ?_
            rotate_left
            next => (go_simp; try (first | rfl | exact (Bool.not_not _).symm))
            try simp only [Act.put, List.setIfInBounds_toArray, List.set_cons_zero, List.set_cons_succ]
            refine wpL_q 18 ?_ rfl (Or.inl ⟨by rfl, fun w_ hS_ => ?_⟩) (marks 43 491519) ?_
            rotate_left
            next => (go_simp; try (first | rfl | exact (Bool.not_not _).symm))
            try simp only [Act.put, List.setIfInBounds_toArray, List.set_cons_zero, List.set_cons_succ]
            refine wpL_m 19 ?_ rfl (.head _) (Or.inl ⟨by rfl, fun w_ hS_ => ?_⟩) (marks 43 1015807) ?_
            rotate_left
            next => (dsimp only at hS_; (try have q0 := Sep.Holds.cells hS_ (i := 0) rfl); (try have q1 := Sep.Holds.cells hS_ (i := 1) rfl); (try have q2 := Sep.Holds.cells hS_ (i := 2) rfl); (try have q3 := Sep.Holds.cells hS_ (i := 3) rfl); (try have q4 := Sep.Holds.cells hS_ (i := 4) rfl); (try have q5 := Sep.Holds.cells hS_ (i := 5) rfl); (try have q6 := Sep.Holds.cells hS_ (i := 6) rfl); go_simp; try (first | rfl | exact (Bool.not_not _).symm))
            try simp only [Act.put, List.setIfInBounds_toArray, List.set_cons_zero, List.set_cons_succ]
            refine wpL_q 20 ?_ rfl (Or.inl ⟨by rfl, fun w_ hS_ => ?_⟩) (marks 43 2064383) ?_
            rotate_left
            next => (go_simp; try (first | rfl | exact (Bool.not_not _).symm))
            try simp only [Act.put, List.setIfInBounds_toArray, List.set_cons_zero, List.set_cons_succ]
            refine wpL_o 15 rfl (by rfl) (marks 43 2097151) ?_
            (go_simp; go_at_call 16; refine (tLen_calls p T' e _ _ (hw.focus1 1 rfl)).mono ?_; rintro _ w_ ⟨rfl, rfl⟩; rw [hrl.out])
            refine ⟨(SL.keep (by exact hw.sel [3] (by decide)) SL.nil), ?_⟩
            try simp only [Act.put, List.setIfInBounds_toArray, List.set_cons_zero, List.set_cons_succ]
            refine wpL_q 21 ?_ rfl (Or.inl ⟨by rfl, fun w_ hS_ => ?_⟩) (marks 43 4194303) ?_
            rotate_left
            next => (go_simp; try (first | rfl | exact (Bool.not_not _).symm))
            try simp only [Act.put, List.setIfInBounds_toArray, List.set_cons_zero, List.set_cons_succ]
          all_goals
           refine wpL_q 22 ?_ rfl (Or.inl ⟨by rfl, fun w_ hS_ => ?_⟩) (marks 43 8388607) ?_
           rotate_left
           next => (go_simp; try (first | rfl | exact (Bool.not_not _).symm))
           try simp only [Act.put, List.setIfInBounds_toArray, List.set_cons_zero, List.set_cons_succ]
           refine wpL_b 23 ?_ rfl (Or.inl ⟨by rfl, fun w_ hS_ => ?_⟩) (marks 43 16777215) ?_
           rotate_left
           next => (go_simp; try (first | rfl | exact (Bool.not_not _).symm))
           intro bb_ hg23
           cases bb_
           case' true =>
            (try simp only [decide_eq_true_eq, decide_eq_false_iff_not, beq_iff_eq, beq_eq_false_iff_ne, bne_iff_ne, bne_eq_false_iff_eq, Bool.not_eq_true', Bool.not_eq_false', Int.not_lt, Int.not_le] at hg23)
            first | (cases hg23; done) | (exfalso; omega; done)
           case' false =>
            (try simp only [decide_eq_true_eq, decide_eq_false_iff_not, beq_iff_eq, beq_eq_false_iff_ne, bne_iff_ne, bne_eq_false_iff_eq, Bool.not_eq_true', Bool.not_eq_false', Int.not_lt, Int.not_le] at hg23)
            first | (cases hg23; done) | (exfalso; omega; done) | skip
            all_goals
             try replace hg23 := Sep.hid hg23
             try simp only [Act.put, List.setIfInBounds_toArray, List.set_cons_zero, List.set_cons_succ]
             refine wpL_q 24 ?_ rfl (Or.inl ⟨by rfl, fun w_ hS_ => ?_⟩) (marks 43 33554431) ?_
             rotate_left
             next => (go_simp; try (first | rfl | exact (Bool.not_not _).symm))
             try simp only [Act.put, List.setIfInBounds_toArray, List.set_cons_zero, List.set_cons_succ]
             refine wpL_q 25 ?_ rfl (Or.inl ⟨by rfl, fun w_ hS_ => ?_⟩) (marks 43 67108863) ?_
             rotate_left
             next => (go_simp; try (first | rfl | exact (Bool.not_not _).symm))
             try simp only [Act.put, List.setIfInBounds_toArray, List.set_cons_zero, List.set_cons_succ]
             refine wpL_q 27 ?_ rfl (Or.inl ⟨by rfl, fun w_ hS_ => ?_⟩) (marks 43 201326591) ?_
             rotate_left
             next => (go_simp; try (first | rfl | exact (Bool.not_not _).symm))
             try simp only [Act.put, List.setIfInBounds_toArray, List.set_cons_zero, List.set_cons_succ]
             refine wpL_q 28 ?_ rfl (Or.inl ⟨by rfl, fun w_ hS_ => ?_⟩) (marks 43 469762047) ?_
             rotate_left
             next => (go_simp; try (first | rfl | exact (Bool.not_not _).symm))
             try simp only [Act.put, List.setIfInBounds_toArray, List.set_cons_zero, List.set_cons_succ]
             refine wpL_o 26 rfl (by rfl) (marks 43 536870911) ?_
             (go_simp; go_at_call 18; refine (tIn_calls p T' (by rw [hrl.out]; omega) st e _ _ (hw.focus1 1 rfl)).mono ?_; rintro _ w_ ⟨v1, rfl, hw_⟩; clear hw; have hw := Holds.unfocus1 1 (by simp) hw_; clear hw_; (try simp only [List.map_cons, List.map_nil, List.getD_cons_zero, List.getD_cons_succ, List.getD_nil, List.set_cons_zero, List.set_cons_succ, List.cons_append, List.nil_append, Act.eval, Array.getD_eq_getD_getElem?, List.getElem?_toArray, List.getElem?_cons_succ, List.getElem?_cons_zero, Option.getD_some, Value.cells] at hw); (try simp (disch := first | (simp; done) | (simp; omega)) only [Sep.mid_set, Sep.mid_set2, Sep.mid_set0, Sep.mid_splice, Sep.mid_splice0, List.set_cons_zero, List.set_cons_succ] at hw); (try simp only [Sep.splice, List.take_succ_cons, List.take_zero, List.drop_succ_cons, List.drop_zero, List.length_cons, List.length_nil, Nat.reduceAdd, List.cons_append, List.nil_append] at hw); replace hw := hw.sel [0, 1, 2, 5, 3, 4] (by decide); (try simp only [List.map_cons, List.map_nil, List.getD_cons_zero, List.getD_cons_succ, List.getD_nil, List.set_cons_zero, List.set_cons_succ, List.cons_append, List.nil_append, Act.eval, Array.getD_eq_getD_getElem?, List.getElem?_toArray, List.getElem?_cons_succ, List.getElem?_cons_zero, Option.getD_some, Value.cells] at hw); (try simp (disch := first | (simp; done) | (simp; omega)) only [Sep.mid_set, Sep.mid_set2, Sep.mid_set0, Sep.mid_splice, Sep.mid_splice0, List.set_cons_zero, List.set_cons_succ] at hw); (try simp only [Sep.splice, List.take_succ_cons, List.take_zero, List.drop_succ_cons, List.drop_zero, List.length_cons, List.length_nil, Nat.reduceAdd, List.cons_append, List.nil_append] at hw))
             refine ⟨(SL.drop 26 (by kernel_rfl) SL.nil), ?_⟩
             try simp only [Act.put, List.setIfInBounds_toArray, List.set_cons_zero, List.set_cons_succ]
             refine wpL_o 29 rfl (by rfl) (marks 43 1073741823) ?_
             (go_simp; go_at_call 19; refine (rIn r rl rcap ra T' st hrl hrl2 e _ _ (Holds.group [_, _, _, _] _ hw)).mono ?_; rintro _ w_ ⟨v2, rfl, hw_⟩; simp only [rL, List.cons_append, List.nil_append] at hw_; clear hw; have hw := Holds.ungroup [_, _, _, _] _ hw_; clear hw_; (try simp only [List.map_cons, List.map_nil, List.getD_cons_zero, List.getD_cons_succ, List.getD_nil, List.set_cons_zero, List.set_cons_succ, List.cons_append, List.nil_append, Act.eval, Array.getD_eq_getD_getElem?, List.getElem?_toArray, List.getElem?_cons_succ, List.getElem?_cons_zero, Option.getD_some, Value.cells] at hw); (try simp (disch := first | (simp; done) | (simp; omega)) only [Sep.mid_set, Sep.mid_set2, Sep.mid_set0, Sep.mid_splice, Sep.mid_splice0, List.set_cons_zero, List.set_cons_succ] at hw); (try simp only [Sep.splice, List.take_succ_cons, List.take_zero, List.drop_succ_cons, List.drop_zero, List.length_cons, List.length_nil, Nat.reduceAdd, List.cons_append, List.nil_append] at hw); replace hw := hw.sel [0, 1, 2, 4, 5, 3, 6] (by decide); (try simp only [List.map_cons, List.map_nil, List.getD_cons_zero, List.getD_cons_succ, List.getD_nil, List.set_cons_zero, List.set_cons_succ, List.cons_append, List.nil_append, Act.eval, Array.getD_eq_getD_getElem?, List.getElem?_toArray, List.getElem?_cons_succ, List.getElem?_cons_zero, Option.getD_some, Value.cells] at hw); (try simp (disch := first | (simp; done) | (simp; omega)) only [Sep.mid_set, Sep.mid_set2, Sep.mid_set0, Sep.mid_splice, Sep.mid_splice0, List.set_cons_zero, List.set_cons_succ] at hw); (try simp only [Sep.splice, List.take_succ_cons, List.take_zero, List.drop_succ_cons, List.drop_zero, List.length_cons, List.length_nil, Nat.reduceAdd, List.cons_append, List.nil_append] at hw))
             refine ⟨(SL.drop 26 (by kernel_rfl) SL.nil), ?_⟩
             try simp only [Act.put, List.setIfInBounds_toArray, List.set_cons_zero, List.set_cons_succ]
             refine wpL_o 30 rfl (by rfl) (marks 43 2147483647) ?_
             (go_simp; go_at_call 17; refine (same_calls _ _ (T'.those (inState st)) (T'.those (inState st)) (by have := those_short T' (inState st); rw [hrl.out] at this; omega) e _ _ (hw.focus2 5 6 rfl rfl (by decide))).mono ?_; rintro en_ w_ ⟨he_, hw_⟩; rw [decide_eq_true rfl] at he_; subst he_; clear hw; have hw := Holds.unfocus2 5 6 (by simp) (by simp) (by decide) hw_; clear hw_; (try simp only [List.map_cons, List.map_nil, List.getD_cons_zero, List.getD_cons_succ, List.getD_nil, List.set_cons_zero, List.set_cons_succ, List.cons_append, List.nil_append, Act.eval, Array.getD_eq_getD_getElem?, List.getElem?_toArray, List.getElem?_cons_succ, List.getElem?_cons_zero, Option.getD_some, Value.cells] at hw); (try simp (disch := first | (simp; done) | (simp; omega)) only [Sep.mid_set, Sep.mid_set2, Sep.mid_set0, Sep.mid_splice, Sep.mid_splice0, List.set_cons_zero, List.set_cons_succ] at hw); (try simp only [Sep.splice, List.take_succ_cons, List.take_zero, List.drop_succ_cons, List.drop_zero, List.length_cons, List.length_nil, Nat.reduceAdd, List.cons_append, List.nil_append] at hw); replace hw := hw.sel [0, 1, 2, 3, 4] (by decide); (try simp only [List.map_cons, List.map_nil, List.getD_cons_zero, List.getD_cons_succ, List.getD_nil, List.set_cons_zero, List.set_cons_succ, List.cons_append, List.nil_append, Act.eval, Array.getD_eq_getD_getElem?, List.getElem?_toArray, List.getElem?_cons_succ, List.getElem?_cons_zero, Option.getD_some, Value.cells] at hw); (try simp (disch := first | (simp; done) | (simp; omega)) only [Sep.mid_set, Sep.mid_set2, Sep.mid_set0, Sep.mid_splice, Sep.mid_splice0, List.set_cons_zero, List.set_cons_succ] at hw); (try simp only [Sep.splice, List.take_succ_cons, List.take_zero, List.drop_succ_cons, List.drop_zero, List.length_cons, List.length_nil, Nat.reduceAdd, List.cons_append, List.nil_append] at hw))
             refine ⟨(SL.drop 26 (by kernel_rfl) SL.nil), ?_⟩
             try simp only [Act.put, List.setIfInBounds_toArray, List.set_cons_zero, List.set_cons_succ]
             refine wpL_q 31 ?_ rfl (Or.inl ⟨by rfl, fun w_ hS_ => ?_⟩) (marks 43 4294967295) ?_
             rotate_left
             next => (go_simp; try (first | rfl | exact (Bool.not_not _).symm))
             try simp only [Act.put, List.setIfInBounds_toArray, List.set_cons_zero, List.set_cons_succ]
           all_goals
            refine wpL_q 32 ?_ rfl (Or.inl ⟨by rfl, fun w_ hS_ => ?_⟩) (marks 43 8589934591) ?_
            rotate_left
            next => (go_simp; try (first | rfl | exact (Bool.not_not _).symm))
            try simp only [Act.put, List.setIfInBounds_toArray, List.set_cons_zero, List.set_cons_succ]
            refine wpL_b 33 ?_ rfl (Or.inl ⟨by rfl, fun w_ hS_ => ?_⟩) (marks 43 17179869183) ?_
            rotate_left
            next => (go_simp; try (first | rfl | exact (Bool.not_not _).symm))
            intro bb_ hg33
            cases bb_
            case' true =>
             (try simp only [decide_eq_true_eq, decide_eq_false_iff_not, beq_iff_eq, beq_eq_false_iff_ne, bne_iff_ne, bne_eq_false_iff_eq, Bool.not_eq_true', Bool.not_eq_false', Int.not_lt, Int.not_le] at hg33)
             first | (cases hg33; done) | (exfalso; omega; done)
            case' false =>
             (try simp only [decide_eq_true_eq, decide_eq_false_iff_not, beq_iff_eq, beq_eq_false_iff_ne, bne_iff_ne, bne_eq_false_iff_eq, Bool.not_eq_true', Bool.not_eq_false', Int.not_lt, Int.not_le] at hg33)
             first | (cases hg33; done) | (exfalso; omega; done) | skip
             all_goals
              try replace hg33 := Sep.hid hg33
              try simp only [Act.put, List.setIfInBounds_toArray, List.set_cons_zero, List.set_cons_succ]
              refine wpL_q 34 ?_ rfl (Or.inl ⟨by rfl, fun w_ hS_ => ?_⟩) (marks 43 34359738367) ?_
              rotate_left
              next => (go_simp; try (first | rfl | exact (Bool.not_not _).symm))
              try simp only [Act.put, List.setIfInBounds_toArray, List.set_cons_zero, List.set_cons_succ]
              refine wpL_q 35 ?_ rfl (Or.inl ⟨by rfl, fun w_ hS_ => ?_⟩) (marks 43 68719476735) ?_
              rotate_left
              next => (go_simp; try (first | rfl | exact (Bool.not_not _).symm))
              try simp only [Act.put, List.setIfInBounds_toArray, List.set_cons_zero, List.set_cons_succ]
              refine wpL_q 37 ?_ rfl (Or.inl ⟨by rfl, fun w_ hS_ => ?_⟩) (marks 43 206158430207) ?_
              rotate_left
              next => (go_simp; try (first | rfl | exact (Bool.not_not _).symm))
              try simp only [Act.put, List.setIfInBounds_toArray, List.set_cons_zero, List.set_cons_succ]
              refine wpL_q 38 ?_ rfl (Or.inl ⟨by rfl, fun w_ hS_ => ?_⟩) (marks 43 481036337151) ?_
              rotate_left
              next => (go_simp; try (first | rfl | exact (Bool.not_not _).symm))
              try simp only [Act.put, List.setIfInBounds_toArray, List.set_cons_zero, List.set_cons_succ]
              refine wpL_o 36 rfl (by rfl) (marks 43 549755813887) ?_
              (go_simp; go_at_call 20; refine (tUnder_calls p T' (by rw [hrl.out]; omega) ctx e _ _ (hw.focus1 1 rfl)).mono ?_; rintro _ w_ ⟨v1, rfl, hw_⟩; clear hw; have hw := Holds.unfocus1 1 (by simp) hw_; clear hw_; (try simp only [List.map_cons, List.map_nil, List.getD_cons_zero, List.getD_cons_succ, List.getD_nil, List.set_cons_zero, List.set_cons_succ, List.cons_append, List.nil_append, Act.eval, Array.getD_eq_getD_getElem?, List.getElem?_toArray, List.getElem?_cons_succ, List.getElem?_cons_zero, Option.getD_some, Value.cells] at hw); (try simp (disch := first | (simp; done) | (simp; omega)) only [Sep.mid_set, Sep.mid_set2, Sep.mid_set0, Sep.mid_splice, Sep.mid_splice0, List.set_cons_zero, List.set_cons_succ] at hw); (try simp only [Sep.splice, List.take_succ_cons, List.take_zero, List.drop_succ_cons, List.drop_zero, List.length_cons, List.length_nil, Nat.reduceAdd, List.cons_append, List.nil_append] at hw); replace hw := hw.sel [0, 1, 2, 5, 3, 4] (by decide); (try simp only [List.map_cons, List.map_nil, List.getD_cons_zero, List.getD_cons_succ, List.getD_nil, List.set_cons_zero, List.set_cons_succ, List.cons_append, List.nil_append, Act.eval, Array.getD_eq_getD_getElem?, List.getElem?_toArray, List.getElem?_cons_succ, List.getElem?_cons_zero, Option.getD_some, Value.cells] at hw); (try simp (disch := first | (simp; done) | (simp; omega)) only [Sep.mid_set, Sep.mid_set2, Sep.mid_set0, Sep.mid_splice, Sep.mid_splice0, List.set_cons_zero, List.set_cons_succ] at hw); (try simp only [Sep.splice, List.take_succ_cons, List.take_zero, List.drop_succ_cons, List.drop_zero, List.length_cons, List.length_nil, Nat.reduceAdd, List.cons_append, List.nil_append] at hw))
              refine ⟨(SL.drop 26 (by kernel_rfl) SL.nil), ?_⟩
              try simp only [Act.put, List.setIfInBounds_toArray, List.set_cons_zero, List.set_cons_succ]
              refine wpL_o 39 rfl (by rfl) (marks 43 1099511627775) ?_
              (go_simp; go_at_call 21; refine (rUnder r rl rcap ra T' ctx hrl hrl2 e _ _ (Holds.group [_, _, _, _] _ hw)).mono ?_; rintro _ w_ ⟨v2, rfl, hw_⟩; simp only [rL, List.cons_append, List.nil_append] at hw_; clear hw; have hw := Holds.ungroup [_, _, _, _] _ hw_; clear hw_; (try simp only [List.map_cons, List.map_nil, List.getD_cons_zero, List.getD_cons_succ, List.getD_nil, List.set_cons_zero, List.set_cons_succ, List.cons_append, List.nil_append, Act.eval, Array.getD_eq_getD_getElem?, List.getElem?_toArray, List.getElem?_cons_succ, List.getElem?_cons_zero, Option.getD_some, Value.cells] at hw); (try simp (disch := first | (simp; done) | (simp; omega)) only [Sep.mid_set, Sep.mid_set2, Sep.mid_set0, Sep.mid_splice, Sep.mid_splice0, List.set_cons_zero, List.set_cons_succ] at hw); (try simp only [Sep.splice, List.take_succ_cons, List.take_zero, List.drop_succ_cons, List.drop_zero, List.length_cons, List.length_nil, Nat.reduceAdd, List.cons_append, List.nil_append] at hw); replace hw := hw.sel [0, 1, 2, 4, 5, 3, 6] (by decide); (try simp only [List.map_cons, List.map_nil, List.getD_cons_zero, List.getD_cons_succ, List.getD_nil, List.set_cons_zero, List.set_cons_succ, List.cons_append, List.nil_append, Act.eval, Array.getD_eq_getD_getElem?, List.getElem?_toArray, List.getElem?_cons_succ, List.getElem?_cons_zero, Option.getD_some, Value.cells] at hw); (try simp (disch := first | (simp; done) | (simp; omega)) only [Sep.mid_set, Sep.mid_set2, Sep.mid_set0, Sep.mid_splice, Sep.mid_splice0, List.set_cons_zero, List.set_cons_succ] at hw); (try simp only [Sep.splice, List.take_succ_cons, List.take_zero, List.drop_succ_cons, List.drop_zero, List.length_cons, List.length_nil, Nat.reduceAdd, List.cons_append, List.nil_append] at hw))
              refine ⟨(SL.drop 26 (by kernel_rfl) SL.nil), ?_⟩
              try simp only [Act.put, List.setIfInBounds_toArray, List.set_cons_zero, List.set_cons_succ]
              refine wpL_o 40 rfl (by rfl) (marks 43 2199023255551) ?_
              (go_simp; go_at_call 17; refine (same_calls _ _ (T'.those (underCtx ctx)) (T'.those (underCtx ctx)) (by have := those_short T' (underCtx ctx); rw [hrl.out] at this; omega) e _ _ (hw.focus2 5 6 rfl rfl (by decide))).mono ?_; rintro en_ w_ ⟨he_, hw_⟩; rw [decide_eq_true rfl] at he_; subst he_; clear hw; have hw := Holds.unfocus2 5 6 (by simp) (by simp) (by decide) hw_; clear hw_; (try simp only [List.map_cons, List.map_nil, List.getD_cons_zero, List.getD_cons_succ, List.getD_nil, List.set_cons_zero, List.set_cons_succ, List.cons_append, List.nil_append, Act.eval, Array.getD_eq_getD_getElem?, List.getElem?_toArray, List.getElem?_cons_succ, List.getElem?_cons_zero, Option.getD_some, Value.cells] at hw); (try simp (disch := first | (simp; done) | (simp; omega)) only [Sep.mid_set, Sep.mid_set2, Sep.mid_set0, Sep.mid_splice, Sep.mid_splice0, List.set_cons_zero, List.set_cons_succ] at hw); (try simp only [Sep.splice, List.take_succ_cons, List.take_zero, List.drop_succ_cons, List.drop_zero, List.length_cons, List.length_nil, Nat.reduceAdd, List.cons_append, List.nil_append] at hw); replace hw := hw.sel [0, 1, 2, 3, 4] (by decide); (try simp only [List.map_cons, List.map_nil, List.getD_cons_zero, List.getD_cons_succ, List.getD_nil, List.set_cons_zero, List.set_cons_succ, List.cons_append, List.nil_append, Act.eval, Array.getD_eq_getD_getElem?, List.getElem?_toArray, List.getElem?_cons_succ, List.getElem?_cons_zero, Option.getD_some, Value.cells] at hw); (try simp (disch := first | (simp; done) | (simp; omega)) only [Sep.mid_set, Sep.mid_set2, Sep.mid_set0, Sep.mid_splice, Sep.mid_splice0, List.set_cons_zero, List.set_cons_succ] at hw); (try simp only [Sep.splice, List.take_succ_cons, List.take_zero, List.drop_succ_cons, List.drop_zero, List.length_cons, List.length_nil, Nat.reduceAdd, List.cons_append, List.nil_append] at hw))
              refine ⟨(SL.drop 26 (by kernel_rfl) SL.nil), ?_⟩
              try simp only [Act.put, List.setIfInBounds_toArray, List.set_cons_zero, List.set_cons_succ]
              refine wpL_q 41 ?_ rfl (Or.inl ⟨by rfl, fun w_ hS_ => ?_⟩) (marks 43 4398046511103) ?_
              rotate_left
              next => (go_simp; try (first | rfl | exact (Bool.not_not _).symm))
              try simp only [Act.put, List.setIfInBounds_toArray, List.set_cons_zero, List.set_cons_succ]
            all_goals
             refine wpL_q 42 ?_ rfl (Or.inl ⟨by rfl, fun w_ hS_ => ?_⟩) (marks 43 8796093022207) ?_
             rotate_left
             next => (go_simp; try (first | rfl | exact (Bool.not_not _).symm))
             try simp only [Act.put, List.setIfInBounds_toArray, List.set_cons_zero, List.set_cons_succ]
             all_goals refine wpL_done (by kernel_rfl) ?_ _
        go_wp2_with fail
        have Hw1 := Sep.hid (hw.sel [0, 1, 3, 4] (by decide)); clear hw; (try clear hc0); (try clear hc1); (try clear hc2); (try clear hc3); (try clear hc4); (try clear hc5); (try clear hc6)
        go_loopw [21] (fun i wx => ∃ k : Nat, k ≤ rl + 2 ∧ i = .int .i64 ((k : Int) - 1) ∧ Holds e wx [Old e, IsTable p T', pt r [.slice ra rl rcap, .int .i64 T'.most] 47, Sl 57 17 (.slice ra rl rcap) rl (T'.l.flatMap encT)]) (fun i _ => rl + 2 - (intOf i + 1).toNat)
        case atStart => exact ⟨0, by omega, rfl, Hw1.out⟩
        case round =>
          clear Hw1
          obtain ⟨k, hk, rfl, hw⟩ := hrel
          (try replace hc0 := Sep.Holds.cells hw (i := 0) rfl); (try replace hc1 := Sep.Holds.cells hw (i := 1) rfl); (try replace hc2 := Sep.Holds.cells hw (i := 2) rfl); (try replace hc3 := Sep.Holds.cells hw (i := 3) rfl); (try replace hc4 := Sep.Holds.cells hw (i := 4) rfl); (try replace hc5 := Sep.Holds.cells hw (i := 5) rfl); (try replace hc6 := Sep.Holds.cells hw (i := 6) rfl)
          have Hnx : Hid (wrap64 (((k : Int) - 1) + 1) = ((k + 1 : Nat) : Int) - 1) := Sep.hid ((IntWalk.wrap64_in _ (by omega)).trans (by omega))
          by_cases hkn : k ≤ rl + 1
          · have hkn2 : (k : Int) - 1 ≤ rl := by omega
            obtain ⟨t, ht⟩ : ∃ t : Int, (k : Int) - 1 = t := ⟨_, rfl⟩
            have Ht := Sep.hid ht
            rw [ht] at hkn2
            rw [ht]
            clear ht
            have hL := fun w X hw => tGet_calls p T' t e w X hw
            have hR := fun w X hw => rGet r rl rcap ra T' t hrl e w X hw
            obtain ⟨X, hX⟩ : ∃ X, T'.getD t = X := ⟨_, rfl⟩
            obtain ⟨b, hb⟩ : ∃ b, (T'.get t).isSome = b := ⟨_, rfl⟩
            simp only [hX, hb] at hL hR
            clear hX hb
            go_wp2_with fail
            refine (hL _ _ (hw.focus1 1 rfl)).mono ?_
            clear hL
            rintro _ w_ ⟨rfl, hw_⟩
            clear hw; (try clear hc0); (try clear hc1); (try clear hc2); (try clear hc3); (try clear hc4); (try clear hc5); (try clear hc6); have hw := Holds.unfocus1 1 (by simp) hw_; clear hw_
            (try simp only [List.map_cons, List.map_nil, List.getD_cons_zero, List.getD_cons_succ, List.getD_nil, List.set_cons_zero, List.set_cons_succ, List.cons_append, List.nil_append, Act.eval, Array.getD_eq_getD_getElem?, List.getElem?_toArray, List.getElem?_cons_succ, List.getElem?_cons_zero, Option.getD_some, Value.cells] at hw); (try simp (disch := first | (simp; done) | (simp; omega)) only [Sep.mid_set, Sep.mid_set2, Sep.mid_set0, Sep.mid_splice, Sep.mid_splice0, List.set_cons_zero, List.set_cons_succ] at hw); (try simp only [Sep.splice, List.take_succ_cons, List.take_zero, List.drop_succ_cons, List.drop_zero, List.length_cons, List.length_nil, Nat.reduceAdd, List.cons_append, List.nil_append] at hw)
            (try replace hc0 := Sep.Holds.cells hw (i := 0) rfl); (try replace hc1 := Sep.Holds.cells hw (i := 1) rfl); (try replace hc2 := Sep.Holds.cells hw (i := 2) rfl); (try replace hc3 := Sep.Holds.cells hw (i := 3) rfl); (try replace hc4 := Sep.Holds.cells hw (i := 4) rfl); (try replace hc5 := Sep.Holds.cells hw (i := 5) rfl); (try replace hc6 := Sep.Holds.cells hw (i := 6) rfl)
            go_wp2_with (first | (refine wpList_on rfl (wp_alloc (ti := ti53) rfl hw ?_); intro xd w_ hw_; clear hw; have hw := hw_; clear hw_; (try simp only [List.map_cons, List.map_nil, List.getD_cons_zero, List.getD_cons_succ, List.getD_nil, List.set_cons_zero, List.set_cons_succ, List.cons_append, List.nil_append, Act.eval, Array.getD_eq_getD_getElem?, List.getElem?_toArray, List.getElem?_cons_succ, List.getElem?_cons_zero, Option.getD_some, Value.cells] at hw); (try simp (disch := first | (simp; done) | (simp; omega)) only [Sep.mid_set, Sep.mid_set2, Sep.mid_set0, Sep.mid_splice, Sep.mid_splice0, List.set_cons_zero, List.set_cons_succ] at hw); (try simp only [Sep.splice, List.take_succ_cons, List.take_zero, List.drop_succ_cons, List.drop_zero, List.length_cons, List.length_nil, Nat.reduceAdd, List.cons_append, List.nil_append] at hw); (try replace hc0 := Sep.Holds.cells hw (i := 0) rfl); (try replace hc1 := Sep.Holds.cells hw (i := 1) rfl); (try replace hc2 := Sep.Holds.cells hw (i := 2) rfl); (try replace hc3 := Sep.Holds.cells hw (i := 3) rfl); (try replace hc4 := Sep.Holds.cells hw (i := 4) rfl); (try replace hc5 := Sep.Holds.cells hw (i := 5) rfl); (try replace hc6 := Sep.Holds.cells hw (i := 6) rfl)) | (refine wpList_on rfl (wp_storeAll (vs := encT X) rfl rfl (by rfl) hw (i := 4) rfl rfl rfl (encT_one _) ?_); intro w_ hw_; clear hw; have hw := hw_; clear hw_; (try simp only [List.map_cons, List.map_nil, List.getD_cons_zero, List.getD_cons_succ, List.getD_nil, List.set_cons_zero, List.set_cons_succ, List.cons_append, List.nil_append, Act.eval, Array.getD_eq_getD_getElem?, List.getElem?_toArray, List.getElem?_cons_succ, List.getElem?_cons_zero, Option.getD_some, Value.cells] at hw); (try simp (disch := first | (simp; done) | (simp; omega)) only [Sep.mid_set, Sep.mid_set2, Sep.mid_set0, Sep.mid_splice, Sep.mid_splice0, List.set_cons_zero, List.set_cons_succ] at hw); (try simp only [Sep.splice, List.take_succ_cons, List.take_zero, List.drop_succ_cons, List.drop_zero, List.length_cons, List.length_nil, Nat.reduceAdd, List.cons_append, List.nil_append] at hw); (try replace hc0 := Sep.Holds.cells hw (i := 0) rfl); (try replace hc1 := Sep.Holds.cells hw (i := 1) rfl); (try replace hc2 := Sep.Holds.cells hw (i := 2) rfl); (try replace hc3 := Sep.Holds.cells hw (i := 3) rfl); (try replace hc4 := Sep.Holds.cells hw (i := 4) rfl); (try replace hc5 := Sep.Holds.cells hw (i := 5) rfl); (try replace hc6 := Sep.Holds.cells hw (i := 6) rfl)))
            replace hw := hw.sel [0, 1, 4, 2, 3] (by decide)
            (try simp only [List.map_cons, List.map_nil, List.getD_cons_zero, List.getD_cons_succ, List.getD_nil, List.set_cons_zero, List.set_cons_succ, List.cons_append, List.nil_append, Act.eval, Array.getD_eq_getD_getElem?, List.getElem?_toArray, List.getElem?_cons_succ, List.getElem?_cons_zero, Option.getD_some, Value.cells] at hw); (try simp (disch := first | (simp; done) | (simp; omega)) only [Sep.mid_set, Sep.mid_set2, Sep.mid_set0, Sep.mid_splice, Sep.mid_splice0, List.set_cons_zero, List.set_cons_succ] at hw); (try simp only [Sep.splice, List.take_succ_cons, List.take_zero, List.drop_succ_cons, List.drop_zero, List.length_cons, List.length_nil, Nat.reduceAdd, List.cons_append, List.nil_append] at hw)
            refine (hR _ _ (Holds.group [_, _, _] _ hw)).mono ?_
            clear hR
            rintro _ w_ ⟨rfl, hw_⟩
            simp only [rL] at hw_
            clear hw; (try clear hc0); (try clear hc1); (try clear hc2); (try clear hc3); (try clear hc4); (try clear hc5); (try clear hc6); have hw := Holds.ungroup [_, _, _] _ hw_; clear hw_
            (try simp only [List.map_cons, List.map_nil, List.getD_cons_zero, List.getD_cons_succ, List.getD_nil, List.set_cons_zero, List.set_cons_succ, List.cons_append, List.nil_append, Act.eval, Array.getD_eq_getD_getElem?, List.getElem?_toArray, List.getElem?_cons_succ, List.getElem?_cons_zero, Option.getD_some, Value.cells] at hw); (try simp (disch := first | (simp; done) | (simp; omega)) only [Sep.mid_set, Sep.mid_set2, Sep.mid_set0, Sep.mid_splice, Sep.mid_splice0, List.set_cons_zero, List.set_cons_succ] at hw); (try simp only [Sep.splice, List.take_succ_cons, List.take_zero, List.drop_succ_cons, List.drop_zero, List.length_cons, List.length_nil, Nat.reduceAdd, List.cons_append, List.nil_append] at hw)
            (try replace hc0 := Sep.Holds.cells hw (i := 0) rfl); (try replace hc1 := Sep.Holds.cells hw (i := 1) rfl); (try replace hc2 := Sep.Holds.cells hw (i := 2) rfl); (try replace hc3 := Sep.Holds.cells hw (i := 3) rfl); (try replace hc4 := Sep.Holds.cells hw (i := 4) rfl); (try replace hc5 := Sep.Holds.cells hw (i := 5) rfl); (try replace hc6 := Sep.Holds.cells hw (i := 6) rfl)
            go_wp2_with (first | (refine wpList_on rfl (wp_alloc (ti := ti57) rfl hw ?_); intro yd w_ hw_; clear hw; have hw := hw_; clear hw_; (try simp only [List.map_cons, List.map_nil, List.getD_cons_zero, List.getD_cons_succ, List.getD_nil, List.set_cons_zero, List.set_cons_succ, List.cons_append, List.nil_append, Act.eval, Array.getD_eq_getD_getElem?, List.getElem?_toArray, List.getElem?_cons_succ, List.getElem?_cons_zero, Option.getD_some, Value.cells] at hw); (try simp (disch := first | (simp; done) | (simp; omega)) only [Sep.mid_set, Sep.mid_set2, Sep.mid_set0, Sep.mid_splice, Sep.mid_splice0, List.set_cons_zero, List.set_cons_succ] at hw); (try simp only [Sep.splice, List.take_succ_cons, List.take_zero, List.drop_succ_cons, List.drop_zero, List.length_cons, List.length_nil, Nat.reduceAdd, List.cons_append, List.nil_append] at hw); (try replace hc0 := Sep.Holds.cells hw (i := 0) rfl); (try replace hc1 := Sep.Holds.cells hw (i := 1) rfl); (try replace hc2 := Sep.Holds.cells hw (i := 2) rfl); (try replace hc3 := Sep.Holds.cells hw (i := 3) rfl); (try replace hc4 := Sep.Holds.cells hw (i := 4) rfl); (try replace hc5 := Sep.Holds.cells hw (i := 5) rfl); (try replace hc6 := Sep.Holds.cells hw (i := 6) rfl)) | (refine wpList_on rfl (wp_storeAll (vs := encT X) rfl rfl (by rfl) hw (i := 5) rfl rfl rfl (encT_one _) ?_); intro w_ hw_; clear hw; have hw := hw_; clear hw_; (try simp only [List.map_cons, List.map_nil, List.getD_cons_zero, List.getD_cons_succ, List.getD_nil, List.set_cons_zero, List.set_cons_succ, List.cons_append, List.nil_append, Act.eval, Array.getD_eq_getD_getElem?, List.getElem?_toArray, List.getElem?_cons_succ, List.getElem?_cons_zero, Option.getD_some, Value.cells] at hw); (try simp (disch := first | (simp; done) | (simp; omega)) only [Sep.mid_set, Sep.mid_set2, Sep.mid_set0, Sep.mid_splice, Sep.mid_splice0, List.set_cons_zero, List.set_cons_succ] at hw); (try simp only [Sep.splice, List.take_succ_cons, List.take_zero, List.drop_succ_cons, List.drop_zero, List.length_cons, List.length_nil, Nat.reduceAdd, List.cons_append, List.nil_append] at hw); (try replace hc0 := Sep.Holds.cells hw (i := 0) rfl); (try replace hc1 := Sep.Holds.cells hw (i := 1) rfl); (try replace hc2 := Sep.Holds.cells hw (i := 2) rfl); (try replace hc3 := Sep.Holds.cells hw (i := 3) rfl); (try replace hc4 := Sep.Holds.cells hw (i := 4) rfl); (try replace hc5 := Sep.Holds.cells hw (i := 5) rfl); (try replace hc6 := Sep.Holds.cells hw (i := 6) rfl)))
            refine wp_region_L [1] [(0, (fun w' => w' = w_.drew)), (2, (fun w' => Holds e w' [pt yd (encT X) 57]))] (n := 9) (listed := (marks 9 0)) (by kernel_rfl) rfl (by kernel_rfl) ?conds2 ?_
            case conds2 =>
             intro c hc
             simp only [List.mem_cons, List.not_mem_nil, or_false] at hc
             rcases hc with rfl | rfl
             · rfl
             · exact (by replace hw := hw.drew; exact hw.sel [5] (by decide))
            replace hw := hw.drew
            (try replace hc0 := Sep.Holds.cells hw (i := 0) rfl); (try replace hc1 := Sep.Holds.cells hw (i := 1) rfl); (try replace hc2 := Sep.Holds.cells hw (i := 2) rfl); (try replace hc3 := Sep.Holds.cells hw (i := 3) rfl); (try replace hc4 := Sep.Holds.cells hw (i := 4) rfl); (try replace hc5 := Sep.Holds.cells hw (i := 5) rfl); (try replace hc6 := Sep.Holds.cells hw (i := 6) rfl)
            refine wpL_m 0 ?_ rfl (.head _) (Or.inl ⟨by rfl, fun w_ hS_ => ?_⟩) (marks 9 1) ?_
            rotate_left
            next => (subst hS_; first | (first | (refine Eq.trans (run_neS X rfl rfl rfl) ?_; rfl) | (refine Eq.trans (run_loadN (vs := encT X) (off := 0) rfl rfl hw (i := 2) rfl rfl (by intro j v hj; simpa using hj)) ?_; rfl) | (refine Eq.trans (run_loadN (vs := encT X) (off := 0) rfl rfl hS_ (i := 0) rfl rfl (by intro j v hj; simpa using hj)) ?_; rfl)) | (go_simp; try (first | rfl | exact (Bool.not_not _).symm)))
            try simp only [Act.put, List.setIfInBounds_toArray, List.set_cons_zero, List.set_cons_succ]
            refine wpL_m 2 ?_ rfl (.tail _ (.head _)) (Or.inl ⟨by rfl, fun w_ hS_ => ?_⟩) (marks 9 5) ?_
            rotate_left
            next => (dsimp only at hS_; (try have q0 := Sep.Holds.cells hS_ (i := 0) rfl); (try have q1 := Sep.Holds.cells hS_ (i := 1) rfl); (try have q2 := Sep.Holds.cells hS_ (i := 2) rfl); (try have q3 := Sep.Holds.cells hS_ (i := 3) rfl); (try have q4 := Sep.Holds.cells hS_ (i := 4) rfl); (try have q5 := Sep.Holds.cells hS_ (i := 5) rfl); (try have q6 := Sep.Holds.cells hS_ (i := 6) rfl); first | (first | (refine Eq.trans (run_neS X rfl rfl rfl) ?_; rfl) | (refine Eq.trans (run_loadN (vs := encT X) (off := 0) rfl rfl hw (i := 2) rfl rfl (by intro j v hj; simpa using hj)) ?_; rfl) | (refine Eq.trans (run_loadN (vs := encT X) (off := 0) rfl rfl hS_ (i := 0) rfl rfl (by intro j v hj; simpa using hj)) ?_; rfl)) | (go_simp; try (first | rfl | exact (Bool.not_not _).symm)))
            try simp only [Act.put, List.setIfInBounds_toArray, List.set_cons_zero, List.set_cons_succ]
            refine wpL_o 1 rfl (by rfl) (marks 9 7) ?_
            (go_simp; go_at_call 24; refine (own_calls X e _ _ hw.focus0).mono ?_; rintro _ w_ ⟨rfl, hw_⟩; clear hw; have hw := Holds.unfocus0 (N := []) hw_; clear hw_; (try simp only [List.map_cons, List.map_nil, List.getD_cons_zero, List.getD_cons_succ, List.getD_nil, List.set_cons_zero, List.set_cons_succ, List.cons_append, List.nil_append, Act.eval, Array.getD_eq_getD_getElem?, List.getElem?_toArray, List.getElem?_cons_succ, List.getElem?_cons_zero, Option.getD_some, Value.cells] at hw); (try simp (disch := first | (simp; done) | (simp; omega)) only [Sep.mid_set, Sep.mid_set2, Sep.mid_set0, Sep.mid_splice, Sep.mid_splice0, List.set_cons_zero, List.set_cons_succ] at hw); (try simp only [Sep.splice, List.take_succ_cons, List.take_zero, List.drop_succ_cons, List.drop_zero, List.length_cons, List.length_nil, Nat.reduceAdd, List.cons_append, List.nil_append] at hw))
            refine ⟨(SL.drop 1 (by kernel_rfl) (SL.keep (by exact hw.sel [5] (by decide)) SL.nil)), ?_⟩
            try simp only [Act.put, List.setIfInBounds_toArray, List.set_cons_zero, List.set_cons_succ]
            refine wpL_q 3 ?_ rfl (Or.inl ⟨by rfl, fun w_ hS_ => ?_⟩) (marks 9 15) ?_
            rotate_left
            next => (first | (first | (refine Eq.trans (run_neS X rfl rfl rfl) ?_; rfl) | (refine Eq.trans (run_loadN (vs := encT X) (off := 0) rfl rfl hw (i := 2) rfl rfl (by intro j v hj; simpa using hj)) ?_; rfl) | (refine Eq.trans (run_loadN (vs := encT X) (off := 0) rfl rfl hS_ (i := 0) rfl rfl (by intro j v hj; simpa using hj)) ?_; rfl)) | (go_simp; try (first | rfl | exact (Bool.not_not _).symm)))
            try simp only [Act.put, List.setIfInBounds_toArray, List.set_cons_zero, List.set_cons_succ]
            refine wpL_b 4 ?_ rfl (Or.inl ⟨by rfl, fun w_ hS_ => ?_⟩) (marks 9 31) ?_
            rotate_left
            next => (go_simp; try (first | rfl | exact (Bool.not_not _).symm))
            intro bb_ hg4
            cases bb_
            case' true =>
             (try simp only [decide_eq_true_eq, decide_eq_false_iff_not, beq_iff_eq, beq_eq_false_iff_ne, bne_iff_ne, bne_eq_false_iff_eq, Bool.not_eq_true', Bool.not_eq_false', Int.not_lt, Int.not_le] at hg4)
             first | (cases hg4; done) | (exfalso; omega; done)
            case' false =>
             (try simp only [decide_eq_true_eq, decide_eq_false_iff_not, beq_iff_eq, beq_eq_false_iff_ne, bne_iff_ne, bne_eq_false_iff_eq, Bool.not_eq_true', Bool.not_eq_false', Int.not_lt, Int.not_le] at hg4)
             first | (cases hg4; done) | (exfalso; omega; done) | skip
             all_goals
              try replace hg4 := Sep.hid hg4
              try simp only [Act.put, List.setIfInBounds_toArray, List.set_cons_zero, List.set_cons_succ]
              refine wpL_q 5 ?_ rfl (Or.inl ⟨by rfl, fun w_ hS_ => ?_⟩) (marks 9 63) ?_
              rotate_left
              next => (go_simp; try (first | rfl | exact (Bool.not_not _).symm))
              try simp only [Act.put, List.setIfInBounds_toArray, List.set_cons_zero, List.set_cons_succ]
              refine wpL_q 6 ?_ rfl (Or.inl ⟨by rfl, fun w_ hS_ => ?_⟩) (marks 9 127) ?_
              rotate_left
              next => (go_simp; try (first | rfl | exact (Bool.not_not _).symm))
              try simp only [Act.put, List.setIfInBounds_toArray, List.set_cons_zero, List.set_cons_succ]
              refine wpL_q 7 ?_ rfl (Or.inl ⟨by rfl, fun w_ hS_ => ?_⟩) (marks 9 255) ?_
              rotate_left
              next => (first | (first | (refine Eq.trans (run_neS X rfl rfl rfl) ?_; rfl) | (refine Eq.trans (run_loadN (vs := encT X) (off := 0) rfl rfl hw (i := 2) rfl rfl (by intro j v hj; simpa using hj)) ?_; rfl) | (refine Eq.trans (run_loadN (vs := encT X) (off := 0) rfl rfl hS_ (i := 0) rfl rfl (by intro j v hj; simpa using hj)) ?_; rfl)) | (go_simp; try (first | rfl | exact (Bool.not_not _).symm)))
              try simp only [Act.put, List.setIfInBounds_toArray, List.set_cons_zero, List.set_cons_succ]
            all_goals
             refine wpL_q 8 ?_ rfl (Or.inl ⟨by rfl, fun w_ hS_ => ?_⟩) (marks 9 511) ?_
             rotate_left
             next => (go_simp; try (first | rfl | exact (Bool.not_not _).symm))
             try simp only [Act.put, List.setIfInBounds_toArray, List.set_cons_zero, List.set_cons_succ]
             all_goals refine wpL_done (by kernel_rfl) ?_ _
            all_goals
              go_wp2_with fail
              go_roundw
              case rel => exact ⟨k + 1, by omega, by rw [← Ht.out]; exact congrArg (Value.int .i64) Hnx.out, hw.sel [0, 1, 3, 4] (by decide)⟩
              case measure =>
                show rl + 2 - (wrap64 (t + 1) + 1).toNat < rl + 2 - (t + 1).toNat
                have h1 := Hnx.out
                have h2 := Ht.out
                rw [h2] at h1
                rw [h1]; omega
          · have hkn3 : (rl : Int) < (k : Int) - 1 := by omega
            go_wp2_with fail
            go_roundw
            case rel => exact ⟨q + 1, T', by omega, by go_num, HT', ref_back hrl.out hw⟩
            case measure => simp [intOf]; omega
    · go_wp2_with fail
      exact HP.out _ _ ⟨rfl, hw.sel [0] (by decide)⟩
end Go.Proofs.Ytmoikkfhlnogbaa
