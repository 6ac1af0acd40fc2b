/-
  The walks of what is handed to 'change', and of 'of', 'put'.
-/
import Derived.Test.YtmoikkfhlnogbaaEnc
import Derived.Test.YtmoikkfhlnogbaaRegion
namespace Go.Proofs.Ytmoikkfhlnogbaa
set_option linter.unusedSimpArgs false
set_option linter.unusedVariables false
open Go.RowKit Go.Sep Go.TaskM
attribute [local simp] Sep.mid_get Sep.mid_get0

set_option maxHeartbeats 400000 in
theorem parked_calls (t : Task) (e w : World) (R : HProp) (hw : Holds e w [R]) :
    Calls Try.prog 38 #[.agg (encT t).toArray] w fun en w' => en = .returned (.bool (parked t)) ∧ Holds e w' [R] := by
  simp only [encT]
  go_enter Try.func38, Try.ntmps38
  go_wp2_with (refine wpList_on rfl (wp_box rfl hw ?_); intro b_ w_ hw_; clear hw; have hw := hw_; clear hw_; (try simp only [List.map_cons, List.map_nil, List.getD_cons_zero, List.getD_cons_succ, List.getD_nil, List.set_cons_zero, List.set_cons_succ, List.cons_append, List.nil_append, Act.eval, Array.getD_eq_getD_getElem?, List.getElem?_toArray, List.getElem?_cons_succ, List.getElem?_cons_zero, Option.getD_some, Value.cells] at hw); (try simp (disch := first | (simp; done) | (simp; omega)) only [Sep.mid_set, Sep.mid_set2, Sep.mid_set0, Sep.mid_splice, Sep.mid_splice0, List.set_cons_zero, List.set_cons_succ] at hw); (try simp only [Sep.splice, List.take_succ_cons, List.take_zero, List.drop_succ_cons, List.drop_zero, List.length_cons, List.length_nil, Nat.reduceAdd, List.cons_append, List.nil_append] at hw); (try replace hc0 := Sep.Holds.cells hw (i := 0) rfl); (try replace hc1 := Sep.Holds.cells hw (i := 1) rfl); (try replace hc2 := Sep.Holds.cells hw (i := 2) rfl); (try replace hc3 := Sep.Holds.cells hw (i := 3) rfl); (try replace hc4 := Sep.Holds.cells hw (i := 4) rfl); (try replace hc5 := Sep.Holds.cells hw (i := 5) rfl); (try replace hc6 := Sep.Holds.cells hw (i := 6) rfl))
  go_ret
  exact ⟨rfl, hw.sel [0] (by decide)⟩
set_option maxHeartbeats 400000 in
theorem ready_calls (t : Task) (e w : World) (R : HProp) (hw : Holds e w [R]) :
    Calls Try.prog 42 #[.agg (encT t).toArray] w fun en w' => en = .returned (.bool (ready t)) ∧ Holds e w' [R] := by
  simp only [encT]
  go_enter Try.func42, Try.ntmps42
  go_wp2_with (refine wpList_on rfl (wp_box rfl hw ?_); intro b_ w_ hw_; clear hw; have hw := hw_; clear hw_; (try simp only [List.map_cons, List.map_nil, List.getD_cons_zero, List.getD_cons_succ, List.getD_nil, List.set_cons_zero, List.set_cons_succ, List.cons_append, List.nil_append, Act.eval, Array.getD_eq_getD_getElem?, List.getElem?_toArray, List.getElem?_cons_succ, List.getElem?_cons_zero, Option.getD_some, Value.cells] at hw); (try simp (disch := first | (simp; done) | (simp; omega)) only [Sep.mid_set, Sep.mid_set2, Sep.mid_set0, Sep.mid_splice, Sep.mid_splice0, List.set_cons_zero, List.set_cons_succ] at hw); (try simp only [Sep.splice, List.take_succ_cons, List.take_zero, List.drop_succ_cons, List.drop_zero, List.length_cons, List.length_nil, Nat.reduceAdd, List.cons_append, List.nil_append] at hw); (try replace hc0 := Sep.Holds.cells hw (i := 0) rfl); (try replace hc1 := Sep.Holds.cells hw (i := 1) rfl); (try replace hc2 := Sep.Holds.cells hw (i := 2) rfl); (try replace hc3 := Sep.Holds.cells hw (i := 3) rfl); (try replace hc4 := Sep.Holds.cells hw (i := 4) rfl); (try replace hc5 := Sep.Holds.cells hw (i := 5) rfl); (try replace hc6 := Sep.Holds.cells hw (i := 6) rfl))
  go_ret
  exact ⟨rfl, hw.sel [0] (by decide)⟩
set_option maxHeartbeats 400000 in
theorem live_calls (t : Task) (e w : World) (R : HProp) (hw : Holds e w [R]) :
    Calls Try.prog 44 #[.agg (encT t).toArray] w fun en w' => en = .returned (.bool (live t)) ∧ Holds e w' [R] := by
  simp only [encT]
  go_enter Try.func44, Try.ntmps44
  go_wp2_with (refine wpList_on rfl (wp_box rfl hw ?_); intro b_ w_ hw_; clear hw; have hw := hw_; clear hw_; (try simp only [List.map_cons, List.map_nil, List.getD_cons_zero, List.getD_cons_succ, List.getD_nil, List.set_cons_zero, List.set_cons_succ, List.cons_append, List.nil_append, Act.eval, Array.getD_eq_getD_getElem?, List.getElem?_toArray, List.getElem?_cons_succ, List.getElem?_cons_zero, Option.getD_some, Value.cells] at hw); (try simp (disch := first | (simp; done) | (simp; omega)) only [Sep.mid_set, Sep.mid_set2, Sep.mid_set0, Sep.mid_splice, Sep.mid_splice0, List.set_cons_zero, List.set_cons_succ] at hw); (try simp only [Sep.splice, List.take_succ_cons, List.take_zero, List.drop_succ_cons, List.drop_zero, List.length_cons, List.length_nil, Nat.reduceAdd, List.cons_append, List.nil_append] at hw); (try replace hc0 := Sep.Holds.cells hw (i := 0) rfl); (try replace hc1 := Sep.Holds.cells hw (i := 1) rfl); (try replace hc2 := Sep.Holds.cells hw (i := 2) rfl); (try replace hc3 := Sep.Holds.cells hw (i := 3) rfl); (try replace hc4 := Sep.Holds.cells hw (i := 4) rfl); (try replace hc5 := Sep.Holds.cells hw (i := 5) rfl); (try replace hc6 := Sep.Holds.cells hw (i := 6) rfl))
  go_ret
  exact ⟨rfl, hw.sel [0] (by decide)⟩

set_option maxHeartbeats 400000 in
theorem go1_calls (t : Task) (pre post : List Value) (b c : Nat) (at_ : Int) (e w : World) (R : HProp) (hw : Holds e w [R, pt b (mid pre (encT t) post) 53, pt c [.int .i64 at_] 3]) :
    Calls Try.prog 43 #[.pointer (some ⟨b, pre.length, none⟩), .pointer (some ⟨c, 0, none⟩)] w fun en w' =>
      en = .returned (.tuple #[]) ∧ Holds e w' [R, pt b (mid pre (encT (goG at_ t)) post) 53, pt c [.int .i64 at_] 3] := by
  simp only [encT] at hw
  (try replace hc0 := Sep.Holds.cells hw (i := 0) rfl); (try replace hc1 := Sep.Holds.cells hw (i := 1) rfl); (try replace hc2 := Sep.Holds.cells hw (i := 2) rfl); (try replace hc3 := Sep.Holds.cells hw (i := 3) rfl); (try replace hc4 := Sep.Holds.cells hw (i := 4) rfl); (try replace hc5 := Sep.Holds.cells hw (i := 5) rfl); (try replace hc6 := Sep.Holds.cells hw (i := 6) rfl)
  go_enter Try.func43, Try.ntmps43
  go_wp2_with ((first | refine wpList_on rfl (wp_store1 (v := _) rfl rfl rfl hw (i := 0) rfl (by simp [Sep.mid_length, Act.eval, Value.cells]; try omega) rfl ?_) | refine wpList_on rfl (wp_store1 (v := _) rfl rfl rfl hw (i := 1) rfl (by simp [Sep.mid_length, Act.eval, Value.cells]; try omega) rfl ?_) | refine wpList_on rfl (wp_store1 (v := _) rfl rfl rfl hw (i := 2) rfl (by simp [Sep.mid_length, Act.eval, Value.cells]; try omega) rfl ?_) | refine wpList_on rfl (wp_store1 (v := _) rfl rfl rfl hw (i := 3) rfl (by simp [Sep.mid_length, Act.eval, Value.cells]; try omega) rfl ?_) | refine wpList_on rfl (wp_store1 (v := _) rfl rfl rfl hw (i := 4) rfl (by simp [Sep.mid_length, Act.eval, Value.cells]; try omega) rfl ?_)); intro w_ hw_; clear hw; have hw := hw_; clear hw_; (try simp only [List.map_cons, List.map_nil, List.getD_cons_zero, List.getD_cons_succ, List.getD_nil, List.set_cons_zero, List.set_cons_succ, List.cons_append, List.nil_append, Act.eval, Array.getD_eq_getD_getElem?, List.getElem?_toArray, List.getElem?_cons_succ, List.getElem?_cons_zero, Option.getD_some, Value.cells] at hw); (try simp (disch := first | (simp; done) | (simp; omega)) only [Sep.mid_set, Sep.mid_set2, Sep.mid_set0, Sep.mid_splice, Sep.mid_splice0, List.set_cons_zero, List.set_cons_succ] at hw); (try simp only [Sep.splice, List.take_succ_cons, List.take_zero, List.drop_succ_cons, List.drop_zero, List.length_cons, List.length_nil, Nat.reduceAdd, List.cons_append, List.nil_append] at hw); (try replace hc0 := Sep.Holds.cells hw (i := 0) rfl); (try replace hc1 := Sep.Holds.cells hw (i := 1) rfl); (try replace hc2 := Sep.Holds.cells hw (i := 2) rfl); (try replace hc3 := Sep.Holds.cells hw (i := 3) rfl); (try replace hc4 := Sep.Holds.cells hw (i := 4) rfl); (try replace hc5 := Sep.Holds.cells hw (i := 5) rfl); (try replace hc6 := Sep.Holds.cells hw (i := 6) rfl))
  go_end0
  exact ⟨rfl, hw⟩

set_option maxHeartbeats 400000 in
theorem put_in (t : Task) (pre post : List Value) (b : Nat) (reg x : Int) (h0 : 0 ≤ reg) (h1 : reg < 6) (e w : World) (R : HProp) (hw : Holds e w [R, pt b (mid pre (encT t) post) 53]) :
    Calls Try.prog 41 #[.pointer (some ⟨b, pre.length, none⟩), .int .i64 reg, .int .i64 x] w fun en w' =>
      en = .returned (.bool true) ∧ Holds e w' [R, pt b (mid pre (encT (t.put reg x)) post) 53] := by
  have hs := encT_set_reg t reg x h0 h1
  have hr : reg.toNat < 6 := by omega
  have hl := encT_length t
  go_enter Try.func41, Try.ntmps41
  go_wp2_with (((first | refine wpList_on rfl (wp_store1 (v := _) rfl rfl rfl hw (i := 0) rfl (by simp [Sep.mid_length, Act.eval, Value.cells]; try omega) rfl ?_) | refine wpList_on rfl (wp_store1 (v := _) rfl rfl rfl hw (i := 1) rfl (by simp [Sep.mid_length, Act.eval, Value.cells]; try omega) rfl ?_) | refine wpList_on rfl (wp_store1 (v := _) rfl rfl rfl hw (i := 2) rfl (by simp [Sep.mid_length, Act.eval, Value.cells]; try omega) rfl ?_) | refine wpList_on rfl (wp_store1 (v := _) rfl rfl rfl hw (i := 3) rfl (by simp [Sep.mid_length, Act.eval, Value.cells]; try omega) rfl ?_) | refine wpList_on rfl (wp_store1 (v := _) rfl rfl rfl hw (i := 4) rfl (by simp [Sep.mid_length, Act.eval, Value.cells]; try omega) rfl ?_)); intro w_ hw_; clear hw; have hw := hw_; clear hw_; (try simp only [List.map_cons, List.map_nil, List.getD_cons_zero, List.getD_cons_succ, List.getD_nil, List.set_cons_zero, List.set_cons_succ, List.cons_append, List.nil_append, Act.eval, Array.getD_eq_getD_getElem?, List.getElem?_toArray, List.getElem?_cons_succ, List.getElem?_cons_zero, Option.getD_some, Value.cells] at hw); (try simp (disch := first | (simp; done) | (simp; omega)) only [Sep.mid_set, Sep.mid_set2, Sep.mid_set0, Sep.mid_splice, Sep.mid_splice0, List.set_cons_zero, List.set_cons_succ] at hw); (try simp only [Sep.splice, List.take_succ_cons, List.take_zero, List.drop_succ_cons, List.drop_zero, List.length_cons, List.length_nil, Nat.reduceAdd, List.cons_append, List.nil_append] at hw); (try replace hc0 := Sep.Holds.cells hw (i := 0) rfl); (try replace hc1 := Sep.Holds.cells hw (i := 1) rfl); (try replace hc2 := Sep.Holds.cells hw (i := 2) rfl); (try replace hc3 := Sep.Holds.cells hw (i := 3) rfl); (try replace hc4 := Sep.Holds.cells hw (i := 4) rfl); (try replace hc5 := Sep.Holds.cells hw (i := 5) rfl); (try replace hc6 := Sep.Holds.cells hw (i := 6) rfl)); rw [Sep.mid_set2 _ _ _ _ _ _ (by omega), hs] at hw)
  go_ret
  exact ⟨rfl, hw⟩

set_option maxHeartbeats 400000 in
theorem put_no (a : Addr) (reg x : Int) (h : reg < 0 ∨ 6 ≤ reg) (w : World) :
    Calls Try.prog 41 #[.pointer (some a), .int .i64 reg, .int .i64 x] w fun en w' => en = .returned (.bool false) ∧ w' = w := by
  rcases h with h | h
  · go_enter Try.func41, Try.ntmps41
    go_wp2
    go_ret
    exact ⟨rfl, rfl⟩
  · have h6 : decide (reg < 6) = false := by simpa using h
    go_enter Try.func41, Try.ntmps41
    go_wp2
    go_ret
    exact ⟨rfl, rfl⟩

set_option maxHeartbeats 400000 in
theorem put_calls (t : Task) (pre post : List Value) (b : Nat) (reg x : Int) (e w : World) (R : HProp) (hw : Holds e w [R, pt b (mid pre (encT t) post) 53]) :
    Calls Try.prog 41 #[.pointer (some ⟨b, pre.length, none⟩), .int .i64 reg, .int .i64 x] w fun en w' =>
      en = .returned (.bool (regOk reg)) ∧ Holds e w' [R, pt b (mid pre (encT (t.put reg x)) post) 53] := by
  by_cases h : 0 ≤ reg ∧ reg < 6
  · have : regOk reg = true := by simp [regOk, h]
    rw [this]
    exact put_in t pre post b reg x h.1 h.2 e w R hw
  · have : regOk reg = false := by simp [regOk]; omega
    rw [this, put_out t reg x (by omega)]
    refine (put_no _ reg x (by omega) w).mono ?_
    rintro _ w' ⟨rfl, rfl⟩
    exact ⟨rfl, hw⟩

set_option maxHeartbeats 400000 in
theorem park1_calls (t : Task) (p : Park) (pre post : List Value) (b c : Nat) (e w : World) (R : HProp) (hw : Holds e w [R, pt b (mid pre (encT t) post) 53, pt c (encP p) 32]) :
    Calls Try.prog 46 #[.pointer (some ⟨b, pre.length, none⟩), .pointer (some ⟨c, 0, none⟩)] w fun en w' =>
      en = .returned (.tuple #[]) ∧ Holds e w' [R, pt b (mid pre (encT (parkG p t)) post) 53, pt c (encP p) 32] := by
  simp only [encT, encP] at hw
  (try replace hc0 := Sep.Holds.cells hw (i := 0) rfl); (try replace hc1 := Sep.Holds.cells hw (i := 1) rfl); (try replace hc2 := Sep.Holds.cells hw (i := 2) rfl); (try replace hc3 := Sep.Holds.cells hw (i := 3) rfl); (try replace hc4 := Sep.Holds.cells hw (i := 4) rfl); (try replace hc5 := Sep.Holds.cells hw (i := 5) rfl); (try replace hc6 := Sep.Holds.cells hw (i := 6) rfl)
  go_enter Try.func46, Try.ntmps46
  go_wp2_with fail
  refine wp_region_L [5, 8] [(2, (fun w' => Holds e w' [R, emp, pt c [.int .i64 p.kind, .int .i64 p.obj, .int .i64 p.ctx, .int .i64 p.reg, .int .i64 p.lock, .int .i64 p.n] 32]))] (n := 9) (listed := #[false, false, false, false, false, false, false, false, false]) (by kernel_rfl) rfl rfl ?conds1 ?_
  case conds1 =>
   intro c hc
   simp only [List.mem_cons, List.not_mem_nil, or_false] at hc
   rcases hc with rfl
   · exact (by replace hw := hw.drew; exact hw.sel [0, 9, 2] (by decide))
  replace hw := hw.drew
  refine wpL_take 0 (C := fun _ => True) (v := ?v2) rfl (by kernel_rfl) (by kernel_rfl) (by kernel_rfl) (by kernel_rfl) (fun _ _ _ h => h) (.inl fun _ => trivial) (Or.inl ⟨by rfl, fun w_ hS_ => ?hy2⟩) (listed' := #[true, false, false, false, false, false, false, false, false]) (by kernel_rfl) ?rest2
  case hy2 => (go_simp; try rfl)
  case' rest2 => try simp only [Act.put, List.setIfInBounds_toArray, List.set_cons_zero, List.set_cons_succ]
  refine wpL_take 1 (C := fun _ => True) (v := ?v3) rfl (by kernel_rfl) (by kernel_rfl) (by kernel_rfl) (by kernel_rfl) (fun _ _ _ h => h) (.inl fun _ => trivial) (Or.inl ⟨by rfl, fun w_ hS_ => ?hy3⟩) (listed' := #[true, true, false, false, false, false, false, false, false]) (by kernel_rfl) ?rest3
  case hy3 => (go_simp; try rfl)
  case' rest3 => try simp only [Act.put, List.setIfInBounds_toArray, List.set_cons_zero, List.set_cons_succ]
  refine wpL_take 2 (C := (fun w' => Holds e w' [R, emp, pt c [.int .i64 p.kind, .int .i64 p.obj, .int .i64 p.ctx, .int .i64 p.reg, .int .i64 p.lock, .int .i64 p.n] 32])) (v := ?v4) rfl (by kernel_rfl) (by kernel_rfl) (by kernel_rfl) (by kernel_rfl) (fun _ _ _ h => h) (.inr (.head _)) (Or.inl ⟨by rfl, fun w_ hS_ => ?hy4⟩) (listed' := #[true, true, true, false, false, false, false, false, false]) (by kernel_rfl) ?rest4
  case hy4 => (dsimp only at hS_; (try have q0 := Sep.Holds.cells hS_ (i := 0) rfl); (try have q1 := Sep.Holds.cells hS_ (i := 1) rfl); (try have q2 := Sep.Holds.cells hS_ (i := 2) rfl); (try have q3 := Sep.Holds.cells hS_ (i := 3) rfl); (try have q4 := Sep.Holds.cells hS_ (i := 4) rfl); (try have q5 := Sep.Holds.cells hS_ (i := 5) rfl); (try have q6 := Sep.Holds.cells hS_ (i := 6) rfl); go_simp; try rfl)
  case' rest4 => try simp only [Act.put, List.setIfInBounds_toArray, List.set_cons_zero, List.set_cons_succ]
  refine wpL_take 3 (C := fun _ => True) (v := ?v5) rfl (by kernel_rfl) (by kernel_rfl) (by kernel_rfl) (by kernel_rfl) (fun _ _ _ h => h) (.inl fun _ => trivial) (Or.inl ⟨by rfl, fun w_ hS_ => ?hy5⟩) (listed' := #[true, true, true, true, false, false, false, false, false]) (by kernel_rfl) ?rest5
  case hy5 => (go_simp; try rfl)
  case' rest5 => try simp only [Act.put, List.setIfInBounds_toArray, List.set_cons_zero, List.set_cons_succ]
  refine wpL_take 4 (C := fun _ => True) (v := ?v6) rfl (by kernel_rfl) (by kernel_rfl) (by kernel_rfl) (by kernel_rfl) (fun _ _ _ h => h) (.inl fun _ => trivial) (Or.inl ⟨by rfl, fun w_ hS_ => ?hy6⟩) (listed' := #[true, true, true, true, true, false, false, false, false]) (by kernel_rfl) ?rest6
  case hy6 => (go_simp; try rfl)
  case' rest6 => try simp only [Act.put, List.setIfInBounds_toArray, List.set_cons_zero, List.set_cons_succ]
  refine wpL_one 5 rfl (by kernel_rfl) (by rfl) (listed' := #[true, true, true, true, true, true, false, false, false]) (by kernel_rfl) ?_
  ((first | refine wp_store1 (v := _) rfl rfl rfl hw (i := 0) rfl (by simp [Sep.mid_length, Act.eval, Value.cells]; try omega) rfl ?_ | refine wp_store1 (v := _) rfl rfl rfl hw (i := 1) rfl (by simp [Sep.mid_length, Act.eval, Value.cells]; try omega) rfl ?_ | refine wp_store1 (v := _) rfl rfl rfl hw (i := 2) rfl (by simp [Sep.mid_length, Act.eval, Value.cells]; try omega) rfl ?_ | refine wp_store1 (v := _) rfl rfl rfl hw (i := 3) rfl (by simp [Sep.mid_length, Act.eval, Value.cells]; try omega) rfl ?_ | refine wp_store1 (v := _) rfl rfl rfl hw (i := 4) rfl (by simp [Sep.mid_length, Act.eval, Value.cells]; try omega) rfl ?_ | refine wp_storeN (vs := _) rfl rfl rfl hw (i := 0) rfl rfl (by simp [Sep.mid_length, Act.eval, Value.cells]; try omega) (by simp [Value.oneCell', Act.eval, Value.cells]) ?_ | refine wp_storeN (vs := _) rfl rfl rfl hw (i := 1) rfl rfl (by simp [Sep.mid_length, Act.eval, Value.cells]; try omega) (by simp [Value.oneCell', Act.eval, Value.cells]) ?_ | refine wp_storeN (vs := _) rfl rfl rfl hw (i := 2) rfl rfl (by simp [Sep.mid_length, Act.eval, Value.cells]; try omega) (by simp [Value.oneCell', Act.eval, Value.cells]) ?_ | refine wp_storeN (vs := _) rfl rfl rfl hw (i := 3) rfl rfl (by simp [Sep.mid_length, Act.eval, Value.cells]; try omega) (by simp [Value.oneCell', Act.eval, Value.cells]) ?_ | refine wp_storeN (vs := _) rfl rfl rfl hw (i := 4) rfl rfl (by simp [Sep.mid_length, Act.eval, Value.cells]; try omega) (by simp [Value.oneCell', Act.eval, Value.cells]) ?_); intro w_ hw_; clear hw; have hw := hw_; clear hw_; (try simp only [List.map_cons, List.map_nil, List.getD_cons_zero, List.getD_cons_succ, List.getD_nil, List.set_cons_zero, List.set_cons_succ, List.cons_append, List.nil_append, Act.eval, Array.getD_eq_getD_getElem?, List.getElem?_toArray, List.getElem?_cons_succ, List.getElem?_cons_zero, Option.getD_some, Value.cells] at hw); (try simp (disch := first | (simp; done) | (simp; omega)) only [Sep.mid_set, Sep.mid_set2, Sep.mid_set0, Sep.mid_splice, Sep.mid_splice0, List.set_cons_zero, List.set_cons_succ] at hw); (try simp only [Sep.splice, List.take_succ_cons, List.take_zero, List.drop_succ_cons, List.drop_zero, List.length_cons, List.length_nil, Nat.reduceAdd, List.cons_append, List.nil_append] at hw); (try replace hc0 := Sep.Holds.cells hw (i := 0) rfl); (try replace hc1 := Sep.Holds.cells hw (i := 1) rfl); (try replace hc2 := Sep.Holds.cells hw (i := 2) rfl); (try replace hc3 := Sep.Holds.cells hw (i := 3) rfl); (try replace hc4 := Sep.Holds.cells hw (i := 4) rfl); (try replace hc5 := Sep.Holds.cells hw (i := 5) rfl); (try replace hc6 := Sep.Holds.cells hw (i := 6) rfl))
  refine ⟨(SL.keep (by exact hw.sel [0, 9, 2] (by decide)) SL.nil), ?_⟩
  try simp only [Act.put, List.setIfInBounds_toArray, List.set_cons_zero, List.set_cons_succ]
  refine wpL_take 6 (C := fun _ => True) (v := ?v7) rfl (by kernel_rfl) (by kernel_rfl) (by kernel_rfl) (by kernel_rfl) (fun _ _ _ h => h) (.inl fun _ => trivial) (Or.inl ⟨by rfl, fun w_ hS_ => ?hy7⟩) (listed' := #[true, true, true, true, true, true, true, false, false]) (by kernel_rfl) ?rest7
  case hy7 => (go_simp; try rfl)
  case' rest7 => try simp only [Act.put, List.setIfInBounds_toArray, List.set_cons_zero, List.set_cons_succ]
  refine wpL_take 7 (C := fun _ => True) (v := ?v8) rfl (by kernel_rfl) (by kernel_rfl) (by kernel_rfl) (by kernel_rfl) (fun _ _ _ h => h) (.inl fun _ => trivial) (Or.inl ⟨by rfl, fun w_ hS_ => ?hy8⟩) (listed' := #[true, true, true, true, true, true, true, true, false]) (by kernel_rfl) ?rest8
  case hy8 => (go_simp; try rfl)
  case' rest8 => try simp only [Act.put, List.setIfInBounds_toArray, List.set_cons_zero, List.set_cons_succ]
  refine wpL_one 8 rfl (by kernel_rfl) (by rfl) (listed' := #[true, true, true, true, true, true, true, true, true]) (by kernel_rfl) ?_
  ((first | refine wp_store1 (v := _) rfl rfl rfl hw (i := 0) rfl (by simp [Sep.mid_length, Act.eval, Value.cells]; try omega) rfl ?_ | refine wp_store1 (v := _) rfl rfl rfl hw (i := 1) rfl (by simp [Sep.mid_length, Act.eval, Value.cells]; try omega) rfl ?_ | refine wp_store1 (v := _) rfl rfl rfl hw (i := 2) rfl (by simp [Sep.mid_length, Act.eval, Value.cells]; try omega) rfl ?_ | refine wp_store1 (v := _) rfl rfl rfl hw (i := 3) rfl (by simp [Sep.mid_length, Act.eval, Value.cells]; try omega) rfl ?_ | refine wp_store1 (v := _) rfl rfl rfl hw (i := 4) rfl (by simp [Sep.mid_length, Act.eval, Value.cells]; try omega) rfl ?_ | refine wp_storeN (vs := _) rfl rfl rfl hw (i := 0) rfl rfl (by simp [Sep.mid_length, Act.eval, Value.cells]; try omega) (by simp [Value.oneCell', Act.eval, Value.cells]) ?_ | refine wp_storeN (vs := _) rfl rfl rfl hw (i := 1) rfl rfl (by simp [Sep.mid_length, Act.eval, Value.cells]; try omega) (by simp [Value.oneCell', Act.eval, Value.cells]) ?_ | refine wp_storeN (vs := _) rfl rfl rfl hw (i := 2) rfl rfl (by simp [Sep.mid_length, Act.eval, Value.cells]; try omega) (by simp [Value.oneCell', Act.eval, Value.cells]) ?_ | refine wp_storeN (vs := _) rfl rfl rfl hw (i := 3) rfl rfl (by simp [Sep.mid_length, Act.eval, Value.cells]; try omega) (by simp [Value.oneCell', Act.eval, Value.cells]) ?_ | refine wp_storeN (vs := _) rfl rfl rfl hw (i := 4) rfl rfl (by simp [Sep.mid_length, Act.eval, Value.cells]; try omega) (by simp [Value.oneCell', Act.eval, Value.cells]) ?_); intro w_ hw_; clear hw; have hw := hw_; clear hw_; (try simp only [List.map_cons, List.map_nil, List.getD_cons_zero, List.getD_cons_succ, List.getD_nil, List.set_cons_zero, List.set_cons_succ, List.cons_append, List.nil_append, Act.eval, Array.getD_eq_getD_getElem?, List.getElem?_toArray, List.getElem?_cons_succ, List.getElem?_cons_zero, Option.getD_some, Value.cells] at hw); (try simp (disch := first | (simp; done) | (simp; omega)) only [Sep.mid_set, Sep.mid_set2, Sep.mid_set0, Sep.mid_splice, Sep.mid_splice0, List.set_cons_zero, List.set_cons_succ] at hw); (try simp only [Sep.splice, List.take_succ_cons, List.take_zero, List.drop_succ_cons, List.drop_zero, List.length_cons, List.length_nil, Nat.reduceAdd, List.cons_append, List.nil_append] at hw); (try replace hc0 := Sep.Holds.cells hw (i := 0) rfl); (try replace hc1 := Sep.Holds.cells hw (i := 1) rfl); (try replace hc2 := Sep.Holds.cells hw (i := 2) rfl); (try replace hc3 := Sep.Holds.cells hw (i := 3) rfl); (try replace hc4 := Sep.Holds.cells hw (i := 4) rfl); (try replace hc5 := Sep.Holds.cells hw (i := 5) rfl); (try replace hc6 := Sep.Holds.cells hw (i := 6) rfl))
  refine ⟨(SL.drop 8 (by kernel_rfl) SL.nil), ?_⟩
  try simp only [Act.put, List.setIfInBounds_toArray, List.set_cons_zero, List.set_cons_succ]
  refine wpL_done (by kernel_rfl) ?_ _
  go_wp2
  go_end0
  exact ⟨rfl, hw⟩
end Go.Proofs.Ytmoikkfhlnogbaa
