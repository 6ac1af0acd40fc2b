/-
  The walks of the table's methods that change one task, and of New, Len, Get, Begin.
-/
import Derived.Test.YtmoikkfhlnogbaaWalkC
namespace Go.Proofs.Ytmoikkfhlnogbaa
set_option linter.unusedSimpArgs false
set_option linter.unusedVariables false
open Go.RowKit Go.Sep Go.TaskM
attribute [local simp] Sep.mid_get Sep.mid_get0 Sep.mid_get2 encT_length

theorem mayReady : MayOk 42 ready := ⟨⟨_, Try.func42, rfl, by decide⟩, fun t e w R hw => ready_calls t e w R hw⟩
theorem mayParked : MayOk 38 parked := ⟨⟨_, Try.func38, rfl, by decide⟩, fun t e w R hw => parked_calls t e w R hw⟩
theorem mayLive : MayOk 44 live := ⟨⟨_, Try.func44, rfl, by decide⟩, fun t e w R hw => live_calls t e w R hw⟩
theorem doGo (c : Nat) (at_ : Int) : DoOk 43 [.pointer (some ⟨c, 0, none⟩)] (goG at_) (pt c [.int .i64 at_] 3) (fun _ => pt c [.int .i64 at_] 3) :=
  ⟨⟨_, Try.func43, rfl, by decide⟩, fun t pre post b e w R hw => go1_calls t pre post b c at_ e w R hw⟩
theorem doPark (c : Nat) (p : Park) : DoOk 46 [.pointer (some ⟨c, 0, none⟩)] (parkG p) (pt c (encP p) 32) (fun _ => pt c (encP p) 32) :=
  ⟨⟨_, Try.func46, rfl, by decide⟩, fun t pre post b e w R hw => park1_calls t p pre post b c e w R hw⟩
theorem doAgain (c : Nat) (p : Park) : DoOk 39 [.pointer (some ⟨c, 0, none⟩)] (againG p) (pt c (encP p) 32) (fun _ => pt c (encP p) 32) :=
  ⟨⟨_, Try.func39, rfl, by decide⟩, fun t pre post b e w R hw => again1_calls t p pre post b c e w R hw⟩
theorem doEnd (c : Nat) (x : Int) : DoOk 47 [.pointer (some ⟨c, 0, none⟩)] (endG x) (pt c [.int .i64 x] 2) (fun _ => pt c [.int .i64 x] 2) :=
  ⟨⟨_, Try.func47, rfl, by decide⟩, fun t pre post b e w R hw => end1_calls t x pre post b c e w R hw⟩
theorem doWake (c : Nat) (x : Int) : DoOk 40 [.pointer (some ⟨c, 0, none⟩)] (wakeG x) (pt c [.int .i64 x] 2) (fun _ => pt c [.int .i64 x] 2) :=
  ⟨⟨_, Try.func40, rfl, by decide⟩, fun t pre post b e w R hw => wake1_calls t x pre post b c e w R hw⟩
theorem doSet (c d g : Nat) (reg x : Int) (o : Bool) : DoOk 45 [.pointer (some ⟨c, 0, none⟩), .pointer (some ⟨d, 0, none⟩), .pointer (some ⟨g, 0, none⟩)] (setG reg x)
    (sepL [pt c [.int .i64 reg] 3, pt d [.int .i64 x] 2, pt g [.bool o] 4]) (fun _ => sepL [pt c [.int .i64 reg] 3, pt d [.int .i64 x] 2, pt g [.bool (regOk reg)] 4]) :=
  ⟨⟨_, Try.func45, rfl, by decide⟩, fun t pre post b e w R hw => by
    have h := hw.open_ 2 rfl
    refine (set1_calls t pre post b c d g reg x o e w R h).mono ?_
    rintro _ w' ⟨rfl, h'⟩
    refine ⟨rfl, ?_⟩
    exact (Holds.group [pt c [.int .i64 reg] 3, pt d [.int .i64 x] 2, pt g [.bool (regOk reg)] 4] [R, pt b (mid pre (encT (setG reg x t)) post) 53] (h'.sel [2, 3, 4, 0, 1] (by decide))).sel [1, 2, 0] (by decide)⟩

set_option maxHeartbeats 400000 in
theorem tGo_calls (p : Nat) (T : Table) (n at_ : Int) (e w : World) (R : HProp) (hw : Holds e w [R, IsTable p T]) :
    Calls Try.prog 28 #[.pointer (some ⟨p, 0, none⟩), .int .i64 n, .int .i64 at_] w fun en w' =>
      en = .returned (.bool (T.can n ready)) ∧ Holds e w' [R, IsTable p (T.change n ready (goG at_))] := by
  refine Sep.calls_post ?_
  intro Post_ hPost_
  have HP := Sep.hid hPost_
  clear hPost_
  go_enter Try.func28, Try.ntmps28
  go_wp2_with (first
    | (go_at_call 37; refine (change_calls (Sep.hid mayReady) (Sep.hid (doGo _ at_)) p T n e _ R hw).mono ?_; rintro _ w_ ⟨rfl, hw_⟩; clear hw; have hw := hw_.sel [0, 1] (by decide); clear hw_)
    | (refine wpList_on rfl (wp_box rfl hw ?_); intro b_ w_ hw_; clear hw; have hw := hw_; clear hw_; (try simp only [List.map_cons, List.map_nil, List.getD_cons_zero, List.getD_cons_succ, List.getD_nil, List.set_cons_zero, List.set_cons_succ, List.cons_append, List.nil_append, Act.eval, Array.getD_eq_getD_getElem?, List.getElem?_toArray, List.getElem?_cons_succ, List.getElem?_cons_zero, Option.getD_some, Value.cells] at hw); (try simp (disch := first | (simp; done) | (simp; omega)) only [Sep.mid_set, Sep.mid_set2, Sep.mid_set0, Sep.mid_splice, Sep.mid_splice0, List.set_cons_zero, List.set_cons_succ] at hw); (try simp only [Sep.splice, List.take_succ_cons, List.take_zero, List.drop_succ_cons, List.drop_zero, List.length_cons, List.length_nil, Nat.reduceAdd, List.cons_append, List.nil_append] at hw); (try replace hc0 := Sep.Holds.cells hw (i := 0) rfl); (try replace hc1 := Sep.Holds.cells hw (i := 1) rfl); (try replace hc2 := Sep.Holds.cells hw (i := 2) rfl); (try replace hc3 := Sep.Holds.cells hw (i := 3) rfl); (try replace hc4 := Sep.Holds.cells hw (i := 4) rfl); (try replace hc5 := Sep.Holds.cells hw (i := 5) rfl); (try replace hc6 := Sep.Holds.cells hw (i := 6) rfl)))
  exact HP.out _ _ ⟨rfl, hw⟩
set_option maxHeartbeats 400000 in
theorem tEnd_calls (p : Nat) (T : Table) (n x : Int) (e w : World) (R : HProp) (hw : Holds e w [R, IsTable p T]) :
    Calls Try.prog 31 #[.pointer (some ⟨p, 0, none⟩), .int .i64 n, .int .i64 x] w fun en w' =>
      en = .returned (.bool (T.can n live)) ∧ Holds e w' [R, IsTable p (T.change n live (endG x))] := by
  refine Sep.calls_post ?_
  intro Post_ hPost_
  have HP := Sep.hid hPost_
  clear hPost_
  go_enter Try.func31, Try.ntmps31
  go_wp2_with (first
    | (go_at_call 37; refine (change_calls (Sep.hid mayLive) (Sep.hid (doEnd _ x)) p T n e _ R hw).mono ?_; rintro _ w_ ⟨rfl, hw_⟩; clear hw; have hw := hw_.sel [0, 1] (by decide); clear hw_)
    | (refine wpList_on rfl (wp_box rfl hw ?_); intro b_ w_ hw_; clear hw; have hw := hw_; clear hw_; (try simp only [List.map_cons, List.map_nil, List.getD_cons_zero, List.getD_cons_succ, List.getD_nil, List.set_cons_zero, List.set_cons_succ, List.cons_append, List.nil_append, Act.eval, Array.getD_eq_getD_getElem?, List.getElem?_toArray, List.getElem?_cons_succ, List.getElem?_cons_zero, Option.getD_some, Value.cells] at hw); (try simp (disch := first | (simp; done) | (simp; omega)) only [Sep.mid_set, Sep.mid_set2, Sep.mid_set0, Sep.mid_splice, Sep.mid_splice0, List.set_cons_zero, List.set_cons_succ] at hw); (try simp only [Sep.splice, List.take_succ_cons, List.take_zero, List.drop_succ_cons, List.drop_zero, List.length_cons, List.length_nil, Nat.reduceAdd, List.cons_append, List.nil_append] at hw); (try replace hc0 := Sep.Holds.cells hw (i := 0) rfl); (try replace hc1 := Sep.Holds.cells hw (i := 1) rfl); (try replace hc2 := Sep.Holds.cells hw (i := 2) rfl); (try replace hc3 := Sep.Holds.cells hw (i := 3) rfl); (try replace hc4 := Sep.Holds.cells hw (i := 4) rfl); (try replace hc5 := Sep.Holds.cells hw (i := 5) rfl); (try replace hc6 := Sep.Holds.cells hw (i := 6) rfl)))
  exact HP.out _ _ ⟨rfl, hw⟩
set_option maxHeartbeats 400000 in
theorem tWake_calls (p : Nat) (T : Table) (n x : Int) (e w : World) (R : HProp) (hw : Holds e w [R, IsTable p T]) :
    Calls Try.prog 26 #[.pointer (some ⟨p, 0, none⟩), .int .i64 n, .int .i64 x] w fun en w' =>
      en = .returned (.bool (T.can n parked)) ∧ Holds e w' [R, IsTable p (T.change n parked (wakeG x))] := by
  refine Sep.calls_post ?_
  intro Post_ hPost_
  have HP := Sep.hid hPost_
  clear hPost_
  go_enter Try.func26, Try.ntmps26
  go_wp2_with (first
    | (go_at_call 37; refine (change_calls (Sep.hid mayParked) (Sep.hid (doWake _ x)) p T n e _ R hw).mono ?_; rintro _ w_ ⟨rfl, hw_⟩; clear hw; have hw := hw_.sel [0, 1] (by decide); clear hw_)
    | (refine wpList_on rfl (wp_box rfl hw ?_); intro b_ w_ hw_; clear hw; have hw := hw_; clear hw_; (try simp only [List.map_cons, List.map_nil, List.getD_cons_zero, List.getD_cons_succ, List.getD_nil, List.set_cons_zero, List.set_cons_succ, List.cons_append, List.nil_append, Act.eval, Array.getD_eq_getD_getElem?, List.getElem?_toArray, List.getElem?_cons_succ, List.getElem?_cons_zero, Option.getD_some, Value.cells] at hw); (try simp (disch := first | (simp; done) | (simp; omega)) only [Sep.mid_set, Sep.mid_set2, Sep.mid_set0, Sep.mid_splice, Sep.mid_splice0, List.set_cons_zero, List.set_cons_succ] at hw); (try simp only [Sep.splice, List.take_succ_cons, List.take_zero, List.drop_succ_cons, List.drop_zero, List.length_cons, List.length_nil, Nat.reduceAdd, List.cons_append, List.nil_append] at hw); (try replace hc0 := Sep.Holds.cells hw (i := 0) rfl); (try replace hc1 := Sep.Holds.cells hw (i := 1) rfl); (try replace hc2 := Sep.Holds.cells hw (i := 2) rfl); (try replace hc3 := Sep.Holds.cells hw (i := 3) rfl); (try replace hc4 := Sep.Holds.cells hw (i := 4) rfl); (try replace hc5 := Sep.Holds.cells hw (i := 5) rfl); (try replace hc6 := Sep.Holds.cells hw (i := 6) rfl)))
  exact HP.out _ _ ⟨rfl, hw⟩

set_option maxHeartbeats 400000 in
theorem tPark_calls (p : Nat) (T : Table) (n : Int) (k : Park) (e w : World) (R : HProp) (hw : Holds e w [R, IsTable p T]) :
    Calls Try.prog 30 #[.pointer (some ⟨p, 0, none⟩), .int .i64 n, .agg (encP k).toArray] w fun en w' =>
      en = .returned (.bool (parkOk k && T.can n ready)) ∧ Holds e w' [R, IsTable p (if parkOk k then T.change n ready (parkG k) else T)] := by
  have hk0 : (encP k)[0]? = some (.int .i64 k.kind) := rfl
  cases hp : parkOk k with
  | true =>
    have hk : 1 ≤ k.kind := by simpa [parkOk] using hp
    refine Sep.calls_post ?_
    intro Post_ hPost_
    have HP := Sep.hid hPost_
    clear hPost_
    go_enter Try.func30, Try.ntmps30
    go_wp2_with (first
      | (go_at_call 37; refine (change_calls (Sep.hid mayReady) (Sep.hid (doPark _ k)) p T n e _ R hw).mono ?_; rintro _ w_ ⟨rfl, hw_⟩; clear hw; have hw := hw_.sel [0, 1] (by decide); clear hw_)
      | (refine wpList_on rfl (wp_box rfl hw ?_); intro b_ w_ hw_; clear hw; have hw := hw_; clear hw_; (try simp only [List.map_cons, List.map_nil, List.getD_cons_zero, List.getD_cons_succ, List.getD_nil, List.set_cons_zero, List.set_cons_succ, List.cons_append, List.nil_append, Act.eval, Array.getD_eq_getD_getElem?, List.getElem?_toArray, List.getElem?_cons_succ, List.getElem?_cons_zero, Option.getD_some, Value.cells] at hw); (try simp (disch := first | (simp; done) | (simp; omega)) only [Sep.mid_set, Sep.mid_set2, Sep.mid_set0, Sep.mid_splice, Sep.mid_splice0, List.set_cons_zero, List.set_cons_succ] at hw); (try simp only [Sep.splice, List.take_succ_cons, List.take_zero, List.drop_succ_cons, List.drop_zero, List.length_cons, List.length_nil, Nat.reduceAdd, List.cons_append, List.nil_append] at hw); (try replace hc0 := Sep.Holds.cells hw (i := 0) rfl); (try replace hc1 := Sep.Holds.cells hw (i := 1) rfl); (try replace hc2 := Sep.Holds.cells hw (i := 2) rfl); (try replace hc3 := Sep.Holds.cells hw (i := 3) rfl); (try replace hc4 := Sep.Holds.cells hw (i := 4) rfl); (try replace hc5 := Sep.Holds.cells hw (i := 5) rfl); (try replace hc6 := Sep.Holds.cells hw (i := 6) rfl)))
    exact HP.out _ _ ⟨rfl, hw⟩
  | false =>
    have hk : k.kind < 1 := by simpa [parkOk] using hp
    have hk' : decide (1 ≤ k.kind) = false := by simpa using hk
    refine Sep.calls_post ?_
    intro Post_ hPost_
    have HP := Sep.hid hPost_
    clear hPost_
    go_enter Try.func30, Try.ntmps30
    go_wp2_with (refine wpList_on rfl (wp_box rfl hw ?_); intro b_ w_ hw_; clear hw; have hw := hw_; clear hw_; (try simp only [List.map_cons, List.map_nil, List.getD_cons_zero, List.getD_cons_succ, List.getD_nil, List.set_cons_zero, List.set_cons_succ, List.cons_append, List.nil_append, Act.eval, Array.getD_eq_getD_getElem?, List.getElem?_toArray, List.getElem?_cons_succ, List.getElem?_cons_zero, Option.getD_some, Value.cells] at hw); (try simp (disch := first | (simp; done) | (simp; omega)) only [Sep.mid_set, Sep.mid_set2, Sep.mid_set0, Sep.mid_splice, Sep.mid_splice0, List.set_cons_zero, List.set_cons_succ] at hw); (try simp only [Sep.splice, List.take_succ_cons, List.take_zero, List.drop_succ_cons, List.drop_zero, List.length_cons, List.length_nil, Nat.reduceAdd, List.cons_append, List.nil_append] at hw); (try replace hc0 := Sep.Holds.cells hw (i := 0) rfl); (try replace hc1 := Sep.Holds.cells hw (i := 1) rfl); (try replace hc2 := Sep.Holds.cells hw (i := 2) rfl); (try replace hc3 := Sep.Holds.cells hw (i := 3) rfl); (try replace hc4 := Sep.Holds.cells hw (i := 4) rfl); (try replace hc5 := Sep.Holds.cells hw (i := 5) rfl); (try replace hc6 := Sep.Holds.cells hw (i := 6) rfl))
    exact HP.out _ _ ⟨rfl, hw.sel [0, 1] (by decide)⟩
set_option maxHeartbeats 400000 in
theorem tAgain_calls (p : Nat) (T : Table) (n : Int) (k : Park) (e w : World) (R : HProp) (hw : Holds e w [R, IsTable p T]) :
    Calls Try.prog 25 #[.pointer (some ⟨p, 0, none⟩), .int .i64 n, .agg (encP k).toArray] w fun en w' =>
      en = .returned (.bool (parkOk k && T.can n parked)) ∧ Holds e w' [R, IsTable p (if parkOk k then T.change n parked (againG k) else T)] := by
  have hk0 : (encP k)[0]? = some (.int .i64 k.kind) := rfl
  cases hp : parkOk k with
  | true =>
    have hk : 1 ≤ k.kind := by simpa [parkOk] using hp
    refine Sep.calls_post ?_
    intro Post_ hPost_
    have HP := Sep.hid hPost_
    clear hPost_
    go_enter Try.func25, Try.ntmps25
    go_wp2_with (first
      | (go_at_call 37; refine (change_calls (Sep.hid mayParked) (Sep.hid (doAgain _ k)) p T n e _ R hw).mono ?_; rintro _ w_ ⟨rfl, hw_⟩; clear hw; have hw := hw_.sel [0, 1] (by decide); clear hw_)
      | (refine wpList_on rfl (wp_box rfl hw ?_); intro b_ w_ hw_; clear hw; have hw := hw_; clear hw_; (try simp only [List.map_cons, List.map_nil, List.getD_cons_zero, List.getD_cons_succ, List.getD_nil, List.set_cons_zero, List.set_cons_succ, List.cons_append, List.nil_append, Act.eval, Array.getD_eq_getD_getElem?, List.getElem?_toArray, List.getElem?_cons_succ, List.getElem?_cons_zero, Option.getD_some, Value.cells] at hw); (try simp (disch := first | (simp; done) | (simp; omega)) only [Sep.mid_set, Sep.mid_set2, Sep.mid_set0, Sep.mid_splice, Sep.mid_splice0, List.set_cons_zero, List.set_cons_succ] at hw); (try simp only [Sep.splice, List.take_succ_cons, List.take_zero, List.drop_succ_cons, List.drop_zero, List.length_cons, List.length_nil, Nat.reduceAdd, List.cons_append, List.nil_append] at hw); (try replace hc0 := Sep.Holds.cells hw (i := 0) rfl); (try replace hc1 := Sep.Holds.cells hw (i := 1) rfl); (try replace hc2 := Sep.Holds.cells hw (i := 2) rfl); (try replace hc3 := Sep.Holds.cells hw (i := 3) rfl); (try replace hc4 := Sep.Holds.cells hw (i := 4) rfl); (try replace hc5 := Sep.Holds.cells hw (i := 5) rfl); (try replace hc6 := Sep.Holds.cells hw (i := 6) rfl)))
    exact HP.out _ _ ⟨rfl, hw⟩
  | false =>
    have hk : k.kind < 1 := by simpa [parkOk] using hp
    have hk' : decide (1 ≤ k.kind) = false := by simpa using hk
    refine Sep.calls_post ?_
    intro Post_ hPost_
    have HP := Sep.hid hPost_
    clear hPost_
    go_enter Try.func25, Try.ntmps25
    go_wp2_with (refine wpList_on rfl (wp_box rfl hw ?_); intro b_ w_ hw_; clear hw; have hw := hw_; clear hw_; (try simp only [List.map_cons, List.map_nil, List.getD_cons_zero, List.getD_cons_succ, List.getD_nil, List.set_cons_zero, List.set_cons_succ, List.cons_append, List.nil_append, Act.eval, Array.getD_eq_getD_getElem?, List.getElem?_toArray, List.getElem?_cons_succ, List.getElem?_cons_zero, Option.getD_some, Value.cells] at hw); (try simp (disch := first | (simp; done) | (simp; omega)) only [Sep.mid_set, Sep.mid_set2, Sep.mid_set0, Sep.mid_splice, Sep.mid_splice0, List.set_cons_zero, List.set_cons_succ] at hw); (try simp only [Sep.splice, List.take_succ_cons, List.take_zero, List.drop_succ_cons, List.drop_zero, List.length_cons, List.length_nil, Nat.reduceAdd, List.cons_append, List.nil_append] at hw); (try replace hc0 := Sep.Holds.cells hw (i := 0) rfl); (try replace hc1 := Sep.Holds.cells hw (i := 1) rfl); (try replace hc2 := Sep.Holds.cells hw (i := 2) rfl); (try replace hc3 := Sep.Holds.cells hw (i := 3) rfl); (try replace hc4 := Sep.Holds.cells hw (i := 4) rfl); (try replace hc5 := Sep.Holds.cells hw (i := 5) rfl); (try replace hc6 := Sep.Holds.cells hw (i := 6) rfl))
    exact HP.out _ _ ⟨rfl, hw.sel [0, 1] (by decide)⟩

set_option maxHeartbeats 400000 in
theorem tSet_calls (p : Nat) (T : Table) (n reg x : Int) (e w : World) (R : HProp) (hw : Holds e w [R, IsTable p T]) :
    Calls Try.prog 29 #[.pointer (some ⟨p, 0, none⟩), .int .i64 n, .int .i64 reg, .int .i64 x] w fun en w' =>
      en = .returned (.bool (T.can n live && regOk reg)) ∧ Holds e w' [R, IsTable p (T.change n live (setG reg x))] := by
  have hcan : T.can n live = true ∨ T.can n live = false := by cases T.can n live <;> simp
  refine Sep.calls_post ?_
  intro Post_ hPost_
  have HP := Sep.hid hPost_
  clear hPost_
  go_enter Try.func29, Try.ntmps29
  go_wp2_with (first
    | (go_at_call 37; refine (change_calls (Sep.hid mayLive) (Sep.hid (doSet _ _ _ reg x false)) p T n e _ R ((Holds.group [pt _ [.int .i64 reg] 3, pt _ [.int .i64 x] 2, pt _ [.bool false] 4] [R, IsTable p T] (hw.sel [2, 3, 4, 0, 1] (by decide))).sel [1, 2, 0] (by decide))).mono ?_; rintro _ w_ ⟨rfl, hw_⟩; clear hw; have hw := hw_; clear hw_; rcases hcan with hcan | hcan <;> rw [hcan] at hw ⊢ <;> simp only [if_true, Bool.false_eq_true, if_false] at hw <;> replace hw := hw.open_ 2 rfl <;> (try simp only [List.map_cons, List.map_nil, List.getD_cons_zero, List.getD_cons_succ, List.getD_nil, List.set_cons_zero, List.set_cons_succ, List.cons_append, List.nil_append, Act.eval, Array.getD_eq_getD_getElem?, List.getElem?_toArray, List.getElem?_cons_succ, List.getElem?_cons_zero, Option.getD_some, Value.cells] at hw); (try simp (disch := first | (simp; done) | (simp; omega)) only [Sep.mid_set, Sep.mid_set2, Sep.mid_set0, Sep.mid_splice, Sep.mid_splice0, List.set_cons_zero, List.set_cons_succ] at hw); (try simp only [Sep.splice, List.take_succ_cons, List.take_zero, List.drop_succ_cons, List.drop_zero, List.length_cons, List.length_nil, Nat.reduceAdd, List.cons_append, List.nil_append] at hw) <;> (try replace hc4 := Sep.Holds.cells hw (i := 4) rfl))
    | (refine wpList_on rfl (wp_box rfl hw ?_); intro b_ w_ hw_; clear hw; have hw := hw_; clear hw_; (try simp only [List.map_cons, List.map_nil, List.getD_cons_zero, List.getD_cons_succ, List.getD_nil, List.set_cons_zero, List.set_cons_succ, List.cons_append, List.nil_append, Act.eval, Array.getD_eq_getD_getElem?, List.getElem?_toArray, List.getElem?_cons_succ, List.getElem?_cons_zero, Option.getD_some, Value.cells] at hw); (try simp (disch := first | (simp; done) | (simp; omega)) only [Sep.mid_set, Sep.mid_set2, Sep.mid_set0, Sep.mid_splice, Sep.mid_splice0, List.set_cons_zero, List.set_cons_succ] at hw); (try simp only [Sep.splice, List.take_succ_cons, List.take_zero, List.drop_succ_cons, List.drop_zero, List.length_cons, List.length_nil, Nat.reduceAdd, List.cons_append, List.nil_append] at hw); (try replace hc0 := Sep.Holds.cells hw (i := 0) rfl); (try replace hc1 := Sep.Holds.cells hw (i := 1) rfl); (try replace hc2 := Sep.Holds.cells hw (i := 2) rfl); (try replace hc3 := Sep.Holds.cells hw (i := 3) rfl); (try replace hc4 := Sep.Holds.cells hw (i := 4) rfl); (try replace hc5 := Sep.Holds.cells hw (i := 5) rfl); (try replace hc6 := Sep.Holds.cells hw (i := 6) rfl)) | (refine wpList_on rfl (wp_alloc rfl hw ?_); intro b_ w_ hw_; clear hw; have hw := hw_; clear hw_; (try simp only [List.map_cons, List.map_nil, List.getD_cons_zero, List.getD_cons_succ, List.getD_nil, List.set_cons_zero, List.set_cons_succ, List.cons_append, List.nil_append, Act.eval, Array.getD_eq_getD_getElem?, List.getElem?_toArray, List.getElem?_cons_succ, List.getElem?_cons_zero, Option.getD_some, Value.cells] at hw); (try simp (disch := first | (simp; done) | (simp; omega)) only [Sep.mid_set, Sep.mid_set2, Sep.mid_set0, Sep.mid_splice, Sep.mid_splice0, List.set_cons_zero, List.set_cons_succ] at hw); (try simp only [Sep.splice, List.take_succ_cons, List.take_zero, List.drop_succ_cons, List.drop_zero, List.length_cons, List.length_nil, Nat.reduceAdd, List.cons_append, List.nil_append] at hw); (try replace hc0 := Sep.Holds.cells hw (i := 0) rfl); (try replace hc1 := Sep.Holds.cells hw (i := 1) rfl); (try replace hc2 := Sep.Holds.cells hw (i := 2) rfl); (try replace hc3 := Sep.Holds.cells hw (i := 3) rfl); (try replace hc4 := Sep.Holds.cells hw (i := 4) rfl); (try replace hc5 := Sep.Holds.cells hw (i := 5) rfl); (try replace hc6 := Sep.Holds.cells hw (i := 6) rfl)) | ((first | refine wpList_on rfl (wp_store1 (v := _) rfl rfl rfl hw (i := 0) rfl (by simp [Sep.mid_length, Act.eval, Value.cells]; try omega) rfl ?_) | refine wpList_on rfl (wp_store1 (v := _) rfl rfl rfl hw (i := 1) rfl (by simp [Sep.mid_length, Act.eval, Value.cells]; try omega) rfl ?_) | refine wpList_on rfl (wp_store1 (v := _) rfl rfl rfl hw (i := 2) rfl (by simp [Sep.mid_length, Act.eval, Value.cells]; try omega) rfl ?_) | refine wpList_on rfl (wp_store1 (v := _) rfl rfl rfl hw (i := 3) rfl (by simp [Sep.mid_length, Act.eval, Value.cells]; try omega) rfl ?_) | refine wpList_on rfl (wp_store1 (v := _) rfl rfl rfl hw (i := 4) rfl (by simp [Sep.mid_length, Act.eval, Value.cells]; try omega) rfl ?_)); intro w_ hw_; clear hw; have hw := hw_; clear hw_; (try simp only [List.map_cons, List.map_nil, List.getD_cons_zero, List.getD_cons_succ, List.getD_nil, List.set_cons_zero, List.set_cons_succ, List.cons_append, List.nil_append, Act.eval, Array.getD_eq_getD_getElem?, List.getElem?_toArray, List.getElem?_cons_succ, List.getElem?_cons_zero, Option.getD_some, Value.cells] at hw); (try simp (disch := first | (simp; done) | (simp; omega)) only [Sep.mid_set, Sep.mid_set2, Sep.mid_set0, Sep.mid_splice, Sep.mid_splice0, List.set_cons_zero, List.set_cons_succ] at hw); (try simp only [Sep.splice, List.take_succ_cons, List.take_zero, List.drop_succ_cons, List.drop_zero, List.length_cons, List.length_nil, Nat.reduceAdd, List.cons_append, List.nil_append] at hw); (try replace hc0 := Sep.Holds.cells hw (i := 0) rfl); (try replace hc1 := Sep.Holds.cells hw (i := 1) rfl); (try replace hc2 := Sep.Holds.cells hw (i := 2) rfl); (try replace hc3 := Sep.Holds.cells hw (i := 3) rfl); (try replace hc4 := Sep.Holds.cells hw (i := 4) rfl); (try replace hc5 := Sep.Holds.cells hw (i := 5) rfl); (try replace hc6 := Sep.Holds.cells hw (i := 6) rfl)))
  all_goals exact HP.out _ _ ⟨by rw [hcan]; rfl, hw.sel [0, 1] (by decide)⟩

theorem Sl.value {e w : World} {L : List HProp} {i n sz : Nat} {v : Value} {cs : List Value} {T : TypeId} (hi : L[i]? = some (Sl T sz v n cs)) (hw : Holds e w L) : ∃ a cap, v = .slice a n cap := by
  refine hw.fact hi (fun h hh => ?_)
  rcases hh.2 with ⟨h1, h2⟩ | ⟨b, cap, pre, post, h1, _⟩
  · exact ⟨none, 0, by rw [h1, h2]⟩
  · exact ⟨_, _, h1⟩

set_option maxHeartbeats 400000 in
theorem tLen_calls (p : Nat) (T : Table) (e w : World) (R : HProp) (hw : Holds e w [R, IsTable p T]) :
    Calls Try.prog 16 #[.pointer (some ⟨p, 0, none⟩)] w fun en w' => en = .returned (.int .i64 T.l.length) ∧ w' = w := by
  obtain ⟨v, hw⟩ := IsTable.open_ (i := 1) rfl hw
  (try simp only [List.map_cons, List.map_nil, List.getD_cons_zero, List.getD_cons_succ, List.getD_nil, List.set_cons_zero, List.set_cons_succ, List.cons_append, List.nil_append, Act.eval, Array.getD_eq_getD_getElem?, List.getElem?_toArray, List.getElem?_cons_succ, List.getElem?_cons_zero, Option.getD_some, Value.cells] at hw); (try simp (disch := first | (simp; done) | (simp; omega)) only [Sep.mid_set, Sep.mid_set2, Sep.mid_set0, Sep.mid_splice, Sep.mid_splice0, List.set_cons_zero, List.set_cons_succ] at hw); (try simp only [Sep.splice, List.take_succ_cons, List.take_zero, List.drop_succ_cons, List.drop_zero, List.length_cons, List.length_nil, Nat.reduceAdd, List.cons_append, List.nil_append] at hw)
  obtain ⟨a, cap, rfl⟩ := Sl.value (i := 2) rfl hw
  (try replace hc0 := Sep.Holds.cells hw (i := 0) rfl); (try replace hc1 := Sep.Holds.cells hw (i := 1) rfl); (try replace hc2 := Sep.Holds.cells hw (i := 2) rfl); (try replace hc3 := Sep.Holds.cells hw (i := 3) rfl); (try replace hc4 := Sep.Holds.cells hw (i := 4) rfl); (try replace hc5 := Sep.Holds.cells hw (i := 5) rfl); (try replace hc6 := Sep.Holds.cells hw (i := 6) rfl)
  refine Sep.calls_post ?_
  intro Post_ hPost_
  have HP := Sep.hid hPost_
  clear hPost_
  go_enter Try.func16, Try.ntmps16
  go_wp2
  exact HP.out _ _ ⟨rfl, rfl⟩

set_option maxHeartbeats 400000 in
theorem tNew_ok (n : Int) (h0 : 1 ≤ n) (h1 : n ≤ 200) (e w : World) (R : HProp) (hw : Holds e w [R]) :
    Calls Try.prog 7 #[.int .i64 n] w fun en w' => ∃ p, en = .returned (.tuple #[.pointer (some ⟨p, 0, none⟩), .int .i64 0]) ∧ Holds e w' [R, IsTable p ⟨[], n⟩] := by
  refine Sep.calls_post ?_
  intro Post_ hPost_
  have HP := Sep.hid hPost_
  clear hPost_
  go_enter Try.func7, Try.ntmps7
  go_wp2_with (refine wpList_on rfl (wp_box rfl hw ?_); intro b_ w_ hw_; clear hw; have hw := hw_; clear hw_; (try simp only [List.map_cons, List.map_nil, List.getD_cons_zero, List.getD_cons_succ, List.getD_nil, List.set_cons_zero, List.set_cons_succ, List.cons_append, List.nil_append, Act.eval, Array.getD_eq_getD_getElem?, List.getElem?_toArray, List.getElem?_cons_succ, List.getElem?_cons_zero, Option.getD_some, Value.cells] at hw); (try simp (disch := first | (simp; done) | (simp; omega)) only [Sep.mid_set, Sep.mid_set2, Sep.mid_set0, Sep.mid_splice, Sep.mid_splice0, List.set_cons_zero, List.set_cons_succ] at hw); (try simp only [Sep.splice, List.take_succ_cons, List.take_zero, List.drop_succ_cons, List.drop_zero, List.length_cons, List.length_nil, Nat.reduceAdd, List.cons_append, List.nil_append] at hw); (try replace hc0 := Sep.Holds.cells hw (i := 0) rfl); (try replace hc1 := Sep.Holds.cells hw (i := 1) rfl); (try replace hc2 := Sep.Holds.cells hw (i := 2) rfl); (try replace hc3 := Sep.Holds.cells hw (i := 3) rfl); (try replace hc4 := Sep.Holds.cells hw (i := 4) rfl); (try replace hc5 := Sep.Holds.cells hw (i := 5) rfl); (try replace hc6 := Sep.Holds.cells hw (i := 6) rfl))
  refine HP.out _ _ ⟨_, rfl, ?_⟩
  have h := hw.addEmp (X := Sl 53 17 (.slice none 0 0) 0 []) (Sl.nil _ _ _)
  exact (IsTable.mk (T := ⟨[], n⟩) (h.sel [1, 2, 0] (by decide))).sel [1, 0] (by decide)
set_option maxHeartbeats 400000 in
theorem tNew_no (n : Int) (h : n < 1 ∨ 200 < n) (w : World) :
    Calls Try.prog 7 #[.int .i64 n] w fun en w' => en = .returned (.tuple #[.pointer none, .int .i64 1]) ∧ w' = w := by
  rcases h with h | h
  all_goals
    refine Sep.calls_post ?_
    intro Post_ hPost_
    have HP := Sep.hid hPost_
    clear hPost_
    go_enter Try.func7, Try.ntmps7
    go_wp2
    exact HP.out _ _ ⟨rfl, rfl⟩

set_option maxHeartbeats 1000000 in
theorem tGet_calls (p : Nat) (T : Table) (n : Int) (e w : World) (R : HProp) (hw : Holds e w [R, IsTable p T]) :
    Calls Try.prog 22 #[.pointer (some ⟨p, 0, none⟩), .int .i64 n] w fun en w' =>
      en = .returned (.tuple #[.agg (encT (T.getD n)).toArray, .bool (T.get n).isSome]) ∧ Holds e w' [R, IsTable p T] := by
  obtain ⟨v, hw⟩ := IsTable.open_ (i := 1) rfl hw
  (try simp only [List.map_cons, List.map_nil, List.getD_cons_zero, List.getD_cons_succ, List.getD_nil, List.set_cons_zero, List.set_cons_succ, List.cons_append, List.nil_append, Act.eval, Array.getD_eq_getD_getElem?, List.getElem?_toArray, List.getElem?_cons_succ, List.getElem?_cons_zero, Option.getD_some, Value.cells] at hw); (try simp (disch := first | (simp; done) | (simp; omega)) only [Sep.mid_set, Sep.mid_set2, Sep.mid_set0, Sep.mid_splice, Sep.mid_splice0, List.set_cons_zero, List.set_cons_succ] at hw); (try simp only [Sep.splice, List.take_succ_cons, List.take_zero, List.drop_succ_cons, List.drop_zero, List.length_cons, List.length_nil, Nat.reduceAdd, List.cons_append, List.nil_append] at hw)
  have hback : ∀ (w' : World) (X : HProp), Holds e w' [R, pt p [v, .int .i64 T.most] 68, Sl 53 17 v T.l.length (T.l.flatMap encT), X] → Holds e w' [R, IsTable p T] := fun w' X h =>
    (IsTable.mk (h.sel [1, 2, 0] (by decide))).sel [1, 0] (by decide)
  obtain ⟨a, cap, rfl⟩ := Sl.value (i := 2) rfl hw
  cases hget : T.get n with
  | none =>
    have ho := Table.get_none hget
    have Hgd : Hid (T.getD n = noTask) := Sep.hid (by simp [Table.getD, hget])
    have Hback := Sep.hid hback; clear hback
    clear hget
    (try replace hc0 := Sep.Holds.cells hw (i := 0) rfl); (try replace hc1 := Sep.Holds.cells hw (i := 1) rfl); (try replace hc2 := Sep.Holds.cells hw (i := 2) rfl); (try replace hc3 := Sep.Holds.cells hw (i := 3) rfl); (try replace hc4 := Sep.Holds.cells hw (i := 4) rfl); (try replace hc5 := Sep.Holds.cells hw (i := 5) rfl); (try replace hc6 := Sep.Holds.cells hw (i := 6) rfl)
    refine Sep.calls_post ?_
    intro Post_ hPost_
    have HP := Sep.hid hPost_
    clear hPost_
    go_enter Try.func22, Try.ntmps22
    go_wp2_with (first
      | (go_at_call 36; refine (of_out p n a T.l.length cap T.most _ ho hc1).mono ?_; rintro _ w_ ⟨rfl, rfl⟩)
      | (refine wpList_on rfl (wp_alloc rfl hw ?_); intro b_ w_ hw_; clear hw; have hw := hw_; clear hw_; (try simp only [List.map_cons, List.map_nil, List.getD_cons_zero, List.getD_cons_succ, List.getD_nil, List.set_cons_zero, List.set_cons_succ, List.cons_append, List.nil_append, Act.eval, Array.getD_eq_getD_getElem?, List.getElem?_toArray, List.getElem?_cons_succ, List.getElem?_cons_zero, Option.getD_some, Value.cells] at hw); (try simp (disch := first | (simp; done) | (simp; omega)) only [Sep.mid_set, Sep.mid_set2, Sep.mid_set0, Sep.mid_splice, Sep.mid_splice0, List.set_cons_zero, List.set_cons_succ] at hw); (try simp only [Sep.splice, List.take_succ_cons, List.take_zero, List.drop_succ_cons, List.drop_zero, List.length_cons, List.length_nil, Nat.reduceAdd, List.cons_append, List.nil_append] at hw); (try replace hc0 := Sep.Holds.cells hw (i := 0) rfl); (try replace hc1 := Sep.Holds.cells hw (i := 1) rfl); (try replace hc2 := Sep.Holds.cells hw (i := 2) rfl); (try replace hc3 := Sep.Holds.cells hw (i := 3) rfl); (try replace hc4 := Sep.Holds.cells hw (i := 4) rfl); (try replace hc5 := Sep.Holds.cells hw (i := 5) rfl); (try replace hc6 := Sep.Holds.cells hw (i := 6) rfl)) | ((first | refine wpList_on rfl (wp_storeN (vs := _) rfl rfl rfl hw (i := 0) rfl rfl (by simp [Sep.mid_length, Act.eval, Value.cells]; try omega) (by simp [Value.oneCell', Act.eval, Value.cells]) ?_) | refine wpList_on rfl (wp_storeN (vs := _) rfl rfl rfl hw (i := 1) rfl rfl (by simp [Sep.mid_length, Act.eval, Value.cells]; try omega) (by simp [Value.oneCell', Act.eval, Value.cells]) ?_) | refine wpList_on rfl (wp_storeN (vs := _) rfl rfl rfl hw (i := 2) rfl rfl (by simp [Sep.mid_length, Act.eval, Value.cells]; try omega) (by simp [Value.oneCell', Act.eval, Value.cells]) ?_) | refine wpList_on rfl (wp_storeN (vs := _) rfl rfl rfl hw (i := 3) rfl rfl (by simp [Sep.mid_length, Act.eval, Value.cells]; try omega) (by simp [Value.oneCell', Act.eval, Value.cells]) ?_) | refine wpList_on rfl (wp_storeN (vs := _) rfl rfl rfl hw (i := 4) rfl rfl (by simp [Sep.mid_length, Act.eval, Value.cells]; try omega) (by simp [Value.oneCell', Act.eval, Value.cells]) ?_)); intro w_ hw_; clear hw; have hw := hw_; clear hw_; (try simp only [List.map_cons, List.map_nil, List.getD_cons_zero, List.getD_cons_succ, List.getD_nil, List.set_cons_zero, List.set_cons_succ, List.cons_append, List.nil_append, Act.eval, Array.getD_eq_getD_getElem?, List.getElem?_toArray, List.getElem?_cons_succ, List.getElem?_cons_zero, Option.getD_some, Value.cells] at hw); (try simp (disch := first | (simp; done) | (simp; omega)) only [Sep.mid_set, Sep.mid_set2, Sep.mid_set0, Sep.mid_splice, Sep.mid_splice0, List.set_cons_zero, List.set_cons_succ] at hw); (try simp only [Sep.splice, List.take_succ_cons, List.take_zero, List.drop_succ_cons, List.drop_zero, List.length_cons, List.length_nil, Nat.reduceAdd, List.cons_append, List.nil_append] at hw); (try replace hc0 := Sep.Holds.cells hw (i := 0) rfl); (try replace hc1 := Sep.Holds.cells hw (i := 1) rfl); (try replace hc2 := Sep.Holds.cells hw (i := 2) rfl); (try replace hc3 := Sep.Holds.cells hw (i := 3) rfl); (try replace hc4 := Sep.Holds.cells hw (i := 4) rfl); (try replace hc5 := Sep.Holds.cells hw (i := 5) rfl); (try replace hc6 := Sep.Holds.cells hw (i := 6) rfl)))
    refine bodyPost_ret (v := .tuple #[.agg (encT noTask).toArray, .bool false]) (res_cell_tmp (ty := 53) rfl rfl rfl hw (i := 3) rfl rfl) rfl (HP.out _ _ ⟨by rw [Hgd.out]; rfl, Hback.out _ _ hw⟩)
  | some t =>
    obtain ⟨h0, h1, hl⟩ := Table.get_some hget
    have Hgd : Hid (T.getD n = t) := Sep.hid (by simp [Table.getD, hget])
    rcases hw.openSl (i := 2) rfl with ⟨_, h2, _⟩ | ⟨b, cap, pre, post, hv, hnc, hcm, hpost, hw'⟩
    · omega
    cases hv
    clear hw; have hw := hw'; clear hw'
    (try simp only [List.map_cons, List.map_nil, List.getD_cons_zero, List.getD_cons_succ, List.getD_nil, List.set_cons_zero, List.set_cons_succ, List.cons_append, List.nil_append, Act.eval, Array.getD_eq_getD_getElem?, List.getElem?_toArray, List.getElem?_cons_succ, List.getElem?_cons_zero, Option.getD_some, Value.cells] at hw); (try simp (disch := first | (simp; done) | (simp; omega)) only [Sep.mid_set, Sep.mid_set2, Sep.mid_set0, Sep.mid_splice, Sep.mid_splice0, List.set_cons_zero, List.set_cons_succ] at hw); (try simp only [Sep.splice, List.take_succ_cons, List.take_zero, List.drop_succ_cons, List.drop_zero, List.length_cons, List.length_nil, Nat.reduceAdd, List.cons_append, List.nil_append] at hw)
    have hshut : ∀ (w' : World) (X : HProp), Holds e w' [R, pt p [.slice (some ⟨b, pre.length, none⟩) T.l.length cap, .int .i64 T.most] 68, pt b (mid pre (T.l.flatMap encT) post) 53, X] → Holds e w' [R, IsTable p T] := fun w' X h =>
      hback w' X (h.closeSl (i := 2) (sz := 17) (n := T.l.length) (cap := cap) rfl (by rw [flat_len encT_length]) hnc hcm hpost)
    rw [Sep.mid_elem hl] at hw hshut
    have hpre : pre.length + n.toNat * 17 = (pre ++ (T.l.take n.toNat).flatMap encT).length := by
      rw [List.length_append, flat_take_len encT_length (by omega)]
    generalize pre ++ (T.l.take n.toNat).flatMap encT = pre2 at hw hpre hshut
    generalize (T.l.drop (n.toNat + 1)).flatMap encT ++ post = post2 at hw hshut
    have Hback := Sep.hid hshut; clear hshut hback
    clear hget hl hnc hcm hpost
    generalize T.l.length = len at *
    (try replace hc0 := Sep.Holds.cells hw (i := 0) rfl); (try replace hc1 := Sep.Holds.cells hw (i := 1) rfl); (try replace hc2 := Sep.Holds.cells hw (i := 2) rfl); (try replace hc3 := Sep.Holds.cells hw (i := 3) rfl); (try replace hc4 := Sep.Holds.cells hw (i := 4) rfl); (try replace hc5 := Sep.Holds.cells hw (i := 5) rfl); (try replace hc6 := Sep.Holds.cells hw (i := 6) rfl)
    have hlen17 : (encT t).length = 17 := rfl
    refine Sep.calls_post ?_
    intro Post_ hPost_
    have HP := Sep.hid hPost_
    clear hPost_
    go_enter Try.func22, Try.ntmps22
    go_wp2_with (first
      | (go_at_call 36; refine (of_in p n b pre.length len cap T.most _ h0 h1 hc1).mono ?_; rintro _ w_ ⟨rfl, rfl⟩)
      | (refine wpList_on rfl (wp_loadN (vs := encT t) rfl rfl hw (i := 2) rfl rfl (by intro j v hj; rw [Sep.mid_get _ _ _ _ (List.getElem?_eq_some_iff.1 hj).1]; exact hj) ?_))
      | (refine wpList_on rfl (wp_alloc rfl hw ?_); intro b_ w_ hw_; clear hw; have hw := hw_; clear hw_; (try simp only [List.map_cons, List.map_nil, List.getD_cons_zero, List.getD_cons_succ, List.getD_nil, List.set_cons_zero, List.set_cons_succ, List.cons_append, List.nil_append, Act.eval, Array.getD_eq_getD_getElem?, List.getElem?_toArray, List.getElem?_cons_succ, List.getElem?_cons_zero, Option.getD_some, Value.cells] at hw); (try simp (disch := first | (simp; done) | (simp; omega)) only [Sep.mid_set, Sep.mid_set2, Sep.mid_set0, Sep.mid_splice, Sep.mid_splice0, List.set_cons_zero, List.set_cons_succ] at hw); (try simp only [Sep.splice, List.take_succ_cons, List.take_zero, List.drop_succ_cons, List.drop_zero, List.length_cons, List.length_nil, Nat.reduceAdd, List.cons_append, List.nil_append] at hw); (try replace hc0 := Sep.Holds.cells hw (i := 0) rfl); (try replace hc1 := Sep.Holds.cells hw (i := 1) rfl); (try replace hc2 := Sep.Holds.cells hw (i := 2) rfl); (try replace hc3 := Sep.Holds.cells hw (i := 3) rfl); (try replace hc4 := Sep.Holds.cells hw (i := 4) rfl); (try replace hc5 := Sep.Holds.cells hw (i := 5) rfl); (try replace hc6 := Sep.Holds.cells hw (i := 6) rfl))
      | (refine wpList_on rfl (wp_storeAll (vs := encT t) rfl rfl rfl hw (i := 3) rfl rfl rfl (encT_one t) ?_); intro w_ hw_; clear hw; have hw := hw_; clear hw_; (try simp only [List.map_cons, List.map_nil, List.getD_cons_zero, List.getD_cons_succ, List.getD_nil, List.set_cons_zero, List.set_cons_succ, List.cons_append, List.nil_append, Act.eval, Array.getD_eq_getD_getElem?, List.getElem?_toArray, List.getElem?_cons_succ, List.getElem?_cons_zero, Option.getD_some, Value.cells] at hw); (try simp (disch := first | (simp; done) | (simp; omega)) only [Sep.mid_set, Sep.mid_set2, Sep.mid_set0, Sep.mid_splice, Sep.mid_splice0, List.set_cons_zero, List.set_cons_succ] at hw); (try simp only [Sep.splice, List.take_succ_cons, List.take_zero, List.drop_succ_cons, List.drop_zero, List.length_cons, List.length_nil, Nat.reduceAdd, List.cons_append, List.nil_append] at hw); (try replace hc0 := Sep.Holds.cells hw (i := 0) rfl); (try replace hc1 := Sep.Holds.cells hw (i := 1) rfl); (try replace hc2 := Sep.Holds.cells hw (i := 2) rfl); (try replace hc3 := Sep.Holds.cells hw (i := 3) rfl); (try replace hc4 := Sep.Holds.cells hw (i := 4) rfl); (try replace hc5 := Sep.Holds.cells hw (i := 5) rfl); (try replace hc6 := Sep.Holds.cells hw (i := 6) rfl)))
    refine bodyPost_ret (v := .tuple #[.agg (encT t).toArray, .bool true]) (res_cell_tmp (ty := 53) rfl rfl rfl hw (i := 3) rfl rfl) rfl (HP.out _ _ ⟨by rw [Hgd.out]; rfl, Hback.out _ _ hw⟩)

set_option maxHeartbeats 1000000 in
theorem tBegin_full (p : Nat) (T : Table) (pr tm : Int) (hf : T.full = true) (e w : World) (R : HProp) (hw : Holds e w [R, IsTable p T]) :
    Calls Try.prog 27 #[.pointer (some ⟨p, 0, none⟩), .int .i64 pr, .int .i64 tm] w fun en w' =>
      en = .returned (.tuple #[.int .i64 (-1), .int .i64 2]) ∧ Holds e w' [R, IsTable p T] := by
  obtain ⟨v, hw⟩ := IsTable.open_ (i := 1) rfl hw
  (try simp only [List.map_cons, List.map_nil, List.getD_cons_zero, List.getD_cons_succ, List.getD_nil, List.set_cons_zero, List.set_cons_succ, List.cons_append, List.nil_append, Act.eval, Array.getD_eq_getD_getElem?, List.getElem?_toArray, List.getElem?_cons_succ, List.getElem?_cons_zero, Option.getD_some, Value.cells] at hw); (try simp (disch := first | (simp; done) | (simp; omega)) only [Sep.mid_set, Sep.mid_set2, Sep.mid_set0, Sep.mid_splice, Sep.mid_splice0, List.set_cons_zero, List.set_cons_succ] at hw); (try simp only [Sep.splice, List.take_succ_cons, List.take_zero, List.drop_succ_cons, List.drop_zero, List.length_cons, List.length_nil, Nat.reduceAdd, List.cons_append, List.nil_append] at hw)
  have hback : ∀ (w' : World), Holds e w' [R, pt p [v, .int .i64 T.most] 68, Sl 53 17 v T.l.length (T.l.flatMap encT)] → Holds e w' [R, IsTable p T] := fun w' h =>
    (IsTable.mk (h.sel [1, 2, 0] (by decide))).sel [1, 0] (by decide)
  obtain ⟨a, cap, rfl⟩ := Sl.value (i := 2) rfl hw
  have hfull : ((T.l.length : Int) == T.most) = true := hf
  have Hback := Sep.hid hback; clear hback
  clear hf
  (try replace hc0 := Sep.Holds.cells hw (i := 0) rfl); (try replace hc1 := Sep.Holds.cells hw (i := 1) rfl); (try replace hc2 := Sep.Holds.cells hw (i := 2) rfl); (try replace hc3 := Sep.Holds.cells hw (i := 3) rfl); (try replace hc4 := Sep.Holds.cells hw (i := 4) rfl); (try replace hc5 := Sep.Holds.cells hw (i := 5) rfl); (try replace hc6 := Sep.Holds.cells hw (i := 6) rfl)
  refine Sep.calls_post ?_
  intro Post_ hPost_
  have HP := Sep.hid hPost_
  clear hPost_
  go_enter Try.func27, Try.ntmps27
  go_wp2_with fail
  refine wp_region_L [] [(3, (fun w' => w' = w.drew)), (8, (fun w' => w' = w.drew))] (n := 10) (listed := #[false, false, false, false, false, false, false, false, false, false]) (by kernel_rfl) rfl rfl ?conds1 ?_
  case conds1 =>
   intro c hc
   simp only [List.mem_cons, List.not_mem_nil, or_false] at hc
   rcases hc with rfl | rfl
   · rfl
   · rfl
  replace hw := hw.drew
  refine wpL_take 0 (C := fun _ => True) (v := ?v2) rfl (by kernel_rfl) (by kernel_rfl) (by kernel_rfl) (by kernel_rfl) (fun _ _ _ h => h) (.inl fun _ => trivial) (Or.inl ⟨by rfl, fun w_ hS_ => ?hy2⟩) (listed' := #[true, false, false, false, false, false, false, false, false, false]) (by kernel_rfl) ?rest2
  case hy2 => (go_simp; try rfl)
  case' rest2 => try simp only [Act.put, List.setIfInBounds_toArray, List.set_cons_zero, List.set_cons_succ]
  refine wpL_take 1 (C := fun _ => True) (v := ?v3) rfl (by kernel_rfl) (by kernel_rfl) (by kernel_rfl) (by kernel_rfl) (fun _ _ _ h => h) (.inl fun _ => trivial) (Or.inl ⟨by rfl, fun w_ hS_ => ?hy3⟩) (listed' := #[true, true, false, false, false, false, false, false, false, false]) (by kernel_rfl) ?rest3
  case hy3 => (go_simp; try rfl)
  case' rest3 => try simp only [Act.put, List.setIfInBounds_toArray, List.set_cons_zero, List.set_cons_succ]
  refine wpL_take 2 (C := fun _ => True) (v := ?v4) rfl (by kernel_rfl) (by kernel_rfl) (by kernel_rfl) (by kernel_rfl) (fun _ _ _ h => h) (.inl fun _ => trivial) (Or.inl ⟨by rfl, fun w_ hS_ => ?hy4⟩) (listed' := #[true, true, true, false, false, false, false, false, false, false]) (by kernel_rfl) ?rest4
  case hy4 => (go_simp; try rfl)
  case' rest4 => try simp only [Act.put, List.setIfInBounds_toArray, List.set_cons_zero, List.set_cons_succ]
  refine wpL_take 3 (C := (fun w' => w' = w.drew)) (v := ?v5) rfl (by kernel_rfl) (by kernel_rfl) (by kernel_rfl) (by kernel_rfl) (fun _ _ _ h => h) (.inr (.head _)) (Or.inl ⟨by rfl, fun w_ hS_ => ?hy5⟩) (listed' := #[true, true, true, true, false, false, false, false, false, false]) (by kernel_rfl) ?rest5
  case hy5 => (subst hS_; go_simp; try rfl)
  case' rest5 => try simp only [Act.put, List.setIfInBounds_toArray, List.set_cons_zero, List.set_cons_succ]
  refine wpL_take 4 (C := fun _ => True) (v := ?v6) rfl (by kernel_rfl) (by kernel_rfl) (by kernel_rfl) (by kernel_rfl) (fun _ _ _ h => h) (.inl fun _ => trivial) (Or.inl ⟨by rfl, fun w_ hS_ => ?hy6⟩) (listed' := #[true, true, true, true, true, false, false, false, false, false]) (by kernel_rfl) ?rest6
  case hy6 => (go_simp; try rfl)
  case' rest6 => try simp only [Act.put, List.setIfInBounds_toArray, List.set_cons_zero, List.set_cons_succ]
  refine wpL_take 5 (C := fun _ => True) (v := ?v7) rfl (by kernel_rfl) (by kernel_rfl) (by kernel_rfl) (by kernel_rfl) (fun _ _ _ h => h) (.inl fun _ => trivial) (Or.inl ⟨by rfl, fun w_ hS_ => ?hy7⟩) (listed' := #[true, true, true, true, true, true, false, false, false, false]) (by kernel_rfl) ?rest7
  case hy7 => (go_simp; try rfl)
  case' rest7 => try simp only [Act.put, List.setIfInBounds_toArray, List.set_cons_zero, List.set_cons_succ]
  refine wpL_take 6 (C := fun _ => True) (v := ?v8) rfl (by kernel_rfl) (by kernel_rfl) (by kernel_rfl) (by kernel_rfl) (fun _ _ _ h => h) (.inl fun _ => trivial) (Or.inl ⟨by rfl, fun w_ hS_ => ?hy8⟩) (listed' := #[true, true, true, true, true, true, true, false, false, false]) (by kernel_rfl) ?rest8
  case hy8 => (go_simp; try rfl)
  case' rest8 => try simp only [Act.put, List.setIfInBounds_toArray, List.set_cons_zero, List.set_cons_succ]
  refine wpL_take 7 (C := fun _ => True) (v := ?v9) rfl (by kernel_rfl) (by kernel_rfl) (by kernel_rfl) (by kernel_rfl) (fun _ _ _ h => h) (.inl fun _ => trivial) (Or.inl ⟨by rfl, fun w_ hS_ => ?hy9⟩) (listed' := #[true, true, true, true, true, true, true, true, false, false]) (by kernel_rfl) ?rest9
  case hy9 => (go_simp; try rfl)
  case' rest9 => try simp only [Act.put, List.setIfInBounds_toArray, List.set_cons_zero, List.set_cons_succ]
  refine wpL_take 8 (C := (fun w' => w' = w.drew)) (v := ?v10) rfl (by kernel_rfl) (by kernel_rfl) (by kernel_rfl) (by kernel_rfl) (fun _ _ _ h => h) (.inr (.tail _ (.head _))) (Or.inl ⟨by rfl, fun w_ hS_ => ?hy10⟩) (listed' := #[true, true, true, true, true, true, true, true, true, false]) (by kernel_rfl) ?rest10
  case hy10 => (subst hS_; go_simp; try rfl)
  case' rest10 => try simp only [Act.put, List.setIfInBounds_toArray, List.set_cons_zero, List.set_cons_succ]
  refine wpL_take 9 (C := fun _ => True) (v := ?v11) rfl (by kernel_rfl) (by kernel_rfl) (by kernel_rfl) (by kernel_rfl) (fun _ _ _ h => h) (.inl fun _ => trivial) (Or.inl ⟨by rfl, fun w_ hS_ => ?hy11⟩) (listed' := #[true, true, true, true, true, true, true, true, true, true]) (by kernel_rfl) ?rest11
  case hy11 => (go_simp; try rfl)
  case' rest11 => try simp only [Act.put, List.setIfInBounds_toArray, List.set_cons_zero, List.set_cons_succ]
  refine wpL_done (by kernel_rfl) ?_ _
  go_wp2
  exact HP.out _ _ ⟨rfl, Hback.out _ hw⟩
end Go.Proofs.Ytmoikkfhlnogbaa
