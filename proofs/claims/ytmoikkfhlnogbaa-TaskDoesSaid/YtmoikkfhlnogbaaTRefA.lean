/-
  The document's own table: how it lies in memory; New, Is, Begin, Go.
-/
import Derived.Test.YtmoikkfhlnogbaaWalkG
import Derived.Test.YtmoikkfhlnogbaaSepPart
import Derived.Test.YtmoikkfhlnogbaaSepTab
import Derived.Test.YtmoikkfhlnogbaaRegionS
import Derived.IntWalk
namespace Go.Proofs.Ytmoikkfhlnogbaa
set_option linter.unusedSimpArgs false
set_option linter.unusedVariables false
open Go.RowKit Go.Sep Go.TaskM

def refParts (p : Nat) (T : Table) (x : Option Addr × Nat) : List HProp := [pt p [.slice x.1 T.l.length x.2, .int .i64 T.most] 47, Sl 57 17 (.slice x.1 T.l.length x.2) T.l.length (T.l.flatMap encT)]
def IsR (p : Nat) (T : Table) : HProp := exL (refParts p T)
def isSt (l : List Task) (n s : Int) : Bool := if 0 ≤ n then (match l[n.toNat]? with | some x => x.state == s | none => false) else false
/-- All tasks are ready, parked, or ended. -/
def St (T : Table) : Prop := ∀ x ∈ T.l, x.state = 1 ∨ x.state = 2 ∨ x.state = 3
theorem flatT_one (l : List Task) : ∀ v ∈ l.flatMap encT, v.oneCell' = true := by
  intro v hv
  obtain ⟨x, _, hx⟩ := List.mem_flatMap.1 hv
  exact encT_one x v hx
def TaskAt (w : World) (a : Option Addr) (k : Nat) (t : Task) : Prop := ∃ b off, a = some ⟨b, off, none⟩ ∧ ∀ j, j < 17 → w.cell? ⟨b, off + k * 17 + j, none⟩ = (encT t)[j]?
theorem task_at {e w : World} {L : List HProp} {i n ca k : Nat} {a : Option Addr} {l : List Task} {t : Task} (hw : Holds e w L) (hi : L[i]? = some (Sl 57 17 (.slice a n ca) n (l.flatMap encT))) (hn : l.length = n) (hx : l[k]? = some t) : TaskAt w a k t := by
  have hk := (List.getElem?_eq_some_iff.1 hx).1
  have hln : (l.flatMap encT).length = n * 17 := hw.fact hi (fun _ h => h.1)
  rcases hw.openSl hi with ⟨_, h2, _⟩ | ⟨b, cap, pre, post, hv', _, _, _, hw'⟩
  · omega
  · cases hv'
    have hil : i < L.length := (List.getElem?_eq_some_iff.1 hi).1
    exact ⟨b, pre.length, rfl, fun j hj => by
      rw [Nat.add_assoc, hw'.cells (List.getElem?_set_self hil), Sep.mid_get _ _ _ _ (by omega), flat_get encT_length hx hj]⟩
theorem ref_close {e w : World} {X : HProp} {p len cap : Nat} {T : Table} {a : Option Addr} (hlen : T.l.length = len)
    (hw : Holds e w [X, pt p [.slice a len cap, .int .i64 T.most] 47, Sl 57 17 (.slice a len cap) len (T.l.flatMap encT)]) : Holds e w [X, IsR p T] := by
  subst hlen
  exact exL.mk (f := refParts p T) (a, cap) hw
theorem can_ready (T : Table) (n : Int) : T.can n ready = isSt T.l n 1 := by
  unfold Table.can isSt Table.get ready Task.isNo
  by_cases h : 0 ≤ n
  · simp only [h, if_true]
    cases T.l[n.toNat]? with
    | none => rfl
    | some x =>
      by_cases hx : x = noTask
      · subst hx; rfl
      · simp [hx]
  · simp [h]
theorem can_parked (T : Table) (n : Int) : T.can n parked = isSt T.l n 2 := by
  unfold Table.can isSt Table.get parked Task.isNo
  by_cases h : 0 ≤ n
  · simp only [h, if_true]
    cases T.l[n.toNat]? with
    | none => rfl
    | some x =>
      by_cases hx : x = noTask
      · subst hx; rfl
      · simp [hx]
  · simp [h]
theorem can_live {T : Table} (hT : St T) (n : Int) : T.can n live = (isSt T.l n 1 || isSt T.l n 2) := by
  unfold Table.can isSt Table.get live Task.isNo
  by_cases h : 0 ≤ n
  · simp only [h, if_true]
    cases hx : T.l[n.toNat]? with
    | none => rfl
    | some x =>
      have h3 := hT x (List.mem_of_getElem? hx)
      have h4 : ¬ x = noTask := by rintro rfl; simp [noTask] at h3
      rcases h3 with h3 | h3 | h3 <;> simp [h4, h3]
  · simp [h]
theorem isSt_get {l : List Task} {n s : Int} (h : isSt l n s = true) : ∃ (k : Nat) (t : Task), n = k ∧ l[k]? = some t ∧ t.state = s := by
  unfold isSt at h
  by_cases h0 : 0 ≤ n
  · rw [if_pos h0] at h
    cases hx : l[n.toNat]? with
    | none => rw [hx] at h; cases h
    | some x => rw [hx] at h; exact ⟨n.toNat, x, by omega, hx, by simpa using h⟩
  · rw [if_neg h0] at h; cases h
theorem change_at {T : Table} {k : Nat} {t : Task} {m : Task → Bool} {g : Task → Task} (hc : T.can (k : Int) m = true) (ht : T.l[k]? = some t) : T.change (k : Int) m g = { T with l := T.l.set k (g t) } := by
  unfold Table.change Table.getD Table.get
  rw [if_pos hc]
  simp [ht]
set_option maxHeartbeats 800000 in
theorem rNew_ok (n : Int) (n1 : 1 ≤ n) (n2 : n ≤ 200) (e w : World) (X : HProp) (hw : Holds e w [X]) :
    Calls Try.prog 8 #[.int .i64 n] w fun en w' => ∃ p, en = .returned (.tuple #[.pointer (some ⟨p, 0, none⟩), .int .i64 0]) ∧ Holds e w' [X, IsR p ⟨[], n⟩] := by
  refine Sep.calls_post ?_
  intro Post_ hPost_
  have HP := Sep.hid hPost_
  clear hPost_
  go_enter Try.func8, Try.ntmps8
  go_wp2_with (refine wpList_on rfl (wp_box rfl hw ?_); intro b_ w_ hw_; clear hw; have hw := hw_; clear hw_; (try simp only [List.map_cons, List.map_nil, List.getD_cons_zero, List.getD_cons_succ, List.getD_nil, List.set_cons_zero, List.set_cons_succ, List.cons_append, List.nil_append, Act.eval, Array.getD_eq_getD_getElem?, List.getElem?_toArray, List.getElem?_cons_succ, List.getElem?_cons_zero, Option.getD_some, Value.cells] at hw); (try simp (disch := first | (simp; done) | (simp; omega)) only [Sep.mid_set, Sep.mid_set2, Sep.mid_set0, Sep.mid_splice, Sep.mid_splice0, List.set_cons_zero, List.set_cons_succ] at hw); (try simp only [Sep.splice, List.take_succ_cons, List.take_zero, List.drop_succ_cons, List.drop_zero, List.length_cons, List.length_nil, Nat.reduceAdd, List.cons_append, List.nil_append] at hw); (try replace hc0 := Sep.Holds.cells hw (i := 0) rfl); (try replace hc1 := Sep.Holds.cells hw (i := 1) rfl); (try replace hc2 := Sep.Holds.cells hw (i := 2) rfl); (try replace hc3 := Sep.Holds.cells hw (i := 3) rfl); (try replace hc4 := Sep.Holds.cells hw (i := 4) rfl); (try replace hc5 := Sep.Holds.cells hw (i := 5) rfl); (try replace hc6 := Sep.Holds.cells hw (i := 6) rfl))
  refine HP.out _ _ ⟨_, rfl, ?_⟩
  exact exL.mk (f := refParts _ ⟨[], n⟩) (none, 0) (hw.addEmp (Sl.nil _ _ _))
set_option maxHeartbeats 800000 in
theorem rNew_no (n : Int) (h : n < 1 ∨ 200 < n) (w : World) :
    Calls Try.prog 8 #[.int .i64 n] w fun en w' => en = .returned (.tuple #[.pointer none, .int .i64 1]) ∧ w' = w := by
  by_cases h1 : n < 1
  · clear h
    refine Sep.calls_post ?_
    intro Post_ hPost_
    have HP := Sep.hid hPost_
    clear hPost_
    go_enter Try.func8, Try.ntmps8
    go_wp2_with fail
    exact HP.out _ _ ⟨rfl, rfl⟩
  · have h2 : 200 < n := by omega
    clear h
    refine Sep.calls_post ?_
    intro Post_ hPost_
    have HP := Sep.hid hPost_
    clear hPost_
    go_enter Try.func8, Try.ntmps8
    go_wp2_with fail
    exact HP.out _ _ ⟨rfl, rfl⟩
set_option maxHeartbeats 1600000 in
theorem rIs (p len cap : Nat) (a : Option Addr) (l : List Task) (n s : Int) (hlen : Hid (l.length = len)) (w : World) (hp : w.cell? ⟨p, 0, none⟩ = some (.slice a len cap)) (hts : Hid (∀ k t, l[k]? = some t → TaskAt w a k t)) :
    Calls Try.prog 32 #[.pointer (some ⟨p, 0, none⟩), .int .i64 n, .int .i64 s] w fun en w' => en = .returned (.bool (isSt l n s)) ∧ w' = w := by
  by_cases h0 : 0 ≤ n
  · by_cases h1 : n < len
    · obtain ⟨k, rfl⟩ : ∃ k : Nat, n = (k : Int) := ⟨n.toNat, by omega⟩
      have hk : k < len := by omega
      obtain ⟨t, ht⟩ : ∃ t, l[k]? = some t := ⟨_, List.getElem?_eq_getElem (by rw [hlen.out]; exact hk)⟩
      obtain ⟨b, off, rfl, hc⟩ := hts.out k t ht
      have hc0 : w.cell? ⟨b, off + k * 17, none⟩ = some (.int .i64 t.state) := hc 0 (by omega)
      have hb : isSt l (k : Int) s = (t.state == s) := by unfold isSt; rw [if_pos (by omega), Int.toNat_natCast, ht]
      have Hb := Sep.hid hb
      clear hb hc ht
      rw [Hb.out]
      obtain ⟨q, hq⟩ : ∃ q, (t.state == s) = q := ⟨_, rfl⟩
      rw [hq]
      refine Sep.calls_post ?_
      intro Post_ hPost_
      have HP := Sep.hid hPost_
      clear hPost_
      go_enter Try.func32, Try.ntmps32
      go_wp2_with fail
      exact HP.out _ _ ⟨rfl, rfl⟩
    · have hb : isSt l n s = false := by unfold isSt; rw [if_pos h0, List.getElem?_eq_none (by rw [hlen.out]; omega)]
      rw [hb]; clear hb
      refine Sep.calls_post ?_
      intro Post_ hPost_
      have HP := Sep.hid hPost_
      clear hPost_
      go_enter Try.func32, Try.ntmps32
      go_wp2_with fail
      exact HP.out _ _ ⟨rfl, rfl⟩
  · have hb : isSt l n s = false := by unfold isSt; rw [if_neg h0]
    rw [hb]; clear hb
    refine Sep.calls_post ?_
    intro Post_ hPost_
    have HP := Sep.hid hPost_
    clear hPost_
    go_enter Try.func32, Try.ntmps32
    go_wp2_with fail
    exact HP.out _ _ ⟨rfl, rfl⟩
set_option maxHeartbeats 4000000 in
theorem rBegin (p : Nat) (T : Table) (hT : T.ok) (pr tm : Int) (e w : World) (X : HProp) (hw : Holds e w [X, IsR p T]) :
    Calls Try.prog 10 #[.pointer (some ⟨p, 0, none⟩), .int .i64 pr, .int .i64 tm] w fun en w' => en = .returned (.tuple #[.int .i64 T.beginN, .int .i64 T.beginE]) ∧ Holds e w' [X, IsR p (T.begin_ pr tm)] := by
  have HT := Sep.hid hT; clear hT
  obtain ⟨⟨a, cap⟩, hw⟩ := exL.open_ hw
  have hw := hw.open_ 1 rfl
  (try simp only [List.map_cons, List.map_nil, List.getD_cons_zero, List.getD_cons_succ, List.getD_nil, List.set_cons_zero, List.set_cons_succ, List.cons_append, List.nil_append, Act.eval, Array.getD_eq_getD_getElem?, List.getElem?_toArray, List.getElem?_cons_succ, List.getElem?_cons_zero, Option.getD_some, Value.cells] at hw); (try simp (disch := first | (simp; done) | (simp; omega)) only [Sep.mid_set, Sep.mid_set2, Sep.mid_set0, Sep.mid_splice, Sep.mid_splice0, List.set_cons_zero, List.set_cons_succ] at hw); (try simp only [Sep.splice, List.take_succ_cons, List.take_zero, List.drop_succ_cons, List.drop_zero, List.length_cons, List.length_nil, Nat.reduceAdd, List.cons_append, List.nil_append] at hw)
  obtain ⟨len, hlen'⟩ : ∃ n, T.l.length = n := ⟨_, rfl⟩
  have hlen := Sep.hid hlen'
  rw [hlen'] at hw
  clear hlen'
  (try simp only [List.map_cons, List.map_nil, List.getD_cons_zero, List.getD_cons_succ, List.getD_nil, List.set_cons_zero, List.set_cons_succ, List.cons_append, List.nil_append, Act.eval, Array.getD_eq_getD_getElem?, List.getElem?_toArray, List.getElem?_cons_succ, List.getElem?_cons_zero, Option.getD_some, Value.cells] at hw); (try simp (disch := first | (simp; done) | (simp; omega)) only [Sep.mid_set, Sep.mid_set2, Sep.mid_set0, Sep.mid_splice, Sep.mid_splice0, List.set_cons_zero, List.set_cons_succ] at hw); (try simp only [Sep.splice, List.take_succ_cons, List.take_zero, List.drop_succ_cons, List.drop_zero, List.length_cons, List.length_nil, Nat.reduceAdd, List.cons_append, List.nil_append] at hw)
  (try replace hc0 := Sep.Holds.cells hw (i := 0) rfl); (try replace hc1 := Sep.Holds.cells hw (i := 1) rfl); (try replace hc2 := Sep.Holds.cells hw (i := 2) rfl); (try replace hc3 := Sep.Holds.cells hw (i := 3) rfl); (try replace hc4 := Sep.Holds.cells hw (i := 4) rfl); (try replace hc5 := Sep.Holds.cells hw (i := 5) rfl); (try replace hc6 := Sep.Holds.cells hw (i := 6) rfl)
  have hlm : len ≤ 200 := by have h := HT.out.len; rw [hlen.out] at h; exact h
  have hle : (len : Int) ≤ T.most := by have h := HT.out.1; rw [hlen.out] at h; exact h
  by_cases hf : (len : Int) = T.most
  · have hful : T.full = true := by unfold Table.full; rw [hlen.out]; simp [hf]
    have e1 : T.beginN = -1 := by simp [Table.beginN, hful]
    have e2 : T.beginE = 2 := by simp [Table.beginE, hful]
    have e3 : T.begin_ pr tm = T := by simp [Table.begin_, hful]
    rw [e1, e2, e3]
    have hge : T.most ≤ (len : Int) := by omega
    clear hf hle e1 e2 e3 hful
    refine Sep.calls_post ?_
    intro Post_ hPost_
    have HP := Sep.hid hPost_
    clear hPost_
    go_enter Try.func10, Try.ntmps10
    go_wp2_with fail
    refine wp_region_L [] [(3, (fun w' => w' = w.drew)), (8, (fun w' => w' = w.drew))] (n := 10) (listed := (marks 10 0)) (by kernel_rfl) rfl (by kernel_rfl) ?conds1 ?_
    case conds1 =>
     intro c hc
     simp only [List.mem_cons, List.not_mem_nil, or_false] at hc
     rcases hc with rfl | rfl
     · rfl
     · rfl
    replace hw := hw.drew
    (try replace hc0 := Sep.Holds.cells hw (i := 0) rfl); (try replace hc1 := Sep.Holds.cells hw (i := 1) rfl); (try replace hc2 := Sep.Holds.cells hw (i := 2) rfl); (try replace hc3 := Sep.Holds.cells hw (i := 3) rfl); (try replace hc4 := Sep.Holds.cells hw (i := 4) rfl); (try replace hc5 := Sep.Holds.cells hw (i := 5) rfl); (try replace hc6 := Sep.Holds.cells hw (i := 6) rfl)
    refine wpL_q 0 ?_ rfl (Or.inl ⟨by rfl, fun w_ hS_ => ?_⟩) (marks 10 1) ?_
    rotate_left
    next => (go_simp; try (first | rfl | exact (Bool.not_not _).symm))
    try simp only [Act.put, List.setIfInBounds_toArray, List.set_cons_zero, List.set_cons_succ]
    refine wpL_q 1 ?_ rfl (Or.inl ⟨by rfl, fun w_ hS_ => ?_⟩) (marks 10 3) ?_
    rotate_left
    next => (go_simp; try (first | rfl | exact (Bool.not_not _).symm))
    try simp only [Act.put, List.setIfInBounds_toArray, List.set_cons_zero, List.set_cons_succ]
    refine wpL_q 2 ?_ rfl (Or.inl ⟨by rfl, fun w_ hS_ => ?_⟩) (marks 10 7) ?_
    rotate_left
    next => (go_simp; try (first | rfl | exact (Bool.not_not _).symm))
    try simp only [Act.put, List.setIfInBounds_toArray, List.set_cons_zero, List.set_cons_succ]
    refine wpL_m 3 ?_ rfl (.head _) (Or.inl ⟨by rfl, fun w_ hS_ => ?_⟩) (marks 10 15) ?_
    rotate_left
    next => (subst hS_; go_simp; try (first | rfl | exact (Bool.not_not _).symm))
    try simp only [Act.put, List.setIfInBounds_toArray, List.set_cons_zero, List.set_cons_succ]
    refine wpL_q 4 ?_ rfl (Or.inl ⟨by rfl, fun w_ hS_ => ?_⟩) (marks 10 31) ?_
    rotate_left
    next => (go_simp; try (first | rfl | exact (Bool.not_not _).symm))
    try simp only [Act.put, List.setIfInBounds_toArray, List.set_cons_zero, List.set_cons_succ]
    refine wpL_q 5 ?_ rfl (Or.inl ⟨by rfl, fun w_ hS_ => ?_⟩) (marks 10 63) ?_
    rotate_left
    next => (go_simp; try (first | rfl | exact (Bool.not_not _).symm))
    try simp only [Act.put, List.setIfInBounds_toArray, List.set_cons_zero, List.set_cons_succ]
    refine wpL_q 6 ?_ rfl (Or.inl ⟨by rfl, fun w_ hS_ => ?_⟩) (marks 10 127) ?_
    rotate_left
    next => (go_simp; try (first | rfl | exact (Bool.not_not _).symm))
    try simp only [Act.put, List.setIfInBounds_toArray, List.set_cons_zero, List.set_cons_succ]
    refine wpL_q 7 ?_ rfl (Or.inl ⟨by rfl, fun w_ hS_ => ?_⟩) (marks 10 255) ?_
    rotate_left
    next => (go_simp; try (first | rfl | exact (Bool.not_not _).symm))
    try simp only [Act.put, List.setIfInBounds_toArray, List.set_cons_zero, List.set_cons_succ]
    refine wpL_m 8 ?_ rfl (.tail _ (.head _)) (Or.inl ⟨by rfl, fun w_ hS_ => ?_⟩) (marks 10 511) ?_
    rotate_left
    next => (subst hS_; go_simp; try (first | rfl | exact (Bool.not_not _).symm))
    try simp only [Act.put, List.setIfInBounds_toArray, List.set_cons_zero, List.set_cons_succ]
    refine wpL_q 9 ?_ rfl (Or.inl ⟨by rfl, fun w_ hS_ => ?_⟩) (marks 10 1023) ?_
    rotate_left
    next => (go_simp; try (first | rfl | exact (Bool.not_not _).symm))
    try simp only [Act.put, List.setIfInBounds_toArray, List.set_cons_zero, List.set_cons_succ]
    all_goals refine wpL_done (by kernel_rfl) ?_ _
    go_wp2_with fail
    exact HP.out _ _ ⟨rfl, ref_close hlen.out hw⟩
  · have hful : T.full = false := by unfold Table.full; rw [hlen.out]; simpa using hf
    have e1 : T.beginN = (len : Int) := by simp [Table.beginN, hful, hlen.out]
    have e2 : T.beginE = 0 := by simp [Table.beginE, hful]
    have e3 : T.begin_ pr tm = { T with l := T.l ++ [newTask pr tm] } := by simp [Table.begin_, hful, newTask]
    rw [e1, e2, e3]
    have hlt : (len : Int) < T.most := by omega
    clear hf hle e1 e2 e3 hful
    have Hone := Sep.hid (flatT_one T.l)
    refine Sep.calls_post ?_
    intro Post_ hPost_
    have HP := Sep.hid hPost_
    clear hPost_
    go_enter Try.func10, Try.ntmps10
    go_wp2_with fail
    refine wp_region_L [] [(3, (fun w' => w' = w.drew)), (8, (fun w' => w' = w.drew))] (n := 10) (listed := (marks 10 0)) (by kernel_rfl) rfl (by kernel_rfl) ?conds2 ?_
    case conds2 =>
     intro c hc
     simp only [List.mem_cons, List.not_mem_nil, or_false] at hc
     rcases hc with rfl | rfl
     · rfl
     · rfl
    replace hw := hw.drew
    (try replace hc0 := Sep.Holds.cells hw (i := 0) rfl); (try replace hc1 := Sep.Holds.cells hw (i := 1) rfl); (try replace hc2 := Sep.Holds.cells hw (i := 2) rfl); (try replace hc3 := Sep.Holds.cells hw (i := 3) rfl); (try replace hc4 := Sep.Holds.cells hw (i := 4) rfl); (try replace hc5 := Sep.Holds.cells hw (i := 5) rfl); (try replace hc6 := Sep.Holds.cells hw (i := 6) rfl)
    refine wpL_q 0 ?_ rfl (Or.inl ⟨by rfl, fun w_ hS_ => ?_⟩) (marks 10 1) ?_
    rotate_left
    next => (go_simp; try (first | rfl | exact (Bool.not_not _).symm))
    try simp only [Act.put, List.setIfInBounds_toArray, List.set_cons_zero, List.set_cons_succ]
    refine wpL_q 1 ?_ rfl (Or.inl ⟨by rfl, fun w_ hS_ => ?_⟩) (marks 10 3) ?_
    rotate_left
    next => (go_simp; try (first | rfl | exact (Bool.not_not _).symm))
    try simp only [Act.put, List.setIfInBounds_toArray, List.set_cons_zero, List.set_cons_succ]
    refine wpL_q 2 ?_ rfl (Or.inl ⟨by rfl, fun w_ hS_ => ?_⟩) (marks 10 7) ?_
    rotate_left
    next => (go_simp; try (first | rfl | exact (Bool.not_not _).symm))
    try simp only [Act.put, List.setIfInBounds_toArray, List.set_cons_zero, List.set_cons_succ]
    refine wpL_m 3 ?_ rfl (.head _) (Or.inl ⟨by rfl, fun w_ hS_ => ?_⟩) (marks 10 15) ?_
    rotate_left
    next => (subst hS_; go_simp; try (first | rfl | exact (Bool.not_not _).symm))
    try simp only [Act.put, List.setIfInBounds_toArray, List.set_cons_zero, List.set_cons_succ]
    refine wpL_q 4 ?_ rfl (Or.inl ⟨by rfl, fun w_ hS_ => ?_⟩) (marks 10 31) ?_
    rotate_left
    next => (go_simp; try (first | rfl | exact (Bool.not_not _).symm))
    try simp only [Act.put, List.setIfInBounds_toArray, List.set_cons_zero, List.set_cons_succ]
    refine wpL_q 5 ?_ rfl (Or.inl ⟨by rfl, fun w_ hS_ => ?_⟩) (marks 10 63) ?_
    rotate_left
    next => (go_simp; try (first | rfl | exact (Bool.not_not _).symm))
    try simp only [Act.put, List.setIfInBounds_toArray, List.set_cons_zero, List.set_cons_succ]
    refine wpL_q 6 ?_ rfl (Or.inl ⟨by rfl, fun w_ hS_ => ?_⟩) (marks 10 127) ?_
    rotate_left
    next => (go_simp; try (first | rfl | exact (Bool.not_not _).symm))
    try simp only [Act.put, List.setIfInBounds_toArray, List.set_cons_zero, List.set_cons_succ]
    refine wpL_q 7 ?_ rfl (Or.inl ⟨by rfl, fun w_ hS_ => ?_⟩) (marks 10 255) ?_
    rotate_left
    next => (go_simp; try (first | rfl | exact (Bool.not_not _).symm))
    try simp only [Act.put, List.setIfInBounds_toArray, List.set_cons_zero, List.set_cons_succ]
    refine wpL_m 8 ?_ rfl (.tail _ (.head _)) (Or.inl ⟨by rfl, fun w_ hS_ => ?_⟩) (marks 10 511) ?_
    rotate_left
    next => (subst hS_; go_simp; try (first | rfl | exact (Bool.not_not _).symm))
    try simp only [Act.put, List.setIfInBounds_toArray, List.set_cons_zero, List.set_cons_succ]
    refine wpL_q 9 ?_ rfl (Or.inl ⟨by rfl, fun w_ hS_ => ?_⟩) (marks 10 1023) ?_
    rotate_left
    next => (go_simp; try (first | rfl | exact (Bool.not_not _).symm))
    try simp only [Act.put, List.setIfInBounds_toArray, List.set_cons_zero, List.set_cons_succ]
    all_goals refine wpL_done (by kernel_rfl) ?_ _
    go_wp2_with (first | (refine wpList_on rfl (wp_bsl0 rfl hw ?_); intro b_ w_ hw_; replace hw_ := hw_.newSl (i := 3) rfl 17 0 rfl (by decide); clear hw; have hw := hw_; clear hw_; (try simp only [List.map_cons, List.map_nil, List.getD_cons_zero, List.getD_cons_succ, List.getD_nil, List.set_cons_zero, List.set_cons_succ, List.cons_append, List.nil_append, Act.eval, Array.getD_eq_getD_getElem?, List.getElem?_toArray, List.getElem?_cons_succ, List.getElem?_cons_zero, Option.getD_some, Value.cells] at hw); (try simp (disch := first | (simp; done) | (simp; omega)) only [Sep.mid_set, Sep.mid_set2, Sep.mid_set0, Sep.mid_splice, Sep.mid_splice0, List.set_cons_zero, List.set_cons_succ] at hw); (try simp only [Sep.splice, List.take_succ_cons, List.take_zero, List.drop_succ_cons, List.drop_zero, List.length_cons, List.length_nil, Nat.reduceAdd, List.cons_append, List.nil_append] at hw); (try replace hc0 := Sep.Holds.cells hw (i := 0) rfl); (try replace hc1 := Sep.Holds.cells hw (i := 1) rfl); (try replace hc2 := Sep.Holds.cells hw (i := 2) rfl); (try replace hc3 := Sep.Holds.cells hw (i := 3) rfl); (try replace hc4 := Sep.Holds.cells hw (i := 4) rfl); (try replace hc5 := Sep.Holds.cells hw (i := 5) rfl); (try replace hc6 := Sep.Holds.cells hw (i := 6) rfl)) | (at_builtin; refine wpList_on rfl (wp_appendSl (i := 3) (j := 2) (u := .slice a len cap) rfl rfl hw rfl rfl rfl Hone.out (by rfl) (by (try unfold maxLen); omega) (by (try unfold maxLen); omega) ?_); intro a2_ cap2_ w_ hw_; (try simp only [Nat.zero_add, List.nil_append] at hw_); clear hw; have hw := hw_; clear hw_; (try simp only [List.map_cons, List.map_nil, List.getD_cons_zero, List.getD_cons_succ, List.getD_nil, List.set_cons_zero, List.set_cons_succ, List.cons_append, List.nil_append, Act.eval, Array.getD_eq_getD_getElem?, List.getElem?_toArray, List.getElem?_cons_succ, List.getElem?_cons_zero, Option.getD_some, Value.cells] at hw); (try simp (disch := first | (simp; done) | (simp; omega)) only [Sep.mid_set, Sep.mid_set2, Sep.mid_set0, Sep.mid_splice, Sep.mid_splice0, List.set_cons_zero, List.set_cons_succ] at hw); (try simp only [Sep.splice, List.take_succ_cons, List.take_zero, List.drop_succ_cons, List.drop_zero, List.length_cons, List.length_nil, Nat.reduceAdd, List.cons_append, List.nil_append] at hw); (try replace hc0 := Sep.Holds.cells hw (i := 0) rfl); (try replace hc1 := Sep.Holds.cells hw (i := 1) rfl); (try replace hc2 := Sep.Holds.cells hw (i := 2) rfl); (try replace hc3 := Sep.Holds.cells hw (i := 3) rfl); (try replace hc4 := Sep.Holds.cells hw (i := 4) rfl); (try replace hc5 := Sep.Holds.cells hw (i := 5) rfl); (try replace hc6 := Sep.Holds.cells hw (i := 6) rfl)) | (refine wpList_on rfl (wp_bsl1 rfl rfl (by rfl) (by rfl) (by decide) hw ?_); intro b_ w_ hw_; clear hw; have hw := hw_; clear hw_; (try simp only [List.map_cons, List.map_nil, List.getD_cons_zero, List.getD_cons_succ, List.getD_nil, List.set_cons_zero, List.set_cons_succ, List.cons_append, List.nil_append, Act.eval, Array.getD_eq_getD_getElem?, List.getElem?_toArray, List.getElem?_cons_succ, List.getElem?_cons_zero, Option.getD_some, Value.cells] at hw); (try simp (disch := first | (simp; done) | (simp; omega)) only [Sep.mid_set, Sep.mid_set2, Sep.mid_set0, Sep.mid_splice, Sep.mid_splice0, List.set_cons_zero, List.set_cons_succ] at hw); (try simp only [Sep.splice, List.take_succ_cons, List.take_zero, List.drop_succ_cons, List.drop_zero, List.length_cons, List.length_nil, Nat.reduceAdd, List.cons_append, List.nil_append] at hw); (try replace hc0 := Sep.Holds.cells hw (i := 0) rfl); (try replace hc1 := Sep.Holds.cells hw (i := 1) rfl); (try replace hc2 := Sep.Holds.cells hw (i := 2) rfl); (try replace hc3 := Sep.Holds.cells hw (i := 3) rfl); (try replace hc4 := Sep.Holds.cells hw (i := 4) rfl); (try replace hc5 := Sep.Holds.cells hw (i := 5) rfl); (try replace hc6 := Sep.Holds.cells hw (i := 6) rfl)) | (at_builtin; refine wpList_on rfl (wp_appendPt (i := 3) (j := 4) rfl rfl hw rfl rfl rfl (by rfl) (by simp [Value.oneCell']) (by decide) (by rfl) (by (try unfold maxLen); omega) (by (try unfold maxLen); omega) ?_); intro b2_ cap2_ off2_ w_ hcap2_ hw_; clear hw; have hw := hw_; clear hw_; (try simp only [List.map_cons, List.map_nil, List.getD_cons_zero, List.getD_cons_succ, List.getD_nil, List.set_cons_zero, List.set_cons_succ, List.cons_append, List.nil_append, Act.eval, Array.getD_eq_getD_getElem?, List.getElem?_toArray, List.getElem?_cons_succ, List.getElem?_cons_zero, Option.getD_some, Value.cells] at hw); (try simp (disch := first | (simp; done) | (simp; omega)) only [Sep.mid_set, Sep.mid_set2, Sep.mid_set0, Sep.mid_splice, Sep.mid_splice0, List.set_cons_zero, List.set_cons_succ] at hw); (try simp only [Sep.splice, List.take_succ_cons, List.take_zero, List.drop_succ_cons, List.drop_zero, List.length_cons, List.length_nil, Nat.reduceAdd, List.cons_append, List.nil_append] at hw); (try replace hc0 := Sep.Holds.cells hw (i := 0) rfl); (try replace hc1 := Sep.Holds.cells hw (i := 1) rfl); (try replace hc2 := Sep.Holds.cells hw (i := 2) rfl); (try replace hc3 := Sep.Holds.cells hw (i := 3) rfl); (try replace hc4 := Sep.Holds.cells hw (i := 4) rfl); (try replace hc5 := Sep.Holds.cells hw (i := 5) rfl); (try replace hc6 := Sep.Holds.cells hw (i := 6) rfl)) | (refine wpList_on rfl (wp_store1 (v := _) rfl rfl rfl hw (i := 1) rfl (by simp [Sep.mid_length, Act.eval, Value.cells]; try omega) rfl ?_); intro w_ hw_; clear hw; have hw := hw_; clear hw_; (try simp only [List.map_cons, List.map_nil, List.getD_cons_zero, List.getD_cons_succ, List.getD_nil, List.set_cons_zero, List.set_cons_succ, List.cons_append, List.nil_append, Act.eval, Array.getD_eq_getD_getElem?, List.getElem?_toArray, List.getElem?_cons_succ, List.getElem?_cons_zero, Option.getD_some, Value.cells] at hw); (try simp (disch := first | (simp; done) | (simp; omega)) only [Sep.mid_set, Sep.mid_set2, Sep.mid_set0, Sep.mid_splice, Sep.mid_splice0, List.set_cons_zero, List.set_cons_succ] at hw); (try simp only [Sep.splice, List.take_succ_cons, List.take_zero, List.drop_succ_cons, List.drop_zero, List.length_cons, List.length_nil, Nat.reduceAdd, List.cons_append, List.nil_append] at hw); (try replace hc0 := Sep.Holds.cells hw (i := 0) rfl); (try replace hc1 := Sep.Holds.cells hw (i := 1) rfl); (try replace hc2 := Sep.Holds.cells hw (i := 2) rfl); (try replace hc3 := Sep.Holds.cells hw (i := 3) rfl); (try replace hc4 := Sep.Holds.cells hw (i := 4) rfl); (try replace hc5 := Sep.Holds.cells hw (i := 5) rfl); (try replace hc6 := Sep.Holds.cells hw (i := 6) rfl)))
    have hfl : (T.l ++ [newTask pr tm]).flatMap encT = T.l.flatMap encT ++ encT (newTask pr tm) := by rw [List.flatMap_append]; rfl
    refine HP.out _ _ ⟨rfl, ref_close (T := { T with l := T.l ++ [newTask pr tm] }) (a := some ⟨b2_, off2_, none⟩) (cap := cap2_) (len := len + 1) (by simp [hlen.out]) ?_⟩
    rw [hfl]
    exact hw.sel [0, 1, 3] (by decide)
set_option maxHeartbeats 4000000 in
theorem rGo (p : Nat) (T : Table) (n at_ : Int) (e w : World) (X : HProp) (hw : Holds e w [X, IsR p T]) :
    Calls Try.prog 11 #[.pointer (some ⟨p, 0, none⟩), .int .i64 n, .int .i64 at_] w fun en w' => en = .returned (.bool (T.can n ready)) ∧ Holds e w' [X, IsR p (T.change n ready (goG at_))] := by
  have Hw0 := Sep.hid hw
  obtain ⟨⟨a, cap⟩, hw⟩ := exL.open_ hw
  have hw := hw.open_ 1 rfl
  (try simp only [List.map_cons, List.map_nil, List.getD_cons_zero, List.getD_cons_succ, List.getD_nil, List.set_cons_zero, List.set_cons_succ, List.cons_append, List.nil_append, Act.eval, Array.getD_eq_getD_getElem?, List.getElem?_toArray, List.getElem?_cons_succ, List.getElem?_cons_zero, Option.getD_some, Value.cells] at hw); (try simp (disch := first | (simp; done) | (simp; omega)) only [Sep.mid_set, Sep.mid_set2, Sep.mid_set0, Sep.mid_splice, Sep.mid_splice0, List.set_cons_zero, List.set_cons_succ] at hw); (try simp only [Sep.splice, List.take_succ_cons, List.take_zero, List.drop_succ_cons, List.drop_zero, List.length_cons, List.length_nil, Nat.reduceAdd, List.cons_append, List.nil_append] at hw)
  obtain ⟨len, hlen'⟩ : ∃ n, T.l.length = n := ⟨_, rfl⟩
  have hlen := Sep.hid hlen'
  rw [hlen'] at hw
  clear hlen'
  (try simp only [List.map_cons, List.map_nil, List.getD_cons_zero, List.getD_cons_succ, List.getD_nil, List.set_cons_zero, List.set_cons_succ, List.cons_append, List.nil_append, Act.eval, Array.getD_eq_getD_getElem?, List.getElem?_toArray, List.getElem?_cons_succ, List.getElem?_cons_zero, Option.getD_some, Value.cells] at hw); (try simp (disch := first | (simp; done) | (simp; omega)) only [Sep.mid_set, Sep.mid_set2, Sep.mid_set0, Sep.mid_splice, Sep.mid_splice0, List.set_cons_zero, List.set_cons_succ] at hw); (try simp only [Sep.splice, List.take_succ_cons, List.take_zero, List.drop_succ_cons, List.drop_zero, List.length_cons, List.length_nil, Nat.reduceAdd, List.cons_append, List.nil_append] at hw)
  (try replace hc0 := Sep.Holds.cells hw (i := 0) rfl); (try replace hc1 := Sep.Holds.cells hw (i := 1) rfl); (try replace hc2 := Sep.Holds.cells hw (i := 2) rfl); (try replace hc3 := Sep.Holds.cells hw (i := 3) rfl); (try replace hc4 := Sep.Holds.cells hw (i := 4) rfl); (try replace hc5 := Sep.Holds.cells hw (i := 5) rfl); (try replace hc6 := Sep.Holds.cells hw (i := 6) rfl)
  cases hc : T.can n ready with
  | false =>
    rw [Table.change_no hc]
    have Hs : Hid (isSt T.l n 1 = false) := Sep.hid (by rw [← can_ready]; exact hc)
    clear hc
    refine Sep.calls_post ?_
    intro Post_ hPost_
    have HP := Sep.hid hPost_
    clear hPost_
    go_enter Try.func11, Try.ntmps11
    go_wp2_with fail
    refine (rIs p len cap a T.l n 1 hlen _ (hc1 0) (Sep.hid (fun k t ht => task_at (i := 2) hw rfl hlen.out ht))).mono ?_
    rintro _ w_ ⟨rfl, rfl⟩
    rw [Hs.out]
    go_wp2_with fail
    exact HP.out _ _ ⟨rfl, Hw0.out⟩
  | true =>
    have Hs : Hid (isSt T.l n 1 = true) := Sep.hid (by rw [← can_ready]; exact hc)
    obtain ⟨k, t, rfl, ht, hs⟩ := isSt_get Hs.out
    have Ht := Sep.hid ht
    obtain ⟨b, off, hab, _⟩ := task_at (i := 2) hw rfl hlen.out ht
    subst hab
    have hk : k < len := by have := (List.getElem?_eq_some_iff.1 ht).1; rw [hlen.out] at this; exact this
    have Hj : Hid (k * 17 + 17 ≤ (T.l.flatMap encT).length) := Sep.hid (by rw [flat_len (f := encT) encT_length, hlen.out]; omega)
    clear ht
    rw [change_at hc Ht.out]
    clear hc hs
    refine Sep.calls_post ?_
    intro Post_ hPost_
    have HP := Sep.hid hPost_
    clear hPost_
    go_enter Try.func11, Try.ntmps11
    go_wp2_with fail
    refine (rIs p len cap (some ⟨b, off, none⟩) T.l k 1 hlen _ (hc1 0) (Sep.hid (fun k t ht => task_at (i := 2) hw rfl hlen.out ht))).mono ?_
    rintro _ w_ ⟨rfl, rfl⟩
    rw [Hs.out]
    go_wp2_with (refine wpList_on rfl (wp_storeSl' (i := 2) (j := k * 17 + 2) rfl rfl rfl hw rfl (by have := Hj.out; omega) rfl ?_); intro w_ hw_; clear hw; have hw := hw_; clear hw_; (try simp only [List.map_cons, List.map_nil, List.getD_cons_zero, List.getD_cons_succ, List.getD_nil, List.set_cons_zero, List.set_cons_succ, List.cons_append, List.nil_append, Act.eval, Array.getD_eq_getD_getElem?, List.getElem?_toArray, List.getElem?_cons_succ, List.getElem?_cons_zero, Option.getD_some, Value.cells] at hw); (try simp (disch := first | (simp; done) | (simp; omega)) only [Sep.mid_set, Sep.mid_set2, Sep.mid_set0, Sep.mid_splice, Sep.mid_splice0, List.set_cons_zero, List.set_cons_succ] at hw); (try simp only [Sep.splice, List.take_succ_cons, List.take_zero, List.drop_succ_cons, List.drop_zero, List.length_cons, List.length_nil, Nat.reduceAdd, List.cons_append, List.nil_append] at hw); (try replace hc0 := Sep.Holds.cells hw (i := 0) rfl); (try replace hc1 := Sep.Holds.cells hw (i := 1) rfl); (try replace hc2 := Sep.Holds.cells hw (i := 2) rfl); (try replace hc3 := Sep.Holds.cells hw (i := 3) rfl); (try replace hc4 := Sep.Holds.cells hw (i := 4) rfl); (try replace hc5 := Sep.Holds.cells hw (i := 5) rfl); (try replace hc6 := Sep.Holds.cells hw (i := 6) rfl))
    rw [flat_put (b := goG at_ t) encT_length Ht.out (by omega) rfl] at hw
    exact HP.out _ _ ⟨rfl, ref_close (T := { T with l := T.l.set k (goG at_ t) }) (by simp [hlen.out]) hw⟩
end Go.Proofs.Ytmoikkfhlnogbaa
