/-
  The document's own tree: New, Put, Add, Over, Kids.
-/
import Derived.Test.YtlegkikglpogkaaTreeAw
namespace Go.Proofs.Ytlegkikglpogkaa
set_option linter.unusedSimpArgs false
set_option linter.unusedVariables false
open Go.RowKit Go.Sep Go.TreeM

def encR (x : Nd) : List Value := [.int .i64 x.over, .bool x.cut]
theorem encR_length (x : Nd) : (encR x).length = 2 := rfl
theorem encR_one (l : List Nd) : ∀ v ∈ l.flatMap encR, v.oneCell' = true := by
  intro v hv
  obtain ⟨x, _, hx⟩ := List.mem_flatMap.1 hv
  simp [encR] at hx
  rcases hx with rfl | rfl <;> rfl
def refParts (p : Nat) (T : Tree) (x : Option Addr × Nat) : List HProp := [pt p [.slice x.1 T.l.length x.2, .int .i64 T.most] 39, Sl 43 2 (.slice x.1 T.l.length x.2) T.l.length (T.l.flatMap encR)]
def IsRef (p : Nat) (T : Tree) : HProp := exL (refParts p T)
def RNodesAt (w : World) (a : Option Addr) (l : List Nd) : Prop := ∀ (k : Nat) (x : Nd), l[k]? = some x → ∃ b off, a = some ⟨b, off, none⟩ ∧ w.cell? ⟨b, off + k * 2, none⟩ = some (.int .i64 x.over) ∧ w.cell? ⟨b, off + k * 2 + 1, none⟩ = some (.bool x.cut)
theorem rnodes_at {e w : World} {L : List HProp} {i n ca : Nat} {a : Option Addr} {l : List Nd} (hw : Holds e w L) (hi : L[i]? = some (Sl 43 2 (.slice a n ca) n (l.flatMap encR))) (hn : l.length = n) : RNodesAt w a l := by
  intro k x hx
  have hk := (List.getElem?_eq_some_iff.1 hx).1
  have hln : (l.flatMap encR).length = n * 2 := hw.fact hi (fun _ h => h.1)
  rcases hw.openSl hi with ⟨_, h2, _⟩ | ⟨b, cap, pre, post, hv', _, _, _, hw'⟩
  · omega
  · cases hv'
    have hil : i < L.length := (List.getElem?_eq_some_iff.1 hi).1
    have hc : ∀ j, j < 2 → w.cell? ⟨b, pre.length + k * 2 + j, none⟩ = (encR x)[j]? := fun j hj => by
      rw [Nat.add_assoc, hw'.cells (List.getElem?_set_self hil), Sep.mid_get _ _ _ _ (by omega), flat_get encR_length hx hj]
    exact ⟨b, pre.length, rfl, hc 0 (by omega), hc 1 (by omega)⟩
theorem ref_close {e w : World} {X : HProp} {p len cap : Nat} {T : Tree} {a : Option Addr} (hlen : T.l.length = len)
    (hw : Holds e w [X, pt p [.slice a len cap, .int .i64 T.most] 39, Sl 43 2 (.slice a len cap) len (T.l.flatMap encR)]) : Holds e w [X, IsRef p T] := by
  subst hlen
  exact exL.mk (f := refParts p T) (a, cap) hw
theorem ref_close2 {e w : World} {X Y : HProp} {p len cap : Nat} {T : Tree} {a : Option Addr} (hlen : T.l.length = len)
    (hw : Holds e w [X, pt p [.slice a len cap, .int .i64 T.most] 39, Sl 43 2 (.slice a len cap) len (T.l.flatMap encR), Y]) : Holds e w [X, IsRef p T, Y] := by
  have h1 := Holds.group [X, Y] _ (hw.sel [0, 3, 1, 2] (by decide))
  exact (Holds.ungroup [X, Y] _ (ref_close hlen h1)).sel [0, 2, 1] (by decide)
set_option maxHeartbeats 800000 in
theorem rNew_ok (n : Int) (n1 : 1 ≤ n) (n2 : n ≤ 200) (e w : World) (X : HProp) (hw : Holds e w [X]) :
    Calls Try.prog 8 #[.int .i64 n] w fun en w' => ∃ p, en = .returned (.tuple #[.pointer (some ⟨p, 0, none⟩), .int .i64 0]) ∧ Holds e w' [X, IsRef p ⟨[], n⟩] := by
  refine Sep.calls_post ?_
  intro Post_ hPost_
  have HP := Sep.hid hPost_
  clear hPost_
  go_enter Try.func8, Try.ntmps8
  go_wp2_with (refine wpList_on rfl (wp_box rfl hw ?_); intro b_ w_ hw_; clear hw; have hw := hw_; clear hw_; (try simp only [List.map_cons, List.map_nil, List.getD_cons_zero, List.getD_cons_succ, List.getD_nil, List.set_cons_zero, List.set_cons_succ, List.cons_append, List.nil_append, Act.eval, Array.getD_eq_getD_getElem?, List.getElem?_toArray, List.getElem?_cons_succ, List.getElem?_cons_zero, Option.getD_some, Value.cells] at hw); (try simp (disch := first | (simp; done) | (simp; omega)) only [Sep.mid_set, Sep.mid_set2, Sep.mid_set0, Sep.mid_splice, Sep.mid_splice0, List.set_cons_zero, List.set_cons_succ] at hw); (try simp only [Sep.splice, List.take_succ_cons, List.take_zero, List.drop_succ_cons, List.drop_zero, List.length_cons, List.length_nil, Nat.reduceAdd, List.cons_append, List.nil_append] at hw); (try replace hc0 := Sep.Holds.cells hw (i := 0) rfl); (try replace hc1 := Sep.Holds.cells hw (i := 1) rfl); (try replace hc2 := Sep.Holds.cells hw (i := 2) rfl); (try replace hc3 := Sep.Holds.cells hw (i := 3) rfl); (try replace hc4 := Sep.Holds.cells hw (i := 4) rfl); (try replace hc5 := Sep.Holds.cells hw (i := 5) rfl); (try replace hc6 := Sep.Holds.cells hw (i := 6) rfl))
  refine HP.out _ _ ⟨_, rfl, ?_⟩
  exact exL.mk (f := refParts _ ⟨[], n⟩) (none, 0) (hw.addEmp (Sl.nil _ _ _))
set_option maxHeartbeats 800000 in
theorem rNew_no (n : Int) (h : n < 1 ∨ 200 < n) (w : World) :
    Calls Try.prog 8 #[.int .i64 n] w fun en w' => en = .returned (.tuple #[.pointer none, .int .i64 1]) ∧ w' = w := by
  by_cases h1 : n < 1
  · clear h
    refine Sep.calls_post ?_
    intro Post_ hPost_
    have HP := Sep.hid hPost_
    clear hPost_
    go_enter Try.func8, Try.ntmps8
    go_wp2_with fail
    exact HP.out _ _ ⟨rfl, rfl⟩
  · have h2 : 200 < n := by omega
    clear h
    refine Sep.calls_post ?_
    intro Post_ hPost_
    have HP := Sep.hid hPost_
    clear hPost_
    go_enter Try.func8, Try.ntmps8
    go_wp2_with fail
    exact HP.out _ _ ⟨rfl, rfl⟩
set_option maxHeartbeats 1600000 in
theorem rThere (p len cap : Nat) (a : Option Addr) (l : List Nd) (n : Int) (hlen : Hid (l.length = len)) (w : World) (hp : w.cell? ⟨p, 0, none⟩ = some (.slice a len cap)) :
    Calls Try.prog 16 #[.pointer (some ⟨p, 0, none⟩), .int .i64 n] w fun en w' => en = .returned (.bool (there l n)) ∧ w' = w := by
  by_cases h0 : 0 ≤ n
  · by_cases h1 : n < len
    · have hb : there l n = true := there_iff.2 ⟨h0, by rw [hlen.out]; exact h1⟩
      rw [hb]; clear hb
      refine Sep.calls_post ?_
      intro Post_ hPost_
      have HP := Sep.hid hPost_
      clear hPost_
      go_enter Try.func16, Try.ntmps16
      go_wp2_with fail
      exact HP.out _ _ ⟨rfl, rfl⟩
    · have hb : there l n = false := by unfold there; rw [hlen.out]; simp; omega
      rw [hb]; clear hb
      refine Sep.calls_post ?_
      intro Post_ hPost_
      have HP := Sep.hid hPost_
      clear hPost_
      go_enter Try.func16, Try.ntmps16
      go_wp2_with fail
      exact HP.out _ _ ⟨rfl, rfl⟩
  · have hb : there l n = false := by unfold there; simp; omega
    rw [hb]; clear hb
    refine Sep.calls_post ?_
    intro Post_ hPost_
    have HP := Sep.hid hPost_
    clear hPost_
    go_enter Try.func16, Try.ntmps16
    go_wp2_with fail
    exact HP.out _ _ ⟨rfl, rfl⟩
set_option maxHeartbeats 1600000 in
theorem rOver (p len cap : Nat) (a : Option Addr) (l : List Nd) (n : Int) (hlen : Hid (l.length = len)) (w : World) (hp : w.cell? ⟨p, 0, none⟩ = some (.slice a len cap)) (hns : Hid (RNodesAt w a l)) :
    Calls Try.prog 14 #[.pointer (some ⟨p, 0, none⟩), .int .i64 n] w fun en w' => en = .returned (.int .i64 (overOf l n)) ∧ w' = w := by
  cases hb : there l n with
  | false =>
    rw [over_neg hb]
    have Hb := Sep.hid hb; clear hb
    refine Sep.calls_post ?_
    intro Post_ hPost_
    have HP := Sep.hid hPost_
    clear hPost_
    go_enter Try.func14, Try.ntmps14
    go_wp2_with fail
    refine (rThere p len cap a l n hlen _ hp).mono ?_
    rintro _ w_ ⟨rfl, rfl⟩
    rw [Hb.out]
    go_wp2_with fail
    exact HP.out _ _ ⟨rfl, rfl⟩
  | true =>
    obtain ⟨k, x, rfl, hk, hx, _⟩ := there_get hb
    rw [(get_there hx).2.2.1]
    obtain ⟨b, off, rfl, h0, h1⟩ := hns.out k x hx
    rw [hlen.out] at hk
    have Hb := Sep.hid hb; clear hb hx
    refine Sep.calls_post ?_
    intro Post_ hPost_
    have HP := Sep.hid hPost_
    clear hPost_
    go_enter Try.func14, Try.ntmps14
    go_wp2_with fail
    refine (rThere p len cap _ l k hlen _ hp).mono ?_
    rintro _ w_ ⟨rfl, rfl⟩
    rw [Hb.out]
    go_wp2_with fail
    exact HP.out _ _ ⟨rfl, rfl⟩
set_option maxHeartbeats 4000000 in
theorem rPut (p : Nat) (T : Tree) (hT : T.Ok) (over : Int) (cut : Bool) (e w : World) (X : HProp) (hw : Holds e w [X, IsRef p T]) :
    Calls Try.prog 10 #[.pointer (some ⟨p, 0, none⟩), .int .i64 over, .bool cut] w fun en w' => en = .returned (.tuple #[.int .i64 (T.put ⟨over, cut⟩).1.1, .int .i64 (T.put ⟨over, cut⟩).1.2]) ∧ Holds e w' [X, IsRef p (T.put ⟨over, cut⟩).2] := by
  have Hw0 := Sep.hid hw
  have HT := Sep.hid hT; clear hT
  obtain ⟨⟨a, cap⟩, hw⟩ := exL.open_ hw
  have hw := hw.open_ 1 rfl
  (try simp only [List.map_cons, List.map_nil, List.getD_cons_zero, List.getD_cons_succ, List.getD_nil, List.set_cons_zero, List.set_cons_succ, List.cons_append, List.nil_append, Act.eval, Array.getD_eq_getD_getElem?, List.getElem?_toArray, List.getElem?_cons_succ, List.getElem?_cons_zero, Option.getD_some, Value.cells] at hw); (try simp (disch := first | (simp; done) | (simp; omega)) only [Sep.mid_set, Sep.mid_set2, Sep.mid_set0, Sep.mid_splice, Sep.mid_splice0, List.set_cons_zero, List.set_cons_succ] at hw); (try simp only [Sep.splice, List.take_succ_cons, List.take_zero, List.drop_succ_cons, List.drop_zero, List.length_cons, List.length_nil, Nat.reduceAdd, List.cons_append, List.nil_append] at hw)
  obtain ⟨len, hlen'⟩ : ∃ n, T.l.length = n := ⟨_, rfl⟩
  have hlen := Sep.hid hlen'
  rw [hlen'] at hw
  clear hlen'
  (try simp only [List.map_cons, List.map_nil, List.getD_cons_zero, List.getD_cons_succ, List.getD_nil, List.set_cons_zero, List.set_cons_succ, List.cons_append, List.nil_append, Act.eval, Array.getD_eq_getD_getElem?, List.getElem?_toArray, List.getElem?_cons_succ, List.getElem?_cons_zero, Option.getD_some, Value.cells] at hw); (try simp (disch := first | (simp; done) | (simp; omega)) only [Sep.mid_set, Sep.mid_set2, Sep.mid_set0, Sep.mid_splice, Sep.mid_splice0, List.set_cons_zero, List.set_cons_succ] at hw); (try simp only [Sep.splice, List.take_succ_cons, List.take_zero, List.drop_succ_cons, List.drop_zero, List.length_cons, List.length_nil, Nat.reduceAdd, List.cons_append, List.nil_append] at hw)
  (try replace hc0 := Sep.Holds.cells hw (i := 0) rfl); (try replace hc1 := Sep.Holds.cells hw (i := 1) rfl); (try replace hc2 := Sep.Holds.cells hw (i := 2) rfl); (try replace hc3 := Sep.Holds.cells hw (i := 3) rfl); (try replace hc4 := Sep.Holds.cells hw (i := 4) rfl); (try replace hc5 := Sep.Holds.cells hw (i := 5) rfl); (try replace hc6 := Sep.Holds.cells hw (i := 6) rfl)
  have hlm : len ≤ 200 := by have h := HT.out.2; rw [hlen.out] at h; omega
  have hle : (len : Int) ≤ T.most := by have h := HT.out.2.1; rw [hlen.out] at h; exact h
  by_cases hf : (len : Int) = T.most
  · rw [put_full (by rw [hlen.out]; exact hf)]
    have hge : T.most ≤ (len : Int) := by omega
    clear hf hle
    refine Sep.calls_post ?_
    intro Post_ hPost_
    have HP := Sep.hid hPost_
    clear hPost_
    go_enter Try.func10, Try.ntmps10
    go_wp2_with fail
    refine wp_region_L [] [(3, (fun w' => w' = w.drew)), (8, (fun w' => w' = w.drew))] (n := 10) (listed := (marks 10 0)) (by kernel_rfl) rfl (by kernel_rfl) ?conds1 ?_
    case conds1 =>
     intro c hc
     simp only [List.mem_cons, List.not_mem_nil, or_false] at hc
     rcases hc with rfl | rfl
     · rfl
     · rfl
    replace hw := hw.drew
    (try replace hc0 := Sep.Holds.cells hw (i := 0) rfl); (try replace hc1 := Sep.Holds.cells hw (i := 1) rfl); (try replace hc2 := Sep.Holds.cells hw (i := 2) rfl); (try replace hc3 := Sep.Holds.cells hw (i := 3) rfl); (try replace hc4 := Sep.Holds.cells hw (i := 4) rfl); (try replace hc5 := Sep.Holds.cells hw (i := 5) rfl); (try replace hc6 := Sep.Holds.cells hw (i := 6) rfl)
    refine wpL_q 0 ?_ rfl (Or.inl ⟨by rfl, fun w_ hS_ => ?_⟩) (marks 10 1) ?_
    rotate_left
    next => (go_simp; try (first | rfl | exact (Bool.not_not _).symm))
    try simp only [Act.put, List.setIfInBounds_toArray, List.set_cons_zero, List.set_cons_succ]
    refine wpL_q 1 ?_ rfl (Or.inl ⟨by rfl, fun w_ hS_ => ?_⟩) (marks 10 3) ?_
    rotate_left
    next => (go_simp; try (first | rfl | exact (Bool.not_not _).symm))
    try simp only [Act.put, List.setIfInBounds_toArray, List.set_cons_zero, List.set_cons_succ]
    refine wpL_q 2 ?_ rfl (Or.inl ⟨by rfl, fun w_ hS_ => ?_⟩) (marks 10 7) ?_
    rotate_left
    next => (go_simp; try (first | rfl | exact (Bool.not_not _).symm))
    try simp only [Act.put, List.setIfInBounds_toArray, List.set_cons_zero, List.set_cons_succ]
    refine wpL_m 3 ?_ rfl (.head _) (Or.inl ⟨by rfl, fun w_ hS_ => ?_⟩) (marks 10 15) ?_
    rotate_left
    next => (subst hS_; go_simp; try (first | rfl | exact (Bool.not_not _).symm))
    try simp only [Act.put, List.setIfInBounds_toArray, List.set_cons_zero, List.set_cons_succ]
    refine wpL_q 4 ?_ rfl (Or.inl ⟨by rfl, fun w_ hS_ => ?_⟩) (marks 10 31) ?_
    rotate_left
    next => (go_simp; try (first | rfl | exact (Bool.not_not _).symm))
    try simp only [Act.put, List.setIfInBounds_toArray, List.set_cons_zero, List.set_cons_succ]
    refine wpL_q 5 ?_ rfl (Or.inl ⟨by rfl, fun w_ hS_ => ?_⟩) (marks 10 63) ?_
    rotate_left
    next => (go_simp; try (first | rfl | exact (Bool.not_not _).symm))
    try simp only [Act.put, List.setIfInBounds_toArray, List.set_cons_zero, List.set_cons_succ]
    refine wpL_q 6 ?_ rfl (Or.inl ⟨by rfl, fun w_ hS_ => ?_⟩) (marks 10 127) ?_
    rotate_left
    next => (go_simp; try (first | rfl | exact (Bool.not_not _).symm))
    try simp only [Act.put, List.setIfInBounds_toArray, List.set_cons_zero, List.set_cons_succ]
    refine wpL_q 7 ?_ rfl (Or.inl ⟨by rfl, fun w_ hS_ => ?_⟩) (marks 10 255) ?_
    rotate_left
    next => (go_simp; try (first | rfl | exact (Bool.not_not _).symm))
    try simp only [Act.put, List.setIfInBounds_toArray, List.set_cons_zero, List.set_cons_succ]
    refine wpL_m 8 ?_ rfl (.tail _ (.head _)) (Or.inl ⟨by rfl, fun w_ hS_ => ?_⟩) (marks 10 511) ?_
    rotate_left
    next => (subst hS_; go_simp; try (first | rfl | exact (Bool.not_not _).symm))
    try simp only [Act.put, List.setIfInBounds_toArray, List.set_cons_zero, List.set_cons_succ]
    refine wpL_q 9 ?_ rfl (Or.inl ⟨by rfl, fun w_ hS_ => ?_⟩) (marks 10 1023) ?_
    rotate_left
    next => (go_simp; try (first | rfl | exact (Bool.not_not _).symm))
    try simp only [Act.put, List.setIfInBounds_toArray, List.set_cons_zero, List.set_cons_succ]
    all_goals refine wpL_done (by kernel_rfl) ?_ _
    go_wp2_with fail
    exact HP.out _ _ ⟨rfl, ref_close hlen.out hw⟩
  · rw [put_ok (by rw [hlen.out]; exact hf)]
    rw [hlen.out]
    have hlt : (len : Int) < T.most := by omega
    clear hf hle
    have Hone := Sep.hid (encR_one T.l)
    refine Sep.calls_post ?_
    intro Post_ hPost_
    have HP := Sep.hid hPost_
    clear hPost_
    go_enter Try.func10, Try.ntmps10
    go_wp2_with fail
    refine wp_region_L [] [(3, (fun w' => w' = w.drew)), (8, (fun w' => w' = w.drew))] (n := 10) (listed := (marks 10 0)) (by kernel_rfl) rfl (by kernel_rfl) ?conds2 ?_
    case conds2 =>
     intro c hc
     simp only [List.mem_cons, List.not_mem_nil, or_false] at hc
     rcases hc with rfl | rfl
     · rfl
     · rfl
    replace hw := hw.drew
    (try replace hc0 := Sep.Holds.cells hw (i := 0) rfl); (try replace hc1 := Sep.Holds.cells hw (i := 1) rfl); (try replace hc2 := Sep.Holds.cells hw (i := 2) rfl); (try replace hc3 := Sep.Holds.cells hw (i := 3) rfl); (try replace hc4 := Sep.Holds.cells hw (i := 4) rfl); (try replace hc5 := Sep.Holds.cells hw (i := 5) rfl); (try replace hc6 := Sep.Holds.cells hw (i := 6) rfl)
    refine wpL_q 0 ?_ rfl (Or.inl ⟨by rfl, fun w_ hS_ => ?_⟩) (marks 10 1) ?_
    rotate_left
    next => (go_simp; try (first | rfl | exact (Bool.not_not _).symm))
    try simp only [Act.put, List.setIfInBounds_toArray, List.set_cons_zero, List.set_cons_succ]
    refine wpL_q 1 ?_ rfl (Or.inl ⟨by rfl, fun w_ hS_ => ?_⟩) (marks 10 3) ?_
    rotate_left
    next => (go_simp; try (first | rfl | exact (Bool.not_not _).symm))
    try simp only [Act.put, List.setIfInBounds_toArray, List.set_cons_zero, List.set_cons_succ]
    refine wpL_q 2 ?_ rfl (Or.inl ⟨by rfl, fun w_ hS_ => ?_⟩) (marks 10 7) ?_
    rotate_left
    next => (go_simp; try (first | rfl | exact (Bool.not_not _).symm))
    try simp only [Act.put, List.setIfInBounds_toArray, List.set_cons_zero, List.set_cons_succ]
    refine wpL_m 3 ?_ rfl (.head _) (Or.inl ⟨by rfl, fun w_ hS_ => ?_⟩) (marks 10 15) ?_
    rotate_left
    next => (subst hS_; go_simp; try (first | rfl | exact (Bool.not_not _).symm))
    try simp only [Act.put, List.setIfInBounds_toArray, List.set_cons_zero, List.set_cons_succ]
    refine wpL_q 4 ?_ rfl (Or.inl ⟨by rfl, fun w_ hS_ => ?_⟩) (marks 10 31) ?_
    rotate_left
    next => (go_simp; try (first | rfl | exact (Bool.not_not _).symm))
    try simp only [Act.put, List.setIfInBounds_toArray, List.set_cons_zero, List.set_cons_succ]
    refine wpL_q 5 ?_ rfl (Or.inl ⟨by rfl, fun w_ hS_ => ?_⟩) (marks 10 63) ?_
    rotate_left
    next => (go_simp; try (first | rfl | exact (Bool.not_not _).symm))
    try simp only [Act.put, List.setIfInBounds_toArray, List.set_cons_zero, List.set_cons_succ]
    refine wpL_q 6 ?_ rfl (Or.inl ⟨by rfl, fun w_ hS_ => ?_⟩) (marks 10 127) ?_
    rotate_left
    next => (go_simp; try (first | rfl | exact (Bool.not_not _).symm))
    try simp only [Act.put, List.setIfInBounds_toArray, List.set_cons_zero, List.set_cons_succ]
    refine wpL_q 7 ?_ rfl (Or.inl ⟨by rfl, fun w_ hS_ => ?_⟩) (marks 10 255) ?_
    rotate_left
    next => (go_simp; try (first | rfl | exact (Bool.not_not _).symm))
    try simp only [Act.put, List.setIfInBounds_toArray, List.set_cons_zero, List.set_cons_succ]
    refine wpL_m 8 ?_ rfl (.tail _ (.head _)) (Or.inl ⟨by rfl, fun w_ hS_ => ?_⟩) (marks 10 511) ?_
    rotate_left
    next => (subst hS_; go_simp; try (first | rfl | exact (Bool.not_not _).symm))
    try simp only [Act.put, List.setIfInBounds_toArray, List.set_cons_zero, List.set_cons_succ]
    refine wpL_q 9 ?_ rfl (Or.inl ⟨by rfl, fun w_ hS_ => ?_⟩) (marks 10 1023) ?_
    rotate_left
    next => (go_simp; try (first | rfl | exact (Bool.not_not _).symm))
    try simp only [Act.put, List.setIfInBounds_toArray, List.set_cons_zero, List.set_cons_succ]
    all_goals refine wpL_done (by kernel_rfl) ?_ _
    go_wp2_with (first | (refine wpList_on rfl (wp_bsl0 rfl hw ?_); intro b_ w_ hw_; replace hw_ := hw_.newSl (i := 3) rfl 2 0 rfl (by decide); clear hw; have hw := hw_; clear hw_; (try simp only [List.map_cons, List.map_nil, List.getD_cons_zero, List.getD_cons_succ, List.getD_nil, List.set_cons_zero, List.set_cons_succ, List.cons_append, List.nil_append, Act.eval, Array.getD_eq_getD_getElem?, List.getElem?_toArray, List.getElem?_cons_succ, List.getElem?_cons_zero, Option.getD_some, Value.cells] at hw); (try simp (disch := first | (simp; done) | (simp; omega)) only [Sep.mid_set, Sep.mid_set2, Sep.mid_set0, Sep.mid_splice, Sep.mid_splice0, List.set_cons_zero, List.set_cons_succ] at hw); (try simp only [Sep.splice, List.take_succ_cons, List.take_zero, List.drop_succ_cons, List.drop_zero, List.length_cons, List.length_nil, Nat.reduceAdd, List.cons_append, List.nil_append] at hw); (try replace hc0 := Sep.Holds.cells hw (i := 0) rfl); (try replace hc1 := Sep.Holds.cells hw (i := 1) rfl); (try replace hc2 := Sep.Holds.cells hw (i := 2) rfl); (try replace hc3 := Sep.Holds.cells hw (i := 3) rfl); (try replace hc4 := Sep.Holds.cells hw (i := 4) rfl); (try replace hc5 := Sep.Holds.cells hw (i := 5) rfl); (try replace hc6 := Sep.Holds.cells hw (i := 6) rfl)) | (at_builtin; refine wpList_on rfl (wp_appendSl (i := 3) (j := 2) (u := .slice a len cap) rfl rfl hw rfl rfl rfl Hone.out (by rfl) (by (try unfold maxLen); omega) (by (try unfold maxLen); omega) ?_); intro a2_ cap2_ w_ hw_; (try simp only [Nat.zero_add, List.nil_append] at hw_); clear hw; have hw := hw_; clear hw_; (try simp only [List.map_cons, List.map_nil, List.getD_cons_zero, List.getD_cons_succ, List.getD_nil, List.set_cons_zero, List.set_cons_succ, List.cons_append, List.nil_append, Act.eval, Array.getD_eq_getD_getElem?, List.getElem?_toArray, List.getElem?_cons_succ, List.getElem?_cons_zero, Option.getD_some, Value.cells] at hw); (try simp (disch := first | (simp; done) | (simp; omega)) only [Sep.mid_set, Sep.mid_set2, Sep.mid_set0, Sep.mid_splice, Sep.mid_splice0, List.set_cons_zero, List.set_cons_succ] at hw); (try simp only [Sep.splice, List.take_succ_cons, List.take_zero, List.drop_succ_cons, List.drop_zero, List.length_cons, List.length_nil, Nat.reduceAdd, List.cons_append, List.nil_append] at hw); (try replace hc0 := Sep.Holds.cells hw (i := 0) rfl); (try replace hc1 := Sep.Holds.cells hw (i := 1) rfl); (try replace hc2 := Sep.Holds.cells hw (i := 2) rfl); (try replace hc3 := Sep.Holds.cells hw (i := 3) rfl); (try replace hc4 := Sep.Holds.cells hw (i := 4) rfl); (try replace hc5 := Sep.Holds.cells hw (i := 5) rfl); (try replace hc6 := Sep.Holds.cells hw (i := 6) rfl)) | (refine wpList_on rfl (wp_bsl1 rfl rfl (by rfl) (by rfl) (by decide) hw ?_); intro b_ w_ hw_; clear hw; have hw := hw_; clear hw_; (try simp only [List.map_cons, List.map_nil, List.getD_cons_zero, List.getD_cons_succ, List.getD_nil, List.set_cons_zero, List.set_cons_succ, List.cons_append, List.nil_append, Act.eval, Array.getD_eq_getD_getElem?, List.getElem?_toArray, List.getElem?_cons_succ, List.getElem?_cons_zero, Option.getD_some, Value.cells] at hw); (try simp (disch := first | (simp; done) | (simp; omega)) only [Sep.mid_set, Sep.mid_set2, Sep.mid_set0, Sep.mid_splice, Sep.mid_splice0, List.set_cons_zero, List.set_cons_succ] at hw); (try simp only [Sep.splice, List.take_succ_cons, List.take_zero, List.drop_succ_cons, List.drop_zero, List.length_cons, List.length_nil, Nat.reduceAdd, List.cons_append, List.nil_append] at hw); (try replace hc0 := Sep.Holds.cells hw (i := 0) rfl); (try replace hc1 := Sep.Holds.cells hw (i := 1) rfl); (try replace hc2 := Sep.Holds.cells hw (i := 2) rfl); (try replace hc3 := Sep.Holds.cells hw (i := 3) rfl); (try replace hc4 := Sep.Holds.cells hw (i := 4) rfl); (try replace hc5 := Sep.Holds.cells hw (i := 5) rfl); (try replace hc6 := Sep.Holds.cells hw (i := 6) rfl)) | (at_builtin; refine wpList_on rfl (wp_appendPt (i := 3) (j := 4) rfl rfl hw rfl rfl rfl (by rfl) (by simp [Value.oneCell']) (by decide) (by rfl) (by (try unfold maxLen); omega) (by (try unfold maxLen); omega) ?_); intro b2_ cap2_ off2_ w_ hcap2_ hw_; clear hw; have hw := hw_; clear hw_; (try simp only [List.map_cons, List.map_nil, List.getD_cons_zero, List.getD_cons_succ, List.getD_nil, List.set_cons_zero, List.set_cons_succ, List.cons_append, List.nil_append, Act.eval, Array.getD_eq_getD_getElem?, List.getElem?_toArray, List.getElem?_cons_succ, List.getElem?_cons_zero, Option.getD_some, Value.cells] at hw); (try simp (disch := first | (simp; done) | (simp; omega)) only [Sep.mid_set, Sep.mid_set2, Sep.mid_set0, Sep.mid_splice, Sep.mid_splice0, List.set_cons_zero, List.set_cons_succ] at hw); (try simp only [Sep.splice, List.take_succ_cons, List.take_zero, List.drop_succ_cons, List.drop_zero, List.length_cons, List.length_nil, Nat.reduceAdd, List.cons_append, List.nil_append] at hw); (try replace hc0 := Sep.Holds.cells hw (i := 0) rfl); (try replace hc1 := Sep.Holds.cells hw (i := 1) rfl); (try replace hc2 := Sep.Holds.cells hw (i := 2) rfl); (try replace hc3 := Sep.Holds.cells hw (i := 3) rfl); (try replace hc4 := Sep.Holds.cells hw (i := 4) rfl); (try replace hc5 := Sep.Holds.cells hw (i := 5) rfl); (try replace hc6 := Sep.Holds.cells hw (i := 6) rfl)) | (refine wpList_on rfl (wp_store1 (v := _) rfl rfl rfl hw (i := 1) rfl (by simp [Sep.mid_length, Act.eval, Value.cells]; try omega) rfl ?_); intro w_ hw_; clear hw; have hw := hw_; clear hw_; (try simp only [List.map_cons, List.map_nil, List.getD_cons_zero, List.getD_cons_succ, List.getD_nil, List.set_cons_zero, List.set_cons_succ, List.cons_append, List.nil_append, Act.eval, Array.getD_eq_getD_getElem?, List.getElem?_toArray, List.getElem?_cons_succ, List.getElem?_cons_zero, Option.getD_some, Value.cells] at hw); (try simp (disch := first | (simp; done) | (simp; omega)) only [Sep.mid_set, Sep.mid_set2, Sep.mid_set0, Sep.mid_splice, Sep.mid_splice0, List.set_cons_zero, List.set_cons_succ] at hw); (try simp only [Sep.splice, List.take_succ_cons, List.take_zero, List.drop_succ_cons, List.drop_zero, List.length_cons, List.length_nil, Nat.reduceAdd, List.cons_append, List.nil_append] at hw); (try replace hc0 := Sep.Holds.cells hw (i := 0) rfl); (try replace hc1 := Sep.Holds.cells hw (i := 1) rfl); (try replace hc2 := Sep.Holds.cells hw (i := 2) rfl); (try replace hc3 := Sep.Holds.cells hw (i := 3) rfl); (try replace hc4 := Sep.Holds.cells hw (i := 4) rfl); (try replace hc5 := Sep.Holds.cells hw (i := 5) rfl); (try replace hc6 := Sep.Holds.cells hw (i := 6) rfl)))
    have hfl : (T.l ++ [Nd.mk over cut]).flatMap encR = T.l.flatMap encR ++ [.int .i64 over, .bool cut] := by rw [List.flatMap_append]; rfl
    refine HP.out _ _ ⟨rfl, ref_close (T := { T with l := T.l ++ [⟨over, cut⟩] }) (a := some ⟨b2_, off2_, none⟩) (cap := cap2_) (len := len + 1) (by simp [hlen.out]) ?_⟩
    rw [hfl]
    exact hw.sel [0, 1, 3] (by decide)
set_option maxHeartbeats 1600000 in
theorem rAdd (p : Nat) (T : Tree) (hT : T.Ok) (over : Int) (cut : Bool) (e w : World) (X : HProp) (hw : Holds e w [X, IsRef p T]) :
    Calls Try.prog 11 #[.pointer (some ⟨p, 0, none⟩), .int .i64 over, .bool cut] w fun en w' => en = .returned (.tuple #[.int .i64 (T.add over cut).1.1, .int .i64 (T.add over cut).1.2]) ∧ Holds e w' [X, IsRef p (T.add over cut).2] := by
  have Hw0 := Sep.hid hw
  obtain ⟨⟨a, cap⟩, hw⟩ := exL.open_ hw
  have hw := hw.open_ 1 rfl
  (try simp only [List.map_cons, List.map_nil, List.getD_cons_zero, List.getD_cons_succ, List.getD_nil, List.set_cons_zero, List.set_cons_succ, List.cons_append, List.nil_append, Act.eval, Array.getD_eq_getD_getElem?, List.getElem?_toArray, List.getElem?_cons_succ, List.getElem?_cons_zero, Option.getD_some, Value.cells] at hw); (try simp (disch := first | (simp; done) | (simp; omega)) only [Sep.mid_set, Sep.mid_set2, Sep.mid_set0, Sep.mid_splice, Sep.mid_splice0, List.set_cons_zero, List.set_cons_succ] at hw); (try simp only [Sep.splice, List.take_succ_cons, List.take_zero, List.drop_succ_cons, List.drop_zero, List.length_cons, List.length_nil, Nat.reduceAdd, List.cons_append, List.nil_append] at hw)
  obtain ⟨len, hlen'⟩ : ∃ n, T.l.length = n := ⟨_, rfl⟩
  have hlen := Sep.hid hlen'
  rw [hlen'] at hw
  clear hlen'
  (try simp only [List.map_cons, List.map_nil, List.getD_cons_zero, List.getD_cons_succ, List.getD_nil, List.set_cons_zero, List.set_cons_succ, List.cons_append, List.nil_append, Act.eval, Array.getD_eq_getD_getElem?, List.getElem?_toArray, List.getElem?_cons_succ, List.getElem?_cons_zero, Option.getD_some, Value.cells] at hw); (try simp (disch := first | (simp; done) | (simp; omega)) only [Sep.mid_set, Sep.mid_set2, Sep.mid_set0, Sep.mid_splice, Sep.mid_splice0, List.set_cons_zero, List.set_cons_succ] at hw); (try simp only [Sep.splice, List.take_succ_cons, List.take_zero, List.drop_succ_cons, List.drop_zero, List.length_cons, List.length_nil, Nat.reduceAdd, List.cons_append, List.nil_append] at hw)
  (try replace hc0 := Sep.Holds.cells hw (i := 0) rfl); (try replace hc1 := Sep.Holds.cells hw (i := 1) rfl); (try replace hc2 := Sep.Holds.cells hw (i := 2) rfl); (try replace hc3 := Sep.Holds.cells hw (i := 3) rfl); (try replace hc4 := Sep.Holds.cells hw (i := 4) rfl); (try replace hc5 := Sep.Holds.cells hw (i := 5) rfl); (try replace hc6 := Sep.Holds.cells hw (i := 6) rfl)
  cases hb : there T.l over with
  | false =>
    have h1 : T.add over cut = ((-1, 3), T) := by unfold Tree.add; rw [hb]; rfl
    rw [h1]
    have Hb := Sep.hid hb; clear hb h1
    refine Sep.calls_post ?_
    intro Post_ hPost_
    have HP := Sep.hid hPost_
    clear hPost_
    go_enter Try.func11, Try.ntmps11
    go_wp2_with fail
    refine (rThere p len cap a T.l over hlen _ (hc1 0)).mono ?_
    rintro _ w_ ⟨rfl, rfl⟩
    rw [Hb.out]
    go_wp2_with fail
    exact HP.out _ _ ⟨rfl, Hw0.out⟩
  | true =>
    have h1 : T.add over cut = T.put ⟨over, cut⟩ := by unfold Tree.add; rw [hb]; rfl
    rw [h1]
    have Hb := Sep.hid hb; clear hb h1
    refine Sep.calls_post ?_
    intro Post_ hPost_
    have HP := Sep.hid hPost_
    clear hPost_
    go_enter Try.func11, Try.ntmps11
    go_wp2_with fail
    refine (rThere p len cap a T.l over hlen _ (hc1 0)).mono ?_
    rintro _ w_ ⟨rfl, rfl⟩
    rw [Hb.out]
    go_wp2_with fail
    refine (rPut p T hT over cut e _ _ Hw0.out).mono ?_
    rintro _ w_ ⟨rfl, hw_⟩
    go_wp2_with fail
    exact HP.out _ _ ⟨rfl, hw_⟩
end Go.Proofs.Ytlegkikglpogkaa
