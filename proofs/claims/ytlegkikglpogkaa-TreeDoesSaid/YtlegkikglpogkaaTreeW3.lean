/-
  The program's tree: how a node is put.
-/
import Derived.Test.YtlegkikglpogkaaTreeW2
namespace Go.Proofs.Ytlegkikglpogkaa
set_option linter.unusedSimpArgs false
set_option linter.unusedVariables false
open Go.RowKit Go.Sep Go.TreeM

def ndV (x : Nd) : List Value := [.int .i64 x.over, .bool x.cut, .slice none 0 0]
theorem tabN_one {xs : List TN} {vs : List Value} (h : ∀ v ∈ vs, v.oneCell' = true) : ∀ v ∈ tabC encN xs vs, v.oneCell' = true := by
  unfold tabC
  induction xs generalizing vs with
  | nil => simp
  | cons c cs ih =>
    cases vs with
    | nil => simp
    | cons u us =>
      intro v hv
      rw [List.zipWith_cons_cons, List.flatten_cons] at hv
      rcases List.mem_append.1 hv with hv | hv
      · simp only [encN, List.mem_cons, List.not_mem_nil, or_false] at hv
        rcases hv with rfl | rfl | rfl
        · rfl
        · rfl
        · exact h _ List.mem_cons_self
      · exact ih (fun v hv => h v (List.mem_cons_of_mem _ hv)) v hv
theorem put_full {T : Tree} (h : (T.l.length : Int) = T.most) (x : Nd) : T.put x = ((-1, 2), T) := by unfold Tree.put Tree.full; rw [if_pos (by simpa using h)]
theorem put_ok {T : Tree} (h : ¬ (T.l.length : Int) = T.most) (x : Nd) : T.put x = (((T.l.length : Int), 0), { T with l := T.l ++ [x] }) := by unfold Tree.put Tree.full; rw [if_neg (by simpa using h)]
theorem put_close {e w : World} {X : HProp} {p cap : Nat} {T : Tree} {l' : List Nd} {a : Option Addr} {vs : List Value} (hvl : vs.length = l'.length) (xs : List TN) (hxs : xs = tns l') {n : Nat} (hn : n = l'.length) {cs : List Value} (hcs : cs = tabC encN xs vs)
    (hw : Holds e w [X, pt p [.slice a n cap, .int .i64 T.most] 54, Sl 56 3 (.slice a n cap) n cs, sepL (tabR rowN xs vs)]) : Holds e w [X, IsTree p { T with l := l' }] := by
  subst hcs hxs hn
  exact exL.mk (f := treeParts p { T with l := l' }) ⟨a, cap, vs⟩ (hw.addFct hvl)
theorem put_end {e w : World} {X : HProp} {p cap k nl a2c : Nat} {T : Tree} {x y : Nd} {a a2 : Option Addr} {vs : List Value} {n : Nat} (hok : TreeM.Ok T.l) (hvl : vs.length = T.l.length) (hx : x.over = (k : Int)) (hy : T.l[k]? = some y) (hn : n = T.l.length + 1) (hnl : nl = (kidsRow T.l k).length + 1)
    (hw : Holds e w [X, pt p [.slice a n cap, .int .i64 T.most] 54, Sl 56 3 (.slice a n cap) n (tabC encN ((tns T.l ++ [TN.mk x []]).set k (TN.mk y (kidsRow T.l k ++ [(T.l.length : Int)]))) ((vs ++ [Value.slice none 0 0]).set k (.slice a2 nl a2c))), sepL ((tabR rowN (tns T.l ++ [TN.mk x []]) (vs ++ [Value.slice none 0 0])).set k emp), Sl 3 1 (.slice a2 nl a2c) nl (encI (kidsRow T.l k) ++ [.int .i64 (T.l.length : Int)])]) :
    Holds e w [X, IsTree p { T with l := T.l ++ [x] }] := by
  have hk := (List.getElem?_eq_some_iff.1 hy).1
  have e0 : Sl 3 1 (.slice a2 nl a2c) nl (encI (kidsRow T.l k) ++ [.int .i64 (T.l.length : Int)]) = rowN (.slice a2 nl a2c) (TN.mk y (kidsRow T.l k ++ [(T.l.length : Int)])) := by rw [hnl]; exact sl_snoc _ _ _
  rw [e0] at hw
  have hl : (vs ++ [Value.slice none 0 0]).length = (tns T.l ++ [TN.mk x []]).length := by simp [hvl, tns_length]
  have h1 := Holds.unpick (L := [X, pt p [.slice a n cap, .int .i64 T.most] 54, Sl 56 3 (.slice a n cap) n (tabC encN ((tns T.l ++ [TN.mk x []]).set k (TN.mk y (kidsRow T.l k ++ [(T.l.length : Int)]))) ((vs ++ [Value.slice none 0 0]).set k (.slice a2 nl a2c))), sepL ((tabR rowN (tns T.l ++ [TN.mk x []]) (vs ++ [Value.slice none 0 0])).set k emp)]) (R := tabR rowN (tns T.l ++ [TN.mk x []]) (vs ++ [Value.slice none 0 0])) (B := rowN (.slice a2 nl a2c) (TN.mk y (kidsRow T.l k ++ [(T.l.length : Int)]))) 3 k rfl (by rw [tabR_length hl]; simp [tns_length]; omega) hw
  rw [tabR_set hl] at h1
  exact put_close (vs := (vs ++ [Value.slice none 0 0]).set k (.slice a2 nl a2c)) (cap := cap) (a := a) (by simp [hvl]) _ (tns_push_at hok hx hy).symm (by simp [hn]) rfl h1
set_option maxHeartbeats 4000000 in
theorem tPut (p : Nat) (T : Tree) (hT : T.Ok) (x : Nd) (hx : x.over = -1 ∨ there T.l x.over = true) (e w : World) (X : HProp) (hw : Holds e w [X, IsTree p T]) :
    Calls Try.prog 33 #[.pointer (some ⟨p, 0, none⟩), .agg (ndV x).toArray] w fun en w' => en = .returned (.tuple #[.int .i64 (T.put x).1.1, .int .i64 (T.put x).1.2]) ∧ Holds e w' [X, IsTree p (T.put x).2] := by
  have Hw0 := Sep.hid hw
  have HT := Sep.hid hT; clear hT
  have hnd : ndV x = [.int .i64 x.over, .bool x.cut, .slice none 0 0] := rfl
  rw [hnd]; clear hnd
  obtain ⟨⟨a, cap, vs⟩, hw⟩ := exL.open_ hw
  have hw := hw.open_ 1 rfl
  (try simp only [List.map_cons, List.map_nil, List.getD_cons_zero, List.getD_cons_succ, List.getD_nil, List.set_cons_zero, List.set_cons_succ, List.cons_append, List.nil_append, Act.eval, Array.getD_eq_getD_getElem?, List.getElem?_toArray, List.getElem?_cons_succ, List.getElem?_cons_zero, Option.getD_some, Value.cells] at hw); (try simp (disch := first | (simp; done) | (simp; omega)) only [Sep.mid_set, Sep.mid_set2, Sep.mid_set0, Sep.mid_splice, Sep.mid_splice0, List.set_cons_zero, List.set_cons_succ] at hw); (try simp only [Sep.splice, List.take_succ_cons, List.take_zero, List.drop_succ_cons, List.drop_zero, List.length_cons, List.length_nil, Nat.reduceAdd, List.cons_append, List.nil_append] at hw)
  obtain ⟨len, hlen'⟩ : ∃ n, T.l.length = n := ⟨_, rfl⟩
  have hlen := Sep.hid hlen'
  have hvl := Sep.hid (Holds.fct (i := 4) rfl hw)
  rw [hlen'] at hw
  clear hlen'
  replace hw := hw.sel [0, 1, 2, 3] (by decide)
  (try simp only [List.map_cons, List.map_nil, List.getD_cons_zero, List.getD_cons_succ, List.getD_nil, List.set_cons_zero, List.set_cons_succ, List.cons_append, List.nil_append, Act.eval, Array.getD_eq_getD_getElem?, List.getElem?_toArray, List.getElem?_cons_succ, List.getElem?_cons_zero, Option.getD_some, Value.cells] at hw); (try simp (disch := first | (simp; done) | (simp; omega)) only [Sep.mid_set, Sep.mid_set2, Sep.mid_set0, Sep.mid_splice, Sep.mid_splice0, List.set_cons_zero, List.set_cons_succ] at hw); (try simp only [Sep.splice, List.take_succ_cons, List.take_zero, List.drop_succ_cons, List.drop_zero, List.length_cons, List.length_nil, Nat.reduceAdd, List.cons_append, List.nil_append] at hw)
  (try replace hc0 := Sep.Holds.cells hw (i := 0) rfl); (try replace hc1 := Sep.Holds.cells hw (i := 1) rfl); (try replace hc2 := Sep.Holds.cells hw (i := 2) rfl); (try replace hc3 := Sep.Holds.cells hw (i := 3) rfl); (try replace hc4 := Sep.Holds.cells hw (i := 4) rfl); (try replace hc5 := Sep.Holds.cells hw (i := 5) rfl); (try replace hc6 := Sep.Holds.cells hw (i := 6) rfl)
  have hlm : len ≤ 200 := by have h := HT.out.2; rw [hlen.out] at h; omega
  by_cases hf : (len : Int) = T.most
  · rw [put_full (by rw [hlen.out]; exact hf)]
    have hfb : ((len : Int) == T.most) = true := by simp [hf]
    clear hf hx
    have hw := hw
    refine Sep.calls_post ?_
    intro Post_ hPost_
    have HP := Sep.hid hPost_
    clear hPost_
    go_enter Try.func33, Try.ntmps33
    go_wp2_with (refine wpList_on rfl (wp_box rfl hw ?_); intro b3 w_ hw_; clear hw; have hw := hw_; clear hw_; (try simp only [List.map_cons, List.map_nil, List.getD_cons_zero, List.getD_cons_succ, List.getD_nil, List.set_cons_zero, List.set_cons_succ, List.cons_append, List.nil_append, Act.eval, Array.getD_eq_getD_getElem?, List.getElem?_toArray, List.getElem?_cons_succ, List.getElem?_cons_zero, Option.getD_some, Value.cells] at hw); (try simp (disch := first | (simp; done) | (simp; omega)) only [Sep.mid_set, Sep.mid_set2, Sep.mid_set0, Sep.mid_splice, Sep.mid_splice0, List.set_cons_zero, List.set_cons_succ] at hw); (try simp only [Sep.splice, List.take_succ_cons, List.take_zero, List.drop_succ_cons, List.drop_zero, List.length_cons, List.length_nil, Nat.reduceAdd, List.cons_append, List.nil_append] at hw); (try replace hc0 := Sep.Holds.cells hw (i := 0) rfl); (try replace hc1 := Sep.Holds.cells hw (i := 1) rfl); (try replace hc2 := Sep.Holds.cells hw (i := 2) rfl); (try replace hc3 := Sep.Holds.cells hw (i := 3) rfl); (try replace hc4 := Sep.Holds.cells hw (i := 4) rfl); (try replace hc5 := Sep.Holds.cells hw (i := 5) rfl); (try replace hc6 := Sep.Holds.cells hw (i := 6) rfl))
    refine wp_region_L [] [(3, (fun w' => w' = w_.drew)), (8, (fun w' => w' = w_.drew))] (n := 10) (listed := (marks 10 0)) (by kernel_rfl) rfl (by kernel_rfl) ?conds1 ?_
    case conds1 =>
     intro c hc
     simp only [List.mem_cons, List.not_mem_nil, or_false] at hc
     rcases hc with rfl | rfl
     · rfl
     · rfl
    replace hw := hw.drew
    (try replace hc0 := Sep.Holds.cells hw (i := 0) rfl); (try replace hc1 := Sep.Holds.cells hw (i := 1) rfl); (try replace hc2 := Sep.Holds.cells hw (i := 2) rfl); (try replace hc3 := Sep.Holds.cells hw (i := 3) rfl); (try replace hc4 := Sep.Holds.cells hw (i := 4) rfl); (try replace hc5 := Sep.Holds.cells hw (i := 5) rfl); (try replace hc6 := Sep.Holds.cells hw (i := 6) rfl)
    refine wpL_q 0 ?_ rfl (Or.inl ⟨by rfl, fun w_ hS_ => ?_⟩) (marks 10 1) ?_
    rotate_left
    next => (go_simp; try (first | rfl | exact (Bool.not_not _).symm))
    try simp only [Act.put, List.setIfInBounds_toArray, List.set_cons_zero, List.set_cons_succ]
    refine wpL_q 1 ?_ rfl (Or.inl ⟨by rfl, fun w_ hS_ => ?_⟩) (marks 10 3) ?_
    rotate_left
    next => (go_simp; try (first | rfl | exact (Bool.not_not _).symm))
    try simp only [Act.put, List.setIfInBounds_toArray, List.set_cons_zero, List.set_cons_succ]
    refine wpL_q 2 ?_ rfl (Or.inl ⟨by rfl, fun w_ hS_ => ?_⟩) (marks 10 7) ?_
    rotate_left
    next => (go_simp; try (first | rfl | exact (Bool.not_not _).symm))
    try simp only [Act.put, List.setIfInBounds_toArray, List.set_cons_zero, List.set_cons_succ]
    refine wpL_m 3 ?_ rfl (.head _) (Or.inl ⟨by rfl, fun w_ hS_ => ?_⟩) (marks 10 15) ?_
    rotate_left
    next => (subst hS_; go_simp; try (first | rfl | exact (Bool.not_not _).symm))
    try simp only [Act.put, List.setIfInBounds_toArray, List.set_cons_zero, List.set_cons_succ]
    refine wpL_q 4 ?_ rfl (Or.inl ⟨by rfl, fun w_ hS_ => ?_⟩) (marks 10 31) ?_
    rotate_left
    next => (go_simp; try (first | rfl | exact (Bool.not_not _).symm))
    try simp only [Act.put, List.setIfInBounds_toArray, List.set_cons_zero, List.set_cons_succ]
    refine wpL_q 5 ?_ rfl (Or.inl ⟨by rfl, fun w_ hS_ => ?_⟩) (marks 10 63) ?_
    rotate_left
    next => (go_simp; try (first | rfl | exact (Bool.not_not _).symm))
    try simp only [Act.put, List.setIfInBounds_toArray, List.set_cons_zero, List.set_cons_succ]
    refine wpL_q 6 ?_ rfl (Or.inl ⟨by rfl, fun w_ hS_ => ?_⟩) (marks 10 127) ?_
    rotate_left
    next => (go_simp; try (first | rfl | exact (Bool.not_not _).symm))
    try simp only [Act.put, List.setIfInBounds_toArray, List.set_cons_zero, List.set_cons_succ]
    refine wpL_q 7 ?_ rfl (Or.inl ⟨by rfl, fun w_ hS_ => ?_⟩) (marks 10 255) ?_
    rotate_left
    next => (go_simp; try (first | rfl | exact (Bool.not_not _).symm))
    try simp only [Act.put, List.setIfInBounds_toArray, List.set_cons_zero, List.set_cons_succ]
    refine wpL_m 8 ?_ rfl (.tail _ (.head _)) (Or.inl ⟨by rfl, fun w_ hS_ => ?_⟩) (marks 10 511) ?_
    rotate_left
    next => (subst hS_; go_simp; try (first | rfl | exact (Bool.not_not _).symm))
    try simp only [Act.put, List.setIfInBounds_toArray, List.set_cons_zero, List.set_cons_succ]
    refine wpL_q 9 ?_ rfl (Or.inl ⟨by rfl, fun w_ hS_ => ?_⟩) (marks 10 1023) ?_
    rotate_left
    next => (go_simp; try (first | rfl | exact (Bool.not_not _).symm))
    try simp only [Act.put, List.setIfInBounds_toArray, List.set_cons_zero, List.set_cons_succ]
    all_goals refine wpL_done (by kernel_rfl) ?_ _
    go_wp2_with fail
    refine HP.out _ _ ⟨rfl, put_close (cap := cap) hvl.out (tns T.l) rfl hlen.out.symm rfl (hw.sel [0, 1, 2, 3] (by decide))⟩
  · rw [put_ok (by rw [hlen.out]; exact hf)]
    rw [hlen.out]
    have hfb : ((len : Int) == T.most) = false := by simpa using hf
    clear hf
    have Hx := Sep.hid hx; clear hx
    have hvs : ∀ v ∈ vs, v.oneCell' = true := by
      intro v hv
      obtain ⟨k, hk⟩ := List.mem_iff_getElem?.1 hv
      have hlt := (List.getElem?_eq_some_iff.1 hk).1
      obtain ⟨c, hc⟩ : ∃ c, (tns T.l)[k]? = some c := ⟨_, List.getElem?_eq_getElem (by rw [tns_length, ← hvl.out]; exact hlt)⟩
      obtain ⟨v', h1, h2⟩ := tab_get (R := rowN) (by rw [hvl.out, tns_length]) hc
      have h3 := hw.pick 3 k rfl h2
      have h3 : Holds e w (_ ++ [IsInts v' c.kids]) := h3
      obtain ⟨q1, q2, rfl⟩ := Sl.value (i := 4) rfl h3
      rw [hk] at h1; cases h1; rfl
    have Hone := Sep.hid (tabN_one (xs := tns T.l) hvs)
    clear hvs
    refine Sep.calls_post ?_
    intro Post_ hPost_
    have HP := Sep.hid hPost_
    clear hPost_
    go_enter Try.func33, Try.ntmps33
    go_wp2_with (refine wpList_on rfl (wp_box rfl hw ?_); intro b3 w_ hw_; clear hw; have hw := hw_; clear hw_; (try simp only [List.map_cons, List.map_nil, List.getD_cons_zero, List.getD_cons_succ, List.getD_nil, List.set_cons_zero, List.set_cons_succ, List.cons_append, List.nil_append, Act.eval, Array.getD_eq_getD_getElem?, List.getElem?_toArray, List.getElem?_cons_succ, List.getElem?_cons_zero, Option.getD_some, Value.cells] at hw); (try simp (disch := first | (simp; done) | (simp; omega)) only [Sep.mid_set, Sep.mid_set2, Sep.mid_set0, Sep.mid_splice, Sep.mid_splice0, List.set_cons_zero, List.set_cons_succ] at hw); (try simp only [Sep.splice, List.take_succ_cons, List.take_zero, List.drop_succ_cons, List.drop_zero, List.length_cons, List.length_nil, Nat.reduceAdd, List.cons_append, List.nil_append] at hw); (try replace hc0 := Sep.Holds.cells hw (i := 0) rfl); (try replace hc1 := Sep.Holds.cells hw (i := 1) rfl); (try replace hc2 := Sep.Holds.cells hw (i := 2) rfl); (try replace hc3 := Sep.Holds.cells hw (i := 3) rfl); (try replace hc4 := Sep.Holds.cells hw (i := 4) rfl); (try replace hc5 := Sep.Holds.cells hw (i := 5) rfl); (try replace hc6 := Sep.Holds.cells hw (i := 6) rfl))
    refine wp_region_L [] [(3, (fun w' => w' = w_.drew)), (8, (fun w' => w' = w_.drew))] (n := 10) (listed := (marks 10 0)) (by kernel_rfl) rfl (by kernel_rfl) ?conds2 ?_
    case conds2 =>
     intro c hc
     simp only [List.mem_cons, List.not_mem_nil, or_false] at hc
     rcases hc with rfl | rfl
     · rfl
     · rfl
    replace hw := hw.drew
    (try replace hc0 := Sep.Holds.cells hw (i := 0) rfl); (try replace hc1 := Sep.Holds.cells hw (i := 1) rfl); (try replace hc2 := Sep.Holds.cells hw (i := 2) rfl); (try replace hc3 := Sep.Holds.cells hw (i := 3) rfl); (try replace hc4 := Sep.Holds.cells hw (i := 4) rfl); (try replace hc5 := Sep.Holds.cells hw (i := 5) rfl); (try replace hc6 := Sep.Holds.cells hw (i := 6) rfl)
    refine wpL_q 0 ?_ rfl (Or.inl ⟨by rfl, fun w_ hS_ => ?_⟩) (marks 10 1) ?_
    rotate_left
    next => (go_simp; try (first | rfl | exact (Bool.not_not _).symm))
    try simp only [Act.put, List.setIfInBounds_toArray, List.set_cons_zero, List.set_cons_succ]
    refine wpL_q 1 ?_ rfl (Or.inl ⟨by rfl, fun w_ hS_ => ?_⟩) (marks 10 3) ?_
    rotate_left
    next => (go_simp; try (first | rfl | exact (Bool.not_not _).symm))
    try simp only [Act.put, List.setIfInBounds_toArray, List.set_cons_zero, List.set_cons_succ]
    refine wpL_q 2 ?_ rfl (Or.inl ⟨by rfl, fun w_ hS_ => ?_⟩) (marks 10 7) ?_
    rotate_left
    next => (go_simp; try (first | rfl | exact (Bool.not_not _).symm))
    try simp only [Act.put, List.setIfInBounds_toArray, List.set_cons_zero, List.set_cons_succ]
    refine wpL_m 3 ?_ rfl (.head _) (Or.inl ⟨by rfl, fun w_ hS_ => ?_⟩) (marks 10 15) ?_
    rotate_left
    next => (subst hS_; go_simp; try (first | rfl | exact (Bool.not_not _).symm))
    try simp only [Act.put, List.setIfInBounds_toArray, List.set_cons_zero, List.set_cons_succ]
    refine wpL_q 4 ?_ rfl (Or.inl ⟨by rfl, fun w_ hS_ => ?_⟩) (marks 10 31) ?_
    rotate_left
    next => (go_simp; try (first | rfl | exact (Bool.not_not _).symm))
    try simp only [Act.put, List.setIfInBounds_toArray, List.set_cons_zero, List.set_cons_succ]
    refine wpL_q 5 ?_ rfl (Or.inl ⟨by rfl, fun w_ hS_ => ?_⟩) (marks 10 63) ?_
    rotate_left
    next => (go_simp; try (first | rfl | exact (Bool.not_not _).symm))
    try simp only [Act.put, List.setIfInBounds_toArray, List.set_cons_zero, List.set_cons_succ]
    refine wpL_q 6 ?_ rfl (Or.inl ⟨by rfl, fun w_ hS_ => ?_⟩) (marks 10 127) ?_
    rotate_left
    next => (go_simp; try (first | rfl | exact (Bool.not_not _).symm))
    try simp only [Act.put, List.setIfInBounds_toArray, List.set_cons_zero, List.set_cons_succ]
    refine wpL_q 7 ?_ rfl (Or.inl ⟨by rfl, fun w_ hS_ => ?_⟩) (marks 10 255) ?_
    rotate_left
    next => (go_simp; try (first | rfl | exact (Bool.not_not _).symm))
    try simp only [Act.put, List.setIfInBounds_toArray, List.set_cons_zero, List.set_cons_succ]
    refine wpL_m 8 ?_ rfl (.tail _ (.head _)) (Or.inl ⟨by rfl, fun w_ hS_ => ?_⟩) (marks 10 511) ?_
    rotate_left
    next => (subst hS_; go_simp; try (first | rfl | exact (Bool.not_not _).symm))
    try simp only [Act.put, List.setIfInBounds_toArray, List.set_cons_zero, List.set_cons_succ]
    refine wpL_q 9 ?_ rfl (Or.inl ⟨by rfl, fun w_ hS_ => ?_⟩) (marks 10 1023) ?_
    rotate_left
    next => (go_simp; try (first | rfl | exact (Bool.not_not _).symm))
    try simp only [Act.put, List.setIfInBounds_toArray, List.set_cons_zero, List.set_cons_succ]
    all_goals refine wpL_done (by kernel_rfl) ?_ _
    go_wp2_with fail
    refine wp_region_L [6, 7, 10] [(5, (fun w' => w' = (w_.drew).drew)), (4, (fun w' => Holds e w' [pt p [.slice a len cap, .int .i64 T.most] 54]))] (n := 11) (listed := (marks 11 0)) (by kernel_rfl) rfl (by kernel_rfl) ?conds3 ?_
    case conds3 =>
     intro c hc
     simp only [List.mem_cons, List.not_mem_nil, or_false] at hc
     rcases hc with rfl | rfl
     · rfl
     · exact (by replace hw := hw.drew; exact hw.sel [1] (by decide))
    replace hw := hw.drew
    (try replace hc0 := Sep.Holds.cells hw (i := 0) rfl); (try replace hc1 := Sep.Holds.cells hw (i := 1) rfl); (try replace hc2 := Sep.Holds.cells hw (i := 2) rfl); (try replace hc3 := Sep.Holds.cells hw (i := 3) rfl); (try replace hc4 := Sep.Holds.cells hw (i := 4) rfl); (try replace hc5 := Sep.Holds.cells hw (i := 5) rfl); (try replace hc6 := Sep.Holds.cells hw (i := 6) rfl)
    refine wpL_q 0 ?_ rfl (Or.inl ⟨by rfl, fun w_ hS_ => ?_⟩) (marks 11 1) ?_
    rotate_left
    next => (go_simp; try (first | rfl | exact (Bool.not_not _).symm))
    try simp only [Act.put, List.setIfInBounds_toArray, List.set_cons_zero, List.set_cons_succ]
    refine wpL_q 1 ?_ rfl (Or.inl ⟨by rfl, fun w_ hS_ => ?_⟩) (marks 11 3) ?_
    rotate_left
    next => (go_simp; try (first | rfl | exact (Bool.not_not _).symm))
    try simp only [Act.put, List.setIfInBounds_toArray, List.set_cons_zero, List.set_cons_succ]
    refine wpL_q 2 ?_ rfl (Or.inl ⟨by rfl, fun w_ hS_ => ?_⟩) (marks 11 7) ?_
    rotate_left
    next => (go_simp; try (first | rfl | exact (Bool.not_not _).symm))
    try simp only [Act.put, List.setIfInBounds_toArray, List.set_cons_zero, List.set_cons_succ]
    refine wpL_q 3 ?_ rfl (Or.inl ⟨by rfl, fun w_ hS_ => ?_⟩) (marks 11 15) ?_
    rotate_left
    next => (go_simp; try (first | rfl | exact (Bool.not_not _).symm))
    try simp only [Act.put, List.setIfInBounds_toArray, List.set_cons_zero, List.set_cons_succ]
    refine wpL_m 4 ?_ rfl (.tail _ (.head _)) (Or.inl ⟨by rfl, fun w_ hS_ => ?_⟩) (marks 11 31) ?_
    rotate_left
    next => (dsimp only at hS_; (try have q0 := Sep.Holds.cells hS_ (i := 0) rfl); (try have q1 := Sep.Holds.cells hS_ (i := 1) rfl); (try have q2 := Sep.Holds.cells hS_ (i := 2) rfl); (try have q3 := Sep.Holds.cells hS_ (i := 3) rfl); (try have q4 := Sep.Holds.cells hS_ (i := 4) rfl); (try have q5 := Sep.Holds.cells hS_ (i := 5) rfl); (try have q6 := Sep.Holds.cells hS_ (i := 6) rfl); first | (refine Eq.trans (run_loadN (vs := [.int .i64 x.over, .bool x.cut, .slice none 0 0]) (off := 0) rfl rfl hw (i := 4) rfl rfl (by intro j v hj; simpa using hj)) ?_; rfl) | (go_simp; try (first | rfl | exact (Bool.not_not _).symm)))
    try simp only [Act.put, List.setIfInBounds_toArray, List.set_cons_zero, List.set_cons_succ]
    refine wpL_m 5 ?_ rfl (.head _) (Or.inl ⟨by rfl, fun w_ hS_ => ?_⟩) (marks 11 63) ?_
    rotate_left
    next => (subst hS_; first | (refine Eq.trans (run_loadN (vs := [.int .i64 x.over, .bool x.cut, .slice none 0 0]) (off := 0) rfl rfl hw (i := 4) rfl rfl (by intro j v hj; simpa using hj)) ?_; rfl) | (go_simp; try (first | rfl | exact (Bool.not_not _).symm)))
    try simp only [Act.put, List.setIfInBounds_toArray, List.set_cons_zero, List.set_cons_succ]
    refine wpL_o 6 rfl (by rfl) (marks 11 127) ?_
    (refine wp_bsl1 rfl rfl (by rfl) (by rfl) (by decide) hw ?_; intro b_ w_ hw_; clear hw; have hw := hw_; clear hw_; (try simp only [List.map_cons, List.map_nil, List.getD_cons_zero, List.getD_cons_succ, List.getD_nil, List.set_cons_zero, List.set_cons_succ, List.cons_append, List.nil_append, Act.eval, Array.getD_eq_getD_getElem?, List.getElem?_toArray, List.getElem?_cons_succ, List.getElem?_cons_zero, Option.getD_some, Value.cells] at hw); (try simp (disch := first | (simp; done) | (simp; omega)) only [Sep.mid_set, Sep.mid_set2, Sep.mid_set0, Sep.mid_splice, Sep.mid_splice0, List.set_cons_zero, List.set_cons_succ] at hw); (try simp only [Sep.splice, List.take_succ_cons, List.take_zero, List.drop_succ_cons, List.drop_zero, List.length_cons, List.length_nil, Nat.reduceAdd, List.cons_append, List.nil_append] at hw); (try replace hc0 := Sep.Holds.cells hw (i := 0) rfl); (try replace hc1 := Sep.Holds.cells hw (i := 1) rfl); (try replace hc2 := Sep.Holds.cells hw (i := 2) rfl); (try replace hc3 := Sep.Holds.cells hw (i := 3) rfl); (try replace hc4 := Sep.Holds.cells hw (i := 4) rfl); (try replace hc5 := Sep.Holds.cells hw (i := 5) rfl); (try replace hc6 := Sep.Holds.cells hw (i := 6) rfl))
    refine ⟨(SL.drop 6 (by kernel_rfl) (SL.keep (by exact hw.sel [1] (by decide)) SL.nil)), ?_⟩
    try simp only [Act.put, List.setIfInBounds_toArray, List.set_cons_zero, List.set_cons_succ]
    refine wpL_o 7 rfl (by rfl) (marks 11 255) ?_
    (refine wp_appendPt (i := 2) (j := 5) rfl rfl hw rfl rfl rfl (by rfl) (by simp [Value.oneCell']) (by decide) (by rfl) (by (try unfold maxLen); omega) (by omega) ?_; intro b2_ cap2_ off2_ w_ hcap2_ hw_; clear hw; have hw := hw_; clear hw_; (try simp only [List.map_cons, List.map_nil, List.getD_cons_zero, List.getD_cons_succ, List.getD_nil, List.set_cons_zero, List.set_cons_succ, List.cons_append, List.nil_append, Act.eval, Array.getD_eq_getD_getElem?, List.getElem?_toArray, List.getElem?_cons_succ, List.getElem?_cons_zero, Option.getD_some, Value.cells] at hw); (try simp (disch := first | (simp; done) | (simp; omega)) only [Sep.mid_set, Sep.mid_set2, Sep.mid_set0, Sep.mid_splice, Sep.mid_splice0, List.set_cons_zero, List.set_cons_succ] at hw); (try simp only [Sep.splice, List.take_succ_cons, List.take_zero, List.drop_succ_cons, List.drop_zero, List.length_cons, List.length_nil, Nat.reduceAdd, List.cons_append, List.nil_append] at hw); (try replace hc0 := Sep.Holds.cells hw (i := 0) rfl); (try replace hc1 := Sep.Holds.cells hw (i := 1) rfl); (try replace hc2 := Sep.Holds.cells hw (i := 2) rfl); (try replace hc3 := Sep.Holds.cells hw (i := 3) rfl); (try replace hc4 := Sep.Holds.cells hw (i := 4) rfl); (try replace hc5 := Sep.Holds.cells hw (i := 5) rfl); (try replace hc6 := Sep.Holds.cells hw (i := 6) rfl))
    refine ⟨(SL.drop 6 (by kernel_rfl) (SL.drop 7 (by kernel_rfl) SL.nil)), ?_⟩
    try simp only [Act.put, List.setIfInBounds_toArray, List.set_cons_zero, List.set_cons_succ]
    refine wpL_q 8 ?_ rfl (Or.inl ⟨by rfl, fun w_ hS_ => ?_⟩) (marks 11 511) ?_
    rotate_left
    next => (go_simp; try (first | rfl | exact (Bool.not_not _).symm))
    try simp only [Act.put, List.setIfInBounds_toArray, List.set_cons_zero, List.set_cons_succ]
    refine wpL_q 9 ?_ rfl (Or.inl ⟨by rfl, fun w_ hS_ => ?_⟩) (marks 11 1023) ?_
    rotate_left
    next => (go_simp; try (first | rfl | exact (Bool.not_not _).symm))
    try simp only [Act.put, List.setIfInBounds_toArray, List.set_cons_zero, List.set_cons_succ]
    refine wpL_o 10 rfl (by rfl) (marks 11 2047) ?_
    (refine wp_store1 (v := _) rfl rfl rfl hw (i := 1) rfl (by simp [Sep.mid_length, Act.eval, Value.cells]; try omega) rfl ?_; intro w_ hw_; clear hw; have hw := hw_; clear hw_; (try simp only [List.map_cons, List.map_nil, List.getD_cons_zero, List.getD_cons_succ, List.getD_nil, List.set_cons_zero, List.set_cons_succ, List.cons_append, List.nil_append, Act.eval, Array.getD_eq_getD_getElem?, List.getElem?_toArray, List.getElem?_cons_succ, List.getElem?_cons_zero, Option.getD_some, Value.cells] at hw); (try simp (disch := first | (simp; done) | (simp; omega)) only [Sep.mid_set, Sep.mid_set2, Sep.mid_set0, Sep.mid_splice, Sep.mid_splice0, List.set_cons_zero, List.set_cons_succ] at hw); (try simp only [Sep.splice, List.take_succ_cons, List.take_zero, List.drop_succ_cons, List.drop_zero, List.length_cons, List.length_nil, Nat.reduceAdd, List.cons_append, List.nil_append] at hw); (try replace hc0 := Sep.Holds.cells hw (i := 0) rfl); (try replace hc1 := Sep.Holds.cells hw (i := 1) rfl); (try replace hc2 := Sep.Holds.cells hw (i := 2) rfl); (try replace hc3 := Sep.Holds.cells hw (i := 3) rfl); (try replace hc4 := Sep.Holds.cells hw (i := 4) rfl); (try replace hc5 := Sep.Holds.cells hw (i := 5) rfl); (try replace hc6 := Sep.Holds.cells hw (i := 6) rfl))
    refine ⟨(SL.drop 6 (by kernel_rfl) (SL.drop 7 (by kernel_rfl) SL.nil)), ?_⟩
    try simp only [Act.put, List.setIfInBounds_toArray, List.set_cons_zero, List.set_cons_succ]
    all_goals refine wpL_done (by kernel_rfl) ?_ _
    go_wp2_with fail
    refine (tThere p (len + 1) cap2_ _ (T.l ++ [x]) x.over (Sep.hid (by simp [hlen.out])) _ (hc1 0)).mono ?_
    rintro _ w_ ⟨rfl, rfl⟩
    have hw := Holds.growRow 3 rfl ((hw.sel [0, 1, 2, 3, 4] (by decide)).addEmp (X := rowN (.slice none 0 0) ⟨x, []⟩) (Sl.nil _ _ _))
    rw [← tabR_snoc (xs := tns T.l) (vs := vs) (hvl.out.trans (tns_length _).symm)] at hw
    (try simp only [List.map_cons, List.map_nil, List.getD_cons_zero, List.getD_cons_succ, List.getD_nil, List.set_cons_zero, List.set_cons_succ, List.cons_append, List.nil_append, Act.eval, Array.getD_eq_getD_getElem?, List.getElem?_toArray, List.getElem?_cons_succ, List.getElem?_cons_zero, Option.getD_some, Value.cells] at hw); (try simp (disch := first | (simp; done) | (simp; omega)) only [Sep.mid_set, Sep.mid_set2, Sep.mid_set0, Sep.mid_splice, Sep.mid_splice0, List.set_cons_zero, List.set_cons_succ] at hw); (try simp only [Sep.splice, List.take_succ_cons, List.take_zero, List.drop_succ_cons, List.drop_zero, List.length_cons, List.length_nil, Nat.reduceAdd, List.cons_append, List.nil_append] at hw)
    have e1 : tabC encN (tns T.l) vs ++ [.int .i64 x.over, .bool x.cut, .slice none 0 0] = tabC encN (tns T.l ++ [⟨x, []⟩]) (vs ++ [Value.slice none 0 0]) := (tabC_snoc (enc := encN) (xs := tns T.l) (vs := vs) (hvl.out.trans (tns_length _).symm) (TN.mk x []) (.slice none 0 0)).symm
    rw [e1] at hw
    clear e1
    (try clear hc0); (try clear hc1); (try clear hc2); (try clear hc3); (try clear hc4); (try clear hc5); (try clear hc6)
    rcases Hx.out with h1 | h1
    · have hb : there (T.l ++ [x]) x.over = false := not_there_neg _ (by omega)
      rw [hb]
      go_wp2_with fail
      refine HP.out _ _ ⟨rfl, ?_⟩
      exact put_close (l' := T.l ++ [x]) (cap := cap2_) (vs := vs ++ [Value.slice none 0 0]) (by simp [hvl.out]) (tns T.l ++ [TN.mk x []]) (tns_push_none HT.out.1 h1).symm (by simp [hlen.out]) rfl (hw.sel [0, 1, 2, 3] (by decide))
    · obtain ⟨k, y, hk, hkl, hy, _⟩ := there_get h1
      have hb : there (T.l ++ [x]) x.over = true := there_iff.2 (by rw [hk]; simp; omega)
      rw [hb]
      have Hov := Sep.hid hk
      have Hy := Sep.hid hy
      rw [hlen.out] at hkl
      obtain ⟨nl, hnl⟩ : ∃ nl, (kidsRow T.l k).length = nl := ⟨_, rfl⟩
      have Hnl := Sep.hid hnl
      have hnl2 : nl ≤ 200 := by have := kidsRow_length T.l k; rw [hnl, hlen.out] at this; omega
      have Hxk : Hid ((tns T.l ++ [TN.mk x []])[k]? = some ⟨y, kidsRow T.l k⟩) := Sep.hid (by rw [List.getElem?_append_left (by rw [tns_length, hlen.out]; exact hkl)]; exact tns_get hy)
      have Hvl2 : Hid ((vs ++ [Value.slice none 0 0]).length = (tns T.l ++ [TN.mk x []]).length) := Sep.hid (by simp [hvl.out, tns_length])
      obtain ⟨v, hv, hr⟩ := tab_get (R := rowN) Hvl2.out Hxk.out
      have hw := hw.pick 3 k rfl hr
      have hw : Holds e w_ (_ ++ [IsInts v (kidsRow T.l k)]) := hw
      obtain ⟨ja, jc, rfl⟩ := Sl.value (i := 5) rfl hw
      have Hv := Sep.hid hv
      rw [hnl] at Hv
      rw [hnl] at hw
      have e2 : IsInts (.slice ja nl jc) (kidsRow T.l k) = Sl 3 1 (.slice ja nl jc) nl (encI (kidsRow T.l k)) := by unfold IsInts; rw [hnl]
      rw [e2] at hw
      clear e2 hv hr hy h1 hb hnl
      (try simp only [List.map_cons, List.map_nil, List.getD_cons_zero, List.getD_cons_succ, List.getD_nil, List.set_cons_zero, List.set_cons_succ, List.cons_append, List.nil_append, Act.eval, Array.getD_eq_getD_getElem?, List.getElem?_toArray, List.getElem?_cons_succ, List.getElem?_cons_zero, Option.getD_some, Value.cells] at hw); (try simp (disch := first | (simp; done) | (simp; omega)) only [Sep.mid_set, Sep.mid_set2, Sep.mid_set0, Sep.mid_splice, Sep.mid_splice0, List.set_cons_zero, List.set_cons_succ] at hw); (try simp only [Sep.splice, List.take_succ_cons, List.take_zero, List.drop_succ_cons, List.drop_zero, List.length_cons, List.length_nil, Nat.reduceAdd, List.cons_append, List.nil_append] at hw)
      (try replace hc0 := Sep.Holds.cells hw (i := 0) rfl); (try replace hc1 := Sep.Holds.cells hw (i := 1) rfl); (try replace hc2 := Sep.Holds.cells hw (i := 2) rfl); (try replace hc3 := Sep.Holds.cells hw (i := 3) rfl); (try replace hc4 := Sep.Holds.cells hw (i := 4) rfl); (try replace hc5 := Sep.Holds.cells hw (i := 5) rfl); (try replace hc6 := Sep.Holds.cells hw (i := 6) rfl)
      have Hcell : Hid (∀ w', Holds e w' [pt p [.slice (some ⟨b2_, off2_, none⟩) (len + 1) cap2_, .int .i64 T.most] 54, Sl 56 3 (.slice (some ⟨b2_, off2_, none⟩) (len + 1) cap2_) (len + 1) (tabC encN (tns T.l ++ [TN.mk x []]) (vs ++ [Value.slice none 0 0]))] → w'.cell? ⟨b2_, off2_ + k * 3 + 2, none⟩ = some (.slice ja nl jc)) := Sep.hid (fun w' hw' => by
        obtain ⟨b, off, hb, h2⟩ := tab_at (k := k) encN_length hw' (i := 1) rfl (by omega) Hvl2.out Hxk.out Hv.out
        cases hb
        exact h2 2 (by omega))
      have Hj : Hid (k * 3 + 2 < (tabC encN (tns T.l ++ [TN.mk x []]) (vs ++ [Value.slice none 0 0])).length) := Sep.hid (by rw [tabC_length encN_length Hvl2.out]; simp [tns_length, hlen.out]; omega)
      rw [Hov.out] at hw ⊢
      (try replace hc0 := Sep.Holds.cells hw (i := 0) rfl); (try replace hc1 := Sep.Holds.cells hw (i := 1) rfl); (try replace hc2 := Sep.Holds.cells hw (i := 2) rfl); (try replace hc3 := Sep.Holds.cells hw (i := 3) rfl); (try replace hc4 := Sep.Holds.cells hw (i := 4) rfl); (try replace hc5 := Sep.Holds.cells hw (i := 5) rfl); (try replace hc6 := Sep.Holds.cells hw (i := 6) rfl)
      have hk1 : (k : Int) < (len : Int) + 1 := by omega
      go_wp2_with fail
      refine wp_region_L [16, 17, 20] [(3, (fun w' => Holds e w' [pt p [.slice (some ⟨b2_, off2_, none⟩) (len + 1) cap2_, .int .i64 T.most] 54, Sl 56 3 (.slice (some ⟨b2_, off2_, none⟩) (len + 1) cap2_) (len + 1) (tabC encN (tns T.l ++ [TN.mk x []]) (vs ++ [Value.slice none 0 0])), pt b3 [.int .i64 (k : Int), .bool x.cut, .slice none 0 0] 56])), (5, (fun w' => Holds e w' [pt p [.slice (some ⟨b2_, off2_, none⟩) (len + 1) cap2_, .int .i64 T.most] 54, Sl 56 3 (.slice (some ⟨b2_, off2_, none⟩) (len + 1) cap2_) (len + 1) (tabC encN (tns T.l ++ [TN.mk x []]) (vs ++ [Value.slice none 0 0])), pt b3 [.int .i64 (k : Int), .bool x.cut, .slice none 0 0] 56])), (9, (fun w' => Holds e w' [pt p [.slice (some ⟨b2_, off2_, none⟩) (len + 1) cap2_, .int .i64 T.most] 54, Sl 56 3 (.slice (some ⟨b2_, off2_, none⟩) (len + 1) cap2_) (len + 1) (tabC encN (tns T.l ++ [TN.mk x []]) (vs ++ [Value.slice none 0 0])), pt b3 [.int .i64 (k : Int), .bool x.cut, .slice none 0 0] 56])), (11, (fun w' => Holds e w' [pt p [.slice (some ⟨b2_, off2_, none⟩) (len + 1) cap2_, .int .i64 T.most] 54, Sl 56 3 (.slice (some ⟨b2_, off2_, none⟩) (len + 1) cap2_) (len + 1) (tabC encN (tns T.l ++ [TN.mk x []]) (vs ++ [Value.slice none 0 0])), pt b3 [.int .i64 (k : Int), .bool x.cut, .slice none 0 0] 56])), (14, (fun w' => Holds e w' [pt p [.slice (some ⟨b2_, off2_, none⟩) (len + 1) cap2_, .int .i64 T.most] 54, Sl 56 3 (.slice (some ⟨b2_, off2_, none⟩) (len + 1) cap2_) (len + 1) (tabC encN (tns T.l ++ [TN.mk x []]) (vs ++ [Value.slice none 0 0])), pt b3 [.int .i64 (k : Int), .bool x.cut, .slice none 0 0] 56]))] (n := 21) (listed := (marks 21 0)) (by kernel_rfl) rfl (by kernel_rfl) ?conds4 ?_
      case conds4 =>
       intro c hc
       simp only [List.mem_cons, List.not_mem_nil, or_false] at hc
       rcases hc with rfl | rfl | rfl | rfl | rfl
       · exact (by replace hw := hw.drew; exact hw.sel [1, 2, 4] (by decide))
       · exact (by replace hw := hw.drew; exact hw.sel [1, 2, 4] (by decide))
       · exact (by replace hw := hw.drew; exact hw.sel [1, 2, 4] (by decide))
       · exact (by replace hw := hw.drew; exact hw.sel [1, 2, 4] (by decide))
       · exact (by replace hw := hw.drew; exact hw.sel [1, 2, 4] (by decide))
      replace hw := hw.drew
      (try replace hc0 := Sep.Holds.cells hw (i := 0) rfl); (try replace hc1 := Sep.Holds.cells hw (i := 1) rfl); (try replace hc2 := Sep.Holds.cells hw (i := 2) rfl); (try replace hc3 := Sep.Holds.cells hw (i := 3) rfl); (try replace hc4 := Sep.Holds.cells hw (i := 4) rfl); (try replace hc5 := Sep.Holds.cells hw (i := 5) rfl); (try replace hc6 := Sep.Holds.cells hw (i := 6) rfl)
      refine wpL_q 0 ?_ rfl (Or.inl ⟨by rfl, fun w_ hS_ => ?_⟩) (marks 21 1) ?_
      rotate_left
      next => (go_simp; try (first | rfl | exact (Bool.not_not _).symm))
      try simp only [Act.put, List.setIfInBounds_toArray, List.set_cons_zero, List.set_cons_succ]
      refine wpL_q 1 ?_ rfl (Or.inl ⟨by rfl, fun w_ hS_ => ?_⟩) (marks 21 3) ?_
      rotate_left
      next => (go_simp; try (first | rfl | exact (Bool.not_not _).symm))
      try simp only [Act.put, List.setIfInBounds_toArray, List.set_cons_zero, List.set_cons_succ]
      refine wpL_q 2 ?_ rfl (Or.inl ⟨by rfl, fun w_ hS_ => ?_⟩) (marks 21 7) ?_
      rotate_left
      next => (go_simp; try (first | rfl | exact (Bool.not_not _).symm))
      try simp only [Act.put, List.setIfInBounds_toArray, List.set_cons_zero, List.set_cons_succ]
      refine wpL_m 3 ?_ rfl (.head _) (Or.inl ⟨by rfl, fun w_ hS_ => ?_⟩) (marks 21 15) ?_
      rotate_left
      next => (dsimp only at hS_; (try have q0 := Sep.Holds.cells hS_ (i := 0) rfl); (try have q1 := Sep.Holds.cells hS_ (i := 1) rfl); (try have q2 := Sep.Holds.cells hS_ (i := 2) rfl); (try have q3 := Sep.Holds.cells hS_ (i := 3) rfl); (try have q4 := Sep.Holds.cells hS_ (i := 4) rfl); (try have q5 := Sep.Holds.cells hS_ (i := 5) rfl); (try have q6 := Sep.Holds.cells hS_ (i := 6) rfl); first | (have g3 := Hcell.out _ (hS_.sel [0, 1] (by decide)); go_simp; (try rfl); done) | (go_simp; try (first | rfl | exact (Bool.not_not _).symm)))
      try simp only [Act.put, List.setIfInBounds_toArray, List.set_cons_zero, List.set_cons_succ]
      refine wpL_q 4 ?_ rfl (Or.inl ⟨by rfl, fun w_ hS_ => ?_⟩) (marks 21 31) ?_
      rotate_left
      next => (go_simp; try (first | rfl | exact (Bool.not_not _).symm))
      try simp only [Act.put, List.setIfInBounds_toArray, List.set_cons_zero, List.set_cons_succ]
      refine wpL_m 5 ?_ rfl (.tail _ (.head _)) (Or.inl ⟨by rfl, fun w_ hS_ => ?_⟩) (marks 21 63) ?_
      rotate_left
      next => (dsimp only at hS_; (try have q0 := Sep.Holds.cells hS_ (i := 0) rfl); (try have q1 := Sep.Holds.cells hS_ (i := 1) rfl); (try have q2 := Sep.Holds.cells hS_ (i := 2) rfl); (try have q3 := Sep.Holds.cells hS_ (i := 3) rfl); (try have q4 := Sep.Holds.cells hS_ (i := 4) rfl); (try have q5 := Sep.Holds.cells hS_ (i := 5) rfl); (try have q6 := Sep.Holds.cells hS_ (i := 6) rfl); first | (have g3 := Hcell.out _ (hS_.sel [0, 1] (by decide)); go_simp; (try rfl); done) | (go_simp; try (first | rfl | exact (Bool.not_not _).symm)))
      try simp only [Act.put, List.setIfInBounds_toArray, List.set_cons_zero, List.set_cons_succ]
      refine wpL_q 6 ?_ rfl (Or.inl ⟨by rfl, fun w_ hS_ => ?_⟩) (marks 21 127) ?_
      rotate_left
      next => (go_simp; try (first | rfl | exact (Bool.not_not _).symm))
      try simp only [Act.put, List.setIfInBounds_toArray, List.set_cons_zero, List.set_cons_succ]
      refine wpL_q 7 ?_ rfl (Or.inl ⟨by rfl, fun w_ hS_ => ?_⟩) (marks 21 255) ?_
      rotate_left
      next => (go_simp; try (first | rfl | exact (Bool.not_not _).symm))
      try simp only [Act.put, List.setIfInBounds_toArray, List.set_cons_zero, List.set_cons_succ]
      refine wpL_q 8 ?_ rfl (Or.inl ⟨by rfl, fun w_ hS_ => ?_⟩) (marks 21 511) ?_
      rotate_left
      next => (go_simp; try (first | rfl | exact (Bool.not_not _).symm))
      try simp only [Act.put, List.setIfInBounds_toArray, List.set_cons_zero, List.set_cons_succ]
      refine wpL_m 9 ?_ rfl (.tail _ (.tail _ (.head _))) (Or.inl ⟨by rfl, fun w_ hS_ => ?_⟩) (marks 21 1023) ?_
      rotate_left
      next => (dsimp only at hS_; (try have q0 := Sep.Holds.cells hS_ (i := 0) rfl); (try have q1 := Sep.Holds.cells hS_ (i := 1) rfl); (try have q2 := Sep.Holds.cells hS_ (i := 2) rfl); (try have q3 := Sep.Holds.cells hS_ (i := 3) rfl); (try have q4 := Sep.Holds.cells hS_ (i := 4) rfl); (try have q5 := Sep.Holds.cells hS_ (i := 5) rfl); (try have q6 := Sep.Holds.cells hS_ (i := 6) rfl); first | (have g3 := Hcell.out _ (hS_.sel [0, 1] (by decide)); go_simp; (try rfl); done) | (go_simp; try (first | rfl | exact (Bool.not_not _).symm)))
      try simp only [Act.put, List.setIfInBounds_toArray, List.set_cons_zero, List.set_cons_succ]
      refine wpL_q 10 ?_ rfl (Or.inl ⟨by rfl, fun w_ hS_ => ?_⟩) (marks 21 2047) ?_
      rotate_left
      next => (go_simp; try (first | rfl | exact (Bool.not_not _).symm))
      try simp only [Act.put, List.setIfInBounds_toArray, List.set_cons_zero, List.set_cons_succ]
      refine wpL_m 11 ?_ rfl (.tail _ (.tail _ (.tail _ (.head _)))) (Or.inl ⟨by rfl, fun w_ hS_ => ?_⟩) (marks 21 4095) ?_
      rotate_left
      next => (dsimp only at hS_; (try have q0 := Sep.Holds.cells hS_ (i := 0) rfl); (try have q1 := Sep.Holds.cells hS_ (i := 1) rfl); (try have q2 := Sep.Holds.cells hS_ (i := 2) rfl); (try have q3 := Sep.Holds.cells hS_ (i := 3) rfl); (try have q4 := Sep.Holds.cells hS_ (i := 4) rfl); (try have q5 := Sep.Holds.cells hS_ (i := 5) rfl); (try have q6 := Sep.Holds.cells hS_ (i := 6) rfl); first | (have g3 := Hcell.out _ (hS_.sel [0, 1] (by decide)); go_simp; (try rfl); done) | (go_simp; try (first | rfl | exact (Bool.not_not _).symm)))
      try simp only [Act.put, List.setIfInBounds_toArray, List.set_cons_zero, List.set_cons_succ]
      refine wpL_q 12 ?_ rfl (Or.inl ⟨by rfl, fun w_ hS_ => ?_⟩) (marks 21 8191) ?_
      rotate_left
      next => (go_simp; try (first | rfl | exact (Bool.not_not _).symm))
      try simp only [Act.put, List.setIfInBounds_toArray, List.set_cons_zero, List.set_cons_succ]
      refine wpL_q 13 ?_ rfl (Or.inl ⟨by rfl, fun w_ hS_ => ?_⟩) (marks 21 16383) ?_
      rotate_left
      next => (go_simp; try (first | rfl | exact (Bool.not_not _).symm))
      try simp only [Act.put, List.setIfInBounds_toArray, List.set_cons_zero, List.set_cons_succ]
      refine wpL_m 14 ?_ rfl (.tail _ (.tail _ (.tail _ (.tail _ (.head _))))) (Or.inl ⟨by rfl, fun w_ hS_ => ?_⟩) (marks 21 32767) ?_
      rotate_left
      next => (dsimp only at hS_; (try have q0 := Sep.Holds.cells hS_ (i := 0) rfl); (try have q1 := Sep.Holds.cells hS_ (i := 1) rfl); (try have q2 := Sep.Holds.cells hS_ (i := 2) rfl); (try have q3 := Sep.Holds.cells hS_ (i := 3) rfl); (try have q4 := Sep.Holds.cells hS_ (i := 4) rfl); (try have q5 := Sep.Holds.cells hS_ (i := 5) rfl); (try have q6 := Sep.Holds.cells hS_ (i := 6) rfl); first | (have g3 := Hcell.out _ (hS_.sel [0, 1] (by decide)); go_simp; (try rfl); done) | (go_simp; try (first | rfl | exact (Bool.not_not _).symm)))
      try simp only [Act.put, List.setIfInBounds_toArray, List.set_cons_zero, List.set_cons_succ]
      refine wpL_q 15 ?_ rfl (Or.inl ⟨by rfl, fun w_ hS_ => ?_⟩) (marks 21 65535) ?_
      rotate_left
      next => (go_simp; try (first | rfl | exact (Bool.not_not _).symm))
      try simp only [Act.put, List.setIfInBounds_toArray, List.set_cons_zero, List.set_cons_succ]
      refine wpL_o 16 rfl (by rfl) (marks 21 131071) ?_
      (refine wp_bsl1 rfl rfl (by rfl) (by rfl) (by decide) hw ?_; intro b_ w_ hw_; replace hw_ := hw_.newSl (i := 6) rfl 1 1 rfl (by decide); clear hw; have hw := hw_; clear hw_; (try simp only [List.map_cons, List.map_nil, List.getD_cons_zero, List.getD_cons_succ, List.getD_nil, List.set_cons_zero, List.set_cons_succ, List.cons_append, List.nil_append, Act.eval, Array.getD_eq_getD_getElem?, List.getElem?_toArray, List.getElem?_cons_succ, List.getElem?_cons_zero, Option.getD_some, Value.cells] at hw); (try simp (disch := first | (simp; done) | (simp; omega)) only [Sep.mid_set, Sep.mid_set2, Sep.mid_set0, Sep.mid_splice, Sep.mid_splice0, List.set_cons_zero, List.set_cons_succ] at hw); (try simp only [Sep.splice, List.take_succ_cons, List.take_zero, List.drop_succ_cons, List.drop_zero, List.length_cons, List.length_nil, Nat.reduceAdd, List.cons_append, List.nil_append] at hw); (try replace hc0 := Sep.Holds.cells hw (i := 0) rfl); (try replace hc1 := Sep.Holds.cells hw (i := 1) rfl); (try replace hc2 := Sep.Holds.cells hw (i := 2) rfl); (try replace hc3 := Sep.Holds.cells hw (i := 3) rfl); (try replace hc4 := Sep.Holds.cells hw (i := 4) rfl); (try replace hc5 := Sep.Holds.cells hw (i := 5) rfl); (try replace hc6 := Sep.Holds.cells hw (i := 6) rfl))
      refine ⟨(SL.keep (by exact hw.sel [1, 2, 4] (by decide)) (SL.keep (by exact hw.sel [1, 2, 4] (by decide)) (SL.keep (by exact hw.sel [1, 2, 4] (by decide)) (SL.keep (by exact hw.sel [1, 2, 4] (by decide)) (SL.keep (by exact hw.sel [1, 2, 4] (by decide)) SL.nil))))), ?_⟩
      try simp only [Act.put, List.setIfInBounds_toArray, List.set_cons_zero, List.set_cons_succ]
      refine wpL_o 17 rfl (by rfl) (marks 21 262143) ?_
      (refine wp_appendSl (i := 5) (j := 6) (n := nl) (m := 1) (news := [.int .i64 (len : Int)]) rfl rfl hw rfl rfl rfl (by first | exact encI_one _ | simp [Value.oneCell', Value.cells]) (by rfl) (by (try unfold maxLen); omega) (by (try unfold maxLen); omega) ?_; intro a2_ cap2_ w_ hw_; clear hw; have hw := hw_; clear hw_; (try simp only [List.map_cons, List.map_nil, List.getD_cons_zero, List.getD_cons_succ, List.getD_nil, List.set_cons_zero, List.set_cons_succ, List.cons_append, List.nil_append, Act.eval, Array.getD_eq_getD_getElem?, List.getElem?_toArray, List.getElem?_cons_succ, List.getElem?_cons_zero, Option.getD_some, Value.cells] at hw); (try simp (disch := first | (simp; done) | (simp; omega)) only [Sep.mid_set, Sep.mid_set2, Sep.mid_set0, Sep.mid_splice, Sep.mid_splice0, List.set_cons_zero, List.set_cons_succ] at hw); (try simp only [Sep.splice, List.take_succ_cons, List.take_zero, List.drop_succ_cons, List.drop_zero, List.length_cons, List.length_nil, Nat.reduceAdd, List.cons_append, List.nil_append] at hw); (try replace hc0 := Sep.Holds.cells hw (i := 0) rfl); (try replace hc1 := Sep.Holds.cells hw (i := 1) rfl); (try replace hc2 := Sep.Holds.cells hw (i := 2) rfl); (try replace hc3 := Sep.Holds.cells hw (i := 3) rfl); (try replace hc4 := Sep.Holds.cells hw (i := 4) rfl); (try replace hc5 := Sep.Holds.cells hw (i := 5) rfl); (try replace hc6 := Sep.Holds.cells hw (i := 6) rfl))
      refine ⟨(SL.keep (by exact hw.sel [1, 2, 4] (by decide)) (SL.keep (by exact hw.sel [1, 2, 4] (by decide)) (SL.drop 17 (by kernel_rfl) (SL.drop 17 (by kernel_rfl) (SL.drop 17 (by kernel_rfl) SL.nil))))), ?_⟩
      try simp only [Act.put, List.setIfInBounds_toArray, List.set_cons_zero, List.set_cons_succ]
      refine wpL_q 18 ?_ rfl (Or.inl ⟨by rfl, fun w_ hS_ => ?_⟩) (marks 21 524287) ?_
      rotate_left
      next => (go_simp; try (first | rfl | exact (Bool.not_not _).symm))
      try simp only [Act.put, List.setIfInBounds_toArray, List.set_cons_zero, List.set_cons_succ]
      refine wpL_q 19 ?_ rfl (Or.inl ⟨by rfl, fun w_ hS_ => ?_⟩) (marks 21 1048575) ?_
      rotate_left
      next => (go_simp; try (first | rfl | exact (Bool.not_not _).symm))
      try simp only [Act.put, List.setIfInBounds_toArray, List.set_cons_zero, List.set_cons_succ]
      refine wpL_o 20 rfl (by rfl) (marks 21 2097151) ?_
      (refine wp_storeSl' (i := 2) (j := k * 3 + 2) rfl rfl rfl hw rfl Hj.out rfl ?_; intro w_ hw_; clear hw; have hw := hw_; clear hw_; (try simp only [List.map_cons, List.map_nil, List.getD_cons_zero, List.getD_cons_succ, List.getD_nil, List.set_cons_zero, List.set_cons_succ, List.cons_append, List.nil_append, Act.eval, Array.getD_eq_getD_getElem?, List.getElem?_toArray, List.getElem?_cons_succ, List.getElem?_cons_zero, Option.getD_some, Value.cells] at hw); (try simp (disch := first | (simp; done) | (simp; omega)) only [Sep.mid_set, Sep.mid_set2, Sep.mid_set0, Sep.mid_splice, Sep.mid_splice0, List.set_cons_zero, List.set_cons_succ] at hw); (try simp only [Sep.splice, List.take_succ_cons, List.take_zero, List.drop_succ_cons, List.drop_zero, List.length_cons, List.length_nil, Nat.reduceAdd, List.cons_append, List.nil_append] at hw); (try replace hc0 := Sep.Holds.cells hw (i := 0) rfl); (try replace hc1 := Sep.Holds.cells hw (i := 1) rfl); (try replace hc2 := Sep.Holds.cells hw (i := 2) rfl); (try replace hc3 := Sep.Holds.cells hw (i := 3) rfl); (try replace hc4 := Sep.Holds.cells hw (i := 4) rfl); (try replace hc5 := Sep.Holds.cells hw (i := 5) rfl); (try replace hc6 := Sep.Holds.cells hw (i := 6) rfl))
      refine ⟨(SL.drop 20 (by kernel_rfl) (SL.drop 20 (by kernel_rfl) (SL.drop 17 (by kernel_rfl) (SL.drop 17 (by kernel_rfl) (SL.drop 17 (by kernel_rfl) SL.nil))))), ?_⟩
      try simp only [Act.put, List.setIfInBounds_toArray, List.set_cons_zero, List.set_cons_succ]
      all_goals refine wpL_done (by kernel_rfl) ?_ _
      go_wp2_with fail
      refine HP.out _ _ ⟨rfl, ?_⟩
      rw [tabC_set (c' := TN.mk y (kidsRow T.l k ++ [(T.l.length : Int)])) (v' := .slice a2_ (nl + 1) cap2_) encN_length Hxk.out Hv.out (j := 2) (by omega) rfl] at hw
      rw [← hlen.out] at hw
      exact put_end (nl := nl + 1) (n := T.l.length + 1) HT.out.1 hvl.out Hov.out Hy.out rfl (by rw [Hnl.out]) (hw.sel [0, 1, 2, 3, 5] (by decide))
end Go.Proofs.Ytlegkikglpogkaa
