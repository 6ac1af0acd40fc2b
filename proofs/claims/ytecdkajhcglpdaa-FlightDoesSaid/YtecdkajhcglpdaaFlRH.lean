/-
  The reference's flight: Finish, where it is done.
-/
import Derived.Test.YtecdkajhcglpdaaFlRG
import Derived.Test.YtecdkajhcglpdaaSepPart
import Derived.IntWalk
namespace Go.Proofs.Ytecdkajhcglpdaa
set_option linter.unusedSimpArgs false
set_option linter.unusedVariables false
open Go.RowKit Go.Sep Go.RingM

theorem encCs_erase {cs : List CallV} {vs : List Value} (h : vs.length = cs.length) (i : Nat) : (encCs cs vs).take (i * 4) ++ (encCs cs vs).drop ((i + 1) * 4) = encCs (cs.eraseIdx i) (vs.eraseIdx i) := by
  unfold encCs
  induction cs generalizing vs i with
  | nil => simp
  | cons c cs ih =>
    cases vs with
    | nil => simp at h
    | cons u us =>
      have hu : us.length = cs.length := by simpa using h
      have hl : (encC c u).length = 4 := rfl
      cases i with
      | zero =>
        rw [List.zipWith_cons_cons, List.flatten_cons, Nat.zero_mul, List.take_zero, List.nil_append, List.eraseIdx_cons_zero, List.eraseIdx_cons_zero]
        show List.drop 4 _ = _
        rw [← hl, List.drop_left]
      | succ i =>
        rw [List.zipWith_cons_cons, List.flatten_cons, List.eraseIdx_cons_succ, List.eraseIdx_cons_succ, List.zipWith_cons_cons, List.flatten_cons, ← ih hu i]
        have e1 : (i + 1) * 4 = (encC c u).length + i * 4 := by rw [hl]; omega
        have e2 : (i + 1 + 1) * 4 = (encC c u).length + (i + 1) * 4 := by rw [hl]; omega
        rw [e1, e2, List.take_length_add_append, List.drop_length_add_append, List.append_assoc]
        rw [hl, show 4 + i * 4 = (i + 1) * 4 by omega]
theorem joinedOf_erase {cs : List CallV} {vs : List Value} (h : vs.length = cs.length) (i : Nat) : (joinedOf vs cs).eraseIdx i = joinedOf (vs.eraseIdx i) (cs.eraseIdx i) := by
  unfold joinedOf
  induction cs generalizing vs i with
  | nil => simp
  | cons c cs ih =>
    cases vs with
    | nil => simp at h
    | cons u us =>
      have hu : us.length = cs.length := by simpa using h
      cases i with
      | zero => simp
      | succ i => simp [ih hu i]
theorem fl_fin {e w : World} {X : HProp} {p n i m : Nat} {a : Option Addr} {cap : Nat} {v : Value} {js : List Int} {xs : List Value} {cs : List CallV} {vs : List Value} (hvl : vs.length = cs.length) (hm : m = (cs.eraseIdx i).length) (hx : xs = encCs (cs.eraseIdx i) (vs.eraseIdx i)) (hil : i < cs.length)
    (hw : Holds e w [X, pt p [.slice a m cap, .int .i64 (n : Int)] 47, Sl 44 4 (.slice a m cap) m xs, sepL ((joinedOf vs cs).set i emp), IsInts v js]) : Holds e w [X, IsRF p n (cs.eraseIdx i), IsInts v js] := by
  subst hx hm
  have h1 := Holds.erase (j := 3) hw rfl
  rw [joinedOf_erase hvl i] at h1
  have h2 : Holds e w [sepL [X, IsInts v js], pt p [.slice a (cs.eraseIdx i).length cap, .int .i64 (n : Int)] 47, Sl 44 4 (.slice a (cs.eraseIdx i).length cap) (cs.eraseIdx i).length (encCs (cs.eraseIdx i) (vs.eraseIdx i)), sepL (joinedOf (vs.eraseIdx i) (cs.eraseIdx i))] := Holds.group [X, IsInts v js] _ (h1.sel [0, 4, 1, 2, 3] (by decide))
  have h3 : Holds e w [sepL [X, IsInts v js], IsRF p n (cs.eraseIdx i)] := exL.mk (f := rfParts p n (cs.eraseIdx i)) ⟨a, cap, vs.eraseIdx i⟩ (h2.addFct (by rw [List.length_eraseIdx, List.length_eraseIdx, hvl]))
  exact (Holds.ungroup [X, IsInts v js] _ h3).sel [0, 2, 1] (by decide)
set_option maxHeartbeats 8000000 in
theorem rfFin_ok (p n : Nat) (cs : List CallV) (t : Int) (i : Nat) (c : CallV) (h0 : 0 ≤ t) (h1 : t < n) (hcl : cs.length ≤ 100000) (hl : ledI cs t = (i : Int)) (hc : cs[i]? = some c) (e w : World) (X : HProp) (hw : Holds e w [X, IsRF p n cs]) :
    Calls Try.prog 11 #[.pointer (some ⟨p, 0, none⟩), .int .i64 t] w fun en w' => ∃ v, en = .returned (.tuple #[v, .int .i64 0]) ∧ Holds e w' [X, IsRF p n (cs.eraseIdx i), IsInts v c.joined] := by
  have Hl := Sep.hid hl; clear hl
  have Hc := Sep.hid hc; clear hc
  obtain ⟨⟨a, cap, vs⟩, hw⟩ := exL.open_ hw
  have hw := hw.open_ 1 rfl
  (try simp only [List.map_cons, List.map_nil, List.getD_cons_zero, List.getD_cons_succ, List.getD_nil, List.set_cons_zero, List.set_cons_succ, List.cons_append, List.nil_append, Act.eval, Array.getD_eq_getD_getElem?, List.getElem?_toArray, List.getElem?_cons_succ, List.getElem?_cons_zero, Option.getD_some, Value.cells] at hw); (try simp (disch := first | (simp; done) | (simp; omega)) only [Sep.mid_set, Sep.mid_set2, Sep.mid_set0, Sep.mid_splice, Sep.mid_splice0, List.set_cons_zero, List.set_cons_succ] at hw); (try simp only [Sep.splice, List.take_succ_cons, List.take_zero, List.drop_succ_cons, List.drop_zero, List.length_cons, List.length_nil, Nat.reduceAdd, List.cons_append, List.nil_append] at hw)
  obtain ⟨len, hlen'⟩ : ∃ n, cs.length = n := ⟨_, rfl⟩
  have Hlen := Sep.hid hlen'
  have Hvl := Sep.hid (Holds.fct (i := 4) rfl hw)
  rw [hlen'] at hw hcl
  clear hlen'
  replace hw := hw.sel [0, 1, 2, 3] (by decide)
  (try simp only [List.map_cons, List.map_nil, List.getD_cons_zero, List.getD_cons_succ, List.getD_nil, List.set_cons_zero, List.set_cons_succ, List.cons_append, List.nil_append, Act.eval, Array.getD_eq_getD_getElem?, List.getElem?_toArray, List.getElem?_cons_succ, List.getElem?_cons_zero, Option.getD_some, Value.cells] at hw); (try simp (disch := first | (simp; done) | (simp; omega)) only [Sep.mid_set, Sep.mid_set2, Sep.mid_set0, Sep.mid_splice, Sep.mid_splice0, List.set_cons_zero, List.set_cons_succ] at hw); (try simp only [Sep.splice, List.take_succ_cons, List.take_zero, List.drop_succ_cons, List.drop_zero, List.length_cons, List.length_nil, Nat.reduceAdd, List.cons_append, List.nil_append] at hw)
  (try replace hc0 := Sep.Holds.cells hw (i := 0) rfl); (try replace hc1 := Sep.Holds.cells hw (i := 1) rfl); (try replace hc2 := Sep.Holds.cells hw (i := 2) rfl); (try replace hc3 := Sep.Holds.cells hw (i := 3) rfl); (try replace hc4 := Sep.Holds.cells hw (i := 4) rfl); (try replace hc5 := Sep.Holds.cells hw (i := 5) rfl); (try replace hc6 := Sep.Holds.cells hw (i := 6) rfl)
  have hil : i < len := by have := (List.getElem?_eq_some_iff.1 Hc.out).1; rw [Hlen.out] at this; exact this
  refine Sep.calls_post ?_
  intro Post_ hPost_
  have HP := Sep.hid hPost_
  clear hPost_
  go_enter Try.func11, Try.ntmps11
  go_wp2_with fail
  refine (rLed p n len cap a cs t Hlen hcl _ (hc1 0) (Sep.hid (calls_at (i := 2) hw rfl Hvl.out))).mono ?_
  rintro _ w_ ⟨rfl, rfl⟩
  rw [Hl.out]
  have Hone := Sep.hid (encCs_one (cs := cs) (vs_one Hvl.out hw))
  obtain ⟨ja, jc, hv, hw⟩ := jo_pick Hvl.out Hc.out hw
  have Hv := Sep.hid hv; clear hv
  obtain ⟨b, off, rfl, g0, g1, g2, g3⟩ := call_at (i := 2) hw rfl Hvl.out Hc.out Hv.out
  obtain ⟨nl, hnl⟩ : ∃ nl, c.joined.length = nl := ⟨_, rfl⟩
  rw [hnl] at g3
  have Hnl := Sep.hid hnl; clear hnl
  (try replace hc0 := Sep.Holds.cells hw (i := 0) rfl); (try replace hc1 := Sep.Holds.cells hw (i := 1) rfl); (try replace hc2 := Sep.Holds.cells hw (i := 2) rfl); (try replace hc3 := Sep.Holds.cells hw (i := 3) rfl); (try replace hc4 := Sep.Holds.cells hw (i := 4) rfl); (try replace hc5 := Sep.Holds.cells hw (i := 5) rfl); (try replace hc6 := Sep.Holds.cells hw (i := 6) rfl)
  have hcap : len ≤ cap := by
    rcases hw.openSl (i := 2) rfl with ⟨h2, _⟩ | ⟨b', cap', pre, post, hv, g1, _⟩
    · cases h2
    · cases hv; exact g1
  have Hel := Sep.hid (encCs_length Hvl.out); rw [Hlen.out] at Hel
  have Hwr : Hid (IntKind.i64.wrap ((i : Int) + 1) = ((i + 1 : Nat) : Int)) := Sep.hid ((IntWalk.i64_in _ (by omega)).trans (by omega))
  go_wp2_with fail
  clear g0 g1 g2 g3
  refine wp_region_L [1, 8, 16, 19] [(5, (fun w' => Holds e w' [pt p [.slice (some ⟨b, off, none⟩) len cap, .int .i64 (n : Int)] 47])), (12, (fun w' => Holds e w' [pt p [.slice (some ⟨b, off, none⟩) len cap, .int .i64 (n : Int)] 47]))] (n := 20) (listed := (marks 20 0)) (by kernel_rfl) rfl (by kernel_rfl) ?conds1 ?_
  case conds1 =>
   intro c hc
   simp only [List.mem_cons, List.not_mem_nil, or_false] at hc
   rcases hc with rfl | rfl
   · exact (by replace hw := hw.drew; exact hw.sel [1] (by decide))
   · exact (by replace hw := hw.drew; exact hw.sel [1] (by decide))
  replace hw := hw.drew
  (try replace hc0 := Sep.Holds.cells hw (i := 0) rfl); (try replace hc1 := Sep.Holds.cells hw (i := 1) rfl); (try replace hc2 := Sep.Holds.cells hw (i := 2) rfl); (try replace hc3 := Sep.Holds.cells hw (i := 3) rfl); (try replace hc4 := Sep.Holds.cells hw (i := 4) rfl); (try replace hc5 := Sep.Holds.cells hw (i := 5) rfl); (try replace hc6 := Sep.Holds.cells hw (i := 6) rfl)
  refine wpL_q 0 ?_ rfl (Or.inl ⟨by rfl, fun w_ hS_ => ?_⟩) (marks 20 1) ?_
  rotate_left
  next => (go_simp; try (first | rfl | exact (Bool.not_not _).symm))
  try simp only [Act.put, List.setIfInBounds_toArray, List.set_cons_zero, List.set_cons_succ]
  refine wpL_q 2 ?_ rfl (Or.inl ⟨by rfl, fun w_ hS_ => ?_⟩) (marks 20 5) ?_
  rotate_left
  next => (go_simp; try (first | rfl | exact (Bool.not_not _).symm))
  try simp only [Act.put, List.setIfInBounds_toArray, List.set_cons_zero, List.set_cons_succ]
  refine wpL_q 3 ?_ rfl (Or.inl ⟨by rfl, fun w_ hS_ => ?_⟩) (marks 20 13) ?_
  rotate_left
  next => (go_simp; try (first | rfl | exact (Bool.not_not _).symm))
  try simp only [Act.put, List.setIfInBounds_toArray, List.set_cons_zero, List.set_cons_succ]
  refine wpL_q 4 ?_ rfl (Or.inl ⟨by rfl, fun w_ hS_ => ?_⟩) (marks 20 29) ?_
  rotate_left
  next => (go_simp; try (first | rfl | exact (Bool.not_not _).symm))
  try simp only [Act.put, List.setIfInBounds_toArray, List.set_cons_zero, List.set_cons_succ]
  refine wpL_m 5 ?_ rfl (.head _) (Or.inl ⟨by rfl, fun w_ hS_ => ?_⟩) (marks 20 61) ?_
  rotate_left
  next => (dsimp only at hS_; (try have q0 := Sep.Holds.cells hS_ (i := 0) rfl); (try have q1 := Sep.Holds.cells hS_ (i := 1) rfl); (try have q2 := Sep.Holds.cells hS_ (i := 2) rfl); (try have q3 := Sep.Holds.cells hS_ (i := 3) rfl); (try have q4 := Sep.Holds.cells hS_ (i := 4) rfl); (try have q5 := Sep.Holds.cells hS_ (i := 5) rfl); (try have q6 := Sep.Holds.cells hS_ (i := 6) rfl); first | (first | (refine Eq.trans (run_sliceTo (n := len) (k := i) (cap := cap) (ao := some ⟨b, off, none⟩) rfl rfl rfl (by omega)) ?_; rfl) | (refine Eq.trans (run_sliceFrom (n := len) (l := i + 1) (cap := cap) (ao := some ⟨b, off, none⟩) rfl rfl (congrArg (Value.int .i64) Hwr.out) (by omega)) ?_; rfl)) | (go_simp; try (first | rfl | exact (Bool.not_not _).symm)))
  try simp only [Act.put, List.setIfInBounds_toArray, List.set_cons_zero, List.set_cons_succ]
  refine wpL_q 6 ?_ rfl (Or.inl ⟨by rfl, fun w_ hS_ => ?_⟩) (marks 20 125) ?_
  rotate_left
  next => (go_simp; try (first | rfl | exact (Bool.not_not _).symm))
  try simp only [Act.put, List.setIfInBounds_toArray, List.set_cons_zero, List.set_cons_succ]
  refine wpL_q 7 ?_ rfl (Or.inl ⟨by rfl, fun w_ hS_ => ?_⟩) (marks 20 253) ?_
  rotate_left
  next => (first | (first | (refine Eq.trans (run_sliceTo (n := len) (k := i) (cap := cap) (ao := some ⟨b, off, none⟩) rfl rfl rfl (by omega)) ?_; rfl) | (refine Eq.trans (run_sliceFrom (n := len) (l := i + 1) (cap := cap) (ao := some ⟨b, off, none⟩) rfl rfl (congrArg (Value.int .i64) Hwr.out) (by omega)) ?_; rfl)) | (go_simp; try (first | rfl | exact (Bool.not_not _).symm)))
  try simp only [Act.put, List.setIfInBounds_toArray, List.set_cons_zero, List.set_cons_succ]
  refine wpL_q 9 ?_ rfl (Or.inl ⟨by rfl, fun w_ hS_ => ?_⟩) (marks 20 765) ?_
  rotate_left
  next => (go_simp; try (first | rfl | exact (Bool.not_not _).symm))
  try simp only [Act.put, List.setIfInBounds_toArray, List.set_cons_zero, List.set_cons_succ]
  refine wpL_q 10 ?_ rfl (Or.inl ⟨by rfl, fun w_ hS_ => ?_⟩) (marks 20 1789) ?_
  rotate_left
  next => (go_simp; try (first | rfl | exact (Bool.not_not _).symm))
  try simp only [Act.put, List.setIfInBounds_toArray, List.set_cons_zero, List.set_cons_succ]
  refine wpL_q 11 ?_ rfl (Or.inl ⟨by rfl, fun w_ hS_ => ?_⟩) (marks 20 3837) ?_
  rotate_left
  next => (go_simp; try (first | rfl | exact (Bool.not_not _).symm))
  try simp only [Act.put, List.setIfInBounds_toArray, List.set_cons_zero, List.set_cons_succ]
  refine wpL_m 12 ?_ rfl (.tail _ (.head _)) (Or.inl ⟨by rfl, fun w_ hS_ => ?_⟩) (marks 20 7933) ?_
  rotate_left
  next => (dsimp only at hS_; (try have q0 := Sep.Holds.cells hS_ (i := 0) rfl); (try have q1 := Sep.Holds.cells hS_ (i := 1) rfl); (try have q2 := Sep.Holds.cells hS_ (i := 2) rfl); (try have q3 := Sep.Holds.cells hS_ (i := 3) rfl); (try have q4 := Sep.Holds.cells hS_ (i := 4) rfl); (try have q5 := Sep.Holds.cells hS_ (i := 5) rfl); (try have q6 := Sep.Holds.cells hS_ (i := 6) rfl); first | (first | (refine Eq.trans (run_sliceTo (n := len) (k := i) (cap := cap) (ao := some ⟨b, off, none⟩) rfl rfl rfl (by omega)) ?_; rfl) | (refine Eq.trans (run_sliceFrom (n := len) (l := i + 1) (cap := cap) (ao := some ⟨b, off, none⟩) rfl rfl (congrArg (Value.int .i64) Hwr.out) (by omega)) ?_; rfl)) | (go_simp; try (first | rfl | exact (Bool.not_not _).symm)))
  try simp only [Act.put, List.setIfInBounds_toArray, List.set_cons_zero, List.set_cons_succ]
  refine wpL_q 13 ?_ rfl (Or.inl ⟨by rfl, fun w_ hS_ => ?_⟩) (marks 20 16125) ?_
  rotate_left
  next => (go_simp; try (first | rfl | exact (Bool.not_not _).symm))
  try simp only [Act.put, List.setIfInBounds_toArray, List.set_cons_zero, List.set_cons_succ]
  refine wpL_q 14 ?_ rfl (Or.inl ⟨by rfl, fun w_ hS_ => ?_⟩) (marks 20 32509) ?_
  rotate_left
  next => (go_simp; try (first | rfl | exact (Bool.not_not _).symm))
  try simp only [Act.put, List.setIfInBounds_toArray, List.set_cons_zero, List.set_cons_succ]
  refine wpL_q 15 ?_ rfl (Or.inl ⟨by rfl, fun w_ hS_ => ?_⟩) (marks 20 65277) ?_
  rotate_left
  next => (first | (first | (refine Eq.trans (run_sliceTo (n := len) (k := i) (cap := cap) (ao := some ⟨b, off, none⟩) rfl rfl rfl (by omega)) ?_; rfl) | (refine Eq.trans (run_sliceFrom (n := len) (l := i + 1) (cap := cap) (ao := some ⟨b, off, none⟩) rfl rfl (congrArg (Value.int .i64) Hwr.out) (by omega)) ?_; rfl)) | (go_simp; try (first | rfl | exact (Bool.not_not _).symm)))
  try simp only [Act.put, List.setIfInBounds_toArray, List.set_cons_zero, List.set_cons_succ]
  refine wpL_o 1 rfl (by rfl) (marks 20 65279) ?_
  (refine wp_bsl0 rfl hw ?_; intro b_ w_ hw_; replace hw_ := hw_.newSl (i := 5) rfl 4 0 rfl (by decide); clear hw; have hw := hw_; clear hw_; (try simp only [List.map_cons, List.map_nil, List.getD_cons_zero, List.getD_cons_succ, List.getD_nil, List.set_cons_zero, List.set_cons_succ, List.cons_append, List.nil_append, Act.eval, Array.getD_eq_getD_getElem?, List.getElem?_toArray, List.getElem?_cons_succ, List.getElem?_cons_zero, Option.getD_some, Value.cells] at hw); (try simp (disch := first | (simp; done) | (simp; omega)) only [Sep.mid_set, Sep.mid_set2, Sep.mid_set0, Sep.mid_splice, Sep.mid_splice0, List.set_cons_zero, List.set_cons_succ] at hw); (try simp only [Sep.splice, List.take_succ_cons, List.take_zero, List.drop_succ_cons, List.drop_zero, List.length_cons, List.length_nil, Nat.reduceAdd, List.cons_append, List.nil_append] at hw); (try replace hc0 := Sep.Holds.cells hw (i := 0) rfl); (try replace hc1 := Sep.Holds.cells hw (i := 1) rfl); (try replace hc2 := Sep.Holds.cells hw (i := 2) rfl); (try replace hc3 := Sep.Holds.cells hw (i := 3) rfl); (try replace hc4 := Sep.Holds.cells hw (i := 4) rfl); (try replace hc5 := Sep.Holds.cells hw (i := 5) rfl); (try replace hc6 := Sep.Holds.cells hw (i := 6) rfl))
  refine ⟨(SL.keep (by exact hw.sel [1] (by decide)) (SL.keep (by exact hw.sel [1] (by decide)) SL.nil)), ?_⟩
  try simp only [Act.put, List.setIfInBounds_toArray, List.set_cons_zero, List.set_cons_succ]
  refine wpL_o 8 rfl (by rfl) (marks 20 65535) ?_
  (refine wp_appendRd (i := 5) (m := i) (news := (encCs cs vs).take (i * 4)) rfl rfl hw rfl rfl (by rw [List.length_take, Hel.out]; omega) (hw.rdTo (j := 2) rfl (by omega)) (fun y hy => Hone.out y (List.mem_of_mem_take hy)) (by rfl) (by (try unfold maxLen); omega) (by omega) ?_; intro a2_ cap2_ w_ hw_; clear hw; have hw := hw_; clear hw_; (try simp only [List.map_cons, List.map_nil, List.getD_cons_zero, List.getD_cons_succ, List.getD_nil, List.set_cons_zero, List.set_cons_succ, List.cons_append, List.nil_append, Act.eval, Array.getD_eq_getD_getElem?, List.getElem?_toArray, List.getElem?_cons_succ, List.getElem?_cons_zero, Option.getD_some, Value.cells] at hw); (try simp (disch := first | (simp; done) | (simp; omega)) only [Sep.mid_set, Sep.mid_set2, Sep.mid_set0, Sep.mid_splice, Sep.mid_splice0, List.set_cons_zero, List.set_cons_succ] at hw); (try simp only [Sep.splice, List.take_succ_cons, List.take_zero, List.drop_succ_cons, List.drop_zero, List.length_cons, List.length_nil, Nat.reduceAdd, List.cons_append, List.nil_append] at hw); (try replace hc0 := Sep.Holds.cells hw (i := 0) rfl); (try replace hc1 := Sep.Holds.cells hw (i := 1) rfl); (try replace hc2 := Sep.Holds.cells hw (i := 2) rfl); (try replace hc3 := Sep.Holds.cells hw (i := 3) rfl); (try replace hc4 := Sep.Holds.cells hw (i := 4) rfl); (try replace hc5 := Sep.Holds.cells hw (i := 5) rfl); (try replace hc6 := Sep.Holds.cells hw (i := 6) rfl))
  refine ⟨(SL.drop 8 (by kernel_rfl) (SL.keep (by exact hw.sel [1] (by decide)) SL.nil)), ?_⟩
  try simp only [Act.put, List.setIfInBounds_toArray, List.set_cons_zero, List.set_cons_succ]
  refine wpL_o 16 rfl (by rfl) (marks 20 131071) ?_
  (refine wp_appendRd (i := 5) (n := 0 + i) (m := len - (i + 1)) (news := (encCs cs vs).drop ((i + 1) * 4)) rfl rfl hw rfl rfl (by rw [List.length_drop, Hel.out, ← Nat.sub_mul]) (hw.rdFrom (j := 2) rfl (by omega)) (fun y hy => Hone.out y (List.mem_of_mem_drop hy)) (by rfl) (by (try unfold maxLen); omega) (by omega) ?_; intro a2_ cap2_ w_ hw_; clear hw; have hw := hw_; clear hw_; (try simp only [List.map_cons, List.map_nil, List.getD_cons_zero, List.getD_cons_succ, List.getD_nil, List.set_cons_zero, List.set_cons_succ, List.cons_append, List.nil_append, Act.eval, Array.getD_eq_getD_getElem?, List.getElem?_toArray, List.getElem?_cons_succ, List.getElem?_cons_zero, Option.getD_some, Value.cells] at hw); (try simp (disch := first | (simp; done) | (simp; omega)) only [Sep.mid_set, Sep.mid_set2, Sep.mid_set0, Sep.mid_splice, Sep.mid_splice0, List.set_cons_zero, List.set_cons_succ] at hw); (try simp only [Sep.splice, List.take_succ_cons, List.take_zero, List.drop_succ_cons, List.drop_zero, List.length_cons, List.length_nil, Nat.reduceAdd, List.cons_append, List.nil_append] at hw); (try replace hc0 := Sep.Holds.cells hw (i := 0) rfl); (try replace hc1 := Sep.Holds.cells hw (i := 1) rfl); (try replace hc2 := Sep.Holds.cells hw (i := 2) rfl); (try replace hc3 := Sep.Holds.cells hw (i := 3) rfl); (try replace hc4 := Sep.Holds.cells hw (i := 4) rfl); (try replace hc5 := Sep.Holds.cells hw (i := 5) rfl); (try replace hc6 := Sep.Holds.cells hw (i := 6) rfl))
  refine ⟨(SL.drop 8 (by kernel_rfl) (SL.drop 16 (by kernel_rfl) SL.nil)), ?_⟩
  try simp only [Act.put, List.setIfInBounds_toArray, List.set_cons_zero, List.set_cons_succ]
  refine wpL_q 17 ?_ rfl (Or.inl ⟨by rfl, fun w_ hS_ => ?_⟩) (marks 20 262143) ?_
  rotate_left
  next => (go_simp; try (first | rfl | exact (Bool.not_not _).symm))
  try simp only [Act.put, List.setIfInBounds_toArray, List.set_cons_zero, List.set_cons_succ]
  refine wpL_q 18 ?_ rfl (Or.inl ⟨by rfl, fun w_ hS_ => ?_⟩) (marks 20 524287) ?_
  rotate_left
  next => (go_simp; try (first | rfl | exact (Bool.not_not _).symm))
  try simp only [Act.put, List.setIfInBounds_toArray, List.set_cons_zero, List.set_cons_succ]
  refine wpL_o 19 rfl (by rfl) (marks 20 1048575) ?_
  (refine wp_store1 (v := _) rfl rfl rfl hw (i := 1) rfl (by simp [Sep.mid_length, Act.eval, Value.cells]; try omega) rfl ?_; intro w_ hw_; clear hw; have hw := hw_; clear hw_; (try simp only [List.map_cons, List.map_nil, List.getD_cons_zero, List.getD_cons_succ, List.getD_nil, List.set_cons_zero, List.set_cons_succ, List.cons_append, List.nil_append, Act.eval, Array.getD_eq_getD_getElem?, List.getElem?_toArray, List.getElem?_cons_succ, List.getElem?_cons_zero, Option.getD_some, Value.cells] at hw); (try simp (disch := first | (simp; done) | (simp; omega)) only [Sep.mid_set, Sep.mid_set2, Sep.mid_set0, Sep.mid_splice, Sep.mid_splice0, List.set_cons_zero, List.set_cons_succ] at hw); (try simp only [Sep.splice, List.take_succ_cons, List.take_zero, List.drop_succ_cons, List.drop_zero, List.length_cons, List.length_nil, Nat.reduceAdd, List.cons_append, List.nil_append] at hw); (try replace hc0 := Sep.Holds.cells hw (i := 0) rfl); (try replace hc1 := Sep.Holds.cells hw (i := 1) rfl); (try replace hc2 := Sep.Holds.cells hw (i := 2) rfl); (try replace hc3 := Sep.Holds.cells hw (i := 3) rfl); (try replace hc4 := Sep.Holds.cells hw (i := 4) rfl); (try replace hc5 := Sep.Holds.cells hw (i := 5) rfl); (try replace hc6 := Sep.Holds.cells hw (i := 6) rfl))
  refine ⟨(SL.drop 8 (by kernel_rfl) (SL.drop 16 (by kernel_rfl) SL.nil)), ?_⟩
  try simp only [Act.put, List.setIfInBounds_toArray, List.set_cons_zero, List.set_cons_succ]
  all_goals refine wpL_done (by kernel_rfl) ?_ _
  go_wp2_with fail
  replace hw := hw.sel [0, 1, 5, 3, 4] (by decide)
  rw [Hnl.out] at hw
  (try simp only [List.map_cons, List.map_nil, List.getD_cons_zero, List.getD_cons_succ, List.getD_nil, List.set_cons_zero, List.set_cons_succ, List.cons_append, List.nil_append, Act.eval, Array.getD_eq_getD_getElem?, List.getElem?_toArray, List.getElem?_cons_succ, List.getElem?_cons_zero, Option.getD_some, Value.cells] at hw); (try simp (disch := first | (simp; done) | (simp; omega)) only [Sep.mid_set, Sep.mid_set2, Sep.mid_set0, Sep.mid_splice, Sep.mid_splice0, List.set_cons_zero, List.set_cons_succ] at hw); (try simp only [Sep.splice, List.take_succ_cons, List.take_zero, List.drop_succ_cons, List.drop_zero, List.length_cons, List.length_nil, Nat.reduceAdd, List.cons_append, List.nil_append] at hw)
  exact HP.out _ _ ⟨_, rfl, fl_fin (m := 0 + i + (len - (i + 1))) Hvl.out (by rw [List.length_eraseIdx, if_pos (by rw [Hlen.out]; exact hil), Hlen.out]; omega) (encCs_erase Hvl.out i) (by rw [Hlen.out]; exact hil) hw⟩
end Go.Proofs.Ytecdkajhcglpdaa
