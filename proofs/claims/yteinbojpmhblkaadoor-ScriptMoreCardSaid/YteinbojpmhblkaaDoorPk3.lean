/-
  Part 3 of the proof: contracts of functions and what they lean on (CodeD, CodeP, CodeQ, SepPart, CodeU, CodeV, CodeX, ScrM, SepPick, ScrR, ScrA, ScrB, ScrC, ScrF, ScrG, ScrD).
-/
import Derived.DeepKeys
import Derived.Test.YteinbojpmhblkaaDoorPk1
import Derived.Test.YteinbojpmhblkaaDoorPk2
/-
  The walk of Read.
-/
namespace Go.Proofs.YteinbojpmhblkaaDoor
set_option linter.unusedSimpArgs false
set_option linter.unusedVariables false
open Go.RowKit Go.Sep
set_option maxRecDepth 20000
attribute [local go_sem] Oper.semAt_some

def readL (b : List Int) (n : Nat) : List Deed := (List.range n).map (fun k => insP ((b.drop (1 + k * 11)).take 11))
theorem readL_len (b : List Int) (n : Nat) : (readL b n).length = n := by simp [readL]
theorem readL_snoc (b : List Int) (k : Nat) : readL b (k + 1) = readL b k ++ [insP ((b.drop (1 + k * 11)).take 11)] := by
  unfold readL; rw [List.range_succ, List.map_append]; rfl
def readP (b : List Int) : List Deed × Int × Int :=
  if b.length = 0 then ([], 0, 8)
  else if b.getD 0 0 < 1 ∨ 24 < b.getD 0 0 then ([], 0, 7)
  else if (b.length : Int) < 1 + 11 * b.getD 0 0 then ([], 0, 8)
  else if mayP (readL b (b.getD 0 0).toNat) = true then (readL b (b.getD 0 0).toNat, 1 + 11 * b.getD 0 0, 0) else ([], 0, 1)
theorem RdA.two {e : World} {A B : HProp} {a : Option Addr} {l : List Deed} (h : RdA e B a l) : RdA e (sepL [A, B]) a l := by
  intro w L i hw hi
  exact h w _ L.length (hw.open_ i hi) (by rw [List.getElem?_append_right (by simp)]; simp)
theorem rd_part {e : World} {X : HProp} {p : Addr} {b : List Int} (h : RdB e X (some p) b) (k : Nat) : RdB e X (some ((p.add 1).add (k * 11))) ((b.drop (1 + k * 11)).take 11) := by
  intro w L i hw hi j x hj
  rw [List.getElem?_take] at hj
  split at hj
  · rw [List.getElem?_drop] at hj
    obtain ⟨p2, hp2, hc⟩ := h w L i hw hi _ x hj
    cases hp2
    refine ⟨_, rfl, ?_⟩
    rw [Go.Deep.add_add, Go.Deep.add_add, ← Nat.add_assoc]; exact hc
  · cases hj
theorem run_slice3 {P : Program} {w : World} {o : Oper} {a : Go.Act} {t E : TypeId} {z : Value} {kb : Nat} {x lo hi mx : Operand} [st : SlT P t E] [ti : TI P E z 1 kb] {n h cap : Nat} {p : Addr} {H : Int} (hH : H = (h : Int))
    (ho : o.op = .slice t x (some lo) (some hi) (some mx)) (hx : a.eval x = .slice (some p) n cap) (h1 : a.eval lo = .int .i64 1) (h2 : a.eval hi = .int .i64 H) (h3 : a.eval mx = .int .i64 H) (hh : 1 < h) (hc : h ≤ cap) :
    (execOp a.eval o).run P w = .ok (.value (.slice (some (p.add 1)) (h - 1) (h - 1))) w := by
  subst hH
  have hel : P.elem t = E := by simp [Program.elem, st.out]
  have run : (Instr.sliceAt t (.slice (some p) n cap) (some (.int .i64 1)) (some (.int .i64 (h : Int))) (some (.int .i64 (h : Int)))).run P w = .ok (.slice (some (p.add 1)) (h - 1) (h - 1)) w := by
    rw [run_sliceAt_slice (P := P) w t _ _ _ _ (by rw [hel]; exact st.out), run_slice_lhm (P := P) w t (some p) n cap (by rw [hel]; exact st.out) .i64 .i64 .i64 1 h h (by omega) (by omega) (by omega) (by omega), hel, ti.sizeOf_run]
    have hne : ¬ h = 1 := by omega
    simp [sliced, hne]
  unfold execOp
  simp only [ho, hx, h1, h2, h3, Option.map_some, Option.map_none, Sem.run_bind, Sem.run_pure, run, Result.andThen_ok]
structure Gv where
  v : Value
set_option maxRecDepth 20000 in
set_option maxHeartbeats 8000000 in
theorem oRead (b : List Int) (n ca : Nat) (a : Option Addr) (hn : Hid (b.length = n)) (hca : n ≤ ca) (hb : Bys b) (e w : World) (X : HProp) (hT : Tops e X) (hR : RdB e X a b) (hw : Holds e w [X]) :
    Calls Tryd.prog 26 #[.slice a n ca] w fun en w' => ∃ v, en = .returned (.tuple #[v, .int .i64 (readP b).2.1, .int .i64 (readP b).2.2]) ∧ Holds e w' [X, IsAs 56 v (readP b).1] := by
  have HR := Sep.hid hR; clear hR
  have HT := Sep.hid hT; clear hT
  have Hb := Sep.hid hb; clear hb
  by_cases h0 : n = 0
  · have hp : readP b = ([], 0, 8) := by unfold readP; rw [if_pos (by rw [hn.out]; exact h0)]
    rw [hp]; clear hp
    subst h0
    refine Sep.calls_post ?_
    intro Post_ hPost_
    have HP := Sep.hid hPost_
    clear hPost_
    refine calls_of_wp_marks Tryd.func26 rfl ?_
    simp only [Tryd.ntmps26, List.size_toArray, List.length_cons, List.length_nil, Nat.reduceAdd, Nat.reduceSub, Array.replicate_succ, Array.replicate_zero, List.push_toArray, List.append_toArray, List.nil_append, List.cons_append]
    go_wp2_with fail
    refine ⟨_, results_tmp3 rfl _ _ _, HP.out _ _ ⟨_, rfl, hw.addEmp (X := IsAs 56 (.slice none 0 0) []) (Sl.nil _ _ _)⟩⟩
  obtain ⟨p, rfl⟩ : ∃ p, a = some p := by
    obtain ⟨p, hp, _⟩ := HR.out _ _ 0 hw rfl 0 _ (List.getElem?_eq_getElem (by rw [hn.out]; omega))
    exact ⟨p, hp⟩
  obtain ⟨c, hc⟩ : ∃ c, b.getD 0 0 = c := ⟨_, rfl⟩
  have hcb : b[0]? = some c := by rw [← hc, List.getD_eq_getElem?_getD, List.getElem?_eq_getElem (by rw [hn.out]; omega)]; rfl
  have hc255 := Hb.out c (List.mem_of_getElem? hcb)
  have Hc8 : Hid (IntKind.i64.wrap c = c) := Sep.hid (IntWalk.i64_in _ (by omega))
  have g0 : w.cell? p = some (.int .u8 c) := by
    obtain ⟨p2, hp2, h⟩ := HR.out _ _ 0 hw rfl 0 c hcb
    cases hp2; exact h
  have hcw : wrap64 c = c := IntWalk.wrap64_in _ (by omega)
  by_cases h1 : c < 1
  · have hp : readP b = ([], 0, 7) := by unfold readP; rw [if_neg (by rw [hn.out]; exact h0), if_pos (by rw [hc]; exact .inl h1)]
    rw [hp]; clear hp hcb
    refine Sep.calls_post ?_
    intro Post_ hPost_
    have HP := Sep.hid hPost_
    clear hPost_
    refine calls_of_wp_marks Tryd.func26 rfl ?_
    simp only [Tryd.ntmps26, List.size_toArray, List.length_cons, List.length_nil, Nat.reduceAdd, Nat.reduceSub, Array.replicate_succ, Array.replicate_zero, List.push_toArray, List.append_toArray, List.nil_append, List.cons_append]
    go_wp2_with fail
    refine ⟨_, results_tmp3 rfl _ _ _, HP.out _ _ ⟨_, rfl, hw.addEmp (X := IsAs 56 (.slice none 0 0) []) (Sl.nil _ _ _)⟩⟩
  by_cases h2 : 24 < c
  · have hp : readP b = ([], 0, 7) := by unfold readP; rw [if_neg (by rw [hn.out]; exact h0), if_pos (by rw [hc]; exact .inr h2)]
    rw [hp]; clear hp hcb
    refine Sep.calls_post ?_
    intro Post_ hPost_
    have HP := Sep.hid hPost_
    clear hPost_
    refine calls_of_wp_marks Tryd.func26 rfl ?_
    simp only [Tryd.ntmps26, List.size_toArray, List.length_cons, List.length_nil, Nat.reduceAdd, Nat.reduceSub, Array.replicate_succ, Array.replicate_zero, List.push_toArray, List.append_toArray, List.nil_append, List.cons_append]
    go_wp2_with fail
    refine ⟨_, results_tmp3 rfl _ _ _, HP.out _ _ ⟨_, rfl, hw.addEmp (X := IsAs 56 (.slice none 0 0) []) (Sl.nil _ _ _)⟩⟩
  obtain ⟨m, rfl⟩ : ∃ m : Nat, c = m := ⟨c.toNat, by omega⟩
  have hm1 : 1 ≤ m := by omega
  have hm24 : m ≤ 24 := by omega
  by_cases h3 : (n : Int) < 1 + 11 * m
  · have hp : readP b = ([], 0, 8) := by
      unfold readP
      rw [if_neg (by rw [hn.out]; exact h0), if_neg (by rw [hc]; omega), if_pos (by rw [hc, hn.out]; exact h3)]
    rw [hp]; clear hp hcb
    have h3' : (n : Int) < 1 + (m : Int) * 11 := by omega
    refine Sep.calls_post ?_
    intro Post_ hPost_
    have HP := Sep.hid hPost_
    clear hPost_
    refine calls_of_wp_marks Tryd.func26 rfl ?_
    simp only [Tryd.ntmps26, List.size_toArray, List.length_cons, List.length_nil, Nat.reduceAdd, Nat.reduceSub, Array.replicate_succ, Array.replicate_zero, List.push_toArray, List.append_toArray, List.nil_append, List.cons_append]
    go_wp2_with fail
    refine ⟨_, results_tmp3 rfl _ _ _, HP.out _ _ ⟨_, rfl, hw.addEmp (X := IsAs 56 (.slice none 0 0) []) (Sl.nil _ _ _)⟩⟩
  have h3' : ¬ (n : Int) < 1 + (m : Int) * 11 := by omega
  have Hp : Hid (readP b = if mayP (readL b m) = true then (readL b m, 1 + 11 * (m : Int), 0) else ([], 0, 1)) := Sep.hid (by
    unfold readP
    rw [if_neg (by rw [hn.out]; exact h0), if_neg (by rw [hc]; omega), if_neg (by rw [hc, hn.out]; exact h3), hc]
    rfl)
  have Hlong : Hid ((1 : Int) + (m : Int) * 11 = ((1 + m * 11 : Nat) : Int)) := Sep.hid (by push_cast; rfl)
  have Hl2 : Hid (1 < 1 + m * 11 ∧ 1 + m * 11 ≤ ca) := Sep.hid (by omega)
  clear hcb hc hc255 h0 h3
  refine Sep.calls_post ?_
  intro Post_ hPost_
  have HP := Sep.hid hPost_
  clear hPost_
  refine calls_of_wp_marks Tryd.func26 rfl ?_
  simp only [Tryd.ntmps26, List.size_toArray, List.length_cons, List.length_nil, Nat.reduceAdd, Nat.reduceSub, Array.replicate_succ, Array.replicate_zero, List.push_toArray, List.append_toArray, List.nil_append, List.cons_append]
  go_wp2_with (first | (refine wpList_on rfl (wp_alloc rfl hw ?_); intro b7_ w_ hw_; clear hw; have hw := hw_; clear hw_; (try simp only [List.map_cons, List.map_nil, List.getD_cons_zero, List.getD_cons_succ, List.getD_nil, List.set_cons_zero, List.set_cons_succ, List.cons_append, List.nil_append, Act.eval, Array.getD_eq_getD_getElem?, List.getElem?_toArray, List.getElem?_cons_succ, List.getElem?_cons_zero, Option.getD_some, Value.cells] at hw); (try simp (disch := first | (simp; done) | (simp; omega)) only [Sep.mid_set, Sep.mid_set2, Sep.mid_set0, Sep.mid_splice, Sep.mid_splice0, List.set_cons_zero, List.set_cons_succ] at hw); (try simp only [Sep.splice, List.take_succ_cons, List.take_zero, List.drop_succ_cons, List.drop_zero, List.length_cons, List.length_nil, Nat.reduceAdd, List.cons_append, List.nil_append] at hw); (try replace hc0 := Sep.Holds.cells hw (i := 0) rfl); (try replace hc1 := Sep.Holds.cells hw (i := 1) rfl); (try replace hc2 := Sep.Holds.cells hw (i := 2) rfl); (try replace hc3 := Sep.Holds.cells hw (i := 3) rfl); (try replace hc4 := Sep.Holds.cells hw (i := 4) rfl); (try replace hc5 := Sep.Holds.cells hw (i := 5) rfl); (try replace hc6 := Sep.Holds.cells hw (i := 6) rfl)) | (refine wpList_on rfl (wp_of_run (run_slice3 Hlong.out rfl rfl rfl rfl rfl Hl2.out.1 Hl2.out.2) ?_); (try simp only [Act.put, List.setIfInBounds_toArray, List.set_cons_zero, List.set_cons_succ])))
  refine (oChunk ⟨p.block, p.off + 1, none⟩ (m * 11) (m * 11) e _ _ hw.focus0).mono ?_
  rintro _ w_ ⟨b2, b3, rfl, hw_⟩
  clear hw; (try clear hc0); (try clear hc1); (try clear hc2); (try clear hc3); (try clear hc4); (try clear hc5); (try clear hc6); have hw := Holds.unfocus0 hw_; clear hw_
  (try simp only [List.map_cons, List.map_nil, List.getD_cons_zero, List.getD_cons_succ, List.getD_nil, List.set_cons_zero, List.set_cons_succ, List.cons_append, List.nil_append, Act.eval, Array.getD_eq_getD_getElem?, List.getElem?_toArray, List.getElem?_cons_succ, List.getElem?_cons_zero, Option.getD_some, Value.cells] at hw); (try simp (disch := first | (simp; done) | (simp; omega)) only [Sep.mid_set, Sep.mid_set2, Sep.mid_set0, Sep.mid_splice, Sep.mid_splice0, List.set_cons_zero, List.set_cons_succ] at hw); (try simp only [Sep.splice, List.take_succ_cons, List.take_zero, List.drop_succ_cons, List.drop_zero, List.length_cons, List.length_nil, Nat.reduceAdd, List.cons_append, List.nil_append] at hw)
  go_wp2_with fail
  refine wp_rangeFunc (gf := 51) rfl entersC hw ?_
  intro fn l D rec w1 hrec hw1
  have Hrec := Sep.hid hrec; clear hrec
  clear hw; (try clear hc0); (try clear hc1); (try clear hc2); (try clear hc3); (try clear hc4); (try clear hc5); (try clear hc6)
  have hw1 := (hw1.addEmp (X := IsAs 56 (.slice none 0 0) (readL b 0)) (Sl.nil _ _ _)).sel [2, 3, 0, 1, 6, 4, 5] (by decide)
  simp only [List.map_cons, List.map_nil, List.getD_cons_zero, List.getD_cons_succ, List.cons_append, List.nil_append] at hw1
  have hw1 := exL.mk (f := fun g : Gv => [X, pt b7_ [g.v] 57, IsAs 56 g.v (readL b 0), pto D (.deferred (some [])), pto l (.loop (rec .ready none))]) ⟨.slice none 0 0⟩ (Holds.group [pt b2 [.slice (some ⟨p.block, p.off + 1, none⟩) (m * 11) (m * 11)] 29, pt b3 [.int .i64 11] 3] _ hw1)
  have hw1 := (Holds.ungroup [pt b2 [.slice (some ⟨p.block, p.off + 1, none⟩) (m * 11) (m * 11)] 29, pt b3 [.int .i64 11] 3] [_] hw1).sel [2, 0, 1] (by decide)
  refine (chunk_in b2 b3 l m ⟨p.block, p.off + 1, none⟩ hm24 e (fun k => exL (fun g : Gv => [X, pt b7_ [g.v] 57, IsAs 56 g.v (readL b k), pto D (.deferred (some [])), pto l (.loop (rec .ready none))])) ?_ w1 hw1).mono ?_
  · intro k C w2 hk hw2
    obtain ⟨⟨v⟩, hw2⟩ := hw2.open' (i := 1) rfl
    have hw2 := hw2.open_ 1 rfl
    simp only [List.set_cons_zero, List.set_cons_succ, List.cons_append, List.nil_append] at hw2
    obtain ⟨va, vc, rfl⟩ := Sl.value (i := 3) rfl hw2
    have hw2 : Holds e w2 [C, X, pt b7_ [.slice va (readL b k).length vc] 57, Sl 56 4 (.slice va (readL b k).length vc) (readL b k).length (encAs (readL b k)), pto D (.deferred (some [])), pto l (.loop (rec .ready none))] := hw2
    rw [readL_len] at hw2
    have hk24 : k ≤ 24 := by omega
    have Hin : Hid (∀ e2 w' X2, RdB e2 X2 (some ((p.add 1).add (k * 11))) ((b.drop (1 + k * 11)).take 11) → Holds e2 w' [X2] → Calls Tryd.prog 43 #[.slice (some ((p.add 1).add (k * 11))) 11 11] w' fun en w' => en = .returned (.agg (encA (insP ((b.drop (1 + k * 11)).take 11))).toArray) ∧ Holds e2 w' [X2]) := Sep.hid (fun e2 w' X2 h1 h2 =>
      oInstr _ ((b.drop (1 + k * 11)).take 11) 11 (Sep.hid (by rw [List.length_take, List.length_drop, hn.out]; omega)) (by decide) ((Hb.out.drop _).take _) e2 w' X2 h1 h2)
    have Hrd : Hid (RdB e X (some ((p.add 1).add (k * 11))) ((b.drop (1 + k * 11)).take 11)) := Sep.hid (rd_part HR.out k)
    have Hsn := Sep.hid (readL_snoc b k)
    have he : (p.add 1).add (k * 11) = ⟨p.block, p.off + 1 + k * 11, none⟩ := by unfold Addr.add; split <;> simp_all
    rw [he] at Hin Hrd
    clear he
    generalize hx : insP ((b.drop (1 + k * 11)).take 11) = x at *
    clear hx
    have hA : encA x = [.int .i64 x.f0, .int .i64 x.f1, .int .i64 x.f2, .int .i64 x.f3] := rfl
    refine yield_at Hrec.out hw2 (i := 5) rfl rfl ?_
    clear hw1 hk Hrec
    have hw := hw2; clear hw2
    go_simp
    gi_wp2_with fail
    refine ⟨_, 5, hw, rfl, fun w3 hw3 => ?_⟩
    clear hw
    have hw := hw3; clear hw3
    simp only [List.set_cons_zero, List.set_cons_succ] at hw
    (try replace hc0 := Sep.Holds.cells hw (i := 0) rfl); (try replace hc1 := Sep.Holds.cells hw (i := 1) rfl); (try replace hc2 := Sep.Holds.cells hw (i := 2) rfl); (try replace hc3 := Sep.Holds.cells hw (i := 3) rfl); (try replace hc4 := Sep.Holds.cells hw (i := 4) rfl); (try replace hc5 := Sep.Holds.cells hw (i := 5) rfl); (try replace hc6 := Sep.Holds.cells hw (i := 6) rfl)
    gi_wp2_with fail
    refine wp_region_LIn (by first | exact Wide.round _ | exact Wide.wide) (fun _ _ h => h) (by rfl) [2, 3, 4, 5] [(0, (fun w' => Holds e w' [pt b7_ [.slice va k vc] 57]))] (n := 6) (listed := (marks 6 0)) (by kernel_rfl) rfl (by kernel_rfl) ?conds1 ?_
    case conds1 =>
     intro c hc
     simp only [List.mem_cons, List.not_mem_nil, or_false] at hc
     rcases hc with rfl
     · exact (by replace hw := hw.drew; exact hw.sel [2] (by decide))
    replace hw := hw.drew
    (try replace hc0 := Sep.Holds.cells hw (i := 0) rfl); (try replace hc1 := Sep.Holds.cells hw (i := 1) rfl); (try replace hc2 := Sep.Holds.cells hw (i := 2) rfl); (try replace hc3 := Sep.Holds.cells hw (i := 3) rfl); (try replace hc4 := Sep.Holds.cells hw (i := 4) rfl); (try replace hc5 := Sep.Holds.cells hw (i := 5) rfl); (try replace hc6 := Sep.Holds.cells hw (i := 6) rfl)
    refine wpL_m 0 ?_ rfl (.head _) (Or.inl ⟨by rfl, fun w_ hS_ => ?_⟩) (marks 6 1) ?_
    rotate_left
    next => (dsimp only at hS_; (try have q0 := Sep.Holds.cells hS_ (i := 0) rfl); (try have q1 := Sep.Holds.cells hS_ (i := 1) rfl); (try have q2 := Sep.Holds.cells hS_ (i := 2) rfl); (try have q3 := Sep.Holds.cells hS_ (i := 3) rfl); (try have q4 := Sep.Holds.cells hS_ (i := 4) rfl); (try have q5 := Sep.Holds.cells hS_ (i := 5) rfl); (try have q6 := Sep.Holds.cells hS_ (i := 6) rfl); go_simp; try (first | rfl | exact (Bool.not_not _).symm))
    try simp only [Act.put, List.setIfInBounds_toArray, List.set_cons_zero, List.set_cons_succ]
    refine wpL_q 1 ?_ rfl (Or.inl ⟨by rfl, fun w_ hS_ => ?_⟩) (marks 6 3) ?_
    rotate_left
    next => (go_simp; try (first | rfl | exact (Bool.not_not _).symm))
    try simp only [Act.put, List.setIfInBounds_toArray, List.set_cons_zero, List.set_cons_succ]
    refine wpL_o 2 rfl (by rfl) (marks 6 7) ?_
    (go_simp; go_at_call 43; refine (Hin.out e _ _ Hrd.out.sep (Holds.focus0 (L := [X, C, pt b7_ [.slice va k vc] 57, Sl 56 4 (.slice va k vc) k (encAs (readL b k)), pto D (.deferred (some [])), pto l (.loop (rec .busy none))]) (hw.sel [1, 0, 2, 3, 4, 5] (by decide)))).mono ?_; rintro _ w_ ⟨rfl, hw_⟩; clear hw; have hw := (Holds.unfocus0 hw_).sel [1, 0, 2, 3, 4, 5] (by decide); clear hw_; (try simp only [List.map_cons, List.map_nil, List.getD_cons_zero, List.getD_cons_succ, List.getD_nil, List.set_cons_zero, List.set_cons_succ, List.cons_append, List.nil_append, Act.eval, Array.getD_eq_getD_getElem?, List.getElem?_toArray, List.getElem?_cons_succ, List.getElem?_cons_zero, Option.getD_some, Value.cells] at hw); (try simp (disch := first | (simp; done) | (simp; omega)) only [Sep.mid_set, Sep.mid_set2, Sep.mid_set0, Sep.mid_splice, Sep.mid_splice0, List.set_cons_zero, List.set_cons_succ] at hw); (try simp only [Sep.splice, List.take_succ_cons, List.take_zero, List.drop_succ_cons, List.drop_zero, List.length_cons, List.length_nil, Nat.reduceAdd, List.cons_append, List.nil_append] at hw))
    refine ⟨(SL.keep (by exact hw.sel [2] (by decide)) SL.nil), ?_⟩
    try simp only [Act.put, List.setIfInBounds_toArray, List.set_cons_zero, List.set_cons_succ]
    refine wpL_o 3 rfl (by rfl) (marks 6 15) ?_
    (refine wp_bsl1 (v := .agg (encA x).toArray) rfl rfl (by rfl) (by rfl) (by decide) hw ?_; intro b_ w_ hw_; clear hw; have hw := hw_; clear hw_; (try simp only [List.map_cons, List.map_nil, List.getD_cons_zero, List.getD_cons_succ, List.getD_nil, List.set_cons_zero, List.set_cons_succ, List.cons_append, List.nil_append, Act.eval, Array.getD_eq_getD_getElem?, List.getElem?_toArray, List.getElem?_cons_succ, List.getElem?_cons_zero, Option.getD_some, Value.cells] at hw); (try simp (disch := first | (simp; done) | (simp; omega)) only [Sep.mid_set, Sep.mid_set2, Sep.mid_set0, Sep.mid_splice, Sep.mid_splice0, List.set_cons_zero, List.set_cons_succ] at hw); (try simp only [Sep.splice, List.take_succ_cons, List.take_zero, List.drop_succ_cons, List.drop_zero, List.length_cons, List.length_nil, Nat.reduceAdd, List.cons_append, List.nil_append] at hw); (try replace hc0 := Sep.Holds.cells hw (i := 0) rfl); (try replace hc1 := Sep.Holds.cells hw (i := 1) rfl); (try replace hc2 := Sep.Holds.cells hw (i := 2) rfl); (try replace hc3 := Sep.Holds.cells hw (i := 3) rfl); (try replace hc4 := Sep.Holds.cells hw (i := 4) rfl); (try replace hc5 := Sep.Holds.cells hw (i := 5) rfl); (try replace hc6 := Sep.Holds.cells hw (i := 6) rfl))
    refine ⟨(SL.keep (by exact hw.sel [2] (by decide)) SL.nil), ?_⟩
    try simp only [Act.put, List.setIfInBounds_toArray, List.set_cons_zero, List.set_cons_succ]
    refine wpL_o 4 rfl (by rfl) (marks 6 31) ?_
    (refine wp_appendPt (i := 3) (j := 6) rfl rfl hw rfl rfl rfl (by rfl) (encA_one x) (by decide) (by rfl) (by (try unfold maxLen); omega) (by (try unfold maxLen); omega) ?_; intro b2_ cap2_ off2_ w_ hcap2_ hw_; clear hw; have hw := hw_; clear hw_; (try simp only [List.map_cons, List.map_nil, List.getD_cons_zero, List.getD_cons_succ, List.getD_nil, List.set_cons_zero, List.set_cons_succ, List.cons_append, List.nil_append, Act.eval, Array.getD_eq_getD_getElem?, List.getElem?_toArray, List.getElem?_cons_succ, List.getElem?_cons_zero, Option.getD_some, Value.cells] at hw); (try simp (disch := first | (simp; done) | (simp; omega)) only [Sep.mid_set, Sep.mid_set2, Sep.mid_set0, Sep.mid_splice, Sep.mid_splice0, List.set_cons_zero, List.set_cons_succ] at hw); (try simp only [Sep.splice, List.take_succ_cons, List.take_zero, List.drop_succ_cons, List.drop_zero, List.length_cons, List.length_nil, Nat.reduceAdd, List.cons_append, List.nil_append] at hw); (try replace hc0 := Sep.Holds.cells hw (i := 0) rfl); (try replace hc1 := Sep.Holds.cells hw (i := 1) rfl); (try replace hc2 := Sep.Holds.cells hw (i := 2) rfl); (try replace hc3 := Sep.Holds.cells hw (i := 3) rfl); (try replace hc4 := Sep.Holds.cells hw (i := 4) rfl); (try replace hc5 := Sep.Holds.cells hw (i := 5) rfl); (try replace hc6 := Sep.Holds.cells hw (i := 6) rfl))
    refine ⟨(SL.drop 4 (by kernel_rfl) SL.nil), ?_⟩
    try simp only [Act.put, List.setIfInBounds_toArray, List.set_cons_zero, List.set_cons_succ]
    refine wpL_o 5 rfl (by rfl) (marks 6 63) ?_
    (refine wp_store1 (v := _) rfl rfl rfl hw (i := 2) rfl (by simp [Sep.mid_length, Act.eval, Value.cells]; try omega) rfl ?_; intro w_ hw_; clear hw; have hw := hw_; clear hw_; (try simp only [List.map_cons, List.map_nil, List.getD_cons_zero, List.getD_cons_succ, List.getD_nil, List.set_cons_zero, List.set_cons_succ, List.cons_append, List.nil_append, Act.eval, Array.getD_eq_getD_getElem?, List.getElem?_toArray, List.getElem?_cons_succ, List.getElem?_cons_zero, Option.getD_some, Value.cells] at hw); (try simp (disch := first | (simp; done) | (simp; omega)) only [Sep.mid_set, Sep.mid_set2, Sep.mid_set0, Sep.mid_splice, Sep.mid_splice0, List.set_cons_zero, List.set_cons_succ] at hw); (try simp only [Sep.splice, List.take_succ_cons, List.take_zero, List.drop_succ_cons, List.drop_zero, List.length_cons, List.length_nil, Nat.reduceAdd, List.cons_append, List.nil_append] at hw); (try replace hc0 := Sep.Holds.cells hw (i := 0) rfl); (try replace hc1 := Sep.Holds.cells hw (i := 1) rfl); (try replace hc2 := Sep.Holds.cells hw (i := 2) rfl); (try replace hc3 := Sep.Holds.cells hw (i := 3) rfl); (try replace hc4 := Sep.Holds.cells hw (i := 4) rfl); (try replace hc5 := Sep.Holds.cells hw (i := 5) rfl); (try replace hc6 := Sep.Holds.cells hw (i := 6) rfl))
    refine ⟨(SL.drop 4 (by kernel_rfl) SL.nil), ?_⟩
    try simp only [Act.put, List.setIfInBounds_toArray, List.set_cons_zero, List.set_cons_succ]
    all_goals refine wpL_done (by kernel_rfl) ?_ _
    all_goals (
      show ∃ (L : List HProp) (j : Nat), Holds e _ L ∧ L[j]? = some (pto l (.loop (rec .busy none))) ∧ ∀ w', Holds e w' (L.set j (pto l (.loop (rec .ready none)))) → (Ending.returned (.bool true) = .returned (.bool true) ∧ Holds e w' [C, exL (fun g : Gv => [X, pt b7_ [g.v] 57, IsAs 56 g.v (readL b (k + 1)), pto D (.deferred (some [])), pto l (.loop (rec .ready none))])])
      refine ⟨_, 5, hw, rfl, fun w4 hw4 => ⟨rfl, ?_⟩⟩
      have h := hw4.sel [0, 1, 2, 3, 4, 5] (by decide)
      have hs : IsAs 56 (.slice (some ⟨b2_, off2_, none⟩) (k + 1) cap2_) (readL b (k + 1)) = Sl 56 4 (.slice (some ⟨b2_, off2_, none⟩) (k + 1) cap2_) (k + 1) (encAs (readL b k) ++ encA x) := by
        unfold IsAs; rw [readL_len, Hsn.out, encAs_snoc]
      rw [← hs] at h
      exact exL.mk (f := fun g : Gv => [X, pt b7_ [g.v] 57, IsAs 56 g.v (readL b (k + 1)), pto D (.deferred (some [])), pto l (.loop (rec .ready none))]) ⟨_⟩ h)
  · rintro en_ w3 ⟨⟨u, rfl⟩, hw3⟩
    refine ⟨⟨u, rfl⟩, ?_⟩
    obtain ⟨⟨v⟩, hw3⟩ := hw3.open' (i := 0) rfl
    have hw3 := hw3.open_ 0 rfl
    simp only [List.set_cons_zero, List.set_cons_succ, List.cons_append, List.nil_append] at hw3
    refine ⟨_, 6, .ready, none, hw3, rfl, by simp, fun w4 hw4 => ?_⟩
    dsimp only
    clear hw1 hw3 Hrec
    have hw := hw4; clear hw4
    simp only [List.set_cons_zero, List.set_cons_succ] at hw
    have hw : Holds e w4 [X, pt b2 [.slice (some ⟨p.block, p.off + 1, none⟩) (m * 11) (m * 11)] 29, pt b3 [.int .i64 11] 3, pt b7_ [v] 57, Sl 56 4 v (readL b m).length (encAs (readL b m)), pto D (.deferred (some [])), emp] := hw
    obtain ⟨va, vc, rfl⟩ := Sl.value (i := 4) rfl hw
    have Hlen := Sep.hid (readL_len b m)
    generalize readL b m = l2 at *
    rw [Hlen.out] at hw
    (try replace hc0 := Sep.Holds.cells hw (i := 0) rfl); (try replace hc1 := Sep.Holds.cells hw (i := 1) rfl); (try replace hc2 := Sep.Holds.cells hw (i := 2) rfl); (try replace hc3 := Sep.Holds.cells hw (i := 3) rfl); (try replace hc4 := Sep.Holds.cells hw (i := 4) rfl); (try replace hc5 := Sep.Holds.cells hw (i := 5) rfl); (try replace hc6 := Sep.Holds.cells hw (i := 6) rfl)
    go_wp2_with fail
    refine (oMay l2 m vc va Hlen e _ _ HT.out.sep.sep (RdA.two rdA).sep (Holds.focus0 (Holds.group [X, Sl 56 4 (.slice va m vc) m (encAs l2)] _ (hw.sel [0, 4, 1, 2, 3, 5] (by decide))))).mono ?_
    rintro _ w_ ⟨rfl, hw_⟩
    clear hw; (try clear hc0); (try clear hc1); (try clear hc2); (try clear hc3); (try clear hc4); (try clear hc5); (try clear hc6)
    have hw := Holds.ungroup [_, _] _ (Holds.unfocus0 hw_); clear hw_
    (try simp only [List.map_cons, List.map_nil, List.getD_cons_zero, List.getD_cons_succ, List.getD_nil, List.set_cons_zero, List.set_cons_succ, List.cons_append, List.nil_append, Act.eval, Array.getD_eq_getD_getElem?, List.getElem?_toArray, List.getElem?_cons_succ, List.getElem?_cons_zero, Option.getD_some, Value.cells] at hw); (try simp (disch := first | (simp; done) | (simp; omega)) only [Sep.mid_set, Sep.mid_set2, Sep.mid_set0, Sep.mid_splice, Sep.mid_splice0, List.set_cons_zero, List.set_cons_succ] at hw); (try simp only [Sep.splice, List.take_succ_cons, List.take_zero, List.drop_succ_cons, List.drop_zero, List.length_cons, List.length_nil, Nat.reduceAdd, List.cons_append, List.nil_append] at hw)
    cases hma : mayP l2 with
    | true =>
      have Hp2 : Hid (readP b = (l2, 1 + (m : Int) * 11, 0)) := Sep.hid (by rw [Hp.out, if_pos hma, Int.mul_comm])
      clear Hp; have Hma := Sep.hid hma; clear hma
      (try replace hc0 := Sep.Holds.cells hw (i := 0) rfl); (try replace hc1 := Sep.Holds.cells hw (i := 1) rfl); (try replace hc2 := Sep.Holds.cells hw (i := 2) rfl); (try replace hc3 := Sep.Holds.cells hw (i := 3) rfl); (try replace hc4 := Sep.Holds.cells hw (i := 4) rfl); (try replace hc5 := Sep.Holds.cells hw (i := 5) rfl); (try replace hc6 := Sep.Holds.cells hw (i := 6) rfl)
      go_wp2_with fail
      refine leaves_mark hw (i := 5) rfl (fun w5 hw5 => ⟨_, results_tmp3 rfl _ _ _, HP.out _ _ ⟨.slice va m vc, by rw [Hp2.out]; rfl, ?_⟩⟩)
      rw [Hp2.out]
      unfold IsAs
      rw [Hlen.out]
      exact hw5.sel [0, 1] (by decide)
    | false =>
      have Hp2 : Hid (readP b = ([], 0, 1)) := Sep.hid (by rw [Hp.out, if_neg (by rw [hma]; decide)])
      clear Hp; have Hma := Sep.hid hma; clear hma
      (try replace hc0 := Sep.Holds.cells hw (i := 0) rfl); (try replace hc1 := Sep.Holds.cells hw (i := 1) rfl); (try replace hc2 := Sep.Holds.cells hw (i := 2) rfl); (try replace hc3 := Sep.Holds.cells hw (i := 3) rfl); (try replace hc4 := Sep.Holds.cells hw (i := 4) rfl); (try replace hc5 := Sep.Holds.cells hw (i := 5) rfl); (try replace hc6 := Sep.Holds.cells hw (i := 6) rfl)
      go_wp2_with fail
      refine leaves_mark hw (i := 5) rfl (fun w5 hw5 => ⟨_, results_tmp3 rfl _ _ _, HP.out _ _ ⟨.slice none 0 0, by rw [Hp2.out]; rfl, ?_⟩⟩)
      rw [Hp2.out]
      exact (hw5.sel [0] (by decide)).addEmp (X := IsAs 56 (.slice none 0 0) []) (Sl.nil _ _ _)
end Go.Proofs.YteinbojpmhblkaaDoor
/-
  The walk of the document's Read.
-/
namespace Go.Proofs.YteinbojpmhblkaaDoor
set_option linter.unusedSimpArgs false
set_option linter.unusedVariables false
open Go.RowKit Go.Sep
set_option maxRecDepth 20000
attribute [local go_sem] Oper.semAt_some

theorem insP_at (b : List Int) (s : Nat) : insP ((b.drop s).take 11) = ⟨b[s]?.getD 0, b[s + 1]?.getD 0, b[s + 2]?.getD 0, numP ((b.drop (s + 3)).take 8)⟩ := by
  unfold insP
  rw [List.drop_take, List.drop_drop, List.take_take]
  simp [List.getElem?_take, List.getElem?_drop]
theorem rd_from {e w : World} {X : HProp} {p : Addr} {b : List Int} {L : List HProp} {i : Nat} (h : RdB e X (some p) b) (hw : Holds e w L) (hi : L[i]? = some X) (k : Nat) : ReadsB w (some (p.add k)) (b.drop k) := by
  intro j x hj
  rw [List.getElem?_drop] at hj
  obtain ⟨p2, hp2, hc⟩ := h w L i hw hi _ x hj
  cases hp2
  exact ⟨_, rfl, by rw [Go.Deep.add_add]; exact hc⟩
set_option maxRecDepth 20000 in
set_option maxHeartbeats 8000000 in
theorem rRead (b : List Int) (n ca : Nat) (a : Option Addr) (hn : Hid (b.length = n)) (hca : n ≤ ca) (hb : Bys b) (e w : World) (X : HProp) (hR : RdB e X a b) (hw : Holds e w [X]) :
    Calls Tryd.prog 29 #[.slice a n ca] w fun en w' => ∃ v, en = .returned (.tuple #[v, .int .i64 (readP b).2.1, .int .i64 (readP b).2.2]) ∧ Holds e w' [X, IsAs 82 v (readP b).1] := by
  have HR := Sep.hid hR; clear hR
  have Hb := Sep.hid hb; clear hb
  by_cases h0 : n = 0
  · have hp : readP b = ([], 0, 8) := by unfold readP; rw [if_pos (by rw [hn.out]; exact h0)]
    rw [hp]; clear hp
    subst h0
    refine Sep.calls_post ?_
    intro Post_ hPost_
    have HP := Sep.hid hPost_
    clear hPost_
    go_enter Tryd.func29, Tryd.ntmps29
    go_wp2_with fail
    refine bodyPost_ret (results_tmp3 rfl _ _ _) rfl ?_
    refine HP.out _ _ ⟨.slice none 0 0, rfl, hw.addEmp (X := IsAs 82 (.slice none 0 0) []) (Sl.nil _ _ _)⟩
  obtain ⟨p, rfl⟩ : ∃ p, a = some p := by
    obtain ⟨p, hp, _⟩ := HR.out _ _ 0 hw rfl 0 _ (List.getElem?_eq_getElem (by rw [hn.out]; omega))
    exact ⟨p, hp⟩
  obtain ⟨c, hc⟩ : ∃ c, b.getD 0 0 = c := ⟨_, rfl⟩
  have hcb : b[0]? = some c := by rw [← hc, List.getD_eq_getElem?_getD, List.getElem?_eq_getElem (by rw [hn.out]; omega)]; rfl
  have hc255 := Hb.out c (List.mem_of_getElem? hcb)
  have Hc8 : Hid (IntKind.i64.wrap c = c) := Sep.hid (IntWalk.i64_in _ (by omega))
  have g0 : w.cell? p = some (.int .u8 c) := by
    obtain ⟨p2, hp2, h⟩ := HR.out _ _ 0 hw rfl 0 c hcb
    cases hp2; exact h
  have hcw : wrap64 c = c := IntWalk.wrap64_in _ (by omega)
  by_cases h1 : c < 1
  · have hp : readP b = ([], 0, 7) := by unfold readP; rw [if_neg (by rw [hn.out]; exact h0), if_pos (by rw [hc]; exact .inl h1)]
    rw [hp]; clear hp hcb
    refine Sep.calls_post ?_
    intro Post_ hPost_
    have HP := Sep.hid hPost_
    clear hPost_
    go_enter Tryd.func29, Tryd.ntmps29
    go_wp2_with fail
    refine bodyPost_ret (results_tmp3 rfl _ _ _) rfl ?_
    refine HP.out _ _ ⟨.slice none 0 0, rfl, hw.addEmp (X := IsAs 82 (.slice none 0 0) []) (Sl.nil _ _ _)⟩
  by_cases h2 : 24 < c
  · have hp : readP b = ([], 0, 7) := by unfold readP; rw [if_neg (by rw [hn.out]; exact h0), if_pos (by rw [hc]; exact .inr h2)]
    rw [hp]; clear hp hcb
    refine Sep.calls_post ?_
    intro Post_ hPost_
    have HP := Sep.hid hPost_
    clear hPost_
    go_enter Tryd.func29, Tryd.ntmps29
    go_wp2_with fail
    refine bodyPost_ret (results_tmp3 rfl _ _ _) rfl ?_
    refine HP.out _ _ ⟨.slice none 0 0, rfl, hw.addEmp (X := IsAs 82 (.slice none 0 0) []) (Sl.nil _ _ _)⟩
  obtain ⟨m, rfl⟩ : ∃ m : Nat, c = m := ⟨c.toNat, by omega⟩
  have hm1 : 1 ≤ m := by omega
  have hm24 : m ≤ 24 := by omega
  by_cases h3 : (n : Int) < 1 + 11 * m
  · have hp : readP b = ([], 0, 8) := by
      unfold readP
      rw [if_neg (by rw [hn.out]; exact h0), if_neg (by rw [hc]; omega), if_pos (by rw [hc, hn.out]; exact h3)]
    rw [hp]; clear hp hcb
    refine Sep.calls_post ?_
    intro Post_ hPost_
    have HP := Sep.hid hPost_
    clear hPost_
    go_enter Tryd.func29, Tryd.ntmps29
    go_wp2_with fail
    refine bodyPost_ret (results_tmp3 rfl _ _ _) rfl ?_
    refine HP.out _ _ ⟨.slice none 0 0, rfl, hw.addEmp (X := IsAs 82 (.slice none 0 0) []) (Sl.nil _ _ _)⟩
  have Hp : Hid (readP b = if mayP (readL b m) = true then (readL b m, 1 + 11 * (m : Int), 0) else ([], 0, 1)) := Sep.hid (by
    unfold readP
    rw [if_neg (by rw [hn.out]; exact h0), if_neg (by rw [hc]; omega), if_neg (by rw [hc, hn.out]; exact h3), hc]
    rfl)
  clear hcb hc hc255 h0
  refine Sep.calls_post ?_
  intro Post_ hPost_
  have HP := Sep.hid hPost_
  clear hPost_
  go_enter Tryd.func29, Tryd.ntmps29
  go_wp2_with (refine wpList_on rfl (wp_bsl0 rfl hw ?_); intro b_ w_ hw_; replace hw_ := hw_.newSl (i := 1) rfl 4 0 rfl (by decide); clear hw; have hw := hw_; clear hw_; (try simp only [List.map_cons, List.map_nil, List.getD_cons_zero, List.getD_cons_succ, List.getD_nil, List.set_cons_zero, List.set_cons_succ, List.cons_append, List.nil_append, Act.eval, Array.getD_eq_getD_getElem?, List.getElem?_toArray, List.getElem?_cons_succ, List.getElem?_cons_zero, Option.getD_some, Value.cells] at hw); (try simp (disch := first | (simp; done) | (simp; omega)) only [Sep.mid_set, Sep.mid_set2, Sep.mid_set0, Sep.mid_splice, Sep.mid_splice0, List.set_cons_zero, List.set_cons_succ] at hw); (try simp only [Sep.splice, List.take_succ_cons, List.take_zero, List.drop_succ_cons, List.drop_zero, List.length_cons, List.length_nil, Nat.reduceAdd, List.cons_append, List.nil_append] at hw); (try replace hc0 := Sep.Holds.cells hw (i := 0) rfl); (try replace hc1 := Sep.Holds.cells hw (i := 1) rfl); (try replace hc2 := Sep.Holds.cells hw (i := 2) rfl); (try replace hc3 := Sep.Holds.cells hw (i := 3) rfl); (try replace hc4 := Sep.Holds.cells hw (i := 4) rfl); (try replace hc5 := Sep.Holds.cells hw (i := 5) rfl); (try replace hc6 := Sep.Holds.cells hw (i := 6) rfl))
  have Hw0 := Sep.hid hw; clear hw; (try clear hc0); (try clear hc1); (try clear hc2); (try clear hc3); (try clear hc4); (try clear hc5); (try clear hc6)
  go_loopw [7, 6] (fun i o wr => ∃ k : Nat, k ≤ m ∧ i = .int .i64 k ∧ Holds e wr [X, Sl 82 4 o k (encAs (readL b k))]) (fun i _ _ => m - (intOf i).toNat)
  case atStart => exact ⟨0, Nat.zero_le _, rfl, Hw0.out⟩
  case round =>
    clear Hw0
    obtain ⟨k, hk, rfl, hw⟩ := hrel
    obtain ⟨oa, oc, rfl⟩ := Sl.value (i := 1) rfl hw
    by_cases hlt : k < m
    · have Hsn := Sep.hid (readL_snoc b k)
      go_wp2_with fail
      obtain ⟨s, hs⟩ : ∃ s, 1 + 11 * k = s := ⟨_, rfl⟩
      have hsi : (1 : Int) + 11 * (k : Int) = (s : Int) := by rw [← hs]; push_cast; rfl
      rw [hsi]
      have hsn : s + 11 ≤ n := by omega
      have hs3 : s ≤ 300 := by omega
      have Hx : Hid (insP ((b.drop (1 + k * 11)).take 11) = ⟨b[s]?.getD 0, b[s + 1]?.getD 0, b[s + 2]?.getD 0, numP ((b.drop (s + 3)).take 8)⟩) := Sep.hid (by rw [Nat.mul_comm k 11, hs]; exact insP_at b s)
      have Hget : Hid (∀ j, s + j < n → IntKind.i64.wrap (b[s + j]?.getD 0) = b[s + j]?.getD 0 ∧ ∀ w', Holds e w' [X] → w'.cell? (p.add (s + j)) = some (.int .u8 (b[s + j]?.getD 0))) := Sep.hid (fun j hj => by
        have hj' : b[s + j]? = some (b[s + j]?.getD 0) := by rw [List.getElem?_eq_getElem (by rw [hn.out]; exact hj)]; rfl
        refine ⟨IntWalk.i64_in _ (by have := Hb.out _ (List.mem_of_getElem? hj'); omega), fun w' hw' => ?_⟩
        obtain ⟨p2, hp2, hc⟩ := HR.out w' [X] 0 hw' rfl _ _ hj'
        cases hp2; exact hc)
      have Hnum : Hid (∀ w' L, Holds e w' (X :: L) → Calls Tryd.prog 28 #[.slice (some (p.add (s + 3))) (n - (s + 3)) (ca - (s + 3))] w' fun en w2 => en = .returned (.int .i64 (numP ((b.drop (s + 3)).take 8))) ∧ w2 = w') := Sep.hid (fun w' L hw' => rNum _ (b.drop (s + 3)) _ _ (by omega) (Sep.hid (by rw [List.length_drop, hn.out])) (Hb.out.drop _) w' (rd_from (i := 0) HR.out hw' rfl _))
      clear hs hsi
      obtain ⟨c0, hc0⟩ : ∃ c0, b[s]?.getD 0 = c0 := ⟨_, rfl⟩
      obtain ⟨c1, hc1⟩ : ∃ c1, b[s + 1]?.getD 0 = c1 := ⟨_, rfl⟩
      obtain ⟨c2, hc2⟩ : ∃ c2, b[s + 2]?.getD 0 = c2 := ⟨_, rfl⟩
      have Hg : Hid ((IntKind.i64.wrap c0 = c0 ∧ IntKind.i64.wrap c1 = c1 ∧ IntKind.i64.wrap c2 = c2) ∧ ∀ w', Holds e w' [X] → w'.cell? (p.add s) = some (.int .u8 c0) ∧ w'.cell? (p.add (s + 1)) = some (.int .u8 c1) ∧ w'.cell? (p.add (s + 2)) = some (.int .u8 c2)) := Sep.hid (by
        have g0 := Hget.out 0 (by omega)
        have g1 := Hget.out 1 (by omega)
        have g2 := Hget.out 2 (by omega)
        rw [Nat.add_zero, hc0] at g0
        rw [hc1] at g1
        rw [hc2] at g2
        exact ⟨⟨g0.1, g1.1, g2.1⟩, fun w' hw' => ⟨g0.2 w' hw', g1.2 w' hw', g2.2 w' hw'⟩⟩)
      rw [hc0, hc1, hc2] at Hx
      rw [Hx.out] at Hsn
      clear hc0 hc1 hc2 Hget Hx
      generalize numP ((b.drop (s + 3)).take 8) = c3 at *
      obtain ⟨s1, hs1⟩ : ∃ s1, s + 1 = s1 := ⟨_, rfl⟩
      obtain ⟨s2, hs2⟩ : ∃ s2, s + 2 = s2 := ⟨_, rfl⟩
      obtain ⟨s3, hs3'⟩ : ∃ s3, s + 3 = s3 := ⟨_, rfl⟩
      have e1 : IntKind.i64.wrap ((s : Int) + 1) = (s1 : Int) := by rw [← hs1, IntWalk.i64_in _ (by omega)]; rfl
      have e2 : IntKind.i64.wrap ((s : Int) + 2) = (s2 : Int) := by rw [← hs2, IntWalk.i64_in _ (by omega)]; rfl
      have e3 : IntKind.i64.wrap ((s : Int) + 3) = (s3 : Int) := by rw [← hs3', IntWalk.i64_in _ (by omega)]; rfl
      have l0 : s < n := by omega
      have l1 : s1 < n := by omega
      have l2 : s2 < n := by omega
      have l3 : s3 ≤ n := by omega
      have l4 : n ≤ ca := hca
      have l5 : ¬ ca = s3 := by omega
      rw [hs1, hs2] at Hg
      rw [hs3'] at Hnum
      clear hs1 hs2 hs3' hsn hs3 hca
      obtain ⟨A, hA⟩ : ∃ A, A = encAs (readL b k) := ⟨_, rfl⟩
      have HA := Sep.hid hA
      rw [← hA] at hw
      clear hA h1 h2 h3 Hp
      refine wp_region_L [22, 24, 25] [(4, (fun w' => Holds e w' [X])), (10, (fun w' => Holds e w' [X])), (16, (fun w' => Holds e w' [X]))] (n := 27) (listed := (marks 27 0)) (by kernel_rfl) rfl (by kernel_rfl) ?conds1 ?_
      case conds1 =>
       intro c hc
       simp only [List.mem_cons, List.not_mem_nil, or_false] at hc
       rcases hc with rfl | rfl | rfl
       · exact (by replace hw := hw.drew; exact hw.sel [0] (by decide))
       · exact (by replace hw := hw.drew; exact hw.sel [0] (by decide))
       · exact (by replace hw := hw.drew; exact hw.sel [0] (by decide))
      replace hw := hw.drew
      (try replace hc0 := Sep.Holds.cells hw (i := 0) rfl); (try replace hc1 := Sep.Holds.cells hw (i := 1) rfl); (try replace hc2 := Sep.Holds.cells hw (i := 2) rfl); (try replace hc3 := Sep.Holds.cells hw (i := 3) rfl); (try replace hc4 := Sep.Holds.cells hw (i := 4) rfl); (try replace hc5 := Sep.Holds.cells hw (i := 5) rfl); (try replace hc6 := Sep.Holds.cells hw (i := 6) rfl)
      refine wpL_q 0 ?_ rfl (Or.inl ⟨by rfl, fun w_ hS_ => ?_⟩) (marks 27 1) ?_
      rotate_left
      next => (go_simp; try (first | rfl | exact (Bool.not_not _).symm))
      try simp only [Act.put, List.setIfInBounds_toArray, List.set_cons_zero, List.set_cons_succ]
      refine wpL_q 1 ?_ rfl (Or.inl ⟨by rfl, fun w_ hS_ => ?_⟩) (marks 27 3) ?_
      rotate_left
      next => (go_simp; try (first | rfl | exact (Bool.not_not _).symm))
      try simp only [Act.put, List.setIfInBounds_toArray, List.set_cons_zero, List.set_cons_succ]
      refine wpL_q 2 ?_ rfl (Or.inl ⟨by rfl, fun w_ hS_ => ?_⟩) (marks 27 7) ?_
      rotate_left
      next => (go_simp; try (first | rfl | exact (Bool.not_not _).symm))
      try simp only [Act.put, List.setIfInBounds_toArray, List.set_cons_zero, List.set_cons_succ]
      refine wpL_q 3 ?_ rfl (Or.inl ⟨by rfl, fun w_ hS_ => ?_⟩) (marks 27 15) ?_
      rotate_left
      next => (go_simp; try (first | rfl | exact (Bool.not_not _).symm))
      try simp only [Act.put, List.setIfInBounds_toArray, List.set_cons_zero, List.set_cons_succ]
      refine wpL_m 4 ?_ rfl (.head _) (Or.inl ⟨by rfl, fun w_ hS_ => ?_⟩) (marks 27 31) ?_
      rotate_left
      next => (dsimp only at hS_; (try have q0 := Sep.Holds.cells hS_ (i := 0) rfl); (try have q1 := Sep.Holds.cells hS_ (i := 1) rfl); (try have q2 := Sep.Holds.cells hS_ (i := 2) rfl); (try have q3 := Sep.Holds.cells hS_ (i := 3) rfl); (try have q4 := Sep.Holds.cells hS_ (i := 4) rfl); (try have q5 := Sep.Holds.cells hS_ (i := 5) rfl); (try have q6 := Sep.Holds.cells hS_ (i := 6) rfl); first | ((first | (go_simp; (try rfl); done) | (obtain ⟨g0, g1, g2⟩ := Hg.out.2 _ hS_; go_simp; (try rfl); done))) | (go_simp; try (first | rfl | exact (Bool.not_not _).symm)))
      try simp only [Act.put, List.setIfInBounds_toArray, List.set_cons_zero, List.set_cons_succ]
      refine wpL_q 5 ?_ rfl (Or.inl ⟨by rfl, fun w_ hS_ => ?_⟩) (marks 27 63) ?_
      rotate_left
      next => (go_simp; try (first | rfl | exact (Bool.not_not _).symm))
      try simp only [Act.put, List.setIfInBounds_toArray, List.set_cons_zero, List.set_cons_succ]
      refine wpL_q 6 ?_ rfl (Or.inl ⟨by rfl, fun w_ hS_ => ?_⟩) (marks 27 127) ?_
      rotate_left
      next => (go_simp; try (first | rfl | exact (Bool.not_not _).symm))
      try simp only [Act.put, List.setIfInBounds_toArray, List.set_cons_zero, List.set_cons_succ]
      refine wpL_q 7 ?_ rfl (Or.inl ⟨by rfl, fun w_ hS_ => ?_⟩) (marks 27 255) ?_
      rotate_left
      next => (go_simp; try (first | rfl | exact (Bool.not_not _).symm))
      try simp only [Act.put, List.setIfInBounds_toArray, List.set_cons_zero, List.set_cons_succ]
      refine wpL_q 8 ?_ rfl (Or.inl ⟨by rfl, fun w_ hS_ => ?_⟩) (marks 27 511) ?_
      rotate_left
      next => (go_simp; try (first | rfl | exact (Bool.not_not _).symm))
      try simp only [Act.put, List.setIfInBounds_toArray, List.set_cons_zero, List.set_cons_succ]
      refine wpL_q 9 ?_ rfl (Or.inl ⟨by rfl, fun w_ hS_ => ?_⟩) (marks 27 1023) ?_
      rotate_left
      next => (go_simp; try (first | rfl | exact (Bool.not_not _).symm))
      try simp only [Act.put, List.setIfInBounds_toArray, List.set_cons_zero, List.set_cons_succ]
      refine wpL_m 10 ?_ rfl (.tail _ (.head _)) (Or.inl ⟨by rfl, fun w_ hS_ => ?_⟩) (marks 27 2047) ?_
      rotate_left
      next => (dsimp only at hS_; (try have q0 := Sep.Holds.cells hS_ (i := 0) rfl); (try have q1 := Sep.Holds.cells hS_ (i := 1) rfl); (try have q2 := Sep.Holds.cells hS_ (i := 2) rfl); (try have q3 := Sep.Holds.cells hS_ (i := 3) rfl); (try have q4 := Sep.Holds.cells hS_ (i := 4) rfl); (try have q5 := Sep.Holds.cells hS_ (i := 5) rfl); (try have q6 := Sep.Holds.cells hS_ (i := 6) rfl); first | ((first | (go_simp; (try rfl); done) | (obtain ⟨g0, g1, g2⟩ := Hg.out.2 _ hS_; go_simp; (try rfl); done))) | (go_simp; try (first | rfl | exact (Bool.not_not _).symm)))
      try simp only [Act.put, List.setIfInBounds_toArray, List.set_cons_zero, List.set_cons_succ]
      refine wpL_q 11 ?_ rfl (Or.inl ⟨by rfl, fun w_ hS_ => ?_⟩) (marks 27 4095) ?_
      rotate_left
      next => (go_simp; try (first | rfl | exact (Bool.not_not _).symm))
      try simp only [Act.put, List.setIfInBounds_toArray, List.set_cons_zero, List.set_cons_succ]
      refine wpL_q 12 ?_ rfl (Or.inl ⟨by rfl, fun w_ hS_ => ?_⟩) (marks 27 8191) ?_
      rotate_left
      next => (go_simp; try (first | rfl | exact (Bool.not_not _).symm))
      try simp only [Act.put, List.setIfInBounds_toArray, List.set_cons_zero, List.set_cons_succ]
      refine wpL_q 13 ?_ rfl (Or.inl ⟨by rfl, fun w_ hS_ => ?_⟩) (marks 27 16383) ?_
      rotate_left
      next => (go_simp; try (first | rfl | exact (Bool.not_not _).symm))
      try simp only [Act.put, List.setIfInBounds_toArray, List.set_cons_zero, List.set_cons_succ]
      refine wpL_q 14 ?_ rfl (Or.inl ⟨by rfl, fun w_ hS_ => ?_⟩) (marks 27 32767) ?_
      rotate_left
      next => (go_simp; try (first | rfl | exact (Bool.not_not _).symm))
      try simp only [Act.put, List.setIfInBounds_toArray, List.set_cons_zero, List.set_cons_succ]
      refine wpL_q 15 ?_ rfl (Or.inl ⟨by rfl, fun w_ hS_ => ?_⟩) (marks 27 65535) ?_
      rotate_left
      next => (go_simp; try (first | rfl | exact (Bool.not_not _).symm))
      try simp only [Act.put, List.setIfInBounds_toArray, List.set_cons_zero, List.set_cons_succ]
      refine wpL_m 16 ?_ rfl (.tail _ (.tail _ (.head _))) (Or.inl ⟨by rfl, fun w_ hS_ => ?_⟩) (marks 27 131071) ?_
      rotate_left
      next => (dsimp only at hS_; (try have q0 := Sep.Holds.cells hS_ (i := 0) rfl); (try have q1 := Sep.Holds.cells hS_ (i := 1) rfl); (try have q2 := Sep.Holds.cells hS_ (i := 2) rfl); (try have q3 := Sep.Holds.cells hS_ (i := 3) rfl); (try have q4 := Sep.Holds.cells hS_ (i := 4) rfl); (try have q5 := Sep.Holds.cells hS_ (i := 5) rfl); (try have q6 := Sep.Holds.cells hS_ (i := 6) rfl); first | ((first | (go_simp; (try rfl); done) | (obtain ⟨g0, g1, g2⟩ := Hg.out.2 _ hS_; go_simp; (try rfl); done))) | (go_simp; try (first | rfl | exact (Bool.not_not _).symm)))
      try simp only [Act.put, List.setIfInBounds_toArray, List.set_cons_zero, List.set_cons_succ]
      refine wpL_q 17 ?_ rfl (Or.inl ⟨by rfl, fun w_ hS_ => ?_⟩) (marks 27 262143) ?_
      rotate_left
      next => (go_simp; try (first | rfl | exact (Bool.not_not _).symm))
      try simp only [Act.put, List.setIfInBounds_toArray, List.set_cons_zero, List.set_cons_succ]
      refine wpL_q 18 ?_ rfl (Or.inl ⟨by rfl, fun w_ hS_ => ?_⟩) (marks 27 524287) ?_
      rotate_left
      next => (go_simp; try (first | rfl | exact (Bool.not_not _).symm))
      try simp only [Act.put, List.setIfInBounds_toArray, List.set_cons_zero, List.set_cons_succ]
      refine wpL_q 19 ?_ rfl (Or.inl ⟨by rfl, fun w_ hS_ => ?_⟩) (marks 27 1048575) ?_
      rotate_left
      next => (go_simp; try (first | rfl | exact (Bool.not_not _).symm))
      try simp only [Act.put, List.setIfInBounds_toArray, List.set_cons_zero, List.set_cons_succ]
      refine wpL_q 20 ?_ rfl (Or.inl ⟨by rfl, fun w_ hS_ => ?_⟩) (marks 27 2097151) ?_
      rotate_left
      next => (go_simp; try (first | rfl | exact (Bool.not_not _).symm))
      try simp only [Act.put, List.setIfInBounds_toArray, List.set_cons_zero, List.set_cons_succ]
      refine wpL_q 21 ?_ rfl (Or.inl ⟨by rfl, fun w_ hS_ => ?_⟩) (marks 27 4194303) ?_
      rotate_left
      next => (first | ((first | (go_simp; (try rfl); done) | (obtain ⟨g0, g1, g2⟩ := Hg.out.2 _ hS_; go_simp; (try rfl); done))) | (go_simp; try (first | rfl | exact (Bool.not_not _).symm)))
      try simp only [Act.put, List.setIfInBounds_toArray, List.set_cons_zero, List.set_cons_succ]
      refine wpL_o 22 rfl (by rfl) (marks 27 8388607) ?_
      (go_simp; go_at_call 28; refine (Hnum.out _ _ hw).mono ?_; rintro _ w_ ⟨rfl, hw_⟩; subst hw_; (try simp only [List.map_cons, List.map_nil, List.getD_cons_zero, List.getD_cons_succ, List.getD_nil, List.set_cons_zero, List.set_cons_succ, List.cons_append, List.nil_append, Act.eval, Array.getD_eq_getD_getElem?, List.getElem?_toArray, List.getElem?_cons_succ, List.getElem?_cons_zero, Option.getD_some, Value.cells] at hw); (try simp (disch := first | (simp; done) | (simp; omega)) only [Sep.mid_set, Sep.mid_set2, Sep.mid_set0, Sep.mid_splice, Sep.mid_splice0, List.set_cons_zero, List.set_cons_succ] at hw); (try simp only [Sep.splice, List.take_succ_cons, List.take_zero, List.drop_succ_cons, List.drop_zero, List.length_cons, List.length_nil, Nat.reduceAdd, List.cons_append, List.nil_append] at hw))
      refine ⟨(SL.keep (by exact hw.sel [0] (by decide)) (SL.keep (by exact hw.sel [0] (by decide)) (SL.keep (by exact hw.sel [0] (by decide)) SL.nil))), ?_⟩
      try simp only [Act.put, List.setIfInBounds_toArray, List.set_cons_zero, List.set_cons_succ]
      refine wpL_q 23 ?_ rfl (Or.inl ⟨by rfl, fun w_ hS_ => ?_⟩) (marks 27 16777215) ?_
      rotate_left
      next => (go_simp; try (first | rfl | exact (Bool.not_not _).symm))
      try simp only [Act.put, List.setIfInBounds_toArray, List.set_cons_zero, List.set_cons_succ]
      refine wpL_o 24 rfl (by rfl) (marks 27 33554431) ?_
      (refine wp_bsl1 (v := .agg #[.int .i64 (IntKind.i64.wrap c0), .int .i64 (IntKind.i64.wrap c1), .int .i64 (IntKind.i64.wrap c2), .int .i64 c3]) rfl rfl (by rfl) (by rfl) (by decide) hw ?_; intro b_ w_ hw_; clear hw; have hw := hw_; clear hw_; (try simp only [List.map_cons, List.map_nil, List.getD_cons_zero, List.getD_cons_succ, List.getD_nil, List.set_cons_zero, List.set_cons_succ, List.cons_append, List.nil_append, Act.eval, Array.getD_eq_getD_getElem?, List.getElem?_toArray, List.getElem?_cons_succ, List.getElem?_cons_zero, Option.getD_some, Value.cells] at hw); (try simp (disch := first | (simp; done) | (simp; omega)) only [Sep.mid_set, Sep.mid_set2, Sep.mid_set0, Sep.mid_splice, Sep.mid_splice0, List.set_cons_zero, List.set_cons_succ] at hw); (try simp only [Sep.splice, List.take_succ_cons, List.take_zero, List.drop_succ_cons, List.drop_zero, List.length_cons, List.length_nil, Nat.reduceAdd, List.cons_append, List.nil_append] at hw); (try replace hc0 := Sep.Holds.cells hw (i := 0) rfl); (try replace hc1 := Sep.Holds.cells hw (i := 1) rfl); (try replace hc2 := Sep.Holds.cells hw (i := 2) rfl); (try replace hc3 := Sep.Holds.cells hw (i := 3) rfl); (try replace hc4 := Sep.Holds.cells hw (i := 4) rfl); (try replace hc5 := Sep.Holds.cells hw (i := 5) rfl); (try replace hc6 := Sep.Holds.cells hw (i := 6) rfl))
      refine ⟨(SL.drop 24 (by kernel_rfl) (SL.drop 24 (by kernel_rfl) (SL.drop 24 (by kernel_rfl) SL.nil))), ?_⟩
      try simp only [Act.put, List.setIfInBounds_toArray, List.set_cons_zero, List.set_cons_succ]
      refine wpL_o 25 rfl (by rfl) (marks 27 67108863) ?_
      (refine wp_appendPt (i := 1) (j := 2) rfl rfl hw rfl rfl rfl (by rfl) (by simp [Value.oneCell']) (by decide) (by rfl) (by (try unfold maxLen); omega) (by (try unfold maxLen); omega) ?_; intro b2_ cap2_ off2_ w_ hcap2_ hw_; clear hw; have hw := hw_; clear hw_; (try simp only [List.map_cons, List.map_nil, List.getD_cons_zero, List.getD_cons_succ, List.getD_nil, List.set_cons_zero, List.set_cons_succ, List.cons_append, List.nil_append, Act.eval, Array.getD_eq_getD_getElem?, List.getElem?_toArray, List.getElem?_cons_succ, List.getElem?_cons_zero, Option.getD_some, Value.cells] at hw); (try simp (disch := first | (simp; done) | (simp; omega)) only [Sep.mid_set, Sep.mid_set2, Sep.mid_set0, Sep.mid_splice, Sep.mid_splice0, List.set_cons_zero, List.set_cons_succ] at hw); (try simp only [Sep.splice, List.take_succ_cons, List.take_zero, List.drop_succ_cons, List.drop_zero, List.length_cons, List.length_nil, Nat.reduceAdd, List.cons_append, List.nil_append] at hw); (try replace hc0 := Sep.Holds.cells hw (i := 0) rfl); (try replace hc1 := Sep.Holds.cells hw (i := 1) rfl); (try replace hc2 := Sep.Holds.cells hw (i := 2) rfl); (try replace hc3 := Sep.Holds.cells hw (i := 3) rfl); (try replace hc4 := Sep.Holds.cells hw (i := 4) rfl); (try replace hc5 := Sep.Holds.cells hw (i := 5) rfl); (try replace hc6 := Sep.Holds.cells hw (i := 6) rfl))
      refine ⟨(SL.drop 24 (by kernel_rfl) (SL.drop 24 (by kernel_rfl) (SL.drop 24 (by kernel_rfl) SL.nil))), ?_⟩
      try simp only [Act.put, List.setIfInBounds_toArray, List.set_cons_zero, List.set_cons_succ]
      refine wpL_q 26 ?_ rfl (Or.inl ⟨by rfl, fun w_ hS_ => ?_⟩) (marks 27 134217727) ?_
      rotate_left
      next => (go_simp; try (first | rfl | exact (Bool.not_not _).symm))
      try simp only [Act.put, List.setIfInBounds_toArray, List.set_cons_zero, List.set_cons_succ]
      all_goals refine wpL_done (by kernel_rfl) ?_ _
      rw [Hg.out.1.1, Hg.out.1.2.1, Hg.out.1.2.2] at hw
      clear l0 l1 l2 l3 l4 l5 e1 e2 e3
      (try clear hc0); (try clear hc1); (try clear hc2); (try clear hc3); (try clear hc4); (try clear hc5); (try clear hc6)
      go_wp2_with fail
      go_roundw
      case rel =>
        refine ⟨k + 1, by omega, by go_num, ?_⟩
        rw [Hsn.out, encAs_snoc, ← HA.out]
        exact hw.sel [0, 1] (by decide)
      case measure => simp [intOf]; omega
    · have hke : m = k := by omega
      subst hke
      clear h1 h2 h3
      have Hlen := Sep.hid (readL_len b m)
      generalize readL b m = l2 at *
      have hm2 : m ≤ 24 := hm24
      go_wp2_with fail
      refine (rMay l2 m oc oa Hlen (by omega) e _ _ (RdA.two rdA) hw.focus0).mono ?_
      rintro _ w_ ⟨rfl, hw_⟩
      clear hw; (try clear hc0); (try clear hc1); (try clear hc2); (try clear hc3); (try clear hc4); (try clear hc5); (try clear hc6)
      have hw := Holds.unfocus0 hw_; clear hw_
      (try simp only [List.map_cons, List.map_nil, List.getD_cons_zero, List.getD_cons_succ, List.getD_nil, List.set_cons_zero, List.set_cons_succ, List.cons_append, List.nil_append, Act.eval, Array.getD_eq_getD_getElem?, List.getElem?_toArray, List.getElem?_cons_succ, List.getElem?_cons_zero, Option.getD_some, Value.cells] at hw); (try simp (disch := first | (simp; done) | (simp; omega)) only [Sep.mid_set, Sep.mid_set2, Sep.mid_set0, Sep.mid_splice, Sep.mid_splice0, List.set_cons_zero, List.set_cons_succ] at hw); (try simp only [Sep.splice, List.take_succ_cons, List.take_zero, List.drop_succ_cons, List.drop_zero, List.length_cons, List.length_nil, Nat.reduceAdd, List.cons_append, List.nil_append] at hw)
      cases hma : mayP l2 with
      | true =>
        have Hp2 : Hid (readP b = (l2, 1 + 11 * (m : Int), 0)) := Sep.hid (by rw [Hp.out, if_pos hma])
        clear Hp; have Hma := Sep.hid hma; clear hma
        go_wp2_with fail
        refine bodyPost_ret (results_tmp3 rfl _ _ _) rfl ?_
        refine HP.out _ _ ⟨.slice oa m oc, by rw [Hp2.out]; rfl, ?_⟩
        rw [Hp2.out]
        unfold IsAs
        rw [Hlen.out]
        exact hw
      | false =>
        have Hp2 : Hid (readP b = ([], 0, 1)) := Sep.hid (by rw [Hp.out, if_neg (by rw [hma]; decide)])
        clear Hp; have Hma := Sep.hid hma; clear hma
        go_wp2_with fail
        refine bodyPost_ret (results_tmp3 rfl _ _ _) rfl ?_
        refine HP.out _ _ ⟨.slice none 0 0, by rw [Hp2.out]; rfl, ?_⟩
        rw [Hp2.out]
        exact (hw.sel [0] (by decide)).addEmp (X := IsAs 82 (.slice none 0 0) []) (Sl.nil _ _ _)
end Go.Proofs.YteinbojpmhblkaaDoor
/-
  The walk of awake: the calls whose answers the document fixes.
-/
namespace Go.Proofs.YteinbojpmhblkaaDoor
set_option linter.unusedSimpArgs false
set_option linter.unusedVariables false
open Go.RowKit Go.Sep
set_option maxRecDepth 20000

theorem RdA.at {e : World} {A : HProp} {M : List HProp} {a : Option Addr} {l : List Deed} (h : RdA e A a l) : ∀ (j : Nat), M[j]? = some A → RdA e (sepL M) a l := by
  intro j hj w L i hw hi
  have hil := (List.getElem?_eq_some_iff.1 hi).1
  cases M with
  | nil => cases hj
  | cons B M =>
    cases j with
    | zero => cases hj; exact h w _ i (hw.open_ i hi) (by rw [List.getElem?_append_left (by simpa using hil), List.getElem?_set_self hil])
    | succ j => exact h w _ (L.length + j) (hw.open_ i hi) (by rw [List.getElem?_append_right (by simp)]; simpa using hj)
theorem RdB.at {e : World} {A : HProp} {M : List HProp} {a : Option Addr} {l : List Int} (h : RdB e A a l) : ∀ (j : Nat), M[j]? = some A → RdB e (sepL M) a l := by
  intro j hj w L i hw hi
  have hil := (List.getElem?_eq_some_iff.1 hi).1
  cases M with
  | nil => cases hj
  | cons B M =>
    cases j with
    | zero => cases hj; exact h w _ i (hw.open_ i hi) (by rw [List.getElem?_append_left (by simpa using hil), List.getElem?_set_self hil])
    | succ j => exact h w _ (L.length + j) (hw.open_ i hi) (by rw [List.getElem?_append_right (by simp)]; simpa using hj)
theorem RdB.take {e : World} {X : HProp} {a : Option Addr} {l : List Int} (h : RdB e X a l) (k : Nat) : RdB e X a (l.take k) := by
  intro w L i hw hi j x hj
  rw [List.getElem?_take] at hj
  split at hj
  · exact h w L i hw hi j x hj
  · cases hj
def x0 : Deed := ⟨1, 2, 0, -1⟩
def b0 : List Int := [1, 1, 2, 0, 255, 255, 255, 255, 255, 255, 255, 255]
theorem bytes_x0 : bytesP [x0] = b0 := by decide +kernel
theorem may_x0 : mayP [x0] = true := by decide +kernel
theorem read_b0 : readP (b0 ++ [9]) = ([x0], 12, 0) := by decide +kernel
theorem read_10 : readP [1, 0] = ([], 0, 8) := by decide +kernel
theorem read_0 : readP [0] = ([], 0, 7) := by decide +kernel
theorem may_nil : mayP [] = false := by decide +kernel
def BysB (l : List Int) : Bool := l.all fun x => decide (0 ≤ x ∧ x ≤ 255)
theorem bys_of {l : List Int} (h : BysB l = true) : Bys l := by
  intro x hx
  have := List.all_eq_true.1 h x hx
  simpa using this
end Go.Proofs.YteinbojpmhblkaaDoor
/-
  Parts of slices: 'xs[:k]', 'xs[l:]' as values alone; append of a part of what is held elsewhere.
-/
namespace Go.Sep
set_option linter.unusedSimpArgs false
set_option linter.unusedVariables false
variable {P : Program} {ops : Array Oper} {Q : Exit → Act → World → Prop} {K : Act → World → Prop} {a : Act} {e w : World} {rest : List Oper} {o : Oper} {L : List HProp}

/-- 'xs[:k]', as a value. -/
theorem run_sliceTo {t E : TypeId} {z : Value} {sz kb : Nat} {x hi : Operand} [st : SlT P t E] [ti : TI P E z sz kb] {n k cap : Nat} {ao : Option Addr}
    (ho : o.op = .slice t x none (some hi) none) (hx : a.eval x = .slice ao n cap) (hh : a.eval hi = .int .i64 (k : Int)) (hk : k ≤ cap) :
    (execOp a.eval o).run P w = .ok (.value (.slice ao k cap)) w := by
  have hel : P.elem t = E := by simp [Program.elem, st.out]
  have run : (Instr.sliceAt t (.slice ao n cap) none (some (.int .i64 (k : Int))) none).run P w = .ok (.slice ao k cap) w := by
    rw [run_sliceAt_slice (P := P) w t _ _ _ _ (by rw [hel]; exact st.out), run_slice_h (P := P) w t ao n cap (by rw [hel]; exact st.out) .i64 k (by omega) (by omega), hel, ti.sizeOf_run]
    simp only [Result.andThen_ok, Int.toNat_natCast]
    congr 1
    unfold sliced
    cases ao with
    | none => simp
    | some ad =>
      by_cases hc : cap = 0
      · subst hc; obtain rfl : k = 0 := by omega
        simp
      · have h0 : ad.add 0 = ad := by unfold Addr.add; split <;> simp_all
        simp [hc, h0]
  unfold execOp
  simp only [ho, hx, hh, Option.map_some, Option.map_none, Sem.run_bind, Sem.run_pure, run, Result.andThen_ok]
/-- 'xs[l:]', as a value. -/
theorem run_sliceFrom {t E : TypeId} {z : Value} {sz kb : Nat} {x lo : Operand} [st : SlT P t E] [ti : TI P E z sz kb] {n l cap : Nat} {ao : Option Addr}
    (ho : o.op = .slice t x (some lo) none none) (hx : a.eval x = .slice ao n cap) (hlo : a.eval lo = .int .i64 (l : Int)) (hl : l ≤ n) :
    (execOp a.eval o).run P w = .ok (.value (sliced ao l n cap sz)) w := by
  have hel : P.elem t = E := by simp [Program.elem, st.out]
  have run : (Instr.sliceAt t (.slice ao n cap) (some (.int .i64 (l : Int))) none none).run P w = .ok (sliced ao l n cap sz) w := by
    rw [run_sliceAt_slice (P := P) w t _ _ _ _ (by rw [hel]; exact st.out), run_slice_l (P := P) w t ao n cap (by rw [hel]; exact st.out) .i64 l (by omega) (by omega), hel, ti.sizeOf_run]
    simp
  unfold execOp
  simp only [ho, hx, hlo, Option.map_some, Option.map_none, Sem.run_bind, Sem.run_pure, run, Result.andThen_ok]
theorem sliced_from {b off l n cap sz : Nat} (h1 : l < n) (h2 : n ≤ cap) : sliced (some ⟨b, off, none⟩) l n cap sz = .slice (some ⟨b, off + l * sz, none⟩) (n - l) (cap - l) := by
  have hadd : (⟨b, off, none⟩ : Addr).add (l * sz) = ⟨b, off + l * sz, none⟩ := by unfold Addr.add; split <;> simp_all
  have hne : ¬ cap = l := by omega
  simp [sliced, hne, hadd]
theorem sliced_end {ao : Option Addr} {n cap sz : Nat} : ∃ a' c', sliced ao n n cap sz = .slice a' 0 c' := by
  cases ao with
  | none => exact ⟨none, cap - n, by simp [sliced]⟩
  | some ad =>
    by_cases h : cap = n
    · exact ⟨some ad, 0, by simp [sliced, h]⟩
    · exact ⟨some (ad.add (n * sz)), cap - n, by simp [sliced, h]⟩
/-- What stands in a part of a slice that is held. -/
theorem Holds.part {b off j N cap sz T k m : Nat} {all : List Value} (hw : Holds e w L) (hj : L[j]? = some (Sl T sz (.slice (some ⟨b, off, none⟩) N cap) N all)) (hkm : k + m ≤ N) :
    ∀ (q : Nat) (y : Value), ((all.drop (k * sz)).take (m * sz))[q]? = some y → w.cell? ((⟨b, off + k * sz, none⟩ : Addr).add q) = some y := by
  intro q y hq
  have hln : all.length = N * sz := hw.fact hj (fun _ h => h.1)
  rcases hw.openSl hj with ⟨h2, _⟩ | ⟨b', cap', pre, post, hv, g1, g2, g3, hw'⟩
  · cases h2
  · cases hv
    have hjl : j < L.length := (List.getElem?_eq_some_iff.1 hj).1
    have hadd : (⟨b, pre.length + k * sz, none⟩ : Addr).add q = ⟨b, pre.length + (k * sz + q), none⟩ := by unfold Addr.add; split <;> simp_all [Nat.add_assoc]
    rw [hadd, hw'.cells (List.getElem?_set_self hjl)]
    have hlt := (List.getElem?_eq_some_iff.1 hq).1
    rw [List.length_take, List.length_drop] at hlt
    rw [Sep.mid_get _ _ _ _ (by omega)]
    rw [List.getElem?_take, if_pos (by omega), List.getElem?_drop] at hq
    exact hq
/-- What 'xs[:k]' lets read. -/
theorem Holds.rdTo {b off j N cap sz T k : Nat} {all : List Value} (hw : Holds e w L) (hj : L[j]? = some (Sl T sz (.slice (some ⟨b, off, none⟩) N cap) N all)) (hk : k ≤ N) :
    (0 < k ∧ ∃ ad c, Value.slice (some ⟨b, off, none⟩) k cap = .slice (some ad) k c ∧ ∀ (q : Nat) (y : Value), (all.take (k * sz))[q]? = some y → w.cell? (ad.add q) = some y) ∨ (k = 0 ∧ ∃ ao c, Value.slice (some ⟨b, off, none⟩) k cap = .slice ao 0 c) := by
  by_cases h0 : k = 0
  · subst h0; exact .inr ⟨rfl, _, _, rfl⟩
  · refine .inl ⟨by omega, _, _, rfl, fun q y hq => ?_⟩
    have := hw.part (k := 0) (m := k) hj (by omega) q y (by rw [Nat.zero_mul, List.drop_zero]; exact hq)
    rwa [Nat.zero_mul, Nat.add_zero] at this
/-- What 'xs[k:]' lets read. -/
theorem Holds.rdFrom {b off j N cap sz T k : Nat} {all : List Value} (hw : Holds e w L) (hj : L[j]? = some (Sl T sz (.slice (some ⟨b, off, none⟩) N cap) N all)) (hk : k ≤ N) :
    (0 < N - k ∧ ∃ ad c, sliced (some ⟨b, off, none⟩) k N cap sz = .slice (some ad) (N - k) c ∧ ∀ (q : Nat) (y : Value), (all.drop (k * sz))[q]? = some y → w.cell? (ad.add q) = some y) ∨ (N - k = 0 ∧ ∃ ao c, sliced (some ⟨b, off, none⟩) k N cap sz = .slice ao 0 c) := by
  have hln : all.length = N * sz := hw.fact hj (fun _ h => h.1)
  by_cases h0 : k = N
  · subst h0; exact .inr ⟨by omega, sliced_end⟩
  · have hcap : N ≤ cap := by
      rcases hw.openSl hj with ⟨h2, _⟩ | ⟨b', cap', pre, post, hv, g1, _⟩
      · cases h2
      · cases hv; exact g1
    refine .inl ⟨by omega, _, _, sliced_from (by omega) hcap, fun q y hq => ?_⟩
    refine hw.part (k := k) (m := N - k) hj (by omega) q y ?_
    have hlt := (List.getElem?_eq_some_iff.1 hq).1
    rw [List.length_drop, hln, ← Nat.sub_mul] at hlt
    rw [List.getElem?_take, if_pos hlt]
    exact hq
/-- A row of parts without the one that was taken out. -/
theorem sepL.erase {R : List HProp} {i : Nat} {h : Heap} (H : sepL (R.set i emp) h) : sepL (R.eraseIdx i) h := by
  have h1 := H.sel ((List.range R.length).eraseIdx i) (List.Nodup.sublist (List.eraseIdx_sublist _ _) List.nodup_range)
  have h2 : ((List.range R.length).eraseIdx i).map (fun j => (R.set i emp).getD j emp) = R.eraseIdx i := by
    apply List.ext_getElem?
    intro q
    rw [List.getElem?_map, List.getElem?_eraseIdx, List.getElem?_eraseIdx]
    split
    · rename_i hq
      by_cases hql : q < R.length
      · rw [List.getElem?_range hql, Option.map_some, List.getD_eq_getElem?_getD, List.getElem?_set_ne (by omega), List.getElem?_eq_getElem hql]; rfl
      · rw [List.getElem?_eq_none (by simp; omega), List.getElem?_eq_none (by omega)]; rfl
    · rename_i hq
      by_cases hql : q + 1 < R.length
      · rw [List.getElem?_range hql, Option.map_some, List.getD_eq_getElem?_getD, List.getElem?_set_ne (by omega), List.getElem?_eq_getElem hql]; rfl
      · rw [List.getElem?_eq_none (by simp; omega), List.getElem?_eq_none (by omega)]; rfl
  rw [h2] at h1
  exact h1
theorem Holds.erase {R : List HProp} {i j : Nat} (hw : Holds e w L) (hj : L[j]? = some (sepL (R.set i emp))) : Holds e w (L.set j (sepL (R.eraseIdx i))) := ⟨hw.1, hw.2.imp hj fun _ h => h.erase⟩
/-- append of what can be read. -/
theorem wp_appendRd {t E : TypeId} {z : Value} {sz k : Nat} {s x : Operand} [st : SlT P t E] [ti : TI P E z sz k]
    (ho : o.op = .call { callee := .builtin .append, args := #[s, x], argTypes := #[t, t] }) {i n m : Nat} {v u : Value} {cs news : List Value} (hs : a.eval s = v) (hw : Holds e w L) (hi : L[i]? = some (Sl E sz v n cs))
    (hx : a.eval x = u) (hln : news.length = m * sz) (hu : (0 < m ∧ ∃ ad c, u = .slice (some ad) m c ∧ ∀ (q : Nat) (y : Value), news[q]? = some y → w.cell? (ad.add q) = some y) ∨ (m = 0 ∧ ∃ ao c, u = .slice ao 0 c)) (h1 : ∀ y ∈ news, y.oneCell' = true) (hzs : z.cells.size = sz)
    (h63 : n + m ≤ maxLen) (hbytes : (n + m) * k ≤ 140737488355328)
    (h : ∀ a' cap' w', Holds e w' (L.set i (Sl E sz (.slice a' (n + m) cap') (n + m) (cs ++ news))) → K (a.put o.dst (.slice a' (n + m) cap')) w') : o.wp P a w K Q := by
  have hset : L.set i (Sl E sz v n cs) = L := by
    apply List.ext_getElem?
    intro q
    rw [List.getElem?_set]
    split
    · rename_i e; subst e
      rw [hi]
      have := (List.getElem?_eq_some_iff.1 hi).1
      simp [this]
    · rfl
  rcases hu with ⟨hm, ad, c, rfl, hc⟩ | ⟨rfl, ao, c, rfl⟩
  · exact wp_append ho hs hw hi ad hx hln hc h1 hm hzs h63 hbytes (fun b cap off w' _ hw' => h _ _ w' hw')
  · have hn0 : news = [] := List.eq_nil_of_length_eq_zero (by simpa using hln)
    subst hn0
    obtain ⟨ii, hii, hz0, hz1, hz2⟩ := ti.info
    have hf : (Builtin.firstCells ii.size 0 (.slice ao 0 c)).run P w = .ok #[] w := by
      cases ao with
      | none => rfl
      | some ad => simp [Builtin.firstCells, loadCells, loadCellsFrom]
    have key : ∀ ao' cap', v = .slice ao' n cap' → n ≤ cap' → (Builtin.append_ #[t, t] o.type #[v, .slice ao 0 c]).run P w = .ok (.slice ao' n cap') w := by
      rintro ao' cap' rfl hle
      cases ao' with
      | none => simp [Builtin.append_, run_underlying st.out, sizeOf, typeInfo, hii, Builtin.lenOf, hle, hf]
      | some ad => simp [Builtin.append_, run_underlying st.out, sizeOf, typeInfo, hii, Builtin.lenOf, hle, hf, storeCells]
    have fin : ∀ ao' cap', v = .slice ao' n cap' → n ≤ cap' → o.wp P a w K Q := by
      intro ao' cap' hv hle
      have hr := key ao' cap' hv hle
      unfold Oper.wp execOp
      simp only [ho, resolve, invoke, builtin, Sem.run_bind, Sem.run_pure, Result.andThen_ok, List.map_toArray, List.map_cons, List.map_nil, hs, hx, hr]
      have hh := h ao' cap' w
      simp only [Nat.add_zero, List.append_nil] at hh
      refine hh ?_
      rw [← hv, hset]; exact hw
    rcases hw.openSl hi with ⟨h1, h2, _⟩ | ⟨b, cap, pre, post, h1, h2, _⟩
    · exact fin none 0 (by rw [h1, h2]) (by omega)
    · exact fin _ _ h1 h2
end Go.Sep
/-
  What came in, as memory tells it; what may be in a program may be in a longer one.
-/
namespace Go.Proofs.YteinbojpmhblkaaDoor
set_option linter.unusedSimpArgs false
set_option linter.unusedVariables false
open Go.RowKit Go.Sep
set_option maxRecDepth 20000

theorem fits_mono {c : Nat} {v n m : Int} (h : n ≤ m) (h1 : fitsP c v n = true) : fitsP c v m = true := by
  unfold fitsP at h1 ⊢
  split at h1 <;> rename_i h2
  · rw [if_pos h2]; exact h1
  rw [if_neg h2]
  split at h1 <;> rename_i h2
  · rw [if_pos h2]; exact h1
  rw [if_neg h2]
  split at h1 <;> rename_i h2
  · rw [if_pos h2]; exact h1
  rw [if_neg h2]
  split at h1 <;> rename_i h2
  · rw [if_pos h2]; simp only [decide_eq_true_eq] at h1 ⊢; omega
  rw [if_neg h2]; exact h1
theorem right_mono {x : Deed} {n m : Int} (h : n ≤ m) (h1 : rightP x n = true) : rightP x m = true := by
  unfold rightP at h1 ⊢
  split at h1
  · rename_i c0 c1 c2 hf
    simp only [Bool.and_eq_true] at h1 ⊢
    exact ⟨fits_mono h h1.1, fits_mono h h1.2.1, fits_mono h h1.2.2⟩
  · cases h1
theorem may_longer {l : List Deed} {x : Deed} (h : mayP l = true) (hl : l.length < 24) : mayP (l ++ [x]) = rightP x (l.length + 1 : Int) := by
  unfold mayP at h ⊢
  simp only [Bool.and_eq_true, decide_eq_true_eq, List.all_eq_true] at h
  have e1 : ((l ++ [x]).length : Int) = (l.length + 1 : Int) := by rw [List.length_append]; rfl
  rw [e1, List.all_append]
  have h1 : l.all (fun y => rightP y (l.length + 1 : Int)) = true := List.all_eq_true.2 fun y hy => right_mono (by omega) (h.2 y hy)
  rw [h1, List.length_append]
  simp; omega
theorem old_acts {e : World} {a : Option Addr} {l : List Deed} (h : ActsAt e a l) : RdA e (Old e) a l := by
  intro w L i hw hi k x hx
  obtain ⟨_, p, hp, hc⟩ := h k x hx
  exact ⟨p, hp, fun j c hj => old_cell hw hi (hc j c hj)⟩
theorem old_tops {e : World} (h : TopsAt e) : Tops e (Old e) := by
  intro w L i hw hi
  exact ⟨old_cell hw hi h.1, old_cell hw hi h.2.1, old_cell hw hi h.2.2⟩
theorem news_of {w : World} {a : Option Addr} {l : List Deed} {n cap : Nat} (h : ReadsA w a l) (hn : l.length = n) :
    (0 < n ∧ ∃ ad c, Value.slice a n cap = .slice (some ad) n c ∧ ∀ (q : Nat) (y : Value), (encAs l)[q]? = some y → w.cell? (ad.add q) = some y) ∨ (n = 0 ∧ ∃ ao c, Value.slice a n cap = .slice ao 0 c) := by
  by_cases h0 : n = 0
  · subst h0; exact .inr ⟨rfl, _, _, rfl⟩
  · left
    obtain ⟨p, rfl, _⟩ := h 0 _ (List.getElem?_eq_getElem (by omega))
    refine ⟨by omega, p, cap, rfl, fun q y hy => ?_⟩
    have hq : q < l.length * 4 := by
      have := (List.getElem?_eq_some_iff.1 hy).1
      rwa [encAs_length] at this
    obtain ⟨x, hx⟩ : ∃ x, l[q / 4]? = some x := ⟨_, List.getElem?_eq_getElem (by omega)⟩
    obtain ⟨p2, hp2, hc⟩ := h _ x hx
    cases hp2
    have e1 : q = q / 4 * 4 + q % 4 := by omega
    have h2 := hc (q % 4) y (by
      rw [e1] at hy
      unfold encAs at hy
      rwa [flat_get encA_len hx (by omega)] at hy)
    rw [Go.Deep.add_add, ← e1] at h2
    exact h2
end Go.Proofs.YteinbojpmhblkaaDoor
/-
  Bytes that came in; Bytes, whether it may be or not.
-/
namespace Go.Proofs.YteinbojpmhblkaaDoor
set_option linter.unusedSimpArgs false
set_option linter.unusedVariables false
open Go.ChangeShapes Go.WideShapes Go.ChangeAt Go.RowKit Go.Sep
set_option maxRecDepth 20000

def BytesAt (e : World) (a : Option Addr) (l : List Int) : Prop := ∀ (i : Nat) (n : Int), l[i]? = some n → (0 ≤ n ∧ n ≤ 255) ∧ ∃ p : Addr, a = some p ∧ e.cell? (p.add i) = some (.int .u8 n)
theorem flatU : flatK Tryd.prog 2 5 = some [some .u8] := by kernel_rfl
theorem cellsU : Tryd.prog.cellsOf 5 = 1 := by kernel_rfl
theorem slice_cap {H : Type} {enc : TypeId × Value → H} {P : Program} {w : World} {t e : TypeId} {a : Option Addr} {len cap : Nat} {d : DataW H} {ps : List MemPlace} (ht : P.underlying t = some (.slice e)) (h : DataW.Trod enc P w 0 (fun _ => true) true t (.slice a len cap) d ps) : len ≤ cap := by
  obtain ⟨fuel, hf⟩ := h
  rcases Go.Deep.open_slice ht hf with ⟨h0, _⟩ | ⟨p, len', cap', m, q, D, Pl, hcs, hb, hl, hm, hmm, hx, hi⟩
  · simp [Value.cells] at h0; omega
  · simp [Value.cells] at hcs
    obtain ⟨rfl, rfl, rfl⟩ := hcs
    omega
theorem open_bytes {H : Type} {enc : TypeId × Value → H} {W : World} {v : Value} {d : DataW H} {ps : List MemPlace} {b0 : Nat} (hv : Value.okWide Tryd.prog W .any b0 29 v) (h : DataW.Trod enc Tryd.prog W 0 (fun _ => true) true 29 v d ps) :
    ∃ (a : Option Addr) (cap : Nat) (l : List Int), v = .slice a l.length cap ∧ l.length ≤ cap ∧ BytesAt W a l := by
  obtain ⟨a, len, cap, rfl, hlen, _, hR⟩ := open_slice_flat 2 Tryd.underlying29 flatU (by rw [cellsU]; rfl) hv h
  have hlc := slice_cap Tryd.underlying29 h
  obtain ⟨l, hl, hA⟩ := exists_list (R := fun i (n : Int) => (0 ≤ n ∧ n ≤ 255) ∧ ∃ p : Addr, a = some p ∧ W.cell? (p.add i) = some (.int .u8 n)) len (fun i hi => by
    obtain ⟨p, cs, hp, hf, hc⟩ := hR i hi
    obtain ⟨z0, cs, rfl, hw, hf⟩ := fitsK_cons hf
    obtain rfl := fitsK_nil hf
    have := hc 0 _ rfl
    simp only [List.length_cons, List.length_nil, Nat.zero_add, Nat.mul_one, Nat.add_zero] at this
    exact ⟨z0, wf_u8 hw, p, hp, this⟩)
  subst hl
  exact ⟨a, cap, l, rfl, hlc, hA⟩
theorem old_bytes {e : World} {a : Option Addr} {l : List Int} (h : BytesAt e a l) : RdB e (Old e) a l := by
  intro w L i hw hi k x hx
  obtain ⟨_, p, hp, hc⟩ := h k x hx
  exact ⟨p, hp, old_cell hw hi hc⟩
theorem bytes_bys {e : World} {a : Option Addr} {l : List Int} (h : BytesAt e a l) : Bys l := by
  intro x hx
  obtain ⟨k, hk⟩ := List.getElem?_of_mem hx
  exact (h k x hk).1
/-- The bytes of a program, none where it may not be; and what is told. -/
def bL (l : List Deed) : List Int := if mayP l = true then bytesP l else []
def eL (l : List Deed) : Int := if mayP l = true then 0 else 1
theorem oBytesX (l : List Deed) (n ca : Nat) (a : Option Addr) (hn : Hid (l.length = n)) (e w : World) (X : HProp) (hT : Tops e X) (hR : RdA e X a l) (hw : Holds e w [X]) :
    Calls Tryd.prog 21 #[.slice a n ca] w fun en w' => ∃ v, en = .returned (.tuple #[v, .int .i64 (eL l)]) ∧ Holds e w' [X, IsB v (bL l)] := by
  cases hm : mayP l with
  | true =>
    unfold bL eL; rw [if_pos hm, if_pos hm]
    exact oBytes l n ca a hn e w X hT hR hm hw
  | false =>
    unfold bL eL; rw [if_neg (by rw [hm]; decide), if_neg (by rw [hm]; decide)]
    refine (oBytes_no l n ca a hn e w X hT hR hm hw).mono ?_
    rintro _ w_ ⟨rfl, hw_⟩
    exact ⟨_, rfl, hw_.addEmp (X := IsB (.slice none 0 0) []) (Sl.nil _ _ _)⟩
theorem rBytesX (l : List Deed) (n ca : Nat) (a : Option Addr) (hn : Hid (l.length = n)) (hn2 : n ≤ 1000000) (e w : World) (X : HProp) (hR : RdA e X a l) (hw : Holds e w [X]) :
    Calls Tryd.prog 23 #[.slice a n ca] w fun en w' => ∃ v, en = .returned (.tuple #[v, .int .i64 (eL l)]) ∧ Holds e w' [X, IsB v (bL l)] := by
  cases hm : mayP l with
  | true =>
    unfold bL eL; rw [if_pos hm, if_pos hm]
    exact rBytes l n ca a hn e w X hR hm hw
  | false =>
    unfold bL eL; rw [if_neg (by rw [hm]; decide), if_neg (by rw [hm]; decide)]
    refine (rBytes_no l n ca a hn hn2 e w X hR hm hw).mono ?_
    rintro _ w_ ⟨rfl, hw_⟩
    exact ⟨_, rfl, hw_.addEmp (X := IsB (.slice none 0 0) []) (Sl.nil _ _ _)⟩
theorem bL_len (l : List Deed) (h : l.length ≤ 60) : (bL l).length ≤ 1000 := by
  unfold bL; split
  · rw [bytesP_len]; omega
  · simp
theorem readP_len (b : List Int) : (readP b).1.length ≤ 24 := by
  unfold readP
  split
  · simp
  split
  · simp
  split
  · simp
  split
  · rename_i h; simp only; rw [readL_len]; omega
  · simp
end Go.Proofs.YteinbojpmhblkaaDoor
/-
  The plain law of CodeBack: a program comes back from its bytes, bytes from programs, and cut off none comes.
-/
namespace Go.Proofs.YteinbojpmhblkaaDoor
set_option linter.unusedSimpArgs false
set_option linter.unusedVariables false
open Go.RowKit Go.Sep
set_option maxRecDepth 20000

theorem numU8 (c0 c1 c2 c3 c4 c5 c6 c7 : Int) : numU [c0, c1, c2, c3, c4, c5, c6, c7] = 256 * (256 * (256 * (256 * (256 * (256 * (256 * (256 * 0 + c0) + c1) + c2) + c3) + c4) + c5) + c6) + c7 := rfl
theorem u64w (n : Int) : IntKind.u64.wrap n = n % 18446744073709551616 := by
  rw [IntKind.wrap_u64]
theorem be8_num (c0 c1 c2 c3 c4 c5 c6 c7 : Int) (h0 : 0 ≤ c0 ∧ c0 ≤ 255) (h1 : 0 ≤ c1 ∧ c1 ≤ 255) (h2 : 0 ≤ c2 ∧ c2 ≤ 255) (h3 : 0 ≤ c3 ∧ c3 ≤ 255) (h4 : 0 ≤ c4 ∧ c4 ≤ 255) (h5 : 0 ≤ c5 ∧ c5 ≤ 255) (h6 : 0 ≤ c6 ∧ c6 ≤ 255) (h7 : 0 ≤ c7 ∧ c7 ≤ 255) :
    be8 (numP [c0, c1, c2, c3, c4, c5, c6, c7]) = [c0, c1, c2, c3, c4, c5, c6, c7] := by
  unfold numP be8
  rw [numU8, u64w]
  unfold wrap64
  simp only [List.cons.injEq, and_true]
  refine ⟨?_, ?_, ?_, ?_, ?_, ?_, ?_, ?_⟩ <;> omega
theorem num_be8 (n : Int) (hn : -9223372036854775808 ≤ n ∧ n ≤ 9223372036854775807) : numP (be8 n) = n := by
  rw [← be8L_eq]
  obtain ⟨u, hu⟩ : ∃ u, IntKind.u64.wrap n = u := ⟨_, rfl⟩
  rw [hu]
  rw [u64w] at hu
  have e : numU (be8L u) = u := by
    unfold be8L
    rw [numU8]
    have h7 : divN u 8 = 0 := by simp only [divN]; omega
    have hs : ∀ j, 256 * divN u (j + 1) + divN u j % 256 = divN u j := fun j => by simp only [divN]; omega
    have h8 := hs 7
    rw [h7] at h8
    rw [h8, hs 6, hs 5, hs 4, hs 3, hs 2, hs 1, hs 0]; rfl
  unfold numP
  rw [e]
  unfold wrap64
  omega
theorem list11 {l : List Int} (h : l.length = 11) : ∃ a b c d0 d1 d2 d3 d4 d5 d6 d7, l = [a, b, c, d0, d1, d2, d3, d4, d5, d6, d7] := by
  match l, h with
  | [a, b, c, d0, d1, d2, d3, d4, d5, d6, d7], _ => exact ⟨_, _, _, _, _, _, _, _, _, _, _, rfl⟩
theorem enc_ins {l : List Int} (hl : l.length = 11) (hb : Bys l) : encIns (insP l) = l := by
  obtain ⟨a, b, c, d0, d1, d2, d3, d4, d5, d6, d7, rfl⟩ := list11 hl
  have m : ∀ x ∈ [a, b, c, d0, d1, d2, d3, d4, d5, d6, d7], 0 ≤ x ∧ x ≤ 255 := hb
  simp only [List.mem_cons, List.not_mem_nil, or_false, forall_eq_or_imp, forall_eq] at m
  obtain ⟨ma, mb, mc, m0, m1, m2, m3, m4, m5, m6, m7⟩ := m
  show [a % 256, b % 256, c % 256] ++ be8 (numP [d0, d1, d2, d3, d4, d5, d6, d7]) = _
  rw [be8_num _ _ _ _ _ _ _ _ m0 m1 m2 m3 m4 m5 m6 m7]
  simp only [List.cons_append, List.nil_append, List.cons.injEq, and_true]
  omega
theorem ins_enc {x : Deed} (h0 : 0 ≤ x.f0 ∧ x.f0 ≤ 255) (h1 : 0 ≤ x.f1 ∧ x.f1 ≤ 255) (h2 : 0 ≤ x.f2 ∧ x.f2 ≤ 255) (h3 : -9223372036854775808 ≤ x.f3 ∧ x.f3 ≤ 9223372036854775807) : insP (encIns x) = x := by
  have e : insP (encIns x) = ⟨x.f0 % 256, x.f1 % 256, x.f2 % 256, numP (be8 x.f3)⟩ := rfl
  rw [e, num_be8 _ h3]
  obtain ⟨f0, f1, f2, f3⟩ := x
  simp only [Deed.mk.injEq, and_true] at *
  omega
/-- An instruction that may be in a program: its first three numbers are bytes. -/
theorem letters_in : ∀ l ∈ formT, l.getD 0 0 ≠ 110 ∧ l.getD 1 0 ≠ 110 := by decide
theorem fits_in {c : Nat} {v n : Int} (hn : 0 ≤ n ∧ n ≤ 24) (hc : c ≠ 110) (h : fitsP c v n = true) : 0 ≤ v ∧ v ≤ 255 := by
  unfold fitsP at h
  repeat' split at h
  all_goals first | (exact absurd (by assumption) hc) | (simp only [decide_eq_true_eq] at h; omega)
theorem right_in {x : Deed} {n : Int} (hn : 0 ≤ n ∧ n ≤ 24) (h : rightP x n = true) : (0 ≤ x.f0 ∧ x.f0 ≤ 255) ∧ (0 ≤ x.f1 ∧ x.f1 ≤ 255) ∧ (0 ≤ x.f2 ∧ x.f2 ≤ 255) := by
  unfold rightP at h
  split at h
  · rename_i c0 c1 c2 hf
    simp only [Bool.and_eq_true] at h
    have hop : 0 ≤ x.f0 ∧ x.f0 ≤ 46 := by
      unfold formP at hf
      split at hf
      · rename_i h0
        have hl : formT.length = 47 := rfl
        rcases Nat.lt_or_ge x.f0.toNat 47 with h2 | h2
        · omega
        · rw [List.getD_eq_getElem?_getD, List.getElem?_eq_none (by rw [hl]; omega)] at hf; cases hf
      · cases hf
    have hmem : [c0, c1, c2] ∈ formT := by
      unfold formP at hf
      rw [if_pos hop.1] at hf
      have hl : formT.length = 47 := rfl
      rw [List.getD_eq_getElem?_getD, List.getElem?_eq_getElem (by rw [hl]; omega)] at hf
      have : formT[x.f0.toNat]'(by rw [hl]; omega) = [c0, c1, c2] := hf
      rw [← this]; exact List.getElem_mem _
    have hn2 := letters_in _ hmem
    exact ⟨by omega, fits_in hn hn2.1 h.1, fits_in hn hn2.2 h.2.1⟩
  · cases h
theorem flat_part (l : List Deed) : ∀ (k : Nat) (x : Deed), l[k]? = some x → (((l.flatMap encIns).drop (k * 11)).take 11) = encIns x := by
  induction l with
  | nil => intro k x h; cases h
  | cons y l ih =>
    intro k x h
    cases k with
    | zero =>
      simp at h; subst h
      rw [List.flatMap_cons, Nat.zero_mul, List.drop_zero]
      exact List.take_left' (encIns_len y)
    | succ k =>
      rw [List.flatMap_cons, show (k + 1) * 11 = (encIns y).length + k * 11 by rw [encIns_len]; omega, ← List.drop_drop, List.drop_left]
      exact ih k x (by simpa using h)
/-- A program comes back from its bytes, whatever stands behind. -/
theorem read_bytes {l : List Deed} {rest : List Int} (hm : mayP l = true) (ho : ∀ x ∈ l, -9223372036854775808 ≤ x.f3 ∧ x.f3 ≤ 9223372036854775807) : readP (bytesP l ++ rest) = (l, ((bytesP l).length : Int), 0) := by
  have hm2 := hm
  unfold mayP at hm2
  simp only [Bool.and_eq_true, decide_eq_true_eq, List.all_eq_true] at hm2
  obtain ⟨⟨h1, h24⟩, hr⟩ := hm2
  have hL : readL (bytesP l ++ rest) l.length = l := by
    apply List.ext_getElem?
    intro k
    unfold readL
    rw [List.getElem?_map]
    rcases Nat.lt_or_ge k l.length with hk | hk
    · rw [List.getElem?_range hk]
      have hx : l[k]? = some l[k] := List.getElem?_eq_getElem hk
      rw [hx]
      simp only [Option.map_some]
      congr 1
      have e1 : (((bytesP l ++ rest).drop (1 + k * 11)).take 11) = encIns l[k] := by
        rw [List.drop_append_of_le_length (by rw [bytesP_len]; omega), List.take_append_of_le_length (by rw [List.length_drop, bytesP_len]; omega)]
        unfold bytesP
        rw [Nat.add_comm, List.drop_succ_cons]
        exact flat_part l k _ hx
      rw [e1]
      have hi := right_in ⟨by omega, by omega⟩ (hr _ (List.getElem_mem hk))
      exact ins_enc hi.1 hi.2.1 hi.2.2 (ho _ (List.getElem_mem hk))
    · rw [List.getElem?_eq_none (by simpa using hk), List.getElem?_eq_none hk]; rfl
  have hhead : (bytesP l ++ rest).getD 0 0 = (l.length : Int) := by
    unfold bytesP
    simp only [List.cons_append, List.getD_cons_zero]
    omega
  unfold readP
  rw [hhead, Int.toNat_natCast, hL]
  rw [if_neg (by rw [List.length_append, bytesP_len]; omega), if_neg (by omega), if_neg (by rw [List.length_append, bytesP_len]; push_cast; omega), if_pos hm, bytesP_len]
  congr 2
  push_cast; omega
/-- Cut off none comes. -/
theorem read_cut {l : List Deed} (hm : mayP l = true) : readP ((bytesP l).take ((bytesP l).length - 1)) = ([], 0, 8) := by
  unfold mayP at hm
  simp only [Bool.and_eq_true, decide_eq_true_eq] at hm
  obtain ⟨⟨h1, h24⟩, _⟩ := hm
  have hlen : ((bytesP l).take ((bytesP l).length - 1)).length = l.length * 11 := by rw [List.length_take, bytesP_len]; omega
  have hhead : ((bytesP l).take ((bytesP l).length - 1)).getD 0 0 = (l.length : Int) := by
    rw [List.getD_eq_getElem?_getD, List.getElem?_take, if_pos (by rw [bytesP_len]; omega)]
    unfold bytesP
    simp only [List.getElem?_cons_zero, Option.getD_some]
    omega
  unfold readP
  rw [hhead, if_neg (by rw [hlen]; omega), if_neg (by omega), if_pos (by rw [hlen]; push_cast; omega)]
theorem flat_read (b : List Int) (hb : Bys b) : ∀ k, 1 + k * 11 ≤ b.length → (readL b k).flatMap encIns = (b.drop 1).take (k * 11)
  | 0, _ => by simp [readL]
  | k + 1, h => by
    rw [readL_snoc, List.flatMap_append, flat_read b hb k (by omega)]
    simp only [List.flatMap_cons, List.flatMap_nil, List.append_nil]
    rw [enc_ins (by rw [List.length_take, List.length_drop]; omega) ((hb.drop _).take _)]
    rw [show (k + 1) * 11 = k * 11 + 11 by omega, List.take_add, List.drop_drop]
/-- Bytes from programs: those that were read. -/
theorem bytes_read {b : List Int} (hb : Bys b) (h0 : (readP b).2.2 = 0) : ∃ k : Nat, readP b = (readL b k, ((1 + k * 11 : Nat) : Int), 0) ∧ 1 ≤ k ∧ k ≤ 24 ∧ 1 + k * 11 ≤ b.length ∧ mayP (readL b k) = true ∧ bytesP (readL b k) = b.take (1 + k * 11) := by
  unfold readP at h0 ⊢
  split at h0
  · simp at h0
  rename_i hne
  rw [if_neg hne]
  split at h0
  · simp at h0
  rename_i hc
  rw [if_neg hc]
  split at h0
  · simp at h0
  rename_i hlen
  rw [if_neg hlen]
  split at h0
  · rename_i hm
    rw [if_pos hm]
    obtain ⟨k, hk⟩ : ∃ k : Nat, b.getD 0 0 = k := ⟨(b.getD 0 0).toNat, by omega⟩
    rw [hk] at hc hlen hm ⊢
    rw [Int.toNat_natCast] at hm ⊢
    refine ⟨k, by congr 2; push_cast; omega, by omega, by omega, by omega, hm, ?_⟩
    unfold bytesP
    rw [flat_read b hb k (by omega), readL_len]
    cases b with
    | nil => simp at hne
    | cons c b =>
      simp only [List.getD_cons_zero] at hk
      rw [Nat.add_comm 1, List.take_succ_cons, hk]
      simp only [List.drop_succ_cons, List.drop_zero, List.cons.injEq, and_true]
      omega
  · simp at h0
end Go.Proofs.YteinbojpmhblkaaDoor
/-
  The plain model of scripts: what may be, the bytes, the script of bytes; there and back.
-/
namespace Go.Proofs.YteinbojpmhblkaaDoor
set_option linter.unusedSimpArgs false
set_option linter.unusedVariables false
open Go.RowKit Go.Sep
set_option maxRecDepth 20000

structure Itm where
  d : Int
  a : Int
  n : Int
deriving DecidableEq
def Itm.ok (x : Itm) : Prop := (-9223372036854775808 ≤ x.d ∧ x.d ≤ 9223372036854775807) ∧ (-9223372036854775808 ≤ x.a ∧ x.a ≤ 9223372036854775807) ∧ (-9223372036854775808 ≤ x.n ∧ x.n ≤ 9223372036854775807)
def itemP (x : Itm) : Bool := if x.d = 2 then decide (x.a = 0) else if x.d = 0 then decide (0 ≤ x.a ∧ x.a < 8 ∧ x.n = 0) else if x.d = 1 then decide (0 ≤ x.a ∧ x.a < 16 ∧ x.n = 0) else false
structure Scr where
  r0 : Int
  r1 : Int
  r2 : Int
  r3 : Int
  ps : List (List Deed)
  is : List Itm
deriving DecidableEq
def scr0 : Scr := ⟨0, 0, 0, 0, [], []⟩
def Scr.rooms (s : Scr) : List Int := [s.r0, s.r1, s.r2, s.r3]
def longPs (ps : List (List Deed)) : Nat := (ps.map fun p => 1 + 11 * p.length).sum
def longS (s : Scr) : Nat := 33 + 10 * s.is.length + longPs s.ps
def roomsP (s : Scr) : Bool := decide (0 ≤ s.r0 ∧ 0 ≤ s.r1 ∧ 0 ≤ s.r2 ∧ 0 ≤ s.r3)
def mayS (s : Scr) : Bool := roomsP s && (decide (1 ≤ s.ps.length) && (decide (s.ps.length ≤ 8) && (decide (s.is.length ≤ 200) && (s.ps.all mayP && (s.is.all itemP && decide (longS s ≤ 4000))))))
def encItm (x : Itm) : List Int := [x.d % 256, x.a % 256] ++ be8 x.n
theorem encItm_len (x : Itm) : (encItm x).length = 10 := rfl
def headS (s : Scr) : List Int := be8 s.r0 ++ (be8 s.r1 ++ (be8 s.r2 ++ be8 s.r3))
def bytesS (s : Scr) : List Int := headS s ++ ((s.ps.length : Int) % 256 :: (s.ps.flatMap bytesP ++ s.is.flatMap encItm))
def itmAt (l : List Int) : Itm := ⟨l[0]?.getD 0, l[1]?.getD 0, numP ((l.drop 2).take 8)⟩
def readI (b : List Int) (n : Nat) : List Itm := (List.range n).map fun k => itmAt ((b.drop (k * 10)).take 10)
theorem readI_len (b : List Int) (n : Nat) : (readI b n).length = n := by simp [readI]
theorem readI_snoc (b : List Int) (k : Nat) : readI b (k + 1) = readI b k ++ [itmAt ((b.drop (k * 10)).take 10)] := by
  unfold readI; rw [List.range_succ, List.map_append]; rfl
def itemsP (b : List Int) : List Itm × Int :=
  if b.length % 10 ≠ 0 then ([], 8) else if (readI b (b.length / 10)).all itemP = true ∧ b.length / 10 ≤ 200 then (readI b (b.length / 10), 0) else ([], 7)
def readPs : Nat → List Int → List (List Deed) × Nat × Int
  | 0, _ => ([], 0, 0)
  | k + 1, b => if (readP b).2.2 = 0 then ((readP b).1 :: (readPs k (b.drop (readP b).2.1.toNat)).1, (readP b).2.1.toNat + (readPs k (b.drop (readP b).2.1.toNat)).2.1, (readPs k (b.drop (readP b).2.1.toNat)).2.2) else ([], 0, (readP b).2.2)
def roomAt (b : List Int) (k : Nat) : Int := numP ((b.drop (8 * k)).take 8)
def readT (b : List Int) (q : List (List Deed) × Nat × Int) : Scr × Int :=
  if q.2.2 = 0 then (if (itemsP (b.drop (33 + q.2.1))).2 = 0 then (⟨roomAt b 0, roomAt b 1, roomAt b 2, roomAt b 3, q.1, (itemsP (b.drop (33 + q.2.1))).1⟩, 0) else (scr0, (itemsP (b.drop (33 + q.2.1))).2)) else (scr0, q.2.2)
def readS (b : List Int) : Scr × Int :=
  if 4000 < b.length then (scr0, 9) else if b.length ≤ 32 then (scr0, 8)
  else if roomAt b 0 < 0 ∨ roomAt b 1 < 0 ∨ roomAt b 2 < 0 ∨ roomAt b 3 < 0 then (scr0, 7)
  else if b.getD 32 0 < 1 ∨ 8 < b.getD 32 0 then (scr0, 7)
  else readT b (readPs (b.getD 32 0).toNat (b.drop 33))

theorem be8_len (n : Int) : (be8 n).length = 8 := rfl
theorem longPs_len : ∀ ps : List (List Deed), (ps.flatMap bytesP).length = longPs ps
  | [] => rfl
  | p :: ps => by
    rw [List.flatMap_cons, List.length_append, longPs_len ps, bytesP_len]
    unfold longPs
    rw [List.map_cons, List.sum_cons]; omega
theorem bytesS_len (s : Scr) : (bytesS s).length = longS s := by
  unfold bytesS headS longS
  simp only [List.length_append, List.length_cons, be8_len, longPs_len, flat_len encItm_len]
  omega
theorem may_parts {s : Scr} (h : mayS s = true) : (0 ≤ s.r0 ∧ 0 ≤ s.r1 ∧ 0 ≤ s.r2 ∧ 0 ≤ s.r3) ∧ 1 ≤ s.ps.length ∧ s.ps.length ≤ 8 ∧ s.is.length ≤ 200 ∧ s.ps.all mayP = true ∧ s.is.all itemP = true ∧ longS s ≤ 4000 := by
  unfold mayS roomsP at h
  simp only [Bool.and_eq_true, decide_eq_true_eq] at h
  exact h
def Scr.ok (s : Scr) : Prop := ((-9223372036854775808 ≤ s.r0 ∧ s.r0 ≤ 9223372036854775807) ∧ (-9223372036854775808 ≤ s.r1 ∧ s.r1 ≤ 9223372036854775807) ∧ (-9223372036854775808 ≤ s.r2 ∧ s.r2 ≤ 9223372036854775807) ∧ (-9223372036854775808 ≤ s.r3 ∧ s.r3 ≤ 9223372036854775807)) ∧ (∀ p ∈ s.ps, ∀ x ∈ p, x.ok) ∧ (∀ x ∈ s.is, x.ok)
theorem readPs_bytes : ∀ (ps : List (List Deed)) (rest : List Int), ps.all mayP = true → (∀ p ∈ ps, ∀ x ∈ p, x.ok) → readPs ps.length (ps.flatMap bytesP ++ rest) = (ps, (ps.flatMap bytesP).length, 0)
  | [], _, _, _ => rfl
  | p :: ps, rest, hm, ho => by
    rw [List.all_cons, Bool.and_eq_true] at hm
    have h1 : readP ((p :: ps).flatMap bytesP ++ rest) = (p, ((bytesP p).length : Int), 0) := by
      rw [List.flatMap_cons, List.append_assoc]
      exact read_bytes hm.1 (fun x hx => (ho p (List.mem_cons_self ..) x hx).2.2.2)
    have h2 := readPs_bytes ps rest hm.2 (fun q hq => ho q (List.mem_cons_of_mem _ hq))
    have h3 : ((p :: ps).flatMap bytesP ++ rest).drop (bytesP p).length = ps.flatMap bytesP ++ rest := by
      rw [List.flatMap_cons, List.append_assoc, List.drop_left]
    rw [List.length_cons, readPs, h1]
    simp only [if_true, Int.toNat_natCast, h3, h2]
    rw [List.flatMap_cons, List.length_append]
theorem itm_enc {x : Itm} (h : itemP x = true) (ho : x.ok) : itmAt (encItm x) = x := by
  have e : itmAt (encItm x) = ⟨x.d % 256, x.a % 256, numP (be8 x.n)⟩ := rfl
  rw [e, num_be8 _ ho.2.2]
  obtain ⟨d, a, n⟩ := x
  unfold itemP at h
  simp only [Itm.mk.injEq, and_true] at *
  repeat' split at h
  all_goals (simp only [decide_eq_true_eq, reduceCtorEq] at h; try omega)
theorem flat_itm (l : List Itm) : ∀ (k : Nat) (x : Itm), l[k]? = some x → (((l.flatMap encItm).drop (k * 10)).take 10) = encItm x := by
  induction l with
  | nil => intro k x h; cases h
  | cons y l ih =>
    intro k x h
    cases k with
    | zero =>
      simp at h; subst h
      rw [List.flatMap_cons, Nat.zero_mul, List.drop_zero]
      exact List.take_left' (encItm_len y)
    | succ k =>
      rw [List.flatMap_cons, show (k + 1) * 10 = (encItm y).length + k * 10 by rw [encItm_len]; omega, ← List.drop_drop, List.drop_left]
      exact ih k x (by simpa using h)
theorem items_bytes {l : List Itm} (hm : l.all itemP = true) (ho : ∀ x ∈ l, x.ok) (hl : l.length ≤ 200) : itemsP (l.flatMap encItm) = (l, 0) := by
  have hlen : (l.flatMap encItm).length = l.length * 10 := flat_len encItm_len l
  have hr : readI (l.flatMap encItm) l.length = l := by
    apply List.ext_getElem?
    intro k
    unfold readI
    rw [List.getElem?_map]
    rcases Nat.lt_or_ge k l.length with hk | hk
    · have hx : l[k]? = some l[k] := List.getElem?_eq_getElem hk
      rw [List.getElem?_range hk, hx]
      simp only [Option.map_some]
      rw [flat_itm l k _ hx, itm_enc (List.all_eq_true.1 hm _ (List.getElem_mem hk)) (ho _ (List.getElem_mem hk))]
    · rw [List.getElem?_eq_none (by simpa using hk), List.getElem?_eq_none hk]; rfl
  have hd : l.length * 10 / 10 = l.length := by omega
  unfold itemsP
  rw [hlen, if_neg (by omega), hd, hr, if_pos ⟨hm, hl⟩]
/-- A script comes back from its bytes. -/
theorem readS_bytes {s : Scr} (hm : mayS s = true) (ho : s.ok) : readS (bytesS s) = (s, 0) := by
  obtain ⟨⟨h0, h1, h2, h3⟩, hp1, hp8, hi, hpm, him, hl⟩ := may_parts hm
  obtain ⟨⟨o0, o1, o2, o3⟩, op, oi⟩ := ho
  have a0 : roomAt (bytesS s) 0 = s.r0 := num_be8 s.r0 o0
  have a1 : roomAt (bytesS s) 1 = s.r1 := num_be8 s.r1 o1
  have a2 : roomAt (bytesS s) 2 = s.r2 := num_be8 s.r2 o2
  have a3 : roomAt (bytesS s) 3 = s.r3 := num_be8 s.r3 o3
  have a4 : (bytesS s).getD 32 0 = (s.ps.length : Int) % 256 := rfl
  have a5 : (bytesS s).drop 33 = s.ps.flatMap bytesP ++ s.is.flatMap encItm := rfl
  have a6 : (s.ps.length : Int) % 256 = (s.ps.length : Int) := by omega
  have hlen := bytesS_len s
  have h33 : ¬ longS s ≤ 32 := by unfold longS; omega
  unfold readS
  rw [hlen, a0, a1, a2, a3, a4, a5, a6, if_neg (by omega), if_neg h33, if_neg (by omega), if_neg (by omega), Int.toNat_natCast, readPs_bytes s.ps _ hpm op]
  unfold readT
  simp only [if_true]
  have a7 : (bytesS s).drop (33 + (s.ps.flatMap bytesP).length) = s.is.flatMap encItm := by
    rw [← List.drop_drop, a5, List.drop_left]
  rw [a7, items_bytes him oi hi, a0, a1, a2, a3]
  simp only [if_true]
theorem list10 {l : List Int} (h : l.length = 10) : ∃ a b d0 d1 d2 d3 d4 d5 d6 d7, l = [a, b, d0, d1, d2, d3, d4, d5, d6, d7] := by
  match l, h with
  | [a, b, d0, d1, d2, d3, d4, d5, d6, d7], _ => exact ⟨_, _, _, _, _, _, _, _, _, _, rfl⟩
theorem list8 {l : List Int} (h : l.length = 8) : ∃ d0 d1 d2 d3 d4 d5 d6 d7, l = [d0, d1, d2, d3, d4, d5, d6, d7] := by
  match l, h with
  | [d0, d1, d2, d3, d4, d5, d6, d7], _ => exact ⟨_, _, _, _, _, _, _, _, rfl⟩
theorem be8_of {l : List Int} (hl : l.length = 8) (hb : Bys l) : be8 (numP l) = l := by
  obtain ⟨d0, d1, d2, d3, d4, d5, d6, d7, rfl⟩ := list8 hl
  have m : ∀ x ∈ [d0, d1, d2, d3, d4, d5, d6, d7], 0 ≤ x ∧ x ≤ 255 := hb
  simp only [List.mem_cons, List.not_mem_nil, or_false, forall_eq_or_imp, forall_eq] at m
  obtain ⟨m0, m1, m2, m3, m4, m5, m6, m7⟩ := m
  exact be8_num _ _ _ _ _ _ _ _ m0 m1 m2 m3 m4 m5 m6 m7
theorem enc_itm {l : List Int} (hl : l.length = 10) (hb : Bys l) : encItm (itmAt l) = l := by
  obtain ⟨a, b, d0, d1, d2, d3, d4, d5, d6, d7, rfl⟩ := list10 hl
  have m : ∀ x ∈ [a, b, d0, d1, d2, d3, d4, d5, d6, d7], 0 ≤ x ∧ x ≤ 255 := hb
  simp only [List.mem_cons, List.not_mem_nil, or_false, forall_eq_or_imp, forall_eq] at m
  obtain ⟨ma, mb, m0, m1, m2, m3, m4, m5, m6, m7⟩ := m
  show [a % 256, b % 256] ++ be8 (numP [d0, d1, d2, d3, d4, d5, d6, d7]) = _
  rw [be8_num _ _ _ _ _ _ _ _ m0 m1 m2 m3 m4 m5 m6 m7]
  simp only [List.cons_append, List.nil_append, List.cons.injEq, and_true]
  omega
theorem readI_back (b : List Int) (hb : Bys b) : ∀ k, k * 10 ≤ b.length → (readI b k).flatMap encItm = b.take (k * 10)
  | 0, _ => by simp [readI]
  | k + 1, h => by
    rw [readI_snoc, List.flatMap_append, readI_back b hb k (by omega)]
    simp only [List.flatMap_cons, List.flatMap_nil, List.append_nil]
    rw [enc_itm (by rw [List.length_take, List.length_drop]; omega) ((hb.drop _).take _)]
    rw [show (k + 1) * 10 = k * 10 + 10 by omega, List.take_add]
theorem items_back {b : List Int} (hb : Bys b) (h : (itemsP b).2 = 0) : (itemsP b).1.flatMap encItm = b ∧ (itemsP b).1.all itemP = true ∧ (itemsP b).1.length ≤ 200 := by
  unfold itemsP at h ⊢
  split at h
  · simp at h
  rename_i h10
  rw [if_neg h10]
  split at h
  · rename_i hh
    rw [if_pos hh]
    refine ⟨?_, hh.1, by simpa [readI_len] using hh.2⟩
    have h1 : b.length / 10 * 10 = b.length := by omega
    rw [readI_back b hb _ (by omega), h1, List.take_length]
  · simp at h
theorem readPs_back : ∀ (k : Nat) (b : List Int), Bys b → (readPs k b).2.2 = 0 → (readPs k b).1.length = k ∧ (readPs k b).2.1 ≤ b.length ∧ (readPs k b).1.flatMap bytesP = b.take (readPs k b).2.1 ∧ (readPs k b).1.all mayP = true
  | 0, b, _, _ => by simp [readPs]
  | k + 1, b, hb, h => by
    rw [readPs] at h ⊢
    split at h
    · rename_i h0
      rw [if_pos h0]
      obtain ⟨m, hr, h1, h24, hlen, hm, hby⟩ := bytes_read hb h0
      rw [hr] at h ⊢
      simp only [Int.toNat_natCast] at h ⊢
      obtain ⟨g1, g2, g3, g4⟩ := readPs_back k (b.drop (1 + m * 11)) (hb.drop _) h
      rw [List.length_drop] at g2
      refine ⟨by rw [List.length_cons, g1], by omega, ?_, by rw [List.all_cons, hm, g4]; rfl⟩
      rw [List.flatMap_cons, g3, hby]; exact (List.take_add (l := b) (i := 1 + m * 11) (j := (readPs k (b.drop (1 + m * 11))).2.1)).symm
    · rename_i h0
      exact absurd h h0
theorem take8_len {b : List Int} {k : Nat} (h : 8 * k + 8 ≤ b.length) : ((b.drop (8 * k)).take 8).length = 8 := by
  rw [List.length_take, List.length_drop]; omega
theorem head_back {b : List Int} (hb : Bys b) (h : 33 ≤ b.length) : be8 (roomAt b 0) ++ (be8 (roomAt b 1) ++ (be8 (roomAt b 2) ++ be8 (roomAt b 3))) = b.take 32 := by
  unfold roomAt
  rw [be8_of (take8_len (by omega)) ((hb.drop _).take _), be8_of (take8_len (by omega)) ((hb.drop _).take _), be8_of (take8_len (by omega)) ((hb.drop _).take _), be8_of (take8_len (by omega)) ((hb.drop _).take _)]
  have e1 : b.take 32 = b.take 8 ++ ((b.drop 8).take 8 ++ ((b.drop 16).take 8 ++ (b.drop 24).take 8)) := by
    rw [show (32 : Nat) = 8 + (8 + (8 + 8)) from rfl, List.take_add, List.take_add, List.take_add, List.drop_drop, List.drop_drop]
  rw [e1]
  simp
/-- Bytes come back from scripts. -/
theorem bytes_readS {b : List Int} (hb : Bys b) (h : (readS b).2 = 0) : mayS (readS b).1 = true ∧ bytesS (readS b).1 = b := by
  unfold readS at h ⊢
  split at h
  · simp at h
  rename_i h4
  rw [if_neg h4]
  split at h
  · simp at h
  rename_i h32
  rw [if_neg h32]
  split at h
  · simp at h
  rename_i hr
  rw [if_neg hr]
  split at h
  · simp at h
  rename_i hc
  rw [if_neg hc]
  obtain ⟨m, hm⟩ : ∃ m : Nat, b.getD 32 0 = m := ⟨(b.getD 32 0).toNat, by omega⟩
  rw [hm] at hc h ⊢
  rw [Int.toNat_natCast] at h ⊢
  unfold readT at h ⊢
  by_cases hq : (readPs m (b.drop 33)).2.2 = 0
  case neg => rw [if_neg hq] at h; exact absurd h hq
  rw [if_pos hq] at h ⊢
  by_cases hi : (itemsP (b.drop (33 + (readPs m (b.drop 33)).2.1))).2 = 0
  case neg => rw [if_neg hi] at h; exact absurd h hi
  rw [if_pos hi]
  obtain ⟨g1, g2, g3, g4⟩ := readPs_back m (b.drop 33) (hb.drop _) hq
  rw [List.length_drop] at g2
  obtain ⟨i1, i2, i3⟩ := items_back (hb.drop _) hi
  generalize readPs m (b.drop 33) = q at *
  generalize itemsP (b.drop (33 + q.2.1)) = it at *
  have hby : bytesS ⟨roomAt b 0, roomAt b 1, roomAt b 2, roomAt b 3, q.1, it.1⟩ = b := by
    unfold bytesS headS
    simp only
    rw [head_back hb (by omega), g1, g3, i1]
    have h33 : b[32]? = some (m : Int) := by
      rw [List.getD_eq_getElem?_getD, List.getElem?_eq_getElem (by omega)] at hm
      rw [List.getElem?_eq_getElem (by omega)]
      simpa using hm
    have e1 : b.drop 32 = (m : Int) :: b.drop 33 := by
      rw [List.drop_eq_getElem_cons (by omega : 32 < b.length)]
      congr 1
      rw [List.getElem?_eq_getElem (by omega)] at h33
      simpa using h33
    have e2 : (m : Int) % 256 = m := by omega
    have e3 : (b.drop 33).take q.2.1 ++ b.drop (33 + q.2.1) = b.drop 33 := by
      rw [← List.drop_drop, List.take_append_drop]
    rw [e2, e3, ← e1, List.take_append_drop]
  refine ⟨?_, hby⟩
  have hlen := bytesS_len ⟨roomAt b 0, roomAt b 1, roomAt b 2, roomAt b 3, q.1, it.1⟩
  rw [hby] at hlen
  unfold mayS roomsP
  simp only [Bool.and_eq_true, decide_eq_true_eq]
  exact ⟨by omega, by omega, by omega, i3, g4, i2, by omega⟩
theorem flat_snoc {α : Type} (f : α → List Int) (l : List α) (x : α) : (l ++ [x]).flatMap f = l.flatMap f ++ f x := by simp
/-- One item more. -/
theorem bytesS_more (s : Scr) (x : Itm) : bytesS { s with is := s.is ++ [x] } = bytesS s ++ encItm x := by
  unfold bytesS headS
  simp only
  rw [flat_snoc]
  simp
theorem mayS_more {s : Scr} {x : Itm} (h : mayS s = true) (h2 : s.is.length < 200) (h3 : longS s ≤ 3990) : mayS { s with is := s.is ++ [x] } = itemP x := by
  obtain ⟨h0, hp1, hp8, hi, hpm, him, hl⟩ := may_parts h
  have hl2 : longS { s with is := s.is ++ [x] } = longS s + 10 := by unfold longS; simp; omega
  unfold mayS roomsP
  rw [hl2]
  simp only [List.length_append, List.length_cons, List.length_nil, List.all_append, List.all_cons, List.all_nil, hpm, him, Bool.and_true, Bool.true_and]
  rw [decide_eq_true h0, decide_eq_true hp1, decide_eq_true hp8, decide_eq_true (by omega), decide_eq_true (by omega)]
  simp
end Go.Proofs.YteinbojpmhblkaaDoor
/-
  A row of parts, of any length, that stands as one part: one of them is taken out, and put back.
-/
namespace Go.Sep
set_option linter.unusedSimpArgs false
set_option linter.unusedVariables false

theorem sepL.merge {L : List HProp} {h : Heap} {P B : HProp} {j : Nat} (hj : L[j]? = some P) (H : sepL (L ++ [B]) h) : sepL (L.set j (sepL [P, B])) h := by
  classical
  obtain ⟨f, h1, h2, h3⟩ := H
  have hjl : j < L.length := (List.getElem?_eq_some_iff.1 hj).1
  refine ⟨fun k => if k = j then (fun b => if f j b ≠ none ∨ f L.length b ≠ none then h b else none) else if k < L.length then f k else fun _ => none, ?_, ?_, ?_⟩
  · intro k Q hk
    rw [List.getElem?_set] at hk
    split at hk
    · rename_i e; subst e
      cases hk
      simp only [if_true]
      refine ⟨fun q => if q = 0 then f j else if q = 1 then f L.length else fun _ => none, ?_, ?_, ?_⟩
      · intro q R hq
        match q, hq with
        | 0, hq => simp only [List.getElem?_cons_zero, Option.some.injEq] at hq; subst hq; exact h1 j _ (by rw [List.getElem?_append_left hjl]; exact hj)
        | 1, hq => simp only [List.getElem?_cons_succ, List.getElem?_cons_zero, Option.some.injEq] at hq; subst hq; exact h1 L.length _ (by simp)
        | q + 2, hq => simp at hq
      · intro q r b hqr hb
        dsimp only at hb ⊢
        by_cases hq0 : q = 0
        · simp only [hq0, if_true] at hb
          have hr0 : r ≠ 0 := by omega
          simp only [hr0, if_false]
          by_cases hr1 : r = 1
          · simp only [hr1, if_true]; exact h2 j _ b (by omega) hb
          · simp [hr1]
        · simp only [hq0, if_false] at hb
          by_cases hq1 : q = 1
          · simp only [hq1, if_true] at hb
            by_cases hr0 : r = 0
            · simp only [hr0, if_true]; exact h2 _ j b (by omega) hb
            · have hr1 : r ≠ 1 := by omega
              simp [hr0, hr1]
          · simp [hq1] at hb
      · intro q b o hb
        dsimp only at hb ⊢
        by_cases hq0 : q = 0
        · simp only [hq0, if_true] at hb
          rw [if_pos (.inl (by rw [hb]; simp))]; exact h3 _ _ _ hb
        · simp only [hq0, if_false] at hb
          by_cases hq1 : q = 1
          · simp only [hq1, if_true] at hb
            rw [if_pos (.inr (by rw [hb]; simp))]; exact h3 _ _ _ hb
          · simp [hq1] at hb
    · rename_i ne
      have hkl := (List.getElem?_eq_some_iff.1 hk).1
      simp only [Ne.symm ne, if_false, hkl, if_true]
      exact h1 k Q (by rw [List.getElem?_append_left hkl]; exact hk)
  · intro p q b hpq hb
    dsimp only at hb ⊢
    by_cases hp : p = j
    · have hq : q ≠ j := by omega
      simp only [hp, if_true] at hb
      simp only [hq, if_false]
      by_cases hql : q < L.length
      · simp only [hql, if_true]
        split at hb
        · rename_i hx
          rcases hx with hx | hx
          · exact h2 j q b (Ne.symm hq) hx
          · exact h2 _ q b (by omega) hx
        · exact (hb rfl).elim
      · simp [hql]
    · simp only [hp, if_false] at hb
      by_cases hpl : p < L.length
      · simp only [hpl, if_true] at hb
        by_cases hq : q = j
        · simp only [hq, if_true]
          rw [if_neg]
          rintro (hx | hx)
          · exact hb (h2 j p b (Ne.symm hp) hx)
          · exact hb (h2 _ p b (by omega) hx)
        · simp only [hq, if_false]
          by_cases hql : q < L.length
          · simp only [hql, if_true]; exact h2 p q b hpq hb
          · simp [hql]
      · simp [hpl] at hb
  · intro p b o hb
    dsimp only at hb
    by_cases hp : p = j
    · simp only [hp, if_true] at hb
      split at hb
      · exact hb
      · cases hb
    · simp only [hp, if_false] at hb
      by_cases hpl : p < L.length
      · simp only [hpl, if_true] at hb; exact h3 _ _ _ hb
      · simp [hpl] at hb

section
variable {e w : World} {L R N : List HProp}
theorem Holds.merge {P B : HProp} {j : Nat} (hj : L[j]? = some P) (H : Holds e w (L ++ [B])) : Holds e w (L.set j (sepL [P, B])) := ⟨H.1, H.2.merge hj⟩
/-- One of the row at place j comes to the end of the list. -/
theorem Holds.pick {A : HProp} (j i : Nat) (hj : L[j]? = some (sepL R)) (hi : R[i]? = some A) (H : Holds e w L) : Holds e w (L.set j (sepL (R.set i emp)) ++ [A]) := by
  have hjl : j < L.length := (List.getElem?_eq_some_iff.1 hj).1
  have h1 := H.imp (i := j) (sepL [sepL (R.set i emp), A]) hj fun h hp => sepL.focus hi hp
  have h2 := h1.open_ j (by rw [List.getElem?_set_self hjl])
  rwa [List.set_set] at h2
/-- And back: the last part of the list goes into the row. -/
theorem Holds.unpick {B : HProp} (j i : Nat) (hj : L[j]? = some (sepL (R.set i emp))) (hi : i < R.length) (H : Holds e w (L ++ [B])) : Holds e w (L.set j (sepL (R.set i B))) := by
  have hjl : j < L.length := (List.getElem?_eq_some_iff.1 hj).1
  have h1 := H.merge hj
  have h2 := h1.imp (i := j) (sepL (R.set i B)) (List.getElem?_set_self hjl) fun h hp => by
    have := sepL.unfocus (N := []) hi hp
    rwa [List.append_nil] at this
  rwa [List.set_set] at h2
/-- The row grows by what stands at the end of the list. -/
theorem Holds.growRow {B : HProp} (j : Nat) (hj : L[j]? = some (sepL R)) (H : Holds e w (L ++ [B])) : Holds e w (L.set j (sepL (R ++ [B]))) := by
  have hjl : j < L.length := (List.getElem?_eq_some_iff.1 hj).1
  have h1 := H.merge hj
  have h2 := h1.imp (i := j) (sepL (R ++ [B])) (List.getElem?_set_self hjl) fun h hp => sepL.ungroup R [B] hp
  rwa [List.set_set] at h2
end
end Go.Sep
/-
  How scripts lie: items and programs that can be read, and such as are held.
-/
namespace Go.Proofs.YteinbojpmhblkaaDoor
set_option linter.unusedSimpArgs false
set_option linter.unusedVariables false
open Go.RowKit Go.Sep
set_option maxRecDepth 20000

/-- A cell that can be read. -/
def RdC (e : World) (X : HProp) (q : Addr) (v : Value) : Prop := ∀ (w : World) (L : List HProp) (i : Nat), Holds e w L → L[i]? = some X → w.cell? q = some v
theorem at_any {e : World} {Φ : World → Prop} {A : HProp} {M : List HProp} (h : ∀ (w : World) (L : List HProp) (i : Nat), Holds e w L → L[i]? = some A → Φ w) : ∀ (j : Nat), M[j]? = some A → ∀ (w : World) (L : List HProp) (i : Nat), Holds e w L → L[i]? = some (sepL M) → Φ w := by
  intro j hj w L i hw hi
  have hil := (List.getElem?_eq_some_iff.1 hi).1
  cases M with
  | nil => cases hj
  | cons B M =>
    cases j with
    | zero => cases hj; exact h w _ i (hw.open_ i hi) (by rw [List.getElem?_append_left (by simpa using hil), List.getElem?_set_self hil])
    | succ j => exact h w _ (L.length + j) (hw.open_ i hi) (by rw [List.getElem?_append_right (by simp)]; simpa using hj)
theorem RdC.at {e : World} {A : HProp} {M : List HProp} {q : Addr} {v : Value} (h : RdC e A q v) (j : Nat) (hj : M[j]? = some A) : RdC e (sepL M) q v := at_any (Φ := fun w => w.cell? q = some v) h j hj

def encT (x : Itm) : List Value := [.int .i64 x.d, .int .i64 x.a, .int .i64 x.n]
theorem encT_one (x : Itm) : ∀ v ∈ encT x, v.oneCell' = true := by simp [encT, Value.oneCell']
def encTs (l : List Itm) : List Value := l.flatMap encT
theorem encT_len (x : Itm) : (encT x).length = 3 := rfl
theorem encTs_length (l : List Itm) : (encTs l).length = l.length * 3 := flat_len encT_len l
theorem encTs_append (l m : List Itm) : encTs (l ++ m) = encTs l ++ encTs m := by simp [encTs]
theorem encTs_one (l : List Itm) : ∀ v ∈ encTs l, v.oneCell' = true := by
  intro v hv
  obtain ⟨x, _, hx⟩ := List.mem_flatMap.1 hv
  exact encT_one x v hx
theorem encTs_snoc (l : List Itm) (x : Itm) : encTs (l ++ [x]) = encTs l ++ encT x := by rw [encTs_append]; simp [encTs]
/-- Items that can be read. -/
def ReadsT (w : World) (a : Option Addr) (l : List Itm) : Prop := ∀ (k : Nat) (x : Itm), l[k]? = some x → ∃ p : Addr, a = some p ∧ ∀ (j : Nat) (c : Value), (encT x)[j]? = some c → w.cell? ((p.add (k * 3)).add j) = some c
def RdT (e : World) (X : HProp) (a : Option Addr) (l : List Itm) : Prop := ∀ (w : World) (L : List HProp) (i : Nat), Holds e w L → L[i]? = some X → ReadsT w a l
theorem RdT.at {e : World} {A : HProp} {M : List HProp} {a : Option Addr} {l : List Itm} (h : RdT e A a l) (j : Nat) (hj : M[j]? = some A) : RdT e (sepL M) a l := at_any (Φ := fun w => ReadsT w a l) h j hj
theorem readsT {T : TypeId} {e w : World} {L : List HProp} {i n ca : Nat} {a : Option Addr} {l : List Itm} (hw : Holds e w L) (hi : L[i]? = some (Sl T 3 (.slice a n ca) n (encTs l))) : ReadsT w a l := by
  intro k x hx
  have hk : k < l.length := (List.getElem?_eq_some_iff.1 hx).1
  have hln : (encTs l).length = n * 3 := hw.fact hi (fun _ h => h.1)
  have hln2 := encTs_length l
  rcases hw.openSl hi with ⟨_, h2, _⟩ | ⟨b, cap, pre, post, hv', _, _, _, hw'⟩
  · omega
  · cases hv'
    have hil : i < L.length := (List.getElem?_eq_some_iff.1 hi).1
    refine ⟨_, rfl, fun j c hj => ?_⟩
    have hj4 : j < 3 := (List.getElem?_eq_some_iff.1 hj).1
    have e1 : ((⟨b, pre.length, none⟩ : Addr).add (k * 3)).add j = ⟨b, pre.length + (k * 3 + j), none⟩ := by
      rw [Go.Deep.add_add]; unfold Addr.add; split <;> simp_all
    rw [e1, hw'.cells (List.getElem?_set_self hil), Sep.mid_get _ _ _ _ (by omega)]
    unfold encTs
    rw [flat_get encT_len hx hj4]; exact hj
theorem rdT {T : TypeId} {e : World} {n ca : Nat} {a : Option Addr} {l : List Itm} : RdT e (Sl T 3 (.slice a n ca) n (encTs l)) a l := fun _ _ _ hw hi => readsT hw hi

/-- An element of one cell that can be read. -/
def RdE (e : World) (X : HProp) (a : Option Addr) (k : Nat) (v : Value) : Prop := ∀ (w : World) (L : List HProp) (i : Nat), Holds e w L → L[i]? = some X → ∃ q : Addr, a = some q ∧ w.cell? (q.add k) = some v
theorem RdE.at {e : World} {A : HProp} {M : List HProp} {a : Option Addr} {k : Nat} {v : Value} (h : RdE e A a k v) (j : Nat) (hj : M[j]? = some A) : RdE e (sepL M) a k v := at_any (Φ := fun w => ∃ q : Addr, a = some q ∧ w.cell? (q.add k) = some v) h j hj
/-- Where a program lies: the slice's place and its room. -/
abbrev Hd := Option Addr × Nat
def hdV (h : Hd) (p : List Deed) : Value := .slice h.1 p.length h.2
/-- Programs that can be read. -/
def RdP (e : World) (X : HProp) (a : Option Addr) (hs : List Hd) (ps : List (List Deed)) : Prop :=
  ∀ (k : Nat) (p : List Deed), ps[k]? = some p → ∃ h : Hd, hs[k]? = some h ∧ RdE e X a k (hdV h p) ∧ RdA e X h.1 p
theorem RdP.at {e : World} {A : HProp} {M : List HProp} {a : Option Addr} {hs : List Hd} {ps : List (List Deed)} (h : RdP e A a hs ps) (j : Nat) (hj : M[j]? = some A) : RdP e (sepL M) a hs ps := by
  intro k p hp
  obtain ⟨hd, h1, h3, h4⟩ := h k p hp
  exact ⟨hd, h1, h3.at j hj, h4.at j hj⟩
/-- Programs that are held. -/
def hdVs (hs : List Hd) (ps : List (List Deed)) : List Value := List.zipWith hdV hs ps
def hdRs (TA : TypeId) (hs : List Hd) (ps : List (List Deed)) : List HProp := List.zipWith (fun h p => IsAs TA (hdV h p) p) hs ps
def IsPs (TP TA : TypeId) (a : Option Addr) (c : Nat) (hs : List Hd) (ps : List (List Deed)) : HProp := sepL [Sl TP 1 (.slice a ps.length c) ps.length (hdVs hs ps), sepL (hdRs TA hs ps)]
theorem hdVs_len {hs : List Hd} {ps : List (List Deed)} (h : hs.length = ps.length) : (hdVs hs ps).length = ps.length := by unfold hdVs; rw [List.length_zipWith, h, Nat.min_self]
theorem hdRs_len {TA : TypeId} {hs : List Hd} {ps : List (List Deed)} (h : hs.length = ps.length) : (hdRs TA hs ps).length = ps.length := by unfold hdRs; rw [List.length_zipWith, h, Nat.min_self]
theorem hdVs_one (hs : List Hd) (ps : List (List Deed)) : ∀ v ∈ hdVs hs ps, v.oneCell' = true := by
  intro v hv
  obtain ⟨k, hk⟩ := List.getElem?_of_mem hv
  unfold hdVs at hk
  rw [List.getElem?_zipWith] at hk
  split at hk
  · simp only [Option.some.injEq] at hk; subst hk; rfl
  · cases hk
theorem hdVs_snoc {hs : List Hd} {ps : List (List Deed)} (h : hs.length = ps.length) (g : Hd) (p : List Deed) : hdVs (hs ++ [g]) (ps ++ [p]) = hdVs hs ps ++ [hdV g p] := by
  unfold hdVs; rw [List.zipWith_append h]; rfl
theorem hdRs_snoc {TA : TypeId} {hs : List Hd} {ps : List (List Deed)} (h : hs.length = ps.length) (g : Hd) (p : List Deed) : hdRs TA (hs ++ [g]) (ps ++ [p]) = hdRs TA hs ps ++ [IsAs TA (hdV g p) p] := by
  unfold hdRs; rw [List.zipWith_append h]; rfl
theorem rdP {TP TA : TypeId} {e : World} {a : Option Addr} {c : Nat} {hs : List Hd} {ps : List (List Deed)} (hl : hs.length = ps.length) : RdP e (IsPs TP TA a c hs ps) a hs ps := by
  intro k p hp
  have hk : k < ps.length := (List.getElem?_eq_some_iff.1 hp).1
  obtain ⟨h, hh⟩ : ∃ h, hs[k]? = some h := ⟨_, List.getElem?_eq_getElem (by omega)⟩
  have hv : (hdVs hs ps)[k]? = some (hdV h p) := by unfold hdVs; rw [List.getElem?_zipWith, hh, hp]
  have hr : (hdRs TA hs ps)[k]? = some (IsAs TA (hdV h p) p) := by unfold hdRs; rw [List.getElem?_zipWith, hh, hp]
  refine ⟨h, hh, ?_, ?_⟩
  · have key : RdE e (Sl TP 1 (.slice a ps.length c) ps.length (hdVs hs ps)) a k (hdV h p) := by
      intro w L i hw hi
      have hln : (hdVs hs ps).length = ps.length * 1 := hw.fact hi (fun _ h => h.1)
      rcases hw.openSl hi with ⟨_, h2, _⟩ | ⟨b, cap, pre, post, hv', _, _, _, hw'⟩
      · omega
      · cases hv'
        have hil : i < L.length := (List.getElem?_eq_some_iff.1 hi).1
        refine ⟨_, rfl, ?_⟩
        have e1 : (⟨b, pre.length, none⟩ : Addr).add k = ⟨b, pre.length + k, none⟩ := by unfold Addr.add; split <;> simp_all
        rw [e1, hw'.cells (List.getElem?_set_self hil), Sep.mid_get _ _ _ _ (by omega)]
        exact hv
    exact key.at 0 rfl
  · have h1 : RdA e (IsAs TA (hdV h p) p) h.1 p := rdA
    have h2 : RdA e (sepL (hdRs TA hs ps)) h.1 p := RdA.at h1 k hr
    exact RdA.at h2 1 rfl
end Go.Proofs.YteinbojpmhblkaaDoor
/-
  The walks of Right of an item, the program's and the document's; of what is asked of all items, and of all programs.
-/
namespace Go.Proofs.YteinbojpmhblkaaDoor
set_option linter.unusedSimpArgs false
set_option linter.unusedVariables false
open Go.RowKit Go.Sep
set_option maxRecDepth 20000

set_option maxHeartbeats 4000000 in
theorem oItem (x : Itm) (e w : World) (X : HProp) (hw : Holds e w [X]) :
    Calls Tryd.prog 13 #[.agg (encT x).toArray] w fun en w' => en = .returned (.bool (itemP x)) ∧ Holds e w' [X] := by
  have hA : encT x = [.int .i64 x.d, .int .i64 x.a, .int .i64 x.n] := rfl
  rw [hA]; clear hA
  refine Sep.calls_post ?_
  intro Post_ hPost_
  have HP := Sep.hid hPost_
  clear hPost_
  go_enter Tryd.func13, Tryd.ntmps13
  go_wp2_with (first | (refine wpList_on rfl (wp_box rfl hw ?_); intro b_ w_ hw_; clear hw; have hw := hw_; clear hw_; (try simp only [List.map_cons, List.map_nil, List.getD_cons_zero, List.getD_cons_succ, List.getD_nil, List.set_cons_zero, List.set_cons_succ, List.cons_append, List.nil_append, Act.eval, Array.getD_eq_getD_getElem?, List.getElem?_toArray, List.getElem?_cons_succ, List.getElem?_cons_zero, Option.getD_some, Value.cells] at hw); (try simp (disch := first | (simp; done) | (simp; omega)) only [Sep.mid_set, Sep.mid_set2, Sep.mid_set0, Sep.mid_splice, Sep.mid_splice0, List.set_cons_zero, List.set_cons_succ] at hw); (try simp only [Sep.splice, List.take_succ_cons, List.take_zero, List.drop_succ_cons, List.drop_zero, List.length_cons, List.length_nil, Nat.reduceAdd, List.cons_append, List.nil_append] at hw); (try replace hc0 := Sep.Holds.cells hw (i := 0) rfl); (try replace hc1 := Sep.Holds.cells hw (i := 1) rfl); (try replace hc2 := Sep.Holds.cells hw (i := 2) rfl); (try replace hc3 := Sep.Holds.cells hw (i := 3) rfl); (try replace hc4 := Sep.Holds.cells hw (i := 4) rfl); (try replace hc5 := Sep.Holds.cells hw (i := 5) rfl); (try replace hc6 := Sep.Holds.cells hw (i := 6) rfl)))
  all_goals refine HP.out _ _ ⟨congrArg (fun b => Ending.returned (Value.bool b)) (?_ : _ = itemP x), hw.sel [0] (by decide)⟩
  all_goals (unfold itemP; (repeat' split) <;> (first | rfl | omega | (rw [Bool.eq_iff_iff]; simp only [decide_eq_true_eq, beq_iff_eq, Bool.false_eq_true, false_iff, true_iff, iff_true, iff_false]; omega) | (simp_all; done) | (simp_all; omega)))
set_option maxHeartbeats 4000000 in
theorem rItem (x : Itm) (e w : World) (X : HProp) (hw : Holds e w [X]) :
    Calls Tryd.prog 14 #[.agg (encT x).toArray] w fun en w' => en = .returned (.bool (itemP x)) ∧ Holds e w' [X] := by
  have hA : encT x = [.int .i64 x.d, .int .i64 x.a, .int .i64 x.n] := rfl
  rw [hA]; clear hA
  refine Sep.calls_post ?_
  intro Post_ hPost_
  have HP := Sep.hid hPost_
  clear hPost_
  go_enter Tryd.func14, Tryd.ntmps14
  go_wp2_with (first | (refine wpList_on rfl (wp_box rfl hw ?_); intro b_ w_ hw_; clear hw; have hw := hw_; clear hw_; (try simp only [List.map_cons, List.map_nil, List.getD_cons_zero, List.getD_cons_succ, List.getD_nil, List.set_cons_zero, List.set_cons_succ, List.cons_append, List.nil_append, Act.eval, Array.getD_eq_getD_getElem?, List.getElem?_toArray, List.getElem?_cons_succ, List.getElem?_cons_zero, Option.getD_some, Value.cells] at hw); (try simp (disch := first | (simp; done) | (simp; omega)) only [Sep.mid_set, Sep.mid_set2, Sep.mid_set0, Sep.mid_splice, Sep.mid_splice0, List.set_cons_zero, List.set_cons_succ] at hw); (try simp only [Sep.splice, List.take_succ_cons, List.take_zero, List.drop_succ_cons, List.drop_zero, List.length_cons, List.length_nil, Nat.reduceAdd, List.cons_append, List.nil_append] at hw); (try replace hc0 := Sep.Holds.cells hw (i := 0) rfl); (try replace hc1 := Sep.Holds.cells hw (i := 1) rfl); (try replace hc2 := Sep.Holds.cells hw (i := 2) rfl); (try replace hc3 := Sep.Holds.cells hw (i := 3) rfl); (try replace hc4 := Sep.Holds.cells hw (i := 4) rfl); (try replace hc5 := Sep.Holds.cells hw (i := 5) rfl); (try replace hc6 := Sep.Holds.cells hw (i := 6) rfl)))
  all_goals refine HP.out _ _ ⟨congrArg (fun b => Ending.returned (Value.bool b)) (?_ : _ = itemP x), hw.sel [0] (by decide)⟩
  all_goals (unfold itemP; (repeat' split) <;> (first | rfl | omega | (rw [Bool.eq_iff_iff]; simp only [decide_eq_true_eq, beq_iff_eq, Bool.false_eq_true, false_iff, true_iff, iff_true, iff_false]; omega) | (simp_all; done) | (simp_all; omega)))
theorem all_snoc {α : Type} {f : α → Bool} {l : List α} {k : Nat} {x : α} (h : (l.take k).all f = true) (hx : l[k]? = some x) (hf : f x = true) : (l.take (k + 1)).all f = true := by
  rw [List.take_add_one, hx]
  simp only [Option.toList_some, List.all_append, h, List.all_cons, List.all_nil, hf]; rfl
theorem all_bad {α : Type} {f : α → Bool} {l : List α} {k : Nat} {x : α} (hx : l[k]? = some x) (hf : f x = false) : l.all f = false := by
  rw [List.all_eq_false]
  exact ⟨x, List.mem_of_getElem? hx, by simp [hf]⟩
theorem all_end {α : Type} {f : α → Bool} {l : List α} {n : Nat} (h : (l.take n).all f = true) (hn : l.length ≤ n) : l.all f = true := by rwa [List.take_of_length_le hn] at h
set_option maxHeartbeats 4000000 in
theorem oMay2 (x : Itm) (e w : World) (X : HProp) (hw : Holds e w [X]) :
    Calls Tryd.prog 34 #[.agg (encT x).toArray] w fun en w' => en = .returned (.bool (!itemP x)) ∧ Holds e w' [X] := by
  have hA : encT x = [.int .i64 x.d, .int .i64 x.a, .int .i64 x.n] := rfl
  rw [hA]; clear hA
  refine Sep.calls_post ?_
  intro Post_ hPost_
  have HP := Sep.hid hPost_
  clear hPost_
  go_enter Tryd.func34, Tryd.ntmps34
  go_wp2_with (first | (refine wpList_on rfl (wp_box rfl hw ?_); intro b_ w_ hw_; clear hw; have hw := hw_; clear hw_; (try simp only [List.map_cons, List.map_nil, List.getD_cons_zero, List.getD_cons_succ, List.getD_nil, List.set_cons_zero, List.set_cons_succ, List.cons_append, List.nil_append, Act.eval, Array.getD_eq_getD_getElem?, List.getElem?_toArray, List.getElem?_cons_succ, List.getElem?_cons_zero, Option.getD_some, Value.cells] at hw); (try simp (disch := first | (simp; done) | (simp; omega)) only [Sep.mid_set, Sep.mid_set2, Sep.mid_set0, Sep.mid_splice, Sep.mid_splice0, List.set_cons_zero, List.set_cons_succ] at hw); (try simp only [Sep.splice, List.take_succ_cons, List.take_zero, List.drop_succ_cons, List.drop_zero, List.length_cons, List.length_nil, Nat.reduceAdd, List.cons_append, List.nil_append] at hw); (try replace hc0 := Sep.Holds.cells hw (i := 0) rfl); (try replace hc1 := Sep.Holds.cells hw (i := 1) rfl); (try replace hc2 := Sep.Holds.cells hw (i := 2) rfl); (try replace hc3 := Sep.Holds.cells hw (i := 3) rfl); (try replace hc4 := Sep.Holds.cells hw (i := 4) rfl); (try replace hc5 := Sep.Holds.cells hw (i := 5) rfl); (try replace hc6 := Sep.Holds.cells hw (i := 6) rfl)))
  refine (oItem x e _ _ hw.focus0).mono ?_
  rintro _ w_ ⟨rfl, hw_⟩
  clear hw; (try clear hc0); (try clear hc1); (try clear hc2); (try clear hc3); (try clear hc4); (try clear hc5); (try clear hc6); have hw := Holds.unfocus0 hw_; clear hw_
  (try simp only [List.map_cons, List.map_nil, List.getD_cons_zero, List.getD_cons_succ, List.getD_nil, List.set_cons_zero, List.set_cons_succ, List.cons_append, List.nil_append, Act.eval, Array.getD_eq_getD_getElem?, List.getElem?_toArray, List.getElem?_cons_succ, List.getElem?_cons_zero, Option.getD_some, Value.cells] at hw); (try simp (disch := first | (simp; done) | (simp; omega)) only [Sep.mid_set, Sep.mid_set2, Sep.mid_set0, Sep.mid_splice, Sep.mid_splice0, List.set_cons_zero, List.set_cons_succ] at hw); (try simp only [Sep.splice, List.take_succ_cons, List.take_zero, List.drop_succ_cons, List.drop_zero, List.length_cons, List.length_nil, Nat.reduceAdd, List.cons_append, List.nil_append] at hw)
  go_wp2_with fail
  exact HP.out _ _ ⟨rfl, hw.sel [0] (by decide)⟩
set_option maxHeartbeats 4000000 in
theorem oMay1s (p : List Deed) (n ca : Nat) (a : Option Addr) (hn : Hid (p.length = n)) (e w : World) (X : HProp) (hT : Tops e X) (hR : RdA e X a p) (hw : Holds e w [X]) :
    Calls Tryd.prog 31 #[.slice a n ca] w fun en w' => en = .returned (.bool (!mayP p)) ∧ Holds e w' [X] := by
  have HT := Sep.hid hT; clear hT
  have HR := Sep.hid hR; clear hR
  refine Sep.calls_post ?_
  intro Post_ hPost_
  have HP := Sep.hid hPost_
  clear hPost_
  go_enter Tryd.func31, Tryd.ntmps31
  go_wp2_with fail
  refine (oMay p n ca a hn e _ _ HT.out HR.out hw).mono ?_
  rintro _ w_ ⟨rfl, hw_⟩
  go_wp2_with fail
  exact HP.out _ _ ⟨rfl, hw_⟩
set_option maxHeartbeats 4000000 in
theorem oIndexT (l : List Itm) (n ca : Nat) (a : Option Addr) (hn : Hid (l.length = n)) (hn2 : n ≤ 1000000) (e w : World) (X : HProp) (hR : RdT e X a l) (hw : Holds e w [X]) :
    Calls Tryd.prog 48 #[.slice a n ca, .func (.func 34) #[] #[]] w fun en w' => (∃ k : Int, en = .returned (.int .i64 k) ∧ decide (0 ≤ k) = !l.all itemP) ∧ Holds e w' [X] := by
  have HR := Sep.hid hR; clear hR
  refine Sep.calls_post ?_
  intro Post_ hPost_
  have HP := Sep.hid hPost_
  clear hPost_
  go_enter Tryd.func48, Tryd.ntmps48
  go_wp2_with fail
  have Hw0 := Sep.hid hw; clear hw; (try clear hc0); (try clear hc1); (try clear hc2); (try clear hc3); (try clear hc4); (try clear hc5); (try clear hc6)
  go_loopw [8] (fun i wr => ∃ k : Nat, k ≤ n ∧ i = .int .i64 k ∧ Hid ((l.take k).all itemP = true) ∧ Holds e wr [X]) (fun i _ => n - (intOf i).toNat)
  case atStart => exact ⟨0, Nat.zero_le _, rfl, Sep.hid (by simp), Hw0.out⟩
  case round =>
    clear Hw0
    obtain ⟨k, hk, rfl, Hno, hw⟩ := hrel
    by_cases hlt : k < n
    · obtain ⟨x, hx⟩ : ∃ x, l[k]? = some x := ⟨_, List.getElem?_eq_getElem (by rw [hn.out]; exact hlt)⟩
      obtain ⟨p, rfl, hc⟩ := HR.out _ _ 0 hw rfl k x hx
      have Hc := Sep.hid hc; clear hc
      have Hx := Sep.hid hx; clear hx
      go_wp2_with (first | (refine wpList_on rfl (wp_of_run (run_loadAd (vs := encT x) rfl rfl rfl Hc.out) ?_); (try simp only [Act.put, List.setIfInBounds_toArray, List.set_cons_zero, List.set_cons_succ])))
      refine (oMay2 x e _ X hw).mono ?_
      rintro _ w_ ⟨rfl, hw_⟩
      clear hw; (try clear hc0); (try clear hc1); (try clear hc2); (try clear hc3); (try clear hc4); (try clear hc5); (try clear hc6); have hw := hw_; clear hw_
      cases hr : itemP x with
      | true =>
        have Hr := Sep.hid hr; clear hr
        go_wp2_with fail
        go_roundw
        case rel => exact ⟨k + 1, by omega, by go_num, Sep.hid (all_snoc Hno.out Hx.out Hr.out), hw⟩
        case measure => simp [intOf]; omega
      | false =>
        have Hr := Sep.hid hr; clear hr
        go_wp2_with fail
        exact HP.out _ _ ⟨⟨_, rfl, by rw [all_bad Hx.out Hr.out]; simp⟩, hw⟩
    · have hke : n = k := by omega
      subst hke
      have Hb : Hid (l.all itemP = true) := Sep.hid (all_end Hno.out (by rw [hn.out]; exact Nat.le_refl _))
      go_wp2_with fail
      exact HP.out _ _ ⟨⟨_, rfl, by rw [Hb.out]; decide⟩, hw⟩
set_option maxHeartbeats 4000000 in
theorem oContainsT (l : List Itm) (n ca : Nat) (a : Option Addr) (hn : Hid (l.length = n)) (hn2 : n ≤ 1000000) (e w : World) (X : HProp) (hR : RdT e X a l) (hw : Holds e w [X]) :
    Calls Tryd.prog 33 #[.slice a n ca, .func (.func 34) #[] #[]] w fun en w' => en = .returned (.bool (!l.all itemP)) ∧ Holds e w' [X] := by
  refine Sep.calls_post ?_
  intro Post_ hPost_
  have HP := Sep.hid hPost_
  clear hPost_
  go_enter Tryd.func33, Tryd.ntmps33
  go_wp2_with fail
  refine (oIndexT l n ca a hn hn2 e _ X hR hw).mono ?_
  rintro _ w_ ⟨⟨k, rfl, hk⟩, hw_⟩
  have Hk := Sep.hid hk; clear hk
  go_wp2_with fail
  exact HP.out _ _ ⟨by rw [← Hk.out]; rfl, hw_⟩
set_option maxHeartbeats 4000000 in
theorem oIndexP (ps : List (List Deed)) (hs : List Hd) (n ca : Nat) (a : Option Addr) (hn : Hid (ps.length = n)) (hn2 : n ≤ 1000000) (e w : World) (X : HProp) (hT : Tops e X) (hR : RdP e X a hs ps) (hw : Holds e w [X]) :
    Calls Tryd.prog 44 #[.slice a n ca, .func (.func 31) #[] #[]] w fun en w' => (∃ k : Int, en = .returned (.int .i64 k) ∧ decide (0 ≤ k) = !ps.all mayP) ∧ Holds e w' [X] := by
  have HT := Sep.hid hT; clear hT
  have HR := Sep.hid hR; clear hR
  refine Sep.calls_post ?_
  intro Post_ hPost_
  have HP := Sep.hid hPost_
  clear hPost_
  go_enter Tryd.func44, Tryd.ntmps44
  go_wp2_with fail
  have Hw0 := Sep.hid hw; clear hw; (try clear hc0); (try clear hc1); (try clear hc2); (try clear hc3); (try clear hc4); (try clear hc5); (try clear hc6)
  go_loopw [8] (fun i wr => ∃ k : Nat, k ≤ n ∧ i = .int .i64 k ∧ Hid ((ps.take k).all mayP = true) ∧ Holds e wr [X]) (fun i _ => n - (intOf i).toNat)
  case atStart => exact ⟨0, Nat.zero_le _, rfl, Sep.hid (by simp), Hw0.out⟩
  case round =>
    clear Hw0
    obtain ⟨k, hk, rfl, Hno, hw⟩ := hrel
    by_cases hlt : k < n
    · obtain ⟨x, hx⟩ : ∃ x, ps[k]? = some x := ⟨_, List.getElem?_eq_getElem (by rw [hn.out]; exact hlt)⟩
      obtain ⟨h, _, hE, hA⟩ := HR.out k x hx
      obtain ⟨q, rfl, hc⟩ := hE _ _ 0 hw rfl
      have HA := Sep.hid hA; clear hA hE
      have Hx := Sep.hid hx; clear hx
      obtain ⟨ha, hca⟩ := h
      unfold hdV at hc
      obtain ⟨m, hm⟩ : ∃ m, x.length = m := ⟨_, rfl⟩
      rw [hm] at hc
      have Hm := Sep.hid hm; clear hm
      go_wp2_with fail
      refine (oMay1s x m hca ha Hm e _ X HT.out HA.out hw).mono ?_
      rintro _ w_ ⟨rfl, hw_⟩
      clear hw hc; (try clear hc0); (try clear hc1); (try clear hc2); (try clear hc3); (try clear hc4); (try clear hc5); (try clear hc6); have hw := hw_; clear hw_
      cases hr : mayP x with
      | true =>
        have Hr := Sep.hid hr; clear hr
        go_wp2_with fail
        go_roundw
        case rel => exact ⟨k + 1, by omega, by go_num, Sep.hid (all_snoc Hno.out Hx.out Hr.out), hw⟩
        case measure => simp [intOf]; omega
      | false =>
        have Hr := Sep.hid hr; clear hr
        go_wp2_with fail
        exact HP.out _ _ ⟨⟨_, rfl, by rw [all_bad Hx.out Hr.out]; simp⟩, hw⟩
    · have hke : n = k := by omega
      subst hke
      have Hb : Hid (ps.all mayP = true) := Sep.hid (all_end Hno.out (by rw [hn.out]; exact Nat.le_refl _))
      go_wp2_with fail
      exact HP.out _ _ ⟨⟨_, rfl, by rw [Hb.out]; decide⟩, hw⟩
set_option maxHeartbeats 4000000 in
theorem oContainsP (ps : List (List Deed)) (hs : List Hd) (n ca : Nat) (a : Option Addr) (hn : Hid (ps.length = n)) (hn2 : n ≤ 1000000) (e w : World) (X : HProp) (hT : Tops e X) (hR : RdP e X a hs ps) (hw : Holds e w [X]) :
    Calls Tryd.prog 30 #[.slice a n ca, .func (.func 31) #[] #[]] w fun en w' => en = .returned (.bool (!ps.all mayP)) ∧ Holds e w' [X] := by
  refine Sep.calls_post ?_
  intro Post_ hPost_
  have HP := Sep.hid hPost_
  clear hPost_
  go_enter Tryd.func30, Tryd.ntmps30
  go_wp2_with fail
  refine (oIndexP ps hs n ca a hn hn2 e _ X hT hR hw).mono ?_
  rintro _ w_ ⟨⟨k, rfl, hk⟩, hw_⟩
  have Hk := Sep.hid hk; clear hk
  go_wp2_with fail
  exact HP.out _ _ ⟨by rw [← Hk.out]; rfl, hw_⟩
end Go.Proofs.YteinbojpmhblkaaDoor
/-
  The walks of long and May of a script, the program's and the document's.
-/
namespace Go.Proofs.YteinbojpmhblkaaDoor
set_option linter.unusedSimpArgs false
set_option linter.unusedVariables false
open Go.RowKit Go.Sep
set_option maxRecDepth 20000

/-- A script's cells. -/
def scrV (s : Scr) (pa : Option Addr) (pc : Nat) (ia : Option Addr) (ic : Nat) : List Value := [.int .i64 s.r0, .int .i64 s.r1, .int .i64 s.r2, .int .i64 s.r3, .slice pa s.ps.length pc, .slice ia s.is.length ic]
/-- No larger than is looked at. -/
def Small (s : Scr) : Prop := s.ps.length ≤ 20 ∧ s.is.length ≤ 300 ∧ ∀ p ∈ s.ps, p.length ≤ 60
theorem longPs_snoc {ps : List (List Deed)} {k : Nat} {p : List Deed} (h : ps[k]? = some p) : longPs (ps.take (k + 1)) = longPs (ps.take k) + (1 + 11 * p.length) := by
  unfold longPs
  rw [List.take_add_one, h]
  simp
theorem longPs_le : ∀ (ps : List (List Deed)), (∀ p ∈ ps, p.length ≤ 60) → longPs ps ≤ ps.length * 661
  | [], _ => by simp [longPs]
  | p :: ps, h => by
    have h1 := longPs_le ps (fun q hq => h q (List.mem_cons_of_mem _ hq))
    have h2 := h p (List.mem_cons_self ..)
    unfold longPs at h1 ⊢
    rw [List.map_cons, List.sum_cons, List.length_cons]; omega
set_option maxHeartbeats 4000000 in
theorem oLong (s : Scr) (hS : Small s) (hs : List Hd) (pa ia : Option Addr) (pc ic : Nat) (e w : World) (X : HProp) (hR : RdP e X pa hs s.ps) (hw : Holds e w [X]) :
    Calls Tryd.prog 35 #[.agg (scrV s pa pc ia ic).toArray] w fun en w' => en = .returned (.int .i64 (longS s)) ∧ Holds e w' [X] := by
  have HR := Sep.hid hR; clear hR
  have HS := Sep.hid hS; clear hS
  obtain ⟨np, hnp⟩ : ∃ np, s.ps.length = np := ⟨_, rfl⟩
  obtain ⟨ni, hni⟩ : ∃ ni, s.is.length = ni := ⟨_, rfl⟩
  have hA : scrV s pa pc ia ic = [.int .i64 s.r0, .int .i64 s.r1, .int .i64 s.r2, .int .i64 s.r3, .slice pa np pc, .slice ia ni ic] := by rw [← hnp, ← hni]; rfl
  rw [hA]; clear hA
  have Hnp := Sep.hid hnp; have Hni := Sep.hid hni; clear hnp hni
  have hn20 : np ≤ 20 := by have := HS.out.1; rw [Hnp.out] at this; exact this
  have hn300 : ni ≤ 300 := by have := HS.out.2.1; rw [Hni.out] at this; exact this
  refine Sep.calls_post ?_
  intro Post_ hPost_
  have HP := Sep.hid hPost_
  clear hPost_
  go_enter Tryd.func35, Tryd.ntmps35
  go_wp2_with (first | (refine wpList_on rfl (wp_box rfl hw ?_); intro b_ w_ hw_; clear hw; have hw := hw_; clear hw_; (try simp only [List.map_cons, List.map_nil, List.getD_cons_zero, List.getD_cons_succ, List.getD_nil, List.set_cons_zero, List.set_cons_succ, List.cons_append, List.nil_append, Act.eval, Array.getD_eq_getD_getElem?, List.getElem?_toArray, List.getElem?_cons_succ, List.getElem?_cons_zero, Option.getD_some, Value.cells] at hw); (try simp (disch := first | (simp; done) | (simp; omega)) only [Sep.mid_set, Sep.mid_set2, Sep.mid_set0, Sep.mid_splice, Sep.mid_splice0, List.set_cons_zero, List.set_cons_succ] at hw); (try simp only [Sep.splice, List.take_succ_cons, List.take_zero, List.drop_succ_cons, List.drop_zero, List.length_cons, List.length_nil, Nat.reduceAdd, List.cons_append, List.nil_append] at hw); (try replace hc0 := Sep.Holds.cells hw (i := 0) rfl); (try replace hc1 := Sep.Holds.cells hw (i := 1) rfl); (try replace hc2 := Sep.Holds.cells hw (i := 2) rfl); (try replace hc3 := Sep.Holds.cells hw (i := 3) rfl); (try replace hc4 := Sep.Holds.cells hw (i := 4) rfl); (try replace hc5 := Sep.Holds.cells hw (i := 5) rfl); (try replace hc6 := Sep.Holds.cells hw (i := 6) rfl)))
  have Hw0 := Sep.hid hw; clear hw; (try clear hc0); (try clear hc1); (try clear hc2); (try clear hc3); (try clear hc4); (try clear hc5); (try clear hc6)
  go_loopw [14, 3] (fun i o wr => ∃ (k m : Nat), k ≤ np ∧ i = .int .i64 k ∧ o = .int .i64 m ∧ Hid (m = 33 + 10 * ni + longPs (s.ps.take k)) ∧ Holds e wr [X]) (fun i _ _ => np - (intOf i).toNat)
  case atStart =>
    refine ⟨0, 33 + 10 * ni, Nat.zero_le _, rfl, ?_, Sep.hid (by simp [longPs]), Hw0.out.sel [0] (by decide)⟩
    exact congrArg (Value.int .i64) (by omega)
  case round =>
    clear Hw0
    obtain ⟨k, m, hk, rfl, rfl, Hm, hw⟩ := hrel
    have hm2 : m ≤ 20000 := by
      have h1 := Hm.out
      have h2 := longPs_le (s.ps.take k) (fun p hp => HS.out.2.2 p (List.mem_of_mem_take hp))
      have h3 : (s.ps.take k).length ≤ 20 := by rw [List.length_take]; omega
      omega
    by_cases hlt : k < np
    · obtain ⟨x, hx⟩ : ∃ x, s.ps[k]? = some x := ⟨_, List.getElem?_eq_getElem (by rw [Hnp.out]; exact hlt)⟩
      obtain ⟨h, _, hE, hA⟩ := HR.out k x hx
      obtain ⟨q, rfl, hc⟩ := hE _ _ 0 hw rfl
      clear hA hE
      have hx60 := HS.out.2.2 x (List.mem_of_getElem? hx)
      have hsn := longPs_snoc hx
      have Hsn := Sep.hid hsn; clear hsn hx
      unfold hdV at hc
      obtain ⟨n, hn⟩ : ∃ n, x.length = n := ⟨_, rfl⟩
      rw [hn] at hc hx60
      have Hn := Sep.hid hn; clear hn
      go_wp2_with fail
      go_roundw
      case rel =>
        exact ⟨k + 1, m + (1 + 11 * n), by omega, by go_num, congrArg (Value.int .i64) (by omega), Sep.hid (by rw [Hsn.out, Hn.out, Hm.out]; omega), hw⟩
      case measure => simp [intOf]; omega
    · have hke : np = k := by omega
      subst hke
      have hl : m = longS s := by rw [Hm.out, List.take_of_length_le (by rw [Hnp.out]; exact Nat.le_refl _)]; unfold longS; rw [Hni.out]
      have Hl := Sep.hid hl; clear hl
      go_wp2_with fail
      exact HP.out _ _ ⟨by rw [Hl.out]; rfl, hw⟩
end Go.Proofs.YteinbojpmhblkaaDoor
/-
  The walks of eight and num.
-/
namespace Go.Proofs.YteinbojpmhblkaaDoor
set_option linter.unusedSimpArgs false
set_option linter.unusedVariables false
open Go.RowKit Go.Sep
set_option maxRecDepth 20000

def be8i (n : Int) : List Int := [n / 72057594037927936 % 256, n / 281474976710656 % 256, n / 1099511627776 % 256, n / 4294967296 % 256, n / 16777216 % 256, n / 65536 % 256, n / 256 % 256, n % 256]
theorem be8i_eq (n : Int) : be8i n = be8 n := by
  unfold be8i be8
  rw [u64w]
  simp only [List.cons.injEq, and_true]
  refine ⟨?_, ?_, ?_, ?_, ?_, ?_, ?_, ?_⟩ <;> omega
set_option maxHeartbeats 8000000 in
theorem oEight (v : Value) (cs : List Value) (n : Nat) (x : Int) (hn : n ≤ 100000) (e w : World) (X : HProp) (hw : Holds e w [X, Sl 5 1 v n cs]) :
    Calls Tryd.prog 20 #[v, .int .i64 x] w fun en w' => ∃ u, en = .returned u ∧ Holds e w' [X, Sl 5 1 u (n + 8) (cs ++ encB (be8 x))] := by
  refine Sep.calls_post ?_
  intro Post_ hPost_
  have HP := Sep.hid hPost_
  clear hPost_
  go_enter Tryd.func20, Tryd.ntmps20
  go_wp2_with fail
  have Hw0 := Sep.hid hw; clear hw; (try clear hc0); (try clear hc1); (try clear hc2); (try clear hc3); (try clear hc4); (try clear hc5); (try clear hc6)
  go_loopw [5, 0] (fun i o wr => ∃ (j : Nat) (c2 : List Int), j ≤ 8 ∧ i = .int .i64 (atI j) ∧ Hid (c2 = (be8i x).take j) ∧ Holds e wr [X, Sl 5 1 o (n + j) (cs ++ encB c2)]) (fun i _ _ => (intOf i + 8).toNat)
  case atStart => exact ⟨0, [], Nat.zero_le _, rfl, Sep.hid (by simp), by simpa [encB] using Hw0.out⟩
  case round =>
    clear Hw0
    obtain ⟨j, c2, hj, hi, Hc2, hw⟩ := hrel
    obtain ⟨oa2, oc2, rfl⟩ := Sl.value (i := 1) rfl hw
    match j, hj with
    | 0, _ =>
      obtain rfl : u5 = .int .i64 56 := hi
      (try replace hc0 := Sep.Holds.cells hw (i := 0) rfl); (try replace hc1 := Sep.Holds.cells hw (i := 1) rfl); (try replace hc2 := Sep.Holds.cells hw (i := 2) rfl); (try replace hc3 := Sep.Holds.cells hw (i := 3) rfl); (try replace hc4 := Sep.Holds.cells hw (i := 4) rfl); (try replace hc5 := Sep.Holds.cells hw (i := 5) rfl); (try replace hc6 := Sep.Holds.cells hw (i := 6) rfl)
      go_wp2_with (first | (refine wpList_on rfl (wp_bsl1 rfl rfl (by rfl) (by rfl) (by decide) hw ?_); intro b_ w_ hw_; clear hw; have hw := hw_; clear hw_; (try simp only [List.map_cons, List.map_nil, List.getD_cons_zero, List.getD_cons_succ, List.getD_nil, List.set_cons_zero, List.set_cons_succ, List.cons_append, List.nil_append, Act.eval, Array.getD_eq_getD_getElem?, List.getElem?_toArray, List.getElem?_cons_succ, List.getElem?_cons_zero, Option.getD_some, Value.cells] at hw); (try simp (disch := first | (simp; done) | (simp; omega)) only [Sep.mid_set, Sep.mid_set2, Sep.mid_set0, Sep.mid_splice, Sep.mid_splice0, List.set_cons_zero, List.set_cons_succ] at hw); (try simp only [Sep.splice, List.take_succ_cons, List.take_zero, List.drop_succ_cons, List.drop_zero, List.length_cons, List.length_nil, Nat.reduceAdd, List.cons_append, List.nil_append] at hw); (try replace hc0 := Sep.Holds.cells hw (i := 0) rfl); (try replace hc1 := Sep.Holds.cells hw (i := 1) rfl); (try replace hc2 := Sep.Holds.cells hw (i := 2) rfl); (try replace hc3 := Sep.Holds.cells hw (i := 3) rfl); (try replace hc4 := Sep.Holds.cells hw (i := 4) rfl); (try replace hc5 := Sep.Holds.cells hw (i := 5) rfl); (try replace hc6 := Sep.Holds.cells hw (i := 6) rfl)) | (at_builtin; refine wpList_on rfl (wp_appendPt (i := 1) (j := 2) rfl rfl hw rfl rfl rfl (by rfl) (by simp [Value.oneCell']) (by decide) (by rfl) (by (try unfold maxLen); omega) (by (try unfold maxLen); omega) ?_); intro b2_ cap2_ off2_ w_ hcap2_ hw_; clear hw; have hw := hw_; clear hw_; (try simp only [List.map_cons, List.map_nil, List.getD_cons_zero, List.getD_cons_succ, List.getD_nil, List.set_cons_zero, List.set_cons_succ, List.cons_append, List.nil_append, Act.eval, Array.getD_eq_getD_getElem?, List.getElem?_toArray, List.getElem?_cons_succ, List.getElem?_cons_zero, Option.getD_some, Value.cells] at hw); (try simp (disch := first | (simp; done) | (simp; omega)) only [Sep.mid_set, Sep.mid_set2, Sep.mid_set0, Sep.mid_splice, Sep.mid_splice0, List.set_cons_zero, List.set_cons_succ] at hw); (try simp only [Sep.splice, List.take_succ_cons, List.take_zero, List.drop_succ_cons, List.drop_zero, List.length_cons, List.length_nil, Nat.reduceAdd, List.cons_append, List.nil_append] at hw); (try replace hc0 := Sep.Holds.cells hw (i := 0) rfl); (try replace hc1 := Sep.Holds.cells hw (i := 1) rfl); (try replace hc2 := Sep.Holds.cells hw (i := 2) rfl); (try replace hc3 := Sep.Holds.cells hw (i := 3) rfl); (try replace hc4 := Sep.Holds.cells hw (i := 4) rfl); (try replace hc5 := Sep.Holds.cells hw (i := 5) rfl); (try replace hc6 := Sep.Holds.cells hw (i := 6) rfl)))
      go_roundw
      case rel =>
        refine ⟨0 + 1, c2 ++ [(be8i x).getD 0 0], by decide, rfl, Sep.hid (by rw [Hc2.out]; rfl), ?_⟩
        rw [encB_append, ← List.append_assoc]
        exact hw.sel [0, 1] (by decide)
      case measure => simp [intOf]
    | 1, _ =>
      obtain rfl : u5 = .int .i64 48 := hi
      (try replace hc0 := Sep.Holds.cells hw (i := 0) rfl); (try replace hc1 := Sep.Holds.cells hw (i := 1) rfl); (try replace hc2 := Sep.Holds.cells hw (i := 2) rfl); (try replace hc3 := Sep.Holds.cells hw (i := 3) rfl); (try replace hc4 := Sep.Holds.cells hw (i := 4) rfl); (try replace hc5 := Sep.Holds.cells hw (i := 5) rfl); (try replace hc6 := Sep.Holds.cells hw (i := 6) rfl)
      go_wp2_with (first | (refine wpList_on rfl (wp_bsl1 rfl rfl (by rfl) (by rfl) (by decide) hw ?_); intro b_ w_ hw_; clear hw; have hw := hw_; clear hw_; (try simp only [List.map_cons, List.map_nil, List.getD_cons_zero, List.getD_cons_succ, List.getD_nil, List.set_cons_zero, List.set_cons_succ, List.cons_append, List.nil_append, Act.eval, Array.getD_eq_getD_getElem?, List.getElem?_toArray, List.getElem?_cons_succ, List.getElem?_cons_zero, Option.getD_some, Value.cells] at hw); (try simp (disch := first | (simp; done) | (simp; omega)) only [Sep.mid_set, Sep.mid_set2, Sep.mid_set0, Sep.mid_splice, Sep.mid_splice0, List.set_cons_zero, List.set_cons_succ] at hw); (try simp only [Sep.splice, List.take_succ_cons, List.take_zero, List.drop_succ_cons, List.drop_zero, List.length_cons, List.length_nil, Nat.reduceAdd, List.cons_append, List.nil_append] at hw); (try replace hc0 := Sep.Holds.cells hw (i := 0) rfl); (try replace hc1 := Sep.Holds.cells hw (i := 1) rfl); (try replace hc2 := Sep.Holds.cells hw (i := 2) rfl); (try replace hc3 := Sep.Holds.cells hw (i := 3) rfl); (try replace hc4 := Sep.Holds.cells hw (i := 4) rfl); (try replace hc5 := Sep.Holds.cells hw (i := 5) rfl); (try replace hc6 := Sep.Holds.cells hw (i := 6) rfl)) | (at_builtin; refine wpList_on rfl (wp_appendPt (i := 1) (j := 2) rfl rfl hw rfl rfl rfl (by rfl) (by simp [Value.oneCell']) (by decide) (by rfl) (by (try unfold maxLen); omega) (by (try unfold maxLen); omega) ?_); intro b2_ cap2_ off2_ w_ hcap2_ hw_; clear hw; have hw := hw_; clear hw_; (try simp only [List.map_cons, List.map_nil, List.getD_cons_zero, List.getD_cons_succ, List.getD_nil, List.set_cons_zero, List.set_cons_succ, List.cons_append, List.nil_append, Act.eval, Array.getD_eq_getD_getElem?, List.getElem?_toArray, List.getElem?_cons_succ, List.getElem?_cons_zero, Option.getD_some, Value.cells] at hw); (try simp (disch := first | (simp; done) | (simp; omega)) only [Sep.mid_set, Sep.mid_set2, Sep.mid_set0, Sep.mid_splice, Sep.mid_splice0, List.set_cons_zero, List.set_cons_succ] at hw); (try simp only [Sep.splice, List.take_succ_cons, List.take_zero, List.drop_succ_cons, List.drop_zero, List.length_cons, List.length_nil, Nat.reduceAdd, List.cons_append, List.nil_append] at hw); (try replace hc0 := Sep.Holds.cells hw (i := 0) rfl); (try replace hc1 := Sep.Holds.cells hw (i := 1) rfl); (try replace hc2 := Sep.Holds.cells hw (i := 2) rfl); (try replace hc3 := Sep.Holds.cells hw (i := 3) rfl); (try replace hc4 := Sep.Holds.cells hw (i := 4) rfl); (try replace hc5 := Sep.Holds.cells hw (i := 5) rfl); (try replace hc6 := Sep.Holds.cells hw (i := 6) rfl)))
      go_roundw
      case rel =>
        refine ⟨1 + 1, c2 ++ [(be8i x).getD 1 0], by decide, rfl, Sep.hid (by rw [Hc2.out]; rfl), ?_⟩
        rw [encB_append, ← List.append_assoc]
        exact hw.sel [0, 1] (by decide)
      case measure => simp [intOf]
    | 2, _ =>
      obtain rfl : u5 = .int .i64 40 := hi
      (try replace hc0 := Sep.Holds.cells hw (i := 0) rfl); (try replace hc1 := Sep.Holds.cells hw (i := 1) rfl); (try replace hc2 := Sep.Holds.cells hw (i := 2) rfl); (try replace hc3 := Sep.Holds.cells hw (i := 3) rfl); (try replace hc4 := Sep.Holds.cells hw (i := 4) rfl); (try replace hc5 := Sep.Holds.cells hw (i := 5) rfl); (try replace hc6 := Sep.Holds.cells hw (i := 6) rfl)
      go_wp2_with (first | (refine wpList_on rfl (wp_bsl1 rfl rfl (by rfl) (by rfl) (by decide) hw ?_); intro b_ w_ hw_; clear hw; have hw := hw_; clear hw_; (try simp only [List.map_cons, List.map_nil, List.getD_cons_zero, List.getD_cons_succ, List.getD_nil, List.set_cons_zero, List.set_cons_succ, List.cons_append, List.nil_append, Act.eval, Array.getD_eq_getD_getElem?, List.getElem?_toArray, List.getElem?_cons_succ, List.getElem?_cons_zero, Option.getD_some, Value.cells] at hw); (try simp (disch := first | (simp; done) | (simp; omega)) only [Sep.mid_set, Sep.mid_set2, Sep.mid_set0, Sep.mid_splice, Sep.mid_splice0, List.set_cons_zero, List.set_cons_succ] at hw); (try simp only [Sep.splice, List.take_succ_cons, List.take_zero, List.drop_succ_cons, List.drop_zero, List.length_cons, List.length_nil, Nat.reduceAdd, List.cons_append, List.nil_append] at hw); (try replace hc0 := Sep.Holds.cells hw (i := 0) rfl); (try replace hc1 := Sep.Holds.cells hw (i := 1) rfl); (try replace hc2 := Sep.Holds.cells hw (i := 2) rfl); (try replace hc3 := Sep.Holds.cells hw (i := 3) rfl); (try replace hc4 := Sep.Holds.cells hw (i := 4) rfl); (try replace hc5 := Sep.Holds.cells hw (i := 5) rfl); (try replace hc6 := Sep.Holds.cells hw (i := 6) rfl)) | (at_builtin; refine wpList_on rfl (wp_appendPt (i := 1) (j := 2) rfl rfl hw rfl rfl rfl (by rfl) (by simp [Value.oneCell']) (by decide) (by rfl) (by (try unfold maxLen); omega) (by (try unfold maxLen); omega) ?_); intro b2_ cap2_ off2_ w_ hcap2_ hw_; clear hw; have hw := hw_; clear hw_; (try simp only [List.map_cons, List.map_nil, List.getD_cons_zero, List.getD_cons_succ, List.getD_nil, List.set_cons_zero, List.set_cons_succ, List.cons_append, List.nil_append, Act.eval, Array.getD_eq_getD_getElem?, List.getElem?_toArray, List.getElem?_cons_succ, List.getElem?_cons_zero, Option.getD_some, Value.cells] at hw); (try simp (disch := first | (simp; done) | (simp; omega)) only [Sep.mid_set, Sep.mid_set2, Sep.mid_set0, Sep.mid_splice, Sep.mid_splice0, List.set_cons_zero, List.set_cons_succ] at hw); (try simp only [Sep.splice, List.take_succ_cons, List.take_zero, List.drop_succ_cons, List.drop_zero, List.length_cons, List.length_nil, Nat.reduceAdd, List.cons_append, List.nil_append] at hw); (try replace hc0 := Sep.Holds.cells hw (i := 0) rfl); (try replace hc1 := Sep.Holds.cells hw (i := 1) rfl); (try replace hc2 := Sep.Holds.cells hw (i := 2) rfl); (try replace hc3 := Sep.Holds.cells hw (i := 3) rfl); (try replace hc4 := Sep.Holds.cells hw (i := 4) rfl); (try replace hc5 := Sep.Holds.cells hw (i := 5) rfl); (try replace hc6 := Sep.Holds.cells hw (i := 6) rfl)))
      go_roundw
      case rel =>
        refine ⟨2 + 1, c2 ++ [(be8i x).getD 2 0], by decide, rfl, Sep.hid (by rw [Hc2.out]; rfl), ?_⟩
        rw [encB_append, ← List.append_assoc]
        exact hw.sel [0, 1] (by decide)
      case measure => simp [intOf]
    | 3, _ =>
      obtain rfl : u5 = .int .i64 32 := hi
      (try replace hc0 := Sep.Holds.cells hw (i := 0) rfl); (try replace hc1 := Sep.Holds.cells hw (i := 1) rfl); (try replace hc2 := Sep.Holds.cells hw (i := 2) rfl); (try replace hc3 := Sep.Holds.cells hw (i := 3) rfl); (try replace hc4 := Sep.Holds.cells hw (i := 4) rfl); (try replace hc5 := Sep.Holds.cells hw (i := 5) rfl); (try replace hc6 := Sep.Holds.cells hw (i := 6) rfl)
      go_wp2_with (first | (refine wpList_on rfl (wp_bsl1 rfl rfl (by rfl) (by rfl) (by decide) hw ?_); intro b_ w_ hw_; clear hw; have hw := hw_; clear hw_; (try simp only [List.map_cons, List.map_nil, List.getD_cons_zero, List.getD_cons_succ, List.getD_nil, List.set_cons_zero, List.set_cons_succ, List.cons_append, List.nil_append, Act.eval, Array.getD_eq_getD_getElem?, List.getElem?_toArray, List.getElem?_cons_succ, List.getElem?_cons_zero, Option.getD_some, Value.cells] at hw); (try simp (disch := first | (simp; done) | (simp; omega)) only [Sep.mid_set, Sep.mid_set2, Sep.mid_set0, Sep.mid_splice, Sep.mid_splice0, List.set_cons_zero, List.set_cons_succ] at hw); (try simp only [Sep.splice, List.take_succ_cons, List.take_zero, List.drop_succ_cons, List.drop_zero, List.length_cons, List.length_nil, Nat.reduceAdd, List.cons_append, List.nil_append] at hw); (try replace hc0 := Sep.Holds.cells hw (i := 0) rfl); (try replace hc1 := Sep.Holds.cells hw (i := 1) rfl); (try replace hc2 := Sep.Holds.cells hw (i := 2) rfl); (try replace hc3 := Sep.Holds.cells hw (i := 3) rfl); (try replace hc4 := Sep.Holds.cells hw (i := 4) rfl); (try replace hc5 := Sep.Holds.cells hw (i := 5) rfl); (try replace hc6 := Sep.Holds.cells hw (i := 6) rfl)) | (at_builtin; refine wpList_on rfl (wp_appendPt (i := 1) (j := 2) rfl rfl hw rfl rfl rfl (by rfl) (by simp [Value.oneCell']) (by decide) (by rfl) (by (try unfold maxLen); omega) (by (try unfold maxLen); omega) ?_); intro b2_ cap2_ off2_ w_ hcap2_ hw_; clear hw; have hw := hw_; clear hw_; (try simp only [List.map_cons, List.map_nil, List.getD_cons_zero, List.getD_cons_succ, List.getD_nil, List.set_cons_zero, List.set_cons_succ, List.cons_append, List.nil_append, Act.eval, Array.getD_eq_getD_getElem?, List.getElem?_toArray, List.getElem?_cons_succ, List.getElem?_cons_zero, Option.getD_some, Value.cells] at hw); (try simp (disch := first | (simp; done) | (simp; omega)) only [Sep.mid_set, Sep.mid_set2, Sep.mid_set0, Sep.mid_splice, Sep.mid_splice0, List.set_cons_zero, List.set_cons_succ] at hw); (try simp only [Sep.splice, List.take_succ_cons, List.take_zero, List.drop_succ_cons, List.drop_zero, List.length_cons, List.length_nil, Nat.reduceAdd, List.cons_append, List.nil_append] at hw); (try replace hc0 := Sep.Holds.cells hw (i := 0) rfl); (try replace hc1 := Sep.Holds.cells hw (i := 1) rfl); (try replace hc2 := Sep.Holds.cells hw (i := 2) rfl); (try replace hc3 := Sep.Holds.cells hw (i := 3) rfl); (try replace hc4 := Sep.Holds.cells hw (i := 4) rfl); (try replace hc5 := Sep.Holds.cells hw (i := 5) rfl); (try replace hc6 := Sep.Holds.cells hw (i := 6) rfl)))
      go_roundw
      case rel =>
        refine ⟨3 + 1, c2 ++ [(be8i x).getD 3 0], by decide, rfl, Sep.hid (by rw [Hc2.out]; rfl), ?_⟩
        rw [encB_append, ← List.append_assoc]
        exact hw.sel [0, 1] (by decide)
      case measure => simp [intOf]
    | 4, _ =>
      obtain rfl : u5 = .int .i64 24 := hi
      (try replace hc0 := Sep.Holds.cells hw (i := 0) rfl); (try replace hc1 := Sep.Holds.cells hw (i := 1) rfl); (try replace hc2 := Sep.Holds.cells hw (i := 2) rfl); (try replace hc3 := Sep.Holds.cells hw (i := 3) rfl); (try replace hc4 := Sep.Holds.cells hw (i := 4) rfl); (try replace hc5 := Sep.Holds.cells hw (i := 5) rfl); (try replace hc6 := Sep.Holds.cells hw (i := 6) rfl)
      go_wp2_with (first | (refine wpList_on rfl (wp_bsl1 rfl rfl (by rfl) (by rfl) (by decide) hw ?_); intro b_ w_ hw_; clear hw; have hw := hw_; clear hw_; (try simp only [List.map_cons, List.map_nil, List.getD_cons_zero, List.getD_cons_succ, List.getD_nil, List.set_cons_zero, List.set_cons_succ, List.cons_append, List.nil_append, Act.eval, Array.getD_eq_getD_getElem?, List.getElem?_toArray, List.getElem?_cons_succ, List.getElem?_cons_zero, Option.getD_some, Value.cells] at hw); (try simp (disch := first | (simp; done) | (simp; omega)) only [Sep.mid_set, Sep.mid_set2, Sep.mid_set0, Sep.mid_splice, Sep.mid_splice0, List.set_cons_zero, List.set_cons_succ] at hw); (try simp only [Sep.splice, List.take_succ_cons, List.take_zero, List.drop_succ_cons, List.drop_zero, List.length_cons, List.length_nil, Nat.reduceAdd, List.cons_append, List.nil_append] at hw); (try replace hc0 := Sep.Holds.cells hw (i := 0) rfl); (try replace hc1 := Sep.Holds.cells hw (i := 1) rfl); (try replace hc2 := Sep.Holds.cells hw (i := 2) rfl); (try replace hc3 := Sep.Holds.cells hw (i := 3) rfl); (try replace hc4 := Sep.Holds.cells hw (i := 4) rfl); (try replace hc5 := Sep.Holds.cells hw (i := 5) rfl); (try replace hc6 := Sep.Holds.cells hw (i := 6) rfl)) | (at_builtin; refine wpList_on rfl (wp_appendPt (i := 1) (j := 2) rfl rfl hw rfl rfl rfl (by rfl) (by simp [Value.oneCell']) (by decide) (by rfl) (by (try unfold maxLen); omega) (by (try unfold maxLen); omega) ?_); intro b2_ cap2_ off2_ w_ hcap2_ hw_; clear hw; have hw := hw_; clear hw_; (try simp only [List.map_cons, List.map_nil, List.getD_cons_zero, List.getD_cons_succ, List.getD_nil, List.set_cons_zero, List.set_cons_succ, List.cons_append, List.nil_append, Act.eval, Array.getD_eq_getD_getElem?, List.getElem?_toArray, List.getElem?_cons_succ, List.getElem?_cons_zero, Option.getD_some, Value.cells] at hw); (try simp (disch := first | (simp; done) | (simp; omega)) only [Sep.mid_set, Sep.mid_set2, Sep.mid_set0, Sep.mid_splice, Sep.mid_splice0, List.set_cons_zero, List.set_cons_succ] at hw); (try simp only [Sep.splice, List.take_succ_cons, List.take_zero, List.drop_succ_cons, List.drop_zero, List.length_cons, List.length_nil, Nat.reduceAdd, List.cons_append, List.nil_append] at hw); (try replace hc0 := Sep.Holds.cells hw (i := 0) rfl); (try replace hc1 := Sep.Holds.cells hw (i := 1) rfl); (try replace hc2 := Sep.Holds.cells hw (i := 2) rfl); (try replace hc3 := Sep.Holds.cells hw (i := 3) rfl); (try replace hc4 := Sep.Holds.cells hw (i := 4) rfl); (try replace hc5 := Sep.Holds.cells hw (i := 5) rfl); (try replace hc6 := Sep.Holds.cells hw (i := 6) rfl)))
      go_roundw
      case rel =>
        refine ⟨4 + 1, c2 ++ [(be8i x).getD 4 0], by decide, rfl, Sep.hid (by rw [Hc2.out]; rfl), ?_⟩
        rw [encB_append, ← List.append_assoc]
        exact hw.sel [0, 1] (by decide)
      case measure => simp [intOf]
    | 5, _ =>
      obtain rfl : u5 = .int .i64 16 := hi
      (try replace hc0 := Sep.Holds.cells hw (i := 0) rfl); (try replace hc1 := Sep.Holds.cells hw (i := 1) rfl); (try replace hc2 := Sep.Holds.cells hw (i := 2) rfl); (try replace hc3 := Sep.Holds.cells hw (i := 3) rfl); (try replace hc4 := Sep.Holds.cells hw (i := 4) rfl); (try replace hc5 := Sep.Holds.cells hw (i := 5) rfl); (try replace hc6 := Sep.Holds.cells hw (i := 6) rfl)
      go_wp2_with (first | (refine wpList_on rfl (wp_bsl1 rfl rfl (by rfl) (by rfl) (by decide) hw ?_); intro b_ w_ hw_; clear hw; have hw := hw_; clear hw_; (try simp only [List.map_cons, List.map_nil, List.getD_cons_zero, List.getD_cons_succ, List.getD_nil, List.set_cons_zero, List.set_cons_succ, List.cons_append, List.nil_append, Act.eval, Array.getD_eq_getD_getElem?, List.getElem?_toArray, List.getElem?_cons_succ, List.getElem?_cons_zero, Option.getD_some, Value.cells] at hw); (try simp (disch := first | (simp; done) | (simp; omega)) only [Sep.mid_set, Sep.mid_set2, Sep.mid_set0, Sep.mid_splice, Sep.mid_splice0, List.set_cons_zero, List.set_cons_succ] at hw); (try simp only [Sep.splice, List.take_succ_cons, List.take_zero, List.drop_succ_cons, List.drop_zero, List.length_cons, List.length_nil, Nat.reduceAdd, List.cons_append, List.nil_append] at hw); (try replace hc0 := Sep.Holds.cells hw (i := 0) rfl); (try replace hc1 := Sep.Holds.cells hw (i := 1) rfl); (try replace hc2 := Sep.Holds.cells hw (i := 2) rfl); (try replace hc3 := Sep.Holds.cells hw (i := 3) rfl); (try replace hc4 := Sep.Holds.cells hw (i := 4) rfl); (try replace hc5 := Sep.Holds.cells hw (i := 5) rfl); (try replace hc6 := Sep.Holds.cells hw (i := 6) rfl)) | (at_builtin; refine wpList_on rfl (wp_appendPt (i := 1) (j := 2) rfl rfl hw rfl rfl rfl (by rfl) (by simp [Value.oneCell']) (by decide) (by rfl) (by (try unfold maxLen); omega) (by (try unfold maxLen); omega) ?_); intro b2_ cap2_ off2_ w_ hcap2_ hw_; clear hw; have hw := hw_; clear hw_; (try simp only [List.map_cons, List.map_nil, List.getD_cons_zero, List.getD_cons_succ, List.getD_nil, List.set_cons_zero, List.set_cons_succ, List.cons_append, List.nil_append, Act.eval, Array.getD_eq_getD_getElem?, List.getElem?_toArray, List.getElem?_cons_succ, List.getElem?_cons_zero, Option.getD_some, Value.cells] at hw); (try simp (disch := first | (simp; done) | (simp; omega)) only [Sep.mid_set, Sep.mid_set2, Sep.mid_set0, Sep.mid_splice, Sep.mid_splice0, List.set_cons_zero, List.set_cons_succ] at hw); (try simp only [Sep.splice, List.take_succ_cons, List.take_zero, List.drop_succ_cons, List.drop_zero, List.length_cons, List.length_nil, Nat.reduceAdd, List.cons_append, List.nil_append] at hw); (try replace hc0 := Sep.Holds.cells hw (i := 0) rfl); (try replace hc1 := Sep.Holds.cells hw (i := 1) rfl); (try replace hc2 := Sep.Holds.cells hw (i := 2) rfl); (try replace hc3 := Sep.Holds.cells hw (i := 3) rfl); (try replace hc4 := Sep.Holds.cells hw (i := 4) rfl); (try replace hc5 := Sep.Holds.cells hw (i := 5) rfl); (try replace hc6 := Sep.Holds.cells hw (i := 6) rfl)))
      go_roundw
      case rel =>
        refine ⟨5 + 1, c2 ++ [(be8i x).getD 5 0], by decide, rfl, Sep.hid (by rw [Hc2.out]; rfl), ?_⟩
        rw [encB_append, ← List.append_assoc]
        exact hw.sel [0, 1] (by decide)
      case measure => simp [intOf]
    | 6, _ =>
      obtain rfl : u5 = .int .i64 8 := hi
      (try replace hc0 := Sep.Holds.cells hw (i := 0) rfl); (try replace hc1 := Sep.Holds.cells hw (i := 1) rfl); (try replace hc2 := Sep.Holds.cells hw (i := 2) rfl); (try replace hc3 := Sep.Holds.cells hw (i := 3) rfl); (try replace hc4 := Sep.Holds.cells hw (i := 4) rfl); (try replace hc5 := Sep.Holds.cells hw (i := 5) rfl); (try replace hc6 := Sep.Holds.cells hw (i := 6) rfl)
      go_wp2_with (first | (refine wpList_on rfl (wp_bsl1 rfl rfl (by rfl) (by rfl) (by decide) hw ?_); intro b_ w_ hw_; clear hw; have hw := hw_; clear hw_; (try simp only [List.map_cons, List.map_nil, List.getD_cons_zero, List.getD_cons_succ, List.getD_nil, List.set_cons_zero, List.set_cons_succ, List.cons_append, List.nil_append, Act.eval, Array.getD_eq_getD_getElem?, List.getElem?_toArray, List.getElem?_cons_succ, List.getElem?_cons_zero, Option.getD_some, Value.cells] at hw); (try simp (disch := first | (simp; done) | (simp; omega)) only [Sep.mid_set, Sep.mid_set2, Sep.mid_set0, Sep.mid_splice, Sep.mid_splice0, List.set_cons_zero, List.set_cons_succ] at hw); (try simp only [Sep.splice, List.take_succ_cons, List.take_zero, List.drop_succ_cons, List.drop_zero, List.length_cons, List.length_nil, Nat.reduceAdd, List.cons_append, List.nil_append] at hw); (try replace hc0 := Sep.Holds.cells hw (i := 0) rfl); (try replace hc1 := Sep.Holds.cells hw (i := 1) rfl); (try replace hc2 := Sep.Holds.cells hw (i := 2) rfl); (try replace hc3 := Sep.Holds.cells hw (i := 3) rfl); (try replace hc4 := Sep.Holds.cells hw (i := 4) rfl); (try replace hc5 := Sep.Holds.cells hw (i := 5) rfl); (try replace hc6 := Sep.Holds.cells hw (i := 6) rfl)) | (at_builtin; refine wpList_on rfl (wp_appendPt (i := 1) (j := 2) rfl rfl hw rfl rfl rfl (by rfl) (by simp [Value.oneCell']) (by decide) (by rfl) (by (try unfold maxLen); omega) (by (try unfold maxLen); omega) ?_); intro b2_ cap2_ off2_ w_ hcap2_ hw_; clear hw; have hw := hw_; clear hw_; (try simp only [List.map_cons, List.map_nil, List.getD_cons_zero, List.getD_cons_succ, List.getD_nil, List.set_cons_zero, List.set_cons_succ, List.cons_append, List.nil_append, Act.eval, Array.getD_eq_getD_getElem?, List.getElem?_toArray, List.getElem?_cons_succ, List.getElem?_cons_zero, Option.getD_some, Value.cells] at hw); (try simp (disch := first | (simp; done) | (simp; omega)) only [Sep.mid_set, Sep.mid_set2, Sep.mid_set0, Sep.mid_splice, Sep.mid_splice0, List.set_cons_zero, List.set_cons_succ] at hw); (try simp only [Sep.splice, List.take_succ_cons, List.take_zero, List.drop_succ_cons, List.drop_zero, List.length_cons, List.length_nil, Nat.reduceAdd, List.cons_append, List.nil_append] at hw); (try replace hc0 := Sep.Holds.cells hw (i := 0) rfl); (try replace hc1 := Sep.Holds.cells hw (i := 1) rfl); (try replace hc2 := Sep.Holds.cells hw (i := 2) rfl); (try replace hc3 := Sep.Holds.cells hw (i := 3) rfl); (try replace hc4 := Sep.Holds.cells hw (i := 4) rfl); (try replace hc5 := Sep.Holds.cells hw (i := 5) rfl); (try replace hc6 := Sep.Holds.cells hw (i := 6) rfl)))
      go_roundw
      case rel =>
        refine ⟨6 + 1, c2 ++ [(be8i x).getD 6 0], by decide, rfl, Sep.hid (by rw [Hc2.out]; rfl), ?_⟩
        rw [encB_append, ← List.append_assoc]
        exact hw.sel [0, 1] (by decide)
      case measure => simp [intOf]
    | 7, _ =>
      obtain rfl : u5 = .int .i64 0 := hi
      (try replace hc0 := Sep.Holds.cells hw (i := 0) rfl); (try replace hc1 := Sep.Holds.cells hw (i := 1) rfl); (try replace hc2 := Sep.Holds.cells hw (i := 2) rfl); (try replace hc3 := Sep.Holds.cells hw (i := 3) rfl); (try replace hc4 := Sep.Holds.cells hw (i := 4) rfl); (try replace hc5 := Sep.Holds.cells hw (i := 5) rfl); (try replace hc6 := Sep.Holds.cells hw (i := 6) rfl)
      go_wp2_with (first | (refine wpList_on rfl (wp_bsl1 rfl rfl (by rfl) (by rfl) (by decide) hw ?_); intro b_ w_ hw_; clear hw; have hw := hw_; clear hw_; (try simp only [List.map_cons, List.map_nil, List.getD_cons_zero, List.getD_cons_succ, List.getD_nil, List.set_cons_zero, List.set_cons_succ, List.cons_append, List.nil_append, Act.eval, Array.getD_eq_getD_getElem?, List.getElem?_toArray, List.getElem?_cons_succ, List.getElem?_cons_zero, Option.getD_some, Value.cells] at hw); (try simp (disch := first | (simp; done) | (simp; omega)) only [Sep.mid_set, Sep.mid_set2, Sep.mid_set0, Sep.mid_splice, Sep.mid_splice0, List.set_cons_zero, List.set_cons_succ] at hw); (try simp only [Sep.splice, List.take_succ_cons, List.take_zero, List.drop_succ_cons, List.drop_zero, List.length_cons, List.length_nil, Nat.reduceAdd, List.cons_append, List.nil_append] at hw); (try replace hc0 := Sep.Holds.cells hw (i := 0) rfl); (try replace hc1 := Sep.Holds.cells hw (i := 1) rfl); (try replace hc2 := Sep.Holds.cells hw (i := 2) rfl); (try replace hc3 := Sep.Holds.cells hw (i := 3) rfl); (try replace hc4 := Sep.Holds.cells hw (i := 4) rfl); (try replace hc5 := Sep.Holds.cells hw (i := 5) rfl); (try replace hc6 := Sep.Holds.cells hw (i := 6) rfl)) | (at_builtin; refine wpList_on rfl (wp_appendPt (i := 1) (j := 2) rfl rfl hw rfl rfl rfl (by rfl) (by simp [Value.oneCell']) (by decide) (by rfl) (by (try unfold maxLen); omega) (by (try unfold maxLen); omega) ?_); intro b2_ cap2_ off2_ w_ hcap2_ hw_; clear hw; have hw := hw_; clear hw_; (try simp only [List.map_cons, List.map_nil, List.getD_cons_zero, List.getD_cons_succ, List.getD_nil, List.set_cons_zero, List.set_cons_succ, List.cons_append, List.nil_append, Act.eval, Array.getD_eq_getD_getElem?, List.getElem?_toArray, List.getElem?_cons_succ, List.getElem?_cons_zero, Option.getD_some, Value.cells] at hw); (try simp (disch := first | (simp; done) | (simp; omega)) only [Sep.mid_set, Sep.mid_set2, Sep.mid_set0, Sep.mid_splice, Sep.mid_splice0, List.set_cons_zero, List.set_cons_succ] at hw); (try simp only [Sep.splice, List.take_succ_cons, List.take_zero, List.drop_succ_cons, List.drop_zero, List.length_cons, List.length_nil, Nat.reduceAdd, List.cons_append, List.nil_append] at hw); (try replace hc0 := Sep.Holds.cells hw (i := 0) rfl); (try replace hc1 := Sep.Holds.cells hw (i := 1) rfl); (try replace hc2 := Sep.Holds.cells hw (i := 2) rfl); (try replace hc3 := Sep.Holds.cells hw (i := 3) rfl); (try replace hc4 := Sep.Holds.cells hw (i := 4) rfl); (try replace hc5 := Sep.Holds.cells hw (i := 5) rfl); (try replace hc6 := Sep.Holds.cells hw (i := 6) rfl)))
      go_roundw
      case rel =>
        refine ⟨7 + 1, c2 ++ [(be8i x).getD 7 0], by decide, rfl, Sep.hid (by rw [Hc2.out]; rfl), ?_⟩
        rw [encB_append, ← List.append_assoc]
        exact hw.sel [0, 1] (by decide)
      case measure => simp [intOf]
    | 8, _ =>
      obtain rfl : u5 = .int .i64 (-8) := hi
      have Hc4 : Hid (c2 = be8 x) := Sep.hid (by rw [← be8i_eq]; exact Hc2.out)
      go_wp2_with fail
      refine HP.out _ _ ⟨_, rfl, ?_⟩
      rw [← Hc4.out]
      exact hw
set_option maxHeartbeats 4000000 in
theorem oNum (a : Option Addr) (l : List Int) (n ca : Nat) (h8 : 8 ≤ n) (hn : Hid (l.length = n)) (hca : n ≤ ca) (hb : Bys l) (w : World) (ha : ReadsB w a l) :
    Calls Tryd.prog 25 #[.slice a n ca] w fun en w' => en = .returned (.int .i64 (numP (l.take 8))) ∧ w' = w := by
  have Ha := Sep.hid ha; clear ha
  have Hb := Sep.hid hb; clear hb
  obtain ⟨p, rfl⟩ : ∃ p, a = some p := by
    obtain ⟨p, hp, _⟩ := Ha.out 0 _ (List.getElem?_eq_getElem (by rw [hn.out]; omega))
    exact ⟨p, hp⟩
  have h8c : 8 ≤ ca := by omega
  have h0c : ¬ ca = 0 := by omega
  refine Sep.calls_post ?_
  intro Post_ hPost_
  have HP := Sep.hid hPost_
  clear hPost_
  go_enter Tryd.func25, Tryd.ntmps25
  go_wp2_with fail
  go_loopw [9, 3] (fun i u wr => ∃ k : Nat, k ≤ 8 ∧ i = .int .i64 k ∧ u = .int .i64 (numP (l.take k)) ∧ wr = w) (fun i _ _ => 8 - (intOf i).toNat)
  case atStart => exact ⟨0, Nat.zero_le _, rfl, by rw [show numP (l.take 0) = 0 by simp [numP, numU, wrap64]], rfl⟩
  case round =>
    obtain ⟨k, hk, rfl, rfl, rfl⟩ := hrel
    by_cases hlt : k < 8
    · obtain ⟨x, hx⟩ : ∃ x, l[k]? = some x := ⟨_, List.getElem?_eq_getElem (by rw [hn.out]; omega)⟩
      obtain ⟨p2, hp2, gx⟩ := Ha.out k x hx
      cases hp2
      have Hx := Sep.hid hx; clear hx
      have Hor : Hid (bits .or .i64 (wrap64 (numP (l.take k) * 256)) (wrap64 x) = numP (l.take (k + 1))) := Sep.hid (by
        have h1 := numU_small (Hb.out.take k) (by rw [List.length_take]; omega)
        have h2 := or_step (numU (l.take k)) x h1.1 h1.2 (Hb.out x (List.mem_of_getElem? Hx.out))
        unfold numP
        rw [h2, takeB Hx.out, numU_snoc])
      go_wp2_with fail
      go_roundw
      case rel =>
        refine ⟨k + 1, by omega, by go_num, ?_, by trivial⟩
        rw [← Hor.out]
      case measure => simp [intOf]; omega
    · have hke : k = 8 := by omega
      subst hke
      go_wp2_with fail
      exact HP.out _ _ ⟨rfl, by trivial⟩
end Go.Proofs.YteinbojpmhblkaaDoor
/-
  The walks of May of a script, the program's and the document's.
-/
namespace Go.Proofs.YteinbojpmhblkaaDoor
set_option linter.unusedSimpArgs false
set_option linter.unusedVariables false
open Go.RowKit Go.Sep
set_option maxRecDepth 20000

theorem run_index {P : Program} {w : World} {a : Act} {o : Oper} {t el : TypeId} {z v : Value} {n kb : Nat} {i : Int} {k : IntKind} {cs : Array Value} {x y : Operand} [ti : TI P el z 1 kb] [fl : Flat P el] (ho : o.op = .index t x y) (hx : a.eval x = .agg cs) (hy : a.eval y = .int k i) (ht : P.underlying t = some (.array n el)) (hi : 0 ≤ i ∧ i < (n : Int)) (hv : cs[i.toNat]? = some v) :
    (execOp a.eval o).run P w = .ok (.value v) w := by
  have hrun : (Instr.index t (.agg cs) (.int k i)).run P w = .ok v w := by
    simp only [Instr.index, asIntOf, Sem.run_bind, Sem.run_pure, Result.andThen_ok, run_underlying ht, hi, and_self, if_true, ti.sizeOf_run, Nat.mul_one, part, fl.run, Bool.false_eq_true, if_false, hv]
  unfold execOp
  simp only [ho, hx, hy, Sem.run_bind, Sem.run_pure, hrun, Result.andThen_ok]
def mz (x : Int) : Int := if x < 0 then 0 else x
def rooms4 (l : List Int) : List Value := l.map (Value.int .i64)
def roomsK (s : Scr) : Nat → List Value
  | 0 => [.int .i64 s.r0, .int .i64 s.r1, .int .i64 s.r2, .int .i64 s.r3]
  | 1 => [.int .i64 (mz s.r0), .int .i64 s.r1, .int .i64 s.r2, .int .i64 s.r3]
  | 2 => [.int .i64 (mz s.r0), .int .i64 (mz s.r1), .int .i64 s.r2, .int .i64 s.r3]
  | 3 => [.int .i64 (mz s.r0), .int .i64 (mz s.r1), .int .i64 (mz s.r2), .int .i64 s.r3]
  | _ => [.int .i64 (mz s.r0), .int .i64 (mz s.r1), .int .i64 (mz s.r2), .int .i64 (mz s.r3)]
theorem noGuardR : Tryd.prog.eqGuardType Tryd.prog.depth 24 = false := by kernel_rfl
set_option maxHeartbeats 400000 in
theorem eqR (a b c d a2 b2 c2 d2 : Int) (w : World) : (binOp .eql 24 (.agg #[.int .i64 a, .int .i64 b, .int .i64 c, .int .i64 d]) (.agg #[.int .i64 a2, .int .i64 b2, .int .i64 c2, .int .i64 d2])).run Tryd.prog w = .ok (.bool (decide (a = a2 ∧ b = b2 ∧ c = c2 ∧ d = d2))) w := by
  have h : decide (a = a2 ∧ b = b2 ∧ c = c2 ∧ d = d2) = (decide (a = a2) && (decide (b = b2) && (decide (c = c2) && decide (d = d2)))) := by
    rw [Bool.eq_iff_iff]; simp
  rw [h, run_eql_struct, run_equalIn_array w 9999 _ _ Tryd.underlying24 (ti2.info.choose_spec.1)]
  have hp : ∀ (xs : Array Value) (i : Nat) (w : World) (h : i < xs.size), (part 2 xs i).run Tryd.prog w = .ok xs[i] w := fun xs i w h => by
    simp only [part, Flat.run (t := 2) inferInstance, Sem.run_bind, Result.andThen_ok, Bool.false_eq_true, if_false, Array.getElem?_eq_getElem h, Sem.run_pure]
  have hq : ∀ (x y : Int) (w : World), (Op.equalIn 9999 2 (.int .i64 x) (.int .i64 y)).run Tryd.prog w = .ok (x == y) w := fun x y w => run_equalIn_int w 9998 2 .i64 .i64 x y Tryd.underlying2
  have hc : Tryd.prog.cellsOf 2 = 1 := by kernel_rfl
  rw [hc, show List.range 4 = [0, 1, 2, 3] from rfl]
  by_cases h1 : a = a2 <;> by_cases h2 : b = b2 <;> by_cases h3 : c = c2 <;> by_cases h4 : d = d2 <;> simp [Op.eqItems, hp, hq, h1, h2, h3, h4]
theorem rooms_same (s : Scr) : (mz s.r0 = s.r0 ∧ mz s.r1 = s.r1 ∧ mz s.r2 = s.r2 ∧ mz s.r3 = s.r3) ↔ roomsP s = true := by
  unfold roomsP
  rw [decide_eq_true_eq]
  unfold mz
  (repeat' split) <;> omega
theorem take4 {a b c d x y : Value} : ∀ (q : Nat) (v : Value), [a, b, c, d][q]? = some v → [a, b, c, d, x, y][0 + q]? = some v := by
  intro q v h
  match q, h with
  | 0, h => exact h
  | 1, h => exact h
  | 2, h => exact h
  | 3, h => exact h
  | _ + 4, h => simp at h
set_option maxHeartbeats 8000000 in
theorem oMayS (s : Scr) (hS : Small s) (hs : List Hd) (pa ia : Option Addr) (pc ic : Nat) (e w : World) (X : HProp) (hT : Tops e X) (hR : RdP e X pa hs s.ps) (hI : RdT e X ia s.is) (hw : Holds e w [X]) :
    Calls Tryd.prog 15 #[.agg (scrV s pa pc ia ic).toArray] w fun en w' => en = .returned (.bool (mayS s)) ∧ Holds e w' [X] := by
  have HL := Sep.hid (fun w hw => oLong s hS hs pa ia pc ic e w X hR hw)
  have HR := Sep.hid hR; clear hR
  have HT := Sep.hid hT; clear hT
  have HI := Sep.hid hI; clear hI
  have HS := Sep.hid hS; clear hS
  obtain ⟨np, hnp⟩ : ∃ np, s.ps.length = np := ⟨_, rfl⟩
  obtain ⟨ni, hni⟩ : ∃ ni, s.is.length = ni := ⟨_, rfl⟩
  have hA : scrV s pa pc ia ic = [.int .i64 s.r0, .int .i64 s.r1, .int .i64 s.r2, .int .i64 s.r3, .slice pa np pc, .slice ia ni ic] := by rw [← hnp, ← hni]; rfl
  rw [hA] at HL ⊢; clear hA
  have Hnp := Sep.hid hnp; have Hni := Sep.hid hni; clear hnp hni
  have hn20 : np ≤ 20 := by have := HS.out.1; rw [Hnp.out] at this; exact this
  have hn300 : ni ≤ 300 := by have := HS.out.2.1; rw [Hni.out] at this; exact this
  have Hm : Hid (mayS s = (roomsP s && (decide (1 ≤ np) && (decide (np ≤ 8) && (decide (ni ≤ 200) && (s.ps.all mayP && (s.is.all itemP && decide (longS s ≤ 4000)))))))) := Sep.hid (by unfold mayS; rw [Hnp.out, Hni.out])
  generalize longS s = LS at *
  refine Sep.calls_post ?_
  intro Post_ hPost_
  have HP := Sep.hid hPost_
  clear hPost_
  go_enter Tryd.func15, Tryd.ntmps15
  go_wp2_with (first | (refine wpList_on rfl (wp_box rfl hw ?_); intro b_ w_ hw_; clear hw; have hw := hw_; clear hw_; (try simp only [List.map_cons, List.map_nil, List.getD_cons_zero, List.getD_cons_succ, List.getD_nil, List.set_cons_zero, List.set_cons_succ, List.cons_append, List.nil_append, Act.eval, Array.getD_eq_getD_getElem?, List.getElem?_toArray, List.getElem?_cons_succ, List.getElem?_cons_zero, Option.getD_some, Value.cells] at hw); (try simp (disch := first | (simp; done) | (simp; omega)) only [Sep.mid_set, Sep.mid_set2, Sep.mid_set0, Sep.mid_splice, Sep.mid_splice0, List.set_cons_zero, List.set_cons_succ] at hw); (try simp only [Sep.splice, List.take_succ_cons, List.take_zero, List.drop_succ_cons, List.drop_zero, List.length_cons, List.length_nil, Nat.reduceAdd, List.cons_append, List.nil_append] at hw); (try replace hc0 := Sep.Holds.cells hw (i := 0) rfl); (try replace hc1 := Sep.Holds.cells hw (i := 1) rfl); (try replace hc2 := Sep.Holds.cells hw (i := 2) rfl); (try replace hc3 := Sep.Holds.cells hw (i := 3) rfl); (try replace hc4 := Sep.Holds.cells hw (i := 4) rfl); (try replace hc5 := Sep.Holds.cells hw (i := 5) rfl); (try replace hc6 := Sep.Holds.cells hw (i := 6) rfl)) | (refine wpList_on rfl (wp_alloc rfl hw ?_); intro b3_ w_ hw_; clear hw; have hw := hw_; clear hw_; (try simp only [List.map_cons, List.map_nil, List.getD_cons_zero, List.getD_cons_succ, List.getD_nil, List.set_cons_zero, List.set_cons_succ, List.cons_append, List.nil_append, Act.eval, Array.getD_eq_getD_getElem?, List.getElem?_toArray, List.getElem?_cons_succ, List.getElem?_cons_zero, Option.getD_some, Value.cells] at hw); (try simp (disch := first | (simp; done) | (simp; omega)) only [Sep.mid_set, Sep.mid_set2, Sep.mid_set0, Sep.mid_splice, Sep.mid_splice0, List.set_cons_zero, List.set_cons_succ] at hw); (try simp only [Sep.splice, List.take_succ_cons, List.take_zero, List.drop_succ_cons, List.drop_zero, List.length_cons, List.length_nil, Nat.reduceAdd, List.cons_append, List.nil_append] at hw); (try replace hc0 := Sep.Holds.cells hw (i := 0) rfl); (try replace hc1 := Sep.Holds.cells hw (i := 1) rfl); (try replace hc2 := Sep.Holds.cells hw (i := 2) rfl); (try replace hc3 := Sep.Holds.cells hw (i := 3) rfl); (try replace hc4 := Sep.Holds.cells hw (i := 4) rfl); (try replace hc5 := Sep.Holds.cells hw (i := 5) rfl); (try replace hc6 := Sep.Holds.cells hw (i := 6) rfl)) | (refine wpList_on rfl (wp_loadN (vs := [.int .i64 s.r0, .int .i64 s.r1, .int .i64 s.r2, .int .i64 s.r3]) rfl rfl hw (i := 1) rfl rfl take4 ?_); (try simp only [Act.put, List.setIfInBounds_toArray, List.set_cons_zero, List.set_cons_succ])) | (refine wpList_on rfl (wp_loadN (vs := [.int .i64 s.r0, .int .i64 s.r1, .int .i64 s.r2, .int .i64 s.r3]) rfl rfl hw (i := 2) rfl rfl (by intro j v hj; simpa using hj) ?_); (try simp only [Act.put, List.setIfInBounds_toArray, List.set_cons_zero, List.set_cons_succ])) |  (refine wpList_on rfl (wp_storeAll (vs := [.int .i64 s.r0, .int .i64 s.r1, .int .i64 s.r2, .int .i64 s.r3]) rfl rfl (by rfl) hw (i := 2) rfl rfl rfl (by simp [Value.oneCell']) ?_); intro w_ hw_; clear hw; have hw := hw_; clear hw_; (try simp only [List.map_cons, List.map_nil, List.getD_cons_zero, List.getD_cons_succ, List.getD_nil, List.set_cons_zero, List.set_cons_succ, List.cons_append, List.nil_append, Act.eval, Array.getD_eq_getD_getElem?, List.getElem?_toArray, List.getElem?_cons_succ, List.getElem?_cons_zero, Option.getD_some, Value.cells] at hw); (try simp (disch := first | (simp; done) | (simp; omega)) only [Sep.mid_set, Sep.mid_set2, Sep.mid_set0, Sep.mid_splice, Sep.mid_splice0, List.set_cons_zero, List.set_cons_succ] at hw); (try simp only [Sep.splice, List.take_succ_cons, List.take_zero, List.drop_succ_cons, List.drop_zero, List.length_cons, List.length_nil, Nat.reduceAdd, List.cons_append, List.nil_append] at hw); (try replace hc0 := Sep.Holds.cells hw (i := 0) rfl); (try replace hc1 := Sep.Holds.cells hw (i := 1) rfl); (try replace hc2 := Sep.Holds.cells hw (i := 2) rfl); (try replace hc3 := Sep.Holds.cells hw (i := 3) rfl); (try replace hc4 := Sep.Holds.cells hw (i := 4) rfl); (try replace hc5 := Sep.Holds.cells hw (i := 5) rfl); (try replace hc6 := Sep.Holds.cells hw (i := 6) rfl)))
  have Hw0 := Sep.hid hw; clear hw; (try clear hc0); (try clear hc1); (try clear hc2); (try clear hc3); (try clear hc4); (try clear hc5); (try clear hc6)
  go_loopw [9] (fun i wr => ∃ k : Nat, k ≤ 4 ∧ i = .int .i64 k ∧ Holds e wr [X, pt b_ [.int .i64 s.r0, .int .i64 s.r1, .int .i64 s.r2, .int .i64 s.r3, .slice pa np pc, .slice ia ni ic] 28, pt b3_ (roomsK s k) 24]) (fun i _ => 4 - (intOf i).toNat)
  case atStart => exact ⟨0, Nat.zero_le _, rfl, Hw0.out⟩
  case round =>
    clear Hw0
    obtain ⟨k, hk, hi, hw⟩ := hrel
    match k, hk with
    | 0, _ =>
      obtain rfl : u9 = .int .i64 0 := hi
      (try replace hc0 := Sep.Holds.cells hw (i := 0) rfl); (try replace hc1 := Sep.Holds.cells hw (i := 1) rfl); (try replace hc2 := Sep.Holds.cells hw (i := 2) rfl); (try replace hc3 := Sep.Holds.cells hw (i := 3) rfl); (try replace hc4 := Sep.Holds.cells hw (i := 4) rfl); (try replace hc5 := Sep.Holds.cells hw (i := 5) rfl); (try replace hc6 := Sep.Holds.cells hw (i := 6) rfl)
      go_wp2_with (first | (refine wpList_on rfl (wp_of_run (v := .int .i64 s.r0) (run_index rfl rfl rfl Tryd.underlying24 (by decide) rfl) ?_); (try simp only [Act.put, List.setIfInBounds_toArray, List.set_cons_zero, List.set_cons_succ])) | (refine wpList_on rfl (wp_store1 (v := _) (off := 0) rfl rfl rfl hw (i := 2) rfl (show 0 < 4 by decide) rfl ?_); intro w_ hw_; clear hw; have hw := hw_; clear hw_; (try simp only [List.map_cons, List.map_nil, List.getD_cons_zero, List.getD_cons_succ, List.getD_nil, List.set_cons_zero, List.set_cons_succ, List.cons_append, List.nil_append, Act.eval, Array.getD_eq_getD_getElem?, List.getElem?_toArray, List.getElem?_cons_succ, List.getElem?_cons_zero, Option.getD_some, Value.cells] at hw); (try simp (disch := first | (simp; done) | (simp; omega)) only [Sep.mid_set, Sep.mid_set2, Sep.mid_set0, Sep.mid_splice, Sep.mid_splice0, List.set_cons_zero, List.set_cons_succ] at hw); (try simp only [Sep.splice, List.take_succ_cons, List.take_zero, List.drop_succ_cons, List.drop_zero, List.length_cons, List.length_nil, Nat.reduceAdd, List.cons_append, List.nil_append] at hw); (try replace hc0 := Sep.Holds.cells hw (i := 0) rfl); (try replace hc1 := Sep.Holds.cells hw (i := 1) rfl); (try replace hc2 := Sep.Holds.cells hw (i := 2) rfl); (try replace hc3 := Sep.Holds.cells hw (i := 3) rfl); (try replace hc4 := Sep.Holds.cells hw (i := 4) rfl); (try replace hc5 := Sep.Holds.cells hw (i := 5) rfl); (try replace hc6 := Sep.Holds.cells hw (i := 6) rfl)))
      go_roundw
      case rel =>
        refine ⟨0 + 1, by decide, rfl, ?_⟩
        exact hw
      case measure => simp [intOf]
    | 1, _ =>
      obtain rfl : u9 = .int .i64 1 := hi
      (try replace hc0 := Sep.Holds.cells hw (i := 0) rfl); (try replace hc1 := Sep.Holds.cells hw (i := 1) rfl); (try replace hc2 := Sep.Holds.cells hw (i := 2) rfl); (try replace hc3 := Sep.Holds.cells hw (i := 3) rfl); (try replace hc4 := Sep.Holds.cells hw (i := 4) rfl); (try replace hc5 := Sep.Holds.cells hw (i := 5) rfl); (try replace hc6 := Sep.Holds.cells hw (i := 6) rfl)
      go_wp2_with (first | (refine wpList_on rfl (wp_of_run (v := .int .i64 s.r1) (run_index rfl rfl rfl Tryd.underlying24 (by decide) rfl) ?_); (try simp only [Act.put, List.setIfInBounds_toArray, List.set_cons_zero, List.set_cons_succ])) | (refine wpList_on rfl (wp_store1 (v := _) (off := 1) rfl rfl rfl hw (i := 2) rfl (show 1 < 4 by decide) rfl ?_); intro w_ hw_; clear hw; have hw := hw_; clear hw_; (try simp only [List.map_cons, List.map_nil, List.getD_cons_zero, List.getD_cons_succ, List.getD_nil, List.set_cons_zero, List.set_cons_succ, List.cons_append, List.nil_append, Act.eval, Array.getD_eq_getD_getElem?, List.getElem?_toArray, List.getElem?_cons_succ, List.getElem?_cons_zero, Option.getD_some, Value.cells] at hw); (try simp (disch := first | (simp; done) | (simp; omega)) only [Sep.mid_set, Sep.mid_set2, Sep.mid_set0, Sep.mid_splice, Sep.mid_splice0, List.set_cons_zero, List.set_cons_succ] at hw); (try simp only [Sep.splice, List.take_succ_cons, List.take_zero, List.drop_succ_cons, List.drop_zero, List.length_cons, List.length_nil, Nat.reduceAdd, List.cons_append, List.nil_append] at hw); (try replace hc0 := Sep.Holds.cells hw (i := 0) rfl); (try replace hc1 := Sep.Holds.cells hw (i := 1) rfl); (try replace hc2 := Sep.Holds.cells hw (i := 2) rfl); (try replace hc3 := Sep.Holds.cells hw (i := 3) rfl); (try replace hc4 := Sep.Holds.cells hw (i := 4) rfl); (try replace hc5 := Sep.Holds.cells hw (i := 5) rfl); (try replace hc6 := Sep.Holds.cells hw (i := 6) rfl)))
      go_roundw
      case rel =>
        refine ⟨1 + 1, by decide, rfl, ?_⟩
        exact hw
      case measure => simp [intOf]
    | 2, _ =>
      obtain rfl : u9 = .int .i64 2 := hi
      (try replace hc0 := Sep.Holds.cells hw (i := 0) rfl); (try replace hc1 := Sep.Holds.cells hw (i := 1) rfl); (try replace hc2 := Sep.Holds.cells hw (i := 2) rfl); (try replace hc3 := Sep.Holds.cells hw (i := 3) rfl); (try replace hc4 := Sep.Holds.cells hw (i := 4) rfl); (try replace hc5 := Sep.Holds.cells hw (i := 5) rfl); (try replace hc6 := Sep.Holds.cells hw (i := 6) rfl)
      go_wp2_with (first | (refine wpList_on rfl (wp_of_run (v := .int .i64 s.r2) (run_index rfl rfl rfl Tryd.underlying24 (by decide) rfl) ?_); (try simp only [Act.put, List.setIfInBounds_toArray, List.set_cons_zero, List.set_cons_succ])) | (refine wpList_on rfl (wp_store1 (v := _) (off := 2) rfl rfl rfl hw (i := 2) rfl (show 2 < 4 by decide) rfl ?_); intro w_ hw_; clear hw; have hw := hw_; clear hw_; (try simp only [List.map_cons, List.map_nil, List.getD_cons_zero, List.getD_cons_succ, List.getD_nil, List.set_cons_zero, List.set_cons_succ, List.cons_append, List.nil_append, Act.eval, Array.getD_eq_getD_getElem?, List.getElem?_toArray, List.getElem?_cons_succ, List.getElem?_cons_zero, Option.getD_some, Value.cells] at hw); (try simp (disch := first | (simp; done) | (simp; omega)) only [Sep.mid_set, Sep.mid_set2, Sep.mid_set0, Sep.mid_splice, Sep.mid_splice0, List.set_cons_zero, List.set_cons_succ] at hw); (try simp only [Sep.splice, List.take_succ_cons, List.take_zero, List.drop_succ_cons, List.drop_zero, List.length_cons, List.length_nil, Nat.reduceAdd, List.cons_append, List.nil_append] at hw); (try replace hc0 := Sep.Holds.cells hw (i := 0) rfl); (try replace hc1 := Sep.Holds.cells hw (i := 1) rfl); (try replace hc2 := Sep.Holds.cells hw (i := 2) rfl); (try replace hc3 := Sep.Holds.cells hw (i := 3) rfl); (try replace hc4 := Sep.Holds.cells hw (i := 4) rfl); (try replace hc5 := Sep.Holds.cells hw (i := 5) rfl); (try replace hc6 := Sep.Holds.cells hw (i := 6) rfl)))
      go_roundw
      case rel =>
        refine ⟨2 + 1, by decide, rfl, ?_⟩
        exact hw
      case measure => simp [intOf]
    | 3, _ =>
      obtain rfl : u9 = .int .i64 3 := hi
      (try replace hc0 := Sep.Holds.cells hw (i := 0) rfl); (try replace hc1 := Sep.Holds.cells hw (i := 1) rfl); (try replace hc2 := Sep.Holds.cells hw (i := 2) rfl); (try replace hc3 := Sep.Holds.cells hw (i := 3) rfl); (try replace hc4 := Sep.Holds.cells hw (i := 4) rfl); (try replace hc5 := Sep.Holds.cells hw (i := 5) rfl); (try replace hc6 := Sep.Holds.cells hw (i := 6) rfl)
      go_wp2_with (first | (refine wpList_on rfl (wp_of_run (v := .int .i64 s.r3) (run_index rfl rfl rfl Tryd.underlying24 (by decide) rfl) ?_); (try simp only [Act.put, List.setIfInBounds_toArray, List.set_cons_zero, List.set_cons_succ])) | (refine wpList_on rfl (wp_store1 (v := _) (off := 3) rfl rfl rfl hw (i := 2) rfl (show 3 < 4 by decide) rfl ?_); intro w_ hw_; clear hw; have hw := hw_; clear hw_; (try simp only [List.map_cons, List.map_nil, List.getD_cons_zero, List.getD_cons_succ, List.getD_nil, List.set_cons_zero, List.set_cons_succ, List.cons_append, List.nil_append, Act.eval, Array.getD_eq_getD_getElem?, List.getElem?_toArray, List.getElem?_cons_succ, List.getElem?_cons_zero, Option.getD_some, Value.cells] at hw); (try simp (disch := first | (simp; done) | (simp; omega)) only [Sep.mid_set, Sep.mid_set2, Sep.mid_set0, Sep.mid_splice, Sep.mid_splice0, List.set_cons_zero, List.set_cons_succ] at hw); (try simp only [Sep.splice, List.take_succ_cons, List.take_zero, List.drop_succ_cons, List.drop_zero, List.length_cons, List.length_nil, Nat.reduceAdd, List.cons_append, List.nil_append] at hw); (try replace hc0 := Sep.Holds.cells hw (i := 0) rfl); (try replace hc1 := Sep.Holds.cells hw (i := 1) rfl); (try replace hc2 := Sep.Holds.cells hw (i := 2) rfl); (try replace hc3 := Sep.Holds.cells hw (i := 3) rfl); (try replace hc4 := Sep.Holds.cells hw (i := 4) rfl); (try replace hc5 := Sep.Holds.cells hw (i := 5) rfl); (try replace hc6 := Sep.Holds.cells hw (i := 6) rfl)))
      go_roundw
      case rel =>
        refine ⟨3 + 1, by decide, rfl, ?_⟩
        exact hw
      case measure => simp [intOf]
    | 4, _ =>
      obtain rfl : u9 = .int .i64 4 := hi
      (try replace hc0 := Sep.Holds.cells hw (i := 0) rfl); (try replace hc1 := Sep.Holds.cells hw (i := 1) rfl); (try replace hc2 := Sep.Holds.cells hw (i := 2) rfl); (try replace hc3 := Sep.Holds.cells hw (i := 3) rfl); (try replace hc4 := Sep.Holds.cells hw (i := 4) rfl); (try replace hc5 := Sep.Holds.cells hw (i := 5) rfl); (try replace hc6 := Sep.Holds.cells hw (i := 6) rfl)
      have hcs : roomsK s 4 = [.int .i64 (mz s.r0), .int .i64 (mz s.r1), .int .i64 (mz s.r2), .int .i64 (mz s.r3)] := rfl
      rw [hcs] at hw
      (try replace hc0 := Sep.Holds.cells hw (i := 0) rfl); (try replace hc1 := Sep.Holds.cells hw (i := 1) rfl); (try replace hc2 := Sep.Holds.cells hw (i := 2) rfl); (try replace hc3 := Sep.Holds.cells hw (i := 3) rfl); (try replace hc4 := Sep.Holds.cells hw (i := 4) rfl); (try replace hc5 := Sep.Holds.cells hw (i := 5) rfl); (try replace hc6 := Sep.Holds.cells hw (i := 6) rfl)
      cases hr : roomsP s with
      | false =>
        have hne : ∀ w, (binOp .eql 24 (.agg #[.int .i64 (mz s.r0), .int .i64 (mz s.r1), .int .i64 (mz s.r2), .int .i64 (mz s.r3)]) (.agg #[.int .i64 s.r0, .int .i64 s.r1, .int .i64 s.r2, .int .i64 s.r3])).run Tryd.prog w = .ok (.bool false) w := fun w => by
          rw [eqR, decide_eq_false (by rw [rooms_same, hr]; decide)]
        have Hne := Sep.hid hne; clear hne
        have Hr := Sep.hid hr; clear hr
        go_wp2_with (first | (refine wpList_on rfl (wp_loadN (vs := [.int .i64 (mz s.r0), .int .i64 (mz s.r1), .int .i64 (mz s.r2), .int .i64 (mz s.r3)]) rfl rfl hw (i := 2) rfl rfl (by intro j v hj; simpa using hj) ?_); (try simp only [Act.put, List.setIfInBounds_toArray, List.set_cons_zero, List.set_cons_succ])) | (refine wpList_on rfl (wp_loadN (vs := [.int .i64 s.r0, .int .i64 s.r1, .int .i64 s.r2, .int .i64 s.r3]) rfl rfl hw (i := 1) rfl rfl take4 ?_); (try simp only [Act.put, List.setIfInBounds_toArray, List.set_cons_zero, List.set_cons_succ])) | (refine wpList_on rfl (wp_of_run (v := .bool (!false)) (run_ne (b := false) rfl rfl rfl noGuardR (Hne.out _)) ?_); (try simp only [Act.put, List.setIfInBounds_toArray, List.set_cons_zero, List.set_cons_succ])))
        exact HP.out _ _ ⟨by rw [Hm.out, Hr.out]; rfl, hw.sel [0] (by decide)⟩
      | true =>
        have hne : ∀ w, (binOp .eql 24 (.agg #[.int .i64 (mz s.r0), .int .i64 (mz s.r1), .int .i64 (mz s.r2), .int .i64 (mz s.r3)]) (.agg #[.int .i64 s.r0, .int .i64 s.r1, .int .i64 s.r2, .int .i64 s.r3])).run Tryd.prog w = .ok (.bool true) w := fun w => by
          rw [eqR, decide_eq_true (by rw [rooms_same, hr])]
        have Hne := Sep.hid hne; clear hne
        have Hr := Sep.hid hr; clear hr
        by_cases h1 : (np : Int) < 1
        · go_wp2_with (first | (refine wpList_on rfl (wp_loadN (vs := [.int .i64 (mz s.r0), .int .i64 (mz s.r1), .int .i64 (mz s.r2), .int .i64 (mz s.r3)]) rfl rfl hw (i := 2) rfl rfl (by intro j v hj; simpa using hj) ?_); (try simp only [Act.put, List.setIfInBounds_toArray, List.set_cons_zero, List.set_cons_succ])) | (refine wpList_on rfl (wp_loadN (vs := [.int .i64 s.r0, .int .i64 s.r1, .int .i64 s.r2, .int .i64 s.r3]) rfl rfl hw (i := 1) rfl rfl take4 ?_); (try simp only [Act.put, List.setIfInBounds_toArray, List.set_cons_zero, List.set_cons_succ])) | (refine wpList_on rfl (wp_of_run (v := .bool (!true)) (run_ne (b := true) rfl rfl rfl noGuardR (Hne.out _)) ?_); (try simp only [Act.put, List.setIfInBounds_toArray, List.set_cons_zero, List.set_cons_succ])))
          exact HP.out _ _ ⟨by rw [Hm.out, Hr.out, decide_eq_false (by omega : ¬ 1 ≤ np)]; rfl, hw.sel [0] (by decide)⟩
        by_cases h2 : (8 : Int) < np
        · go_wp2_with (first | (refine wpList_on rfl (wp_loadN (vs := [.int .i64 (mz s.r0), .int .i64 (mz s.r1), .int .i64 (mz s.r2), .int .i64 (mz s.r3)]) rfl rfl hw (i := 2) rfl rfl (by intro j v hj; simpa using hj) ?_); (try simp only [Act.put, List.setIfInBounds_toArray, List.set_cons_zero, List.set_cons_succ])) | (refine wpList_on rfl (wp_loadN (vs := [.int .i64 s.r0, .int .i64 s.r1, .int .i64 s.r2, .int .i64 s.r3]) rfl rfl hw (i := 1) rfl rfl take4 ?_); (try simp only [Act.put, List.setIfInBounds_toArray, List.set_cons_zero, List.set_cons_succ])) | (refine wpList_on rfl (wp_of_run (v := .bool (!true)) (run_ne (b := true) rfl rfl rfl noGuardR (Hne.out _)) ?_); (try simp only [Act.put, List.setIfInBounds_toArray, List.set_cons_zero, List.set_cons_succ])))
          exact HP.out _ _ ⟨by rw [Hm.out, Hr.out, decide_eq_false (by omega : ¬ np ≤ 8)]; simp, hw.sel [0] (by decide)⟩
        by_cases h3 : (200 : Int) < ni
        · go_wp2_with (first | (refine wpList_on rfl (wp_loadN (vs := [.int .i64 (mz s.r0), .int .i64 (mz s.r1), .int .i64 (mz s.r2), .int .i64 (mz s.r3)]) rfl rfl hw (i := 2) rfl rfl (by intro j v hj; simpa using hj) ?_); (try simp only [Act.put, List.setIfInBounds_toArray, List.set_cons_zero, List.set_cons_succ])) | (refine wpList_on rfl (wp_loadN (vs := [.int .i64 s.r0, .int .i64 s.r1, .int .i64 s.r2, .int .i64 s.r3]) rfl rfl hw (i := 1) rfl rfl take4 ?_); (try simp only [Act.put, List.setIfInBounds_toArray, List.set_cons_zero, List.set_cons_succ])) | (refine wpList_on rfl (wp_of_run (v := .bool (!true)) (run_ne (b := true) rfl rfl rfl noGuardR (Hne.out _)) ?_); (try simp only [Act.put, List.setIfInBounds_toArray, List.set_cons_zero, List.set_cons_succ])))
          exact HP.out _ _ ⟨by rw [Hm.out, Hr.out, decide_eq_false (by omega : ¬ ni ≤ 200)]; simp, hw.sel [0] (by decide)⟩
        have Hm2 : Hid (mayS s = (s.ps.all mayP && (s.is.all itemP && decide (LS ≤ 4000)))) := Sep.hid (by
          rw [Hm.out, Hr.out, decide_eq_true (by omega : 1 ≤ np), decide_eq_true (by omega : np ≤ 8), decide_eq_true (by omega : ni ≤ 200)]; rfl)
        clear Hm
        go_wp2_with (first | (refine wpList_on rfl (wp_loadN (vs := [.int .i64 (mz s.r0), .int .i64 (mz s.r1), .int .i64 (mz s.r2), .int .i64 (mz s.r3)]) rfl rfl hw (i := 2) rfl rfl (by intro j v hj; simpa using hj) ?_); (try simp only [Act.put, List.setIfInBounds_toArray, List.set_cons_zero, List.set_cons_succ])) | (refine wpList_on rfl (wp_loadN (vs := [.int .i64 s.r0, .int .i64 s.r1, .int .i64 s.r2, .int .i64 s.r3]) rfl rfl hw (i := 1) rfl rfl take4 ?_); (try simp only [Act.put, List.setIfInBounds_toArray, List.set_cons_zero, List.set_cons_succ])) | (refine wpList_on rfl (wp_of_run (v := .bool (!true)) (run_ne (b := true) rfl rfl rfl noGuardR (Hne.out _)) ?_); (try simp only [Act.put, List.setIfInBounds_toArray, List.set_cons_zero, List.set_cons_succ])))
        have hw := hw.sel [0, 1] (by decide)
        (try simp only [List.map_cons, List.map_nil, List.getD_cons_zero, List.getD_cons_succ, List.getD_nil, List.set_cons_zero, List.set_cons_succ, List.cons_append, List.nil_append, Act.eval, Array.getD_eq_getD_getElem?, List.getElem?_toArray, List.getElem?_cons_succ, List.getElem?_cons_zero, Option.getD_some, Value.cells] at hw); (try simp (disch := first | (simp; done) | (simp; omega)) only [Sep.mid_set, Sep.mid_set2, Sep.mid_set0, Sep.mid_splice, Sep.mid_splice0, List.set_cons_zero, List.set_cons_succ] at hw); (try simp only [Sep.splice, List.take_succ_cons, List.take_zero, List.drop_succ_cons, List.drop_zero, List.length_cons, List.length_nil, Nat.reduceAdd, List.cons_append, List.nil_append] at hw)
        refine (oContainsP s.ps hs np pc pa Hnp (by omega) e _ _ HT.out.sep (HR.out.at 0 rfl) hw.focus0).mono ?_
        rintro _ w_ ⟨rfl, hw_⟩
        clear hw; (try clear hc0); (try clear hc1); (try clear hc2); (try clear hc3); (try clear hc4); (try clear hc5); (try clear hc6); have hw := Holds.unfocus0 hw_; clear hw_
        (try simp only [List.map_cons, List.map_nil, List.getD_cons_zero, List.getD_cons_succ, List.getD_nil, List.set_cons_zero, List.set_cons_succ, List.cons_append, List.nil_append, Act.eval, Array.getD_eq_getD_getElem?, List.getElem?_toArray, List.getElem?_cons_succ, List.getElem?_cons_zero, Option.getD_some, Value.cells] at hw); (try simp (disch := first | (simp; done) | (simp; omega)) only [Sep.mid_set, Sep.mid_set2, Sep.mid_set0, Sep.mid_splice, Sep.mid_splice0, List.set_cons_zero, List.set_cons_succ] at hw); (try simp only [Sep.splice, List.take_succ_cons, List.take_zero, List.drop_succ_cons, List.drop_zero, List.length_cons, List.length_nil, Nat.reduceAdd, List.cons_append, List.nil_append] at hw); (try replace hc0 := Sep.Holds.cells hw (i := 0) rfl); (try replace hc1 := Sep.Holds.cells hw (i := 1) rfl); (try replace hc2 := Sep.Holds.cells hw (i := 2) rfl); (try replace hc3 := Sep.Holds.cells hw (i := 3) rfl); (try replace hc4 := Sep.Holds.cells hw (i := 4) rfl); (try replace hc5 := Sep.Holds.cells hw (i := 5) rfl); (try replace hc6 := Sep.Holds.cells hw (i := 6) rfl)
        cases hpa : s.ps.all mayP with
        | false =>
          have Hpa := Sep.hid hpa; clear hpa
          go_wp2_with fail
          exact HP.out _ _ ⟨by rw [Hm2.out, Hpa.out]; rfl, hw.sel [0] (by decide)⟩
        | true =>
          have Hpa := Sep.hid hpa; clear hpa
          go_wp2_with fail
          refine (oContainsT s.is ni ic ia Hni (by omega) e _ _ (HI.out.at 0 rfl) hw.focus0).mono ?_
          rintro _ w_ ⟨rfl, hw_⟩
          clear hw; (try clear hc0); (try clear hc1); (try clear hc2); (try clear hc3); (try clear hc4); (try clear hc5); (try clear hc6); have hw := Holds.unfocus0 hw_; clear hw_
          (try simp only [List.map_cons, List.map_nil, List.getD_cons_zero, List.getD_cons_succ, List.getD_nil, List.set_cons_zero, List.set_cons_succ, List.cons_append, List.nil_append, Act.eval, Array.getD_eq_getD_getElem?, List.getElem?_toArray, List.getElem?_cons_succ, List.getElem?_cons_zero, Option.getD_some, Value.cells] at hw); (try simp (disch := first | (simp; done) | (simp; omega)) only [Sep.mid_set, Sep.mid_set2, Sep.mid_set0, Sep.mid_splice, Sep.mid_splice0, List.set_cons_zero, List.set_cons_succ] at hw); (try simp only [Sep.splice, List.take_succ_cons, List.take_zero, List.drop_succ_cons, List.drop_zero, List.length_cons, List.length_nil, Nat.reduceAdd, List.cons_append, List.nil_append] at hw); (try replace hc0 := Sep.Holds.cells hw (i := 0) rfl); (try replace hc1 := Sep.Holds.cells hw (i := 1) rfl); (try replace hc2 := Sep.Holds.cells hw (i := 2) rfl); (try replace hc3 := Sep.Holds.cells hw (i := 3) rfl); (try replace hc4 := Sep.Holds.cells hw (i := 4) rfl); (try replace hc5 := Sep.Holds.cells hw (i := 5) rfl); (try replace hc6 := Sep.Holds.cells hw (i := 6) rfl)
          cases hia : s.is.all itemP with
          | false =>
            have Hia := Sep.hid hia; clear hia
            go_wp2_with fail
            exact HP.out _ _ ⟨by rw [Hm2.out, Hpa.out, Hia.out]; rfl, hw.sel [0] (by decide)⟩
          | true =>
            have Hia := Sep.hid hia; clear hia
            go_wp2_with fail
            have hw := hw.sel [0] (by decide)
            refine (HL.out _ hw).mono ?_
            rintro _ w_ ⟨rfl, hw_⟩
            clear hw; (try clear hc0); (try clear hc1); (try clear hc2); (try clear hc3); (try clear hc4); (try clear hc5); (try clear hc6); have hw := hw_; clear hw_
            go_wp2_with fail
            exact HP.out _ _ ⟨by rw [Hm2.out, Hpa.out, Hia.out, show decide (LS ≤ 4000) = decide ((LS : Int) ≤ 4000) by (rw [decide_eq_decide]; omega)]; rfl, hw⟩
end Go.Proofs.YteinbojpmhblkaaDoor
/-
  The walk of May of a script, the document's.
-/
namespace Go.Proofs.YteinbojpmhblkaaDoor
set_option linter.unusedSimpArgs false
set_option linter.unusedVariables false
open Go.RowKit Go.Sep
set_option maxRecDepth 20000

def rOk (s : Scr) (k : Nat) : Prop := (0 < k → 0 ≤ s.r0) ∧ (1 < k → 0 ≤ s.r1) ∧ (2 < k → 0 ≤ s.r2) ∧ (3 < k → 0 ≤ s.r3)
set_option maxHeartbeats 8000000 in
theorem rMayS (s : Scr) (hS : Small s) (hs : List Hd) (pa ia : Option Addr) (pc ic : Nat) (e w : World) (X : HProp) (hR : RdP e X pa hs s.ps) (hI : RdT e X ia s.is) (hw : Holds e w [X]) :
    Calls Tryd.prog 16 #[.agg (scrV s pa pc ia ic).toArray] w fun en w' => en = .returned (.bool (mayS s)) ∧ Holds e w' [X] := by
  have HR := Sep.hid hR; clear hR
  have HI := Sep.hid hI; clear hI
  have HS := Sep.hid hS; clear hS
  obtain ⟨np, hnp⟩ : ∃ np, s.ps.length = np := ⟨_, rfl⟩
  obtain ⟨ni, hni⟩ : ∃ ni, s.is.length = ni := ⟨_, rfl⟩
  have hA : scrV s pa pc ia ic = [.int .i64 s.r0, .int .i64 s.r1, .int .i64 s.r2, .int .i64 s.r3, .slice pa np pc, .slice ia ni ic] := by rw [← hnp, ← hni]; rfl
  rw [hA]; clear hA
  have Hnp := Sep.hid hnp; have Hni := Sep.hid hni; clear hnp hni
  have hn20 : np ≤ 20 := by have := HS.out.1; rw [Hnp.out] at this; exact this
  have hn300 : ni ≤ 300 := by have := HS.out.2.1; rw [Hni.out] at this; exact this
  have Hm : Hid (mayS s = (roomsP s && (decide (1 ≤ np) && (decide (np ≤ 8) && (decide (ni ≤ 200) && (s.ps.all mayP && (s.is.all itemP && decide (longS s ≤ 4000)))))))) := Sep.hid (by unfold mayS; rw [Hnp.out, Hni.out])
  have Hls : Hid (longS s = 33 + 10 * ni + longPs s.ps) := Sep.hid (by unfold longS; rw [Hni.out])
  generalize longS s = LS at *
  refine Sep.calls_post ?_
  intro Post_ hPost_
  have HP := Sep.hid hPost_
  clear hPost_
  go_enter Tryd.func16, Tryd.ntmps16
  go_wp2_with (first | (refine wpList_on rfl (wp_box rfl hw ?_); intro b_ w_ hw_; clear hw; have hw := hw_; clear hw_; (try simp only [List.map_cons, List.map_nil, List.getD_cons_zero, List.getD_cons_succ, List.getD_nil, List.set_cons_zero, List.set_cons_succ, List.cons_append, List.nil_append, Act.eval, Array.getD_eq_getD_getElem?, List.getElem?_toArray, List.getElem?_cons_succ, List.getElem?_cons_zero, Option.getD_some, Value.cells] at hw); (try simp (disch := first | (simp; done) | (simp; omega)) only [Sep.mid_set, Sep.mid_set2, Sep.mid_set0, Sep.mid_splice, Sep.mid_splice0, List.set_cons_zero, List.set_cons_succ] at hw); (try simp only [Sep.splice, List.take_succ_cons, List.take_zero, List.drop_succ_cons, List.drop_zero, List.length_cons, List.length_nil, Nat.reduceAdd, List.cons_append, List.nil_append] at hw); (try replace hc0 := Sep.Holds.cells hw (i := 0) rfl); (try replace hc1 := Sep.Holds.cells hw (i := 1) rfl); (try replace hc2 := Sep.Holds.cells hw (i := 2) rfl); (try replace hc3 := Sep.Holds.cells hw (i := 3) rfl); (try replace hc4 := Sep.Holds.cells hw (i := 4) rfl); (try replace hc5 := Sep.Holds.cells hw (i := 5) rfl); (try replace hc6 := Sep.Holds.cells hw (i := 6) rfl)))
  have Hw0 := Sep.hid hw; clear hw; (try clear hc0); (try clear hc1); (try clear hc2); (try clear hc3); (try clear hc4); (try clear hc5); (try clear hc6)
  go_loopw [4] (fun i wr => ∃ k : Nat, k ≤ 4 ∧ i = .int .i64 k ∧ Hid (rOk s k) ∧ Holds e wr [X, pt b_ [.int .i64 s.r0, .int .i64 s.r1, .int .i64 s.r2, .int .i64 s.r3, .slice pa np pc, .slice ia ni ic] 39]) (fun i _ => 4 - (intOf i).toNat)
  case atStart => exact ⟨0, Nat.zero_le _, rfl, Sep.hid (by unfold rOk; omega), Hw0.out⟩
  case round =>
    clear Hw0
    obtain ⟨k, hk, hi, Ho, hw⟩ := hrel
    match k, hk with
    | 0, _ =>
      obtain rfl : u4 = .int .i64 0 := hi
      (try replace hc0 := Sep.Holds.cells hw (i := 0) rfl); (try replace hc1 := Sep.Holds.cells hw (i := 1) rfl); (try replace hc2 := Sep.Holds.cells hw (i := 2) rfl); (try replace hc3 := Sep.Holds.cells hw (i := 3) rfl); (try replace hc4 := Sep.Holds.cells hw (i := 4) rfl); (try replace hc5 := Sep.Holds.cells hw (i := 5) rfl); (try replace hc6 := Sep.Holds.cells hw (i := 6) rfl)
      by_cases hn : s.r0 < 0
      · have Hr : Hid (roomsP s = false) := Sep.hid (by unfold roomsP; rw [decide_eq_false_iff_not]; omega)
        go_wp2_with fail
        exact HP.out _ _ ⟨by rw [Hm.out, Hr.out]; rfl, hw.sel [0] (by decide)⟩
      · have Ho2 : Hid (rOk s (0 + 1)) := Sep.hid (by have := Ho.out; unfold rOk at *; omega)
        go_wp2_with fail
        go_roundw
        case rel => exact ⟨0 + 1, by decide, rfl, Ho2, hw⟩
        case measure => simp [intOf]
    | 1, _ =>
      obtain rfl : u4 = .int .i64 1 := hi
      (try replace hc0 := Sep.Holds.cells hw (i := 0) rfl); (try replace hc1 := Sep.Holds.cells hw (i := 1) rfl); (try replace hc2 := Sep.Holds.cells hw (i := 2) rfl); (try replace hc3 := Sep.Holds.cells hw (i := 3) rfl); (try replace hc4 := Sep.Holds.cells hw (i := 4) rfl); (try replace hc5 := Sep.Holds.cells hw (i := 5) rfl); (try replace hc6 := Sep.Holds.cells hw (i := 6) rfl)
      by_cases hn : s.r1 < 0
      · have Hr : Hid (roomsP s = false) := Sep.hid (by unfold roomsP; rw [decide_eq_false_iff_not]; omega)
        go_wp2_with fail
        exact HP.out _ _ ⟨by rw [Hm.out, Hr.out]; rfl, hw.sel [0] (by decide)⟩
      · have Ho2 : Hid (rOk s (1 + 1)) := Sep.hid (by have := Ho.out; unfold rOk at *; omega)
        go_wp2_with fail
        go_roundw
        case rel => exact ⟨1 + 1, by decide, rfl, Ho2, hw⟩
        case measure => simp [intOf]
    | 2, _ =>
      obtain rfl : u4 = .int .i64 2 := hi
      (try replace hc0 := Sep.Holds.cells hw (i := 0) rfl); (try replace hc1 := Sep.Holds.cells hw (i := 1) rfl); (try replace hc2 := Sep.Holds.cells hw (i := 2) rfl); (try replace hc3 := Sep.Holds.cells hw (i := 3) rfl); (try replace hc4 := Sep.Holds.cells hw (i := 4) rfl); (try replace hc5 := Sep.Holds.cells hw (i := 5) rfl); (try replace hc6 := Sep.Holds.cells hw (i := 6) rfl)
      by_cases hn : s.r2 < 0
      · have Hr : Hid (roomsP s = false) := Sep.hid (by unfold roomsP; rw [decide_eq_false_iff_not]; omega)
        go_wp2_with fail
        exact HP.out _ _ ⟨by rw [Hm.out, Hr.out]; rfl, hw.sel [0] (by decide)⟩
      · have Ho2 : Hid (rOk s (2 + 1)) := Sep.hid (by have := Ho.out; unfold rOk at *; omega)
        go_wp2_with fail
        go_roundw
        case rel => exact ⟨2 + 1, by decide, rfl, Ho2, hw⟩
        case measure => simp [intOf]
    | 3, _ =>
      obtain rfl : u4 = .int .i64 3 := hi
      (try replace hc0 := Sep.Holds.cells hw (i := 0) rfl); (try replace hc1 := Sep.Holds.cells hw (i := 1) rfl); (try replace hc2 := Sep.Holds.cells hw (i := 2) rfl); (try replace hc3 := Sep.Holds.cells hw (i := 3) rfl); (try replace hc4 := Sep.Holds.cells hw (i := 4) rfl); (try replace hc5 := Sep.Holds.cells hw (i := 5) rfl); (try replace hc6 := Sep.Holds.cells hw (i := 6) rfl)
      by_cases hn : s.r3 < 0
      · have Hr : Hid (roomsP s = false) := Sep.hid (by unfold roomsP; rw [decide_eq_false_iff_not]; omega)
        go_wp2_with fail
        exact HP.out _ _ ⟨by rw [Hm.out, Hr.out]; rfl, hw.sel [0] (by decide)⟩
      · have Ho2 : Hid (rOk s (3 + 1)) := Sep.hid (by have := Ho.out; unfold rOk at *; omega)
        go_wp2_with fail
        go_roundw
        case rel => exact ⟨3 + 1, by decide, rfl, Ho2, hw⟩
        case measure => simp [intOf]
    | 4, _ =>
      obtain rfl : u4 = .int .i64 4 := hi
      (try replace hc0 := Sep.Holds.cells hw (i := 0) rfl); (try replace hc1 := Sep.Holds.cells hw (i := 1) rfl); (try replace hc2 := Sep.Holds.cells hw (i := 2) rfl); (try replace hc3 := Sep.Holds.cells hw (i := 3) rfl); (try replace hc4 := Sep.Holds.cells hw (i := 4) rfl); (try replace hc5 := Sep.Holds.cells hw (i := 5) rfl); (try replace hc6 := Sep.Holds.cells hw (i := 6) rfl)
      have Hr : Hid (roomsP s = true) := Sep.hid (by have := Ho.out; unfold roomsP rOk at *; rw [decide_eq_true_eq]; omega)
      have Hm1 : Hid (mayS s = (decide (1 ≤ np) && (decide (np ≤ 8) && (decide (ni ≤ 200) && (s.ps.all mayP && (s.is.all itemP && decide (LS ≤ 4000))))))) := Sep.hid (by rw [Hm.out, Hr.out]; rfl)
      clear Ho Hm Hr
      go_wp2_with fail
      have Hw0 := Sep.hid hw; clear hw; (try clear hc0); (try clear hc1); (try clear hc2); (try clear hc3); (try clear hc4); (try clear hc5); (try clear hc6)
      go_loopw [5, 3] (fun i o wr => ∃ (k m : Nat), k ≤ np ∧ i = .int .i64 k ∧ o = .int .i64 m ∧ Hid (m = 33 + 10 * ni + longPs (s.ps.take k)) ∧ Hid ((s.ps.take k).all mayP = true) ∧ Holds e wr [X, pt b_ [.int .i64 s.r0, .int .i64 s.r1, .int .i64 s.r2, .int .i64 s.r3, .slice pa np pc, .slice ia ni ic] 39]) (fun i _ _ => np - (intOf i).toNat)
      case atStart => exact ⟨0, 33 + 10 * ni, Nat.zero_le _, rfl, congrArg (Value.int .i64) (by omega), Sep.hid (by simp [longPs]), Sep.hid (by simp), Hw0.out⟩
      case round =>
        clear Hw0
        obtain ⟨k, m, hk, rfl, rfl, Hmm, Hal, hw⟩ := hrel
        have hm2 : m ≤ 20000 := by
          have h1 := Hmm.out
          have h2 := longPs_le (s.ps.take k) (fun p hp => HS.out.2.2 p (List.mem_of_mem_take hp))
          have h3 : (s.ps.take k).length ≤ 20 := by rw [List.length_take]; omega
          omega
        by_cases hlt : k < np
        · obtain ⟨x, hx⟩ : ∃ x, s.ps[k]? = some x := ⟨_, List.getElem?_eq_getElem (by rw [Hnp.out]; exact hlt)⟩
          obtain ⟨h, _, hE, hA⟩ := HR.out k x hx
          have HE := Sep.hid hE; clear hE
          obtain ⟨q, rfl, hc⟩ := HE.out _ _ 0 hw rfl
          have HA := Sep.hid hA; clear hA
          have hx60 := HS.out.2.2 x (List.mem_of_getElem? hx)
          have hsn := longPs_snoc hx
          have Hx := Sep.hid hx
          have Hsn := Sep.hid hsn; clear hsn hx
          obtain ⟨ha, hca⟩ := h
          unfold hdV at hc
          obtain ⟨n, hn⟩ : ∃ n, x.length = n := ⟨_, rfl⟩
          rw [hn] at hc hx60
          have Hn := Sep.hid hn; clear hn
          (try replace hc0 := Sep.Holds.cells hw (i := 0) rfl); (try replace hc1 := Sep.Holds.cells hw (i := 1) rfl); (try replace hc2 := Sep.Holds.cells hw (i := 2) rfl); (try replace hc3 := Sep.Holds.cells hw (i := 3) rfl); (try replace hc4 := Sep.Holds.cells hw (i := 4) rfl); (try replace hc5 := Sep.Holds.cells hw (i := 5) rfl); (try replace hc6 := Sep.Holds.cells hw (i := 6) rfl)
          go_wp2_with fail
          refine (rMay x n hca ha Hn (by omega) e _ _ (HA.out.at 0 rfl) hw.focus0).mono ?_
          rintro _ w_ ⟨rfl, hw_⟩
          clear hw hc; (try clear hc0); (try clear hc1); (try clear hc2); (try clear hc3); (try clear hc4); (try clear hc5); (try clear hc6); have hw := Holds.unfocus0 hw_; clear hw_
          (try simp only [List.map_cons, List.map_nil, List.getD_cons_zero, List.getD_cons_succ, List.getD_nil, List.set_cons_zero, List.set_cons_succ, List.cons_append, List.nil_append, Act.eval, Array.getD_eq_getD_getElem?, List.getElem?_toArray, List.getElem?_cons_succ, List.getElem?_cons_zero, Option.getD_some, Value.cells] at hw); (try simp (disch := first | (simp; done) | (simp; omega)) only [Sep.mid_set, Sep.mid_set2, Sep.mid_set0, Sep.mid_splice, Sep.mid_splice0, List.set_cons_zero, List.set_cons_succ] at hw); (try simp only [Sep.splice, List.take_succ_cons, List.take_zero, List.drop_succ_cons, List.drop_zero, List.length_cons, List.length_nil, Nat.reduceAdd, List.cons_append, List.nil_append] at hw); (try replace hc0 := Sep.Holds.cells hw (i := 0) rfl); (try replace hc1 := Sep.Holds.cells hw (i := 1) rfl); (try replace hc2 := Sep.Holds.cells hw (i := 2) rfl); (try replace hc3 := Sep.Holds.cells hw (i := 3) rfl); (try replace hc4 := Sep.Holds.cells hw (i := 4) rfl); (try replace hc5 := Sep.Holds.cells hw (i := 5) rfl); (try replace hc6 := Sep.Holds.cells hw (i := 6) rfl)
          have hc : w_.cell? (q.add k) = some (.slice ha n hca) := by
            obtain ⟨q2, hq2, hc⟩ := HE.out _ _ 0 hw rfl
            cases hq2
            rw [hc, ← Hn.out]; rfl
          cases hr : mayP x with
          | true =>
            have Hr := Sep.hid hr; clear hr
            go_wp2_with fail
            go_roundw
            case rel => exact ⟨k + 1, m + (1 + 11 * n), by omega, by go_num, congrArg (Value.int .i64) (by omega), Sep.hid (by rw [Hsn.out, Hn.out, Hmm.out]; omega), Sep.hid (all_snoc Hal.out Hx.out Hr.out), hw⟩
            case measure => simp [intOf]; omega
          | false =>
            have Hr : Hid (s.ps.all mayP = false) := Sep.hid (all_bad Hx.out hr)
            clear hr
            go_wp2_with fail
            exact HP.out _ _ ⟨by rw [Hm1.out, Hr.out]; simp, hw.sel [0] (by decide)⟩
        · have hke : np = k := by omega
          subst hke
          have hl : m = LS := by rw [Hmm.out, List.take_of_length_le (by rw [Hnp.out]; exact Nat.le_refl _), Hls.out]
          have Hpa : Hid (s.ps.all mayP = true) := Sep.hid (all_end Hal.out (by rw [Hnp.out]; exact Nat.le_refl _))
          have Hm2 : Hid (mayS s = (decide (1 ≤ np) && (decide (np ≤ 8) && (decide (ni ≤ 200) && (s.is.all itemP && decide (LS ≤ 4000)))))) := Sep.hid (by rw [Hm1.out, Hpa.out]; simp)
          subst hl
          clear Hmm Hal Hm1 Hls
          (try replace hc0 := Sep.Holds.cells hw (i := 0) rfl); (try replace hc1 := Sep.Holds.cells hw (i := 1) rfl); (try replace hc2 := Sep.Holds.cells hw (i := 2) rfl); (try replace hc3 := Sep.Holds.cells hw (i := 3) rfl); (try replace hc4 := Sep.Holds.cells hw (i := 4) rfl); (try replace hc5 := Sep.Holds.cells hw (i := 5) rfl); (try replace hc6 := Sep.Holds.cells hw (i := 6) rfl)
          go_wp2_with fail
          have Hw0 := Sep.hid hw; clear hw; (try clear hc0); (try clear hc1); (try clear hc2); (try clear hc3); (try clear hc4); (try clear hc5); (try clear hc6)
          go_loopw [6] (fun i wr => ∃ (k : Nat), k ≤ ni ∧ i = .int .i64 k ∧ Hid ((s.is.take k).all itemP = true) ∧ Holds e wr [X, pt b_ [.int .i64 s.r0, .int .i64 s.r1, .int .i64 s.r2, .int .i64 s.r3, .slice pa np pc, .slice ia ni ic] 39]) (fun i _ => ni - (intOf i).toNat)
          case atStart => exact ⟨0, Nat.zero_le _, rfl, Sep.hid (by simp), Hw0.out⟩
          case round =>
            clear Hw0
            obtain ⟨k, hk, rfl, Hno, hw⟩ := hrel
            by_cases hlt : k < ni
            · obtain ⟨x, hx⟩ : ∃ x, s.is[k]? = some x := ⟨_, List.getElem?_eq_getElem (by rw [Hni.out]; exact hlt)⟩
              obtain ⟨p, rfl, hc⟩ := HI.out _ _ 0 hw rfl k x hx
              have Hc := Sep.hid hc; clear hc
              have Hx := Sep.hid hx; clear hx
              (try replace hc0 := Sep.Holds.cells hw (i := 0) rfl); (try replace hc1 := Sep.Holds.cells hw (i := 1) rfl); (try replace hc2 := Sep.Holds.cells hw (i := 2) rfl); (try replace hc3 := Sep.Holds.cells hw (i := 3) rfl); (try replace hc4 := Sep.Holds.cells hw (i := 4) rfl); (try replace hc5 := Sep.Holds.cells hw (i := 5) rfl); (try replace hc6 := Sep.Holds.cells hw (i := 6) rfl)
              go_wp2_with (first | (refine wpList_on rfl (wp_of_run (run_loadAd (vs := encT x) rfl rfl rfl Hc.out) ?_); (try simp only [Act.put, List.setIfInBounds_toArray, List.set_cons_zero, List.set_cons_succ])))
              refine (rItem x e _ _ hw.focus0).mono ?_
              rintro _ w_ ⟨rfl, hw_⟩
              clear hw; (try clear hc0); (try clear hc1); (try clear hc2); (try clear hc3); (try clear hc4); (try clear hc5); (try clear hc6); have hw := Holds.unfocus0 hw_; clear hw_
              (try simp only [List.map_cons, List.map_nil, List.getD_cons_zero, List.getD_cons_succ, List.getD_nil, List.set_cons_zero, List.set_cons_succ, List.cons_append, List.nil_append, Act.eval, Array.getD_eq_getD_getElem?, List.getElem?_toArray, List.getElem?_cons_succ, List.getElem?_cons_zero, Option.getD_some, Value.cells] at hw); (try simp (disch := first | (simp; done) | (simp; omega)) only [Sep.mid_set, Sep.mid_set2, Sep.mid_set0, Sep.mid_splice, Sep.mid_splice0, List.set_cons_zero, List.set_cons_succ] at hw); (try simp only [Sep.splice, List.take_succ_cons, List.take_zero, List.drop_succ_cons, List.drop_zero, List.length_cons, List.length_nil, Nat.reduceAdd, List.cons_append, List.nil_append] at hw); (try replace hc0 := Sep.Holds.cells hw (i := 0) rfl); (try replace hc1 := Sep.Holds.cells hw (i := 1) rfl); (try replace hc2 := Sep.Holds.cells hw (i := 2) rfl); (try replace hc3 := Sep.Holds.cells hw (i := 3) rfl); (try replace hc4 := Sep.Holds.cells hw (i := 4) rfl); (try replace hc5 := Sep.Holds.cells hw (i := 5) rfl); (try replace hc6 := Sep.Holds.cells hw (i := 6) rfl)
              cases hr : itemP x with
              | true =>
                have Hr := Sep.hid hr; clear hr
                go_wp2_with fail
                go_roundw
                case rel => exact ⟨k + 1, by omega, by go_num, Sep.hid (all_snoc Hno.out Hx.out Hr.out), hw⟩
                case measure => simp [intOf]; omega
              | false =>
                have Hr : Hid (s.is.all itemP = false) := Sep.hid (all_bad Hx.out hr)
                clear hr
                go_wp2_with fail
                exact HP.out _ _ ⟨by rw [Hm2.out, Hr.out]; simp, hw.sel [0] (by decide)⟩
            · have hke : ni = k := by omega
              subst hke
              have Hia : Hid (s.is.all itemP = true) := Sep.hid (all_end Hno.out (by rw [Hni.out]; exact Nat.le_refl _))
              have Hm3 : Hid (mayS s = (decide (1 ≤ np) && (decide (np ≤ 8) && (decide (ni ≤ 200) && decide (m ≤ 4000))))) := Sep.hid (by rw [Hm2.out, Hia.out]; simp)
              clear Hno Hm2
              (try replace hc0 := Sep.Holds.cells hw (i := 0) rfl); (try replace hc1 := Sep.Holds.cells hw (i := 1) rfl); (try replace hc2 := Sep.Holds.cells hw (i := 2) rfl); (try replace hc3 := Sep.Holds.cells hw (i := 3) rfl); (try replace hc4 := Sep.Holds.cells hw (i := 4) rfl); (try replace hc5 := Sep.Holds.cells hw (i := 5) rfl); (try replace hc6 := Sep.Holds.cells hw (i := 6) rfl)
              by_cases h1 : (1 : Int) ≤ np
              · by_cases h2 : (np : Int) ≤ 8
                · by_cases h3 : (ni : Int) ≤ 200
                  · go_wp2_with fail
                    exact HP.out _ _ ⟨by rw [Hm3.out, decide_eq_true (by omega : 1 ≤ np), decide_eq_true (by omega : np ≤ 8), decide_eq_true (by omega : ni ≤ 200), show decide (m ≤ 4000) = decide ((m : Int) ≤ 4000) by (rw [decide_eq_decide]; omega)]; rfl, hw.sel [0] (by decide)⟩
                  · go_wp2_with fail
                    exact HP.out _ _ ⟨by rw [Hm3.out, decide_eq_false (by omega : ¬ ni ≤ 200)]; simp, hw.sel [0] (by decide)⟩
                · go_wp2_with fail
                  exact HP.out _ _ ⟨by rw [Hm3.out, decide_eq_false (by omega : ¬ np ≤ 8)]; simp, hw.sel [0] (by decide)⟩
              · go_wp2_with fail
                exact HP.out _ _ ⟨by rw [Hm3.out, decide_eq_false (by omega : ¬ 1 ≤ np)]; rfl, hw.sel [0] (by decide)⟩
end Go.Proofs.YteinbojpmhblkaaDoor
/-
  The walk of Bytes of a script, the program's.
-/
namespace Go.Proofs.YteinbojpmhblkaaDoor
set_option linter.unusedSimpArgs false
set_option linter.unusedVariables false
open Go.RowKit Go.Sep
set_option maxRecDepth 20000

def bS (s : Scr) : List Int := if mayS s = true then bytesS s else []
def eS (s : Scr) : Int := if mayS s = true then 0 else 1
/-- The rooms' bytes, so many. -/
def roomsB (s : Scr) : Nat → List Int
  | 0 => []
  | 1 => be8 s.r0
  | 2 => be8 s.r0 ++ be8 s.r1
  | 3 => be8 s.r0 ++ be8 s.r1 ++ be8 s.r2
  | _ => be8 s.r0 ++ be8 s.r1 ++ be8 s.r2 ++ be8 s.r3
theorem roomsB_end (s : Scr) : roomsB s 4 = headS s := by unfold roomsB headS; simp only [List.append_assoc]
theorem headS_len (s : Scr) : (headS s).length = 32 := rfl
theorem flatB_snoc {α : Type} {f : α → List Int} {l : List α} {k : Nat} {x : α} (h : l[k]? = some x) : (l.take (k + 1)).flatMap f = (l.take k).flatMap f ++ f x := by
  rw [List.take_add_one, h, List.flatMap_append]; simp
set_option maxHeartbeats 8000000 in
theorem oBytesS (s : Scr) (hS : Small s) (hs : List Hd) (pa ia : Option Addr) (pc ic : Nat) (e w : World) (X : HProp) (hT : Tops e X) (hR : RdP e X pa hs s.ps) (hI : RdT e X ia s.is) (hm : mayS s = true) (hw : Holds e w [X]) :
    Calls Tryd.prog 8 #[.agg (scrV s pa pc ia ic).toArray] w fun en w' => ∃ v, en = .returned (.tuple #[v, .int .i64 0]) ∧ Holds e w' [X, IsB v (bytesS s)] := by
  have hmay := fun w M hw (h0 : M[0]? = some X) => oMayS s hS hs pa ia pc ic e w (sepL M) (at_any (Φ := TopsAt) hT 0 h0) (hR.at 0 h0) (hI.at 0 h0) hw
  rw [hm] at hmay
  have Hmay := Sep.hid hmay; clear hmay
  have HR := Sep.hid hR; clear hR
  have HT := Sep.hid hT; clear hT
  have HI := Sep.hid hI; clear hI
  have Hmp := Sep.hid (may_parts hm).2; clear hm
  have Hbl := Sep.hid (bytesS_len s)
  obtain ⟨np, hnp⟩ : ∃ np, s.ps.length = np := ⟨_, rfl⟩
  obtain ⟨ni, hni⟩ : ∃ ni, s.is.length = ni := ⟨_, rfl⟩
  have hA : scrV s pa pc ia ic = [.int .i64 s.r0, .int .i64 s.r1, .int .i64 s.r2, .int .i64 s.r3, .slice pa np pc, .slice ia ni ic] := by rw [← hnp, ← hni]; rfl
  rw [hA] at Hmay ⊢; clear hA
  have Hnp := Sep.hid hnp; have Hni := Sep.hid hni; clear hnp hni
  have hn8 : np ≤ 8 := by have := Hmp.out.2.1; rw [Hnp.out] at this; exact this
  have hn200 : ni ≤ 200 := by have := Hmp.out.2.2.1; rw [Hni.out] at this; exact this
  refine Sep.calls_post ?_
  intro Post_ hPost_
  have HP := Sep.hid hPost_
  clear hPost_
  go_enter Tryd.func8, Tryd.ntmps8
  go_wp2_with (first | (refine wpList_on rfl (wp_box rfl hw ?_); intro b1_ w_ hw_; clear hw; have hw := hw_; clear hw_; (try simp only [List.map_cons, List.map_nil, List.getD_cons_zero, List.getD_cons_succ, List.getD_nil, List.set_cons_zero, List.set_cons_succ, List.cons_append, List.nil_append, Act.eval, Array.getD_eq_getD_getElem?, List.getElem?_toArray, List.getElem?_cons_succ, List.getElem?_cons_zero, Option.getD_some, Value.cells] at hw); (try simp (disch := first | (simp; done) | (simp; omega)) only [Sep.mid_set, Sep.mid_set2, Sep.mid_set0, Sep.mid_splice, Sep.mid_splice0, List.set_cons_zero, List.set_cons_succ] at hw); (try simp only [Sep.splice, List.take_succ_cons, List.take_zero, List.drop_succ_cons, List.drop_zero, List.length_cons, List.length_nil, Nat.reduceAdd, List.cons_append, List.nil_append] at hw); (try replace hc0 := Sep.Holds.cells hw (i := 0) rfl); (try replace hc1 := Sep.Holds.cells hw (i := 1) rfl); (try replace hc2 := Sep.Holds.cells hw (i := 2) rfl); (try replace hc3 := Sep.Holds.cells hw (i := 3) rfl); (try replace hc4 := Sep.Holds.cells hw (i := 4) rfl); (try replace hc5 := Sep.Holds.cells hw (i := 5) rfl); (try replace hc6 := Sep.Holds.cells hw (i := 6) rfl)))
  refine (Hmay.out _ _ hw.focus0 rfl).mono ?_
  rintro _ w_ ⟨rfl, hw_⟩
  clear hw; (try clear hc0); (try clear hc1); (try clear hc2); (try clear hc3); (try clear hc4); (try clear hc5); (try clear hc6); have hw := Holds.unfocus0 hw_; clear hw_ Hmay
  (try simp only [List.map_cons, List.map_nil, List.getD_cons_zero, List.getD_cons_succ, List.getD_nil, List.set_cons_zero, List.set_cons_succ, List.cons_append, List.nil_append, Act.eval, Array.getD_eq_getD_getElem?, List.getElem?_toArray, List.getElem?_cons_succ, List.getElem?_cons_zero, Option.getD_some, Value.cells] at hw); (try simp (disch := first | (simp; done) | (simp; omega)) only [Sep.mid_set, Sep.mid_set2, Sep.mid_set0, Sep.mid_splice, Sep.mid_splice0, List.set_cons_zero, List.set_cons_succ] at hw); (try simp only [Sep.splice, List.take_succ_cons, List.take_zero, List.drop_succ_cons, List.drop_zero, List.length_cons, List.length_nil, Nat.reduceAdd, List.cons_append, List.nil_append] at hw); (try replace hc0 := Sep.Holds.cells hw (i := 0) rfl); (try replace hc1 := Sep.Holds.cells hw (i := 1) rfl); (try replace hc2 := Sep.Holds.cells hw (i := 2) rfl); (try replace hc3 := Sep.Holds.cells hw (i := 3) rfl); (try replace hc4 := Sep.Holds.cells hw (i := 4) rfl); (try replace hc5 := Sep.Holds.cells hw (i := 5) rfl); (try replace hc6 := Sep.Holds.cells hw (i := 6) rfl)
  go_wp2_with (first | (refine wpList_on rfl (wp_loadN (vs := [.int .i64 s.r0, .int .i64 s.r1, .int .i64 s.r2, .int .i64 s.r3]) rfl rfl hw (i := 1) rfl rfl take4 ?_); (try simp only [Act.put, List.setIfInBounds_toArray, List.set_cons_zero, List.set_cons_succ])))
  have hw := hw.addEmp (X := Sl 5 1 (.slice none 0 0) 0 (encB [])) (Sl.nil _ _ _)
  have Hw0 := Sep.hid hw; clear hw; (try clear hc0); (try clear hc1); (try clear hc2); (try clear hc3); (try clear hc4); (try clear hc5); (try clear hc6)
  go_loopw [18, 4] (fun i o wr => ∃ k : Nat, k ≤ 4 ∧ i = .int .i64 k ∧ Holds e wr [X, pt b1_ [.int .i64 s.r0, .int .i64 s.r1, .int .i64 s.r2, .int .i64 s.r3, .slice pa np pc, .slice ia ni ic] 28, Sl 5 1 o (8 * k) (encB (roomsB s k))]) (fun i _ _ => 4 - (intOf i).toNat)
  case atStart => exact ⟨0, Nat.zero_le _, rfl, Hw0.out⟩
  case round =>
    clear Hw0
    obtain ⟨k, hk, hi, hw⟩ := hrel
    match k, hk with
    | 0, _ =>
      obtain rfl : u18 = .int .i64 0 := hi
      obtain ⟨oa, oc, rfl⟩ := Sl.value (i := 2) rfl hw
      (try replace hc0 := Sep.Holds.cells hw (i := 0) rfl); (try replace hc1 := Sep.Holds.cells hw (i := 1) rfl); (try replace hc2 := Sep.Holds.cells hw (i := 2) rfl); (try replace hc3 := Sep.Holds.cells hw (i := 3) rfl); (try replace hc4 := Sep.Holds.cells hw (i := 4) rfl); (try replace hc5 := Sep.Holds.cells hw (i := 5) rfl); (try replace hc6 := Sep.Holds.cells hw (i := 6) rfl)
      go_wp2_with (first | (refine wpList_on rfl (wp_of_run (v := .int .i64 s.r0) (run_index rfl rfl rfl Tryd.underlying24 (by decide) rfl) ?_); (try simp only [Act.put, List.setIfInBounds_toArray, List.set_cons_zero, List.set_cons_succ])))
      refine (oEight _ _ _ s.r0 (by decide) e _ _ (hw.focus1 2 rfl)).mono ?_
      rintro _ w_ ⟨v, rfl, hw_⟩
      clear hw; (try clear hc0); (try clear hc1); (try clear hc2); (try clear hc3); (try clear hc4); (try clear hc5); (try clear hc6); have hw := Holds.unfocus1 2 (by simp) hw_; clear hw_
      (try simp only [List.map_cons, List.map_nil, List.getD_cons_zero, List.getD_cons_succ, List.getD_nil, List.set_cons_zero, List.set_cons_succ, List.cons_append, List.nil_append, Act.eval, Array.getD_eq_getD_getElem?, List.getElem?_toArray, List.getElem?_cons_succ, List.getElem?_cons_zero, Option.getD_some, Value.cells] at hw); (try simp (disch := first | (simp; done) | (simp; omega)) only [Sep.mid_set, Sep.mid_set2, Sep.mid_set0, Sep.mid_splice, Sep.mid_splice0, List.set_cons_zero, List.set_cons_succ] at hw); (try simp only [Sep.splice, List.take_succ_cons, List.take_zero, List.drop_succ_cons, List.drop_zero, List.length_cons, List.length_nil, Nat.reduceAdd, List.cons_append, List.nil_append] at hw); (try replace hc0 := Sep.Holds.cells hw (i := 0) rfl); (try replace hc1 := Sep.Holds.cells hw (i := 1) rfl); (try replace hc2 := Sep.Holds.cells hw (i := 2) rfl); (try replace hc3 := Sep.Holds.cells hw (i := 3) rfl); (try replace hc4 := Sep.Holds.cells hw (i := 4) rfl); (try replace hc5 := Sep.Holds.cells hw (i := 5) rfl); (try replace hc6 := Sep.Holds.cells hw (i := 6) rfl)
      go_wp2_with fail
      go_roundw
      case rel =>
        refine ⟨0 + 1, by decide, rfl, ?_⟩
        rw [← encB_append] at hw
        exact hw
      case measure => simp [intOf]
    | 1, _ =>
      obtain rfl : u18 = .int .i64 1 := hi
      obtain ⟨oa, oc, rfl⟩ := Sl.value (i := 2) rfl hw
      (try replace hc0 := Sep.Holds.cells hw (i := 0) rfl); (try replace hc1 := Sep.Holds.cells hw (i := 1) rfl); (try replace hc2 := Sep.Holds.cells hw (i := 2) rfl); (try replace hc3 := Sep.Holds.cells hw (i := 3) rfl); (try replace hc4 := Sep.Holds.cells hw (i := 4) rfl); (try replace hc5 := Sep.Holds.cells hw (i := 5) rfl); (try replace hc6 := Sep.Holds.cells hw (i := 6) rfl)
      go_wp2_with (first | (refine wpList_on rfl (wp_of_run (v := .int .i64 s.r1) (run_index rfl rfl rfl Tryd.underlying24 (by decide) rfl) ?_); (try simp only [Act.put, List.setIfInBounds_toArray, List.set_cons_zero, List.set_cons_succ])))
      refine (oEight _ _ _ s.r1 (by decide) e _ _ (hw.focus1 2 rfl)).mono ?_
      rintro _ w_ ⟨v, rfl, hw_⟩
      clear hw; (try clear hc0); (try clear hc1); (try clear hc2); (try clear hc3); (try clear hc4); (try clear hc5); (try clear hc6); have hw := Holds.unfocus1 2 (by simp) hw_; clear hw_
      (try simp only [List.map_cons, List.map_nil, List.getD_cons_zero, List.getD_cons_succ, List.getD_nil, List.set_cons_zero, List.set_cons_succ, List.cons_append, List.nil_append, Act.eval, Array.getD_eq_getD_getElem?, List.getElem?_toArray, List.getElem?_cons_succ, List.getElem?_cons_zero, Option.getD_some, Value.cells] at hw); (try simp (disch := first | (simp; done) | (simp; omega)) only [Sep.mid_set, Sep.mid_set2, Sep.mid_set0, Sep.mid_splice, Sep.mid_splice0, List.set_cons_zero, List.set_cons_succ] at hw); (try simp only [Sep.splice, List.take_succ_cons, List.take_zero, List.drop_succ_cons, List.drop_zero, List.length_cons, List.length_nil, Nat.reduceAdd, List.cons_append, List.nil_append] at hw); (try replace hc0 := Sep.Holds.cells hw (i := 0) rfl); (try replace hc1 := Sep.Holds.cells hw (i := 1) rfl); (try replace hc2 := Sep.Holds.cells hw (i := 2) rfl); (try replace hc3 := Sep.Holds.cells hw (i := 3) rfl); (try replace hc4 := Sep.Holds.cells hw (i := 4) rfl); (try replace hc5 := Sep.Holds.cells hw (i := 5) rfl); (try replace hc6 := Sep.Holds.cells hw (i := 6) rfl)
      go_wp2_with fail
      go_roundw
      case rel =>
        refine ⟨1 + 1, by decide, rfl, ?_⟩
        rw [← encB_append] at hw
        exact hw
      case measure => simp [intOf]
    | 2, _ =>
      obtain rfl : u18 = .int .i64 2 := hi
      obtain ⟨oa, oc, rfl⟩ := Sl.value (i := 2) rfl hw
      (try replace hc0 := Sep.Holds.cells hw (i := 0) rfl); (try replace hc1 := Sep.Holds.cells hw (i := 1) rfl); (try replace hc2 := Sep.Holds.cells hw (i := 2) rfl); (try replace hc3 := Sep.Holds.cells hw (i := 3) rfl); (try replace hc4 := Sep.Holds.cells hw (i := 4) rfl); (try replace hc5 := Sep.Holds.cells hw (i := 5) rfl); (try replace hc6 := Sep.Holds.cells hw (i := 6) rfl)
      go_wp2_with (first | (refine wpList_on rfl (wp_of_run (v := .int .i64 s.r2) (run_index rfl rfl rfl Tryd.underlying24 (by decide) rfl) ?_); (try simp only [Act.put, List.setIfInBounds_toArray, List.set_cons_zero, List.set_cons_succ])))
      refine (oEight _ _ _ s.r2 (by decide) e _ _ (hw.focus1 2 rfl)).mono ?_
      rintro _ w_ ⟨v, rfl, hw_⟩
      clear hw; (try clear hc0); (try clear hc1); (try clear hc2); (try clear hc3); (try clear hc4); (try clear hc5); (try clear hc6); have hw := Holds.unfocus1 2 (by simp) hw_; clear hw_
      (try simp only [List.map_cons, List.map_nil, List.getD_cons_zero, List.getD_cons_succ, List.getD_nil, List.set_cons_zero, List.set_cons_succ, List.cons_append, List.nil_append, Act.eval, Array.getD_eq_getD_getElem?, List.getElem?_toArray, List.getElem?_cons_succ, List.getElem?_cons_zero, Option.getD_some, Value.cells] at hw); (try simp (disch := first | (simp; done) | (simp; omega)) only [Sep.mid_set, Sep.mid_set2, Sep.mid_set0, Sep.mid_splice, Sep.mid_splice0, List.set_cons_zero, List.set_cons_succ] at hw); (try simp only [Sep.splice, List.take_succ_cons, List.take_zero, List.drop_succ_cons, List.drop_zero, List.length_cons, List.length_nil, Nat.reduceAdd, List.cons_append, List.nil_append] at hw); (try replace hc0 := Sep.Holds.cells hw (i := 0) rfl); (try replace hc1 := Sep.Holds.cells hw (i := 1) rfl); (try replace hc2 := Sep.Holds.cells hw (i := 2) rfl); (try replace hc3 := Sep.Holds.cells hw (i := 3) rfl); (try replace hc4 := Sep.Holds.cells hw (i := 4) rfl); (try replace hc5 := Sep.Holds.cells hw (i := 5) rfl); (try replace hc6 := Sep.Holds.cells hw (i := 6) rfl)
      go_wp2_with fail
      go_roundw
      case rel =>
        refine ⟨2 + 1, by decide, rfl, ?_⟩
        rw [← encB_append] at hw
        exact hw
      case measure => simp [intOf]
    | 3, _ =>
      obtain rfl : u18 = .int .i64 3 := hi
      obtain ⟨oa, oc, rfl⟩ := Sl.value (i := 2) rfl hw
      (try replace hc0 := Sep.Holds.cells hw (i := 0) rfl); (try replace hc1 := Sep.Holds.cells hw (i := 1) rfl); (try replace hc2 := Sep.Holds.cells hw (i := 2) rfl); (try replace hc3 := Sep.Holds.cells hw (i := 3) rfl); (try replace hc4 := Sep.Holds.cells hw (i := 4) rfl); (try replace hc5 := Sep.Holds.cells hw (i := 5) rfl); (try replace hc6 := Sep.Holds.cells hw (i := 6) rfl)
      go_wp2_with (first | (refine wpList_on rfl (wp_of_run (v := .int .i64 s.r3) (run_index rfl rfl rfl Tryd.underlying24 (by decide) rfl) ?_); (try simp only [Act.put, List.setIfInBounds_toArray, List.set_cons_zero, List.set_cons_succ])))
      refine (oEight _ _ _ s.r3 (by decide) e _ _ (hw.focus1 2 rfl)).mono ?_
      rintro _ w_ ⟨v, rfl, hw_⟩
      clear hw; (try clear hc0); (try clear hc1); (try clear hc2); (try clear hc3); (try clear hc4); (try clear hc5); (try clear hc6); have hw := Holds.unfocus1 2 (by simp) hw_; clear hw_
      (try simp only [List.map_cons, List.map_nil, List.getD_cons_zero, List.getD_cons_succ, List.getD_nil, List.set_cons_zero, List.set_cons_succ, List.cons_append, List.nil_append, Act.eval, Array.getD_eq_getD_getElem?, List.getElem?_toArray, List.getElem?_cons_succ, List.getElem?_cons_zero, Option.getD_some, Value.cells] at hw); (try simp (disch := first | (simp; done) | (simp; omega)) only [Sep.mid_set, Sep.mid_set2, Sep.mid_set0, Sep.mid_splice, Sep.mid_splice0, List.set_cons_zero, List.set_cons_succ] at hw); (try simp only [Sep.splice, List.take_succ_cons, List.take_zero, List.drop_succ_cons, List.drop_zero, List.length_cons, List.length_nil, Nat.reduceAdd, List.cons_append, List.nil_append] at hw); (try replace hc0 := Sep.Holds.cells hw (i := 0) rfl); (try replace hc1 := Sep.Holds.cells hw (i := 1) rfl); (try replace hc2 := Sep.Holds.cells hw (i := 2) rfl); (try replace hc3 := Sep.Holds.cells hw (i := 3) rfl); (try replace hc4 := Sep.Holds.cells hw (i := 4) rfl); (try replace hc5 := Sep.Holds.cells hw (i := 5) rfl); (try replace hc6 := Sep.Holds.cells hw (i := 6) rfl)
      go_wp2_with fail
      go_roundw
      case rel =>
        refine ⟨3 + 1, by decide, rfl, ?_⟩
        rw [← encB_append] at hw
        exact hw
      case measure => simp [intOf]
    | 4, _ =>
      obtain rfl : u18 = .int .i64 4 := hi
      rw [roomsB_end] at hw
      (try replace hc0 := Sep.Holds.cells hw (i := 0) rfl); (try replace hc1 := Sep.Holds.cells hw (i := 1) rfl); (try replace hc2 := Sep.Holds.cells hw (i := 2) rfl); (try replace hc3 := Sep.Holds.cells hw (i := 3) rfl); (try replace hc4 := Sep.Holds.cells hw (i := 4) rfl); (try replace hc5 := Sep.Holds.cells hw (i := 5) rfl); (try replace hc6 := Sep.Holds.cells hw (i := 6) rfl)
      go_wp2_with (first | (refine wpList_on rfl (wp_bsl1 rfl rfl (by rfl) (by rfl) (by decide) hw ?_); intro b_ w_ hw_; clear hw; have hw := hw_; clear hw_; (try simp only [List.map_cons, List.map_nil, List.getD_cons_zero, List.getD_cons_succ, List.getD_nil, List.set_cons_zero, List.set_cons_succ, List.cons_append, List.nil_append, Act.eval, Array.getD_eq_getD_getElem?, List.getElem?_toArray, List.getElem?_cons_succ, List.getElem?_cons_zero, Option.getD_some, Value.cells] at hw); (try simp (disch := first | (simp; done) | (simp; omega)) only [Sep.mid_set, Sep.mid_set2, Sep.mid_set0, Sep.mid_splice, Sep.mid_splice0, List.set_cons_zero, List.set_cons_succ] at hw); (try simp only [Sep.splice, List.take_succ_cons, List.take_zero, List.drop_succ_cons, List.drop_zero, List.length_cons, List.length_nil, Nat.reduceAdd, List.cons_append, List.nil_append] at hw); (try replace hc0 := Sep.Holds.cells hw (i := 0) rfl); (try replace hc1 := Sep.Holds.cells hw (i := 1) rfl); (try replace hc2 := Sep.Holds.cells hw (i := 2) rfl); (try replace hc3 := Sep.Holds.cells hw (i := 3) rfl); (try replace hc4 := Sep.Holds.cells hw (i := 4) rfl); (try replace hc5 := Sep.Holds.cells hw (i := 5) rfl); (try replace hc6 := Sep.Holds.cells hw (i := 6) rfl)) | (at_builtin; refine wpList_on rfl (wp_appendPt (i := 2) (j := 3) rfl rfl hw rfl rfl rfl (by rfl) (by simp [Value.oneCell']) (by decide) (by rfl) (by (try unfold maxLen); omega) (by (try unfold maxLen); omega) ?_); intro b2_ cap2_ off2_ w_ hcap2_ hw_; clear hw; have hw := hw_; clear hw_; (try simp only [List.map_cons, List.map_nil, List.getD_cons_zero, List.getD_cons_succ, List.getD_nil, List.set_cons_zero, List.set_cons_succ, List.cons_append, List.nil_append, Act.eval, Array.getD_eq_getD_getElem?, List.getElem?_toArray, List.getElem?_cons_succ, List.getElem?_cons_zero, Option.getD_some, Value.cells] at hw); (try simp (disch := first | (simp; done) | (simp; omega)) only [Sep.mid_set, Sep.mid_set2, Sep.mid_set0, Sep.mid_splice, Sep.mid_splice0, List.set_cons_zero, List.set_cons_succ] at hw); (try simp only [Sep.splice, List.take_succ_cons, List.take_zero, List.drop_succ_cons, List.drop_zero, List.length_cons, List.length_nil, Nat.reduceAdd, List.cons_append, List.nil_append] at hw); (try replace hc0 := Sep.Holds.cells hw (i := 0) rfl); (try replace hc1 := Sep.Holds.cells hw (i := 1) rfl); (try replace hc2 := Sep.Holds.cells hw (i := 2) rfl); (try replace hc3 := Sep.Holds.cells hw (i := 3) rfl); (try replace hc4 := Sep.Holds.cells hw (i := 4) rfl); (try replace hc5 := Sep.Holds.cells hw (i := 5) rfl); (try replace hc6 := Sep.Holds.cells hw (i := 6) rfl)))
      have hw := hw.sel [0, 1, 2] (by decide)
      (try simp only [List.map_cons, List.map_nil, List.getD_cons_zero, List.getD_cons_succ, List.getD_nil, List.set_cons_zero, List.set_cons_succ, List.cons_append, List.nil_append, Act.eval, Array.getD_eq_getD_getElem?, List.getElem?_toArray, List.getElem?_cons_succ, List.getElem?_cons_zero, Option.getD_some, Value.cells] at hw); (try simp (disch := first | (simp; done) | (simp; omega)) only [Sep.mid_set, Sep.mid_set2, Sep.mid_set0, Sep.mid_splice, Sep.mid_splice0, List.set_cons_zero, List.set_cons_succ] at hw); (try simp only [Sep.splice, List.take_succ_cons, List.take_zero, List.drop_succ_cons, List.drop_zero, List.length_cons, List.length_nil, Nat.reduceAdd, List.cons_append, List.nil_append] at hw)
      have hw : Holds e w_ [X, pt b1_ [.int .i64 s.r0, .int .i64 s.r1, .int .i64 s.r2, .int .i64 s.r3, .slice pa np pc, .slice ia ni ic] 28, Sl 5 1 (.slice (some ⟨b2_, off2_, none⟩) 33 cap2_) 33 (encB (headS s ++ [(np : Int)]))] := by rw [encB_append]; exact hw
      have H33 : Hid ((headS s ++ [(np : Int)]).length = 33) := Sep.hid rfl
      (try replace hc0 := Sep.Holds.cells hw (i := 0) rfl); (try replace hc1 := Sep.Holds.cells hw (i := 1) rfl); (try replace hc2 := Sep.Holds.cells hw (i := 2) rfl); (try replace hc3 := Sep.Holds.cells hw (i := 3) rfl); (try replace hc4 := Sep.Holds.cells hw (i := 4) rfl); (try replace hc5 := Sep.Holds.cells hw (i := 5) rfl); (try replace hc6 := Sep.Holds.cells hw (i := 6) rfl)
      go_wp2_with fail
      have Hw0 := Sep.hid hw; clear hw; (try clear hc0); (try clear hc1); (try clear hc2); (try clear hc3); (try clear hc4); (try clear hc5); (try clear hc6)
      go_loopw [35, 4] (fun i o wr => ∃ (k m : Nat) (c : List Int), k ≤ np ∧ i = .int .i64 k ∧ m ≤ 33 + k * 300 ∧ Hid (c = headS s ++ [(np : Int)] ++ (s.ps.take k).flatMap bytesP) ∧ Hid (c.length = m) ∧ Holds e wr [X, pt b1_ [.int .i64 s.r0, .int .i64 s.r1, .int .i64 s.r2, .int .i64 s.r3, .slice pa np pc, .slice ia ni ic] 28, Sl 5 1 o m (encB c)]) (fun i _ _ => np - (intOf i).toNat)
      case atStart => exact ⟨0, 33, _, Nat.zero_le _, rfl, by omega, Sep.hid (by simp), H33, Hw0.out⟩
      case round =>
        clear Hw0
        obtain ⟨k, m, c, hk, rfl, hm, Hc, Hcl, hw⟩ := hrel
        obtain ⟨oa, oc, rfl⟩ := Sl.value (i := 2) rfl hw
        by_cases hlt : k < np
        · obtain ⟨x, hx⟩ : ∃ x, s.ps[k]? = some x := ⟨_, List.getElem?_eq_getElem (by rw [Hnp.out]; exact hlt)⟩
          obtain ⟨h, _, hE, hA⟩ := HR.out k x hx
          obtain ⟨q, rfl, hc⟩ := hE _ _ 0 hw rfl
          have HA := Sep.hid hA; clear hA hE
          have Hx := Sep.hid hx
          have Hma : Hid (mayP x = true) := Sep.hid (List.all_eq_true.1 Hmp.out.2.2.2.1 _ (List.mem_of_getElem? hx))
          clear hx
          obtain ⟨ha, hca⟩ := h
          unfold hdV at hc
          obtain ⟨n, hn⟩ : ∃ n, x.length = n := ⟨_, rfl⟩
          rw [hn] at hc
          have hn24 : n ≤ 24 := by
            have h := Hma.out
            unfold mayP at h
            rw [Bool.and_eq_true, decide_eq_true_eq, hn] at h
            exact h.1.2
          have Hn := Sep.hid hn; clear hn
          have hbl : (bytesP x).length = 1 + n * 11 := by rw [bytesP_len, Hn.out]
          (try replace hc0 := Sep.Holds.cells hw (i := 0) rfl); (try replace hc1 := Sep.Holds.cells hw (i := 1) rfl); (try replace hc2 := Sep.Holds.cells hw (i := 2) rfl); (try replace hc3 := Sep.Holds.cells hw (i := 3) rfl); (try replace hc4 := Sep.Holds.cells hw (i := 4) rfl); (try replace hc5 := Sep.Holds.cells hw (i := 5) rfl); (try replace hc6 := Sep.Holds.cells hw (i := 6) rfl)
          go_wp2_with fail
          refine (oBytes x n hca ha Hn e _ _ HT.out.sep (HA.out.at 0 rfl) Hma.out hw.focus0).mono ?_
          rintro _ w_ ⟨v, rfl, hw_⟩
          clear hw hc; (try clear hc0); (try clear hc1); (try clear hc2); (try clear hc3); (try clear hc4); (try clear hc5); (try clear hc6); have hw := Holds.unfocus0 hw_; clear hw_
          have hIs : IsB v (bytesP x) = Sl 5 1 v (1 + n * 11) (encB (bytesP x)) := by unfold IsB; rw [hbl]
          rw [hIs] at hw; clear hIs
          have Hbl2 := Sep.hid hbl; clear hbl
          (try simp only [List.map_cons, List.map_nil, List.getD_cons_zero, List.getD_cons_succ, List.getD_nil, List.set_cons_zero, List.set_cons_succ, List.cons_append, List.nil_append, Act.eval, Array.getD_eq_getD_getElem?, List.getElem?_toArray, List.getElem?_cons_succ, List.getElem?_cons_zero, Option.getD_some, Value.cells] at hw); (try simp (disch := first | (simp; done) | (simp; omega)) only [Sep.mid_set, Sep.mid_set2, Sep.mid_set0, Sep.mid_splice, Sep.mid_splice0, List.set_cons_zero, List.set_cons_succ] at hw); (try simp only [Sep.splice, List.take_succ_cons, List.take_zero, List.drop_succ_cons, List.drop_zero, List.length_cons, List.length_nil, Nat.reduceAdd, List.cons_append, List.nil_append] at hw); (try replace hc0 := Sep.Holds.cells hw (i := 0) rfl); (try replace hc1 := Sep.Holds.cells hw (i := 1) rfl); (try replace hc2 := Sep.Holds.cells hw (i := 2) rfl); (try replace hc3 := Sep.Holds.cells hw (i := 3) rfl); (try replace hc4 := Sep.Holds.cells hw (i := 4) rfl); (try replace hc5 := Sep.Holds.cells hw (i := 5) rfl); (try replace hc6 := Sep.Holds.cells hw (i := 6) rfl)
          obtain ⟨va, vc, rfl⟩ := Sl.value (i := 3) rfl hw
          generalize hn11 : 1 + n * 11 = n11 at *
          have hn300 : n11 ≤ 300 := by omega
          go_wp2_with (first | (at_builtin; refine wpList_on rfl (wp_appendSl (i := 2) (j := 3) (u := .slice va n11 vc) rfl rfl hw rfl rfl rfl (encB_one _) (by rfl) (by (try unfold maxLen); omega) (by (try unfold maxLen); omega) ?_); intro a2_ cap2_ w_ hw_; (try simp only [Nat.zero_add, List.nil_append] at hw_); clear hw; have hw := hw_; clear hw_; (try simp only [List.map_cons, List.map_nil, List.getD_cons_zero, List.getD_cons_succ, List.getD_nil, List.set_cons_zero, List.set_cons_succ, List.cons_append, List.nil_append, Act.eval, Array.getD_eq_getD_getElem?, List.getElem?_toArray, List.getElem?_cons_succ, List.getElem?_cons_zero, Option.getD_some, Value.cells] at hw); (try simp (disch := first | (simp; done) | (simp; omega)) only [Sep.mid_set, Sep.mid_set2, Sep.mid_set0, Sep.mid_splice, Sep.mid_splice0, List.set_cons_zero, List.set_cons_succ] at hw); (try simp only [Sep.splice, List.take_succ_cons, List.take_zero, List.drop_succ_cons, List.drop_zero, List.length_cons, List.length_nil, Nat.reduceAdd, List.cons_append, List.nil_append] at hw); (try replace hc0 := Sep.Holds.cells hw (i := 0) rfl); (try replace hc1 := Sep.Holds.cells hw (i := 1) rfl); (try replace hc2 := Sep.Holds.cells hw (i := 2) rfl); (try replace hc3 := Sep.Holds.cells hw (i := 3) rfl); (try replace hc4 := Sep.Holds.cells hw (i := 4) rfl); (try replace hc5 := Sep.Holds.cells hw (i := 5) rfl); (try replace hc6 := Sep.Holds.cells hw (i := 6) rfl)))
          have hw := hw.sel [0, 1, 2] (by decide)
          rw [← encB_append] at hw
          go_roundw
          case rel =>
            refine ⟨k + 1, m + n11, c ++ bytesP x, by omega, by go_num, by omega, Sep.hid (by rw [Hc.out, flatB_snoc Hx.out, List.append_assoc]), Sep.hid (by rw [List.length_append, Hcl.out, Hbl2.out]), hw⟩
          case measure => simp [intOf]; omega
        · have hke : np = k := by omega
          subst hke
          have Hc2 : Hid (c = headS s ++ [(np : Int)] ++ s.ps.flatMap bytesP) := Sep.hid (by rw [Hc.out, List.take_of_length_le (by rw [Hnp.out]; exact Nat.le_refl _)])
          clear Hc
          have hm2 : m ≤ 10000 := by omega
          clear hm
          (try replace hc0 := Sep.Holds.cells hw (i := 0) rfl); (try replace hc1 := Sep.Holds.cells hw (i := 1) rfl); (try replace hc2 := Sep.Holds.cells hw (i := 2) rfl); (try replace hc3 := Sep.Holds.cells hw (i := 3) rfl); (try replace hc4 := Sep.Holds.cells hw (i := 4) rfl); (try replace hc5 := Sep.Holds.cells hw (i := 5) rfl); (try replace hc6 := Sep.Holds.cells hw (i := 6) rfl)
          go_wp2_with fail
          have Hw0 := Sep.hid hw; clear hw; (try clear hc0); (try clear hc1); (try clear hc2); (try clear hc3); (try clear hc4); (try clear hc5); (try clear hc6)
          go_loopw [51, 4] (fun i o wr => ∃ (k m2 : Nat) (c2 : List Int), k ≤ ni ∧ i = .int .i64 k ∧ m2 ≤ 10000 + k * 10 ∧ Hid (c2 = c ++ (s.is.take k).flatMap encItm) ∧ Hid (c2.length = m2) ∧ Holds e wr [X, pt b1_ [.int .i64 s.r0, .int .i64 s.r1, .int .i64 s.r2, .int .i64 s.r3, .slice pa np pc, .slice ia ni ic] 28, Sl 5 1 o m2 (encB c2)]) (fun i _ _ => ni - (intOf i).toNat)
          case atStart => exact ⟨0, m, c, Nat.zero_le _, rfl, by omega, Sep.hid (by simp), Hcl, Hw0.out⟩
          case round =>
            clear Hw0
            obtain ⟨k, m2, c2, hk, rfl, hm3, Hc3, Hcl2, hw⟩ := hrel
            obtain ⟨oa2, oc2, rfl⟩ := Sl.value (i := 2) rfl hw
            by_cases hlt : k < ni
            · obtain ⟨x, hx⟩ : ∃ x, s.is[k]? = some x := ⟨_, List.getElem?_eq_getElem (by rw [Hni.out]; exact hlt)⟩
              obtain ⟨p, rfl, hc⟩ := HI.out _ _ 0 hw rfl k x hx
              have Hcc := Sep.hid hc; clear hc
              have Hx := Sep.hid hx; clear hx
              have hA : encT x = [.int .i64 x.d, .int .i64 x.a, .int .i64 x.n] := rfl
              (try replace hc0 := Sep.Holds.cells hw (i := 0) rfl); (try replace hc1 := Sep.Holds.cells hw (i := 1) rfl); (try replace hc2 := Sep.Holds.cells hw (i := 2) rfl); (try replace hc3 := Sep.Holds.cells hw (i := 3) rfl); (try replace hc4 := Sep.Holds.cells hw (i := 4) rfl); (try replace hc5 := Sep.Holds.cells hw (i := 5) rfl); (try replace hc6 := Sep.Holds.cells hw (i := 6) rfl)
              go_wp2_with (first | (refine wpList_on rfl (wp_of_run (run_loadAd (vs := encT x) rfl rfl rfl Hcc.out) ?_); (try simp only [Act.put, List.setIfInBounds_toArray, List.set_cons_zero, List.set_cons_succ]); rw [hA]) | (refine wpList_on rfl (wp_alloc rfl hw ?_); intro b6_ w_ hw_; clear hw; have hw := hw_; clear hw_; (try simp only [List.map_cons, List.map_nil, List.getD_cons_zero, List.getD_cons_succ, List.getD_nil, List.set_cons_zero, List.set_cons_succ, List.cons_append, List.nil_append, Act.eval, Array.getD_eq_getD_getElem?, List.getElem?_toArray, List.getElem?_cons_succ, List.getElem?_cons_zero, Option.getD_some, Value.cells] at hw); (try simp (disch := first | (simp; done) | (simp; omega)) only [Sep.mid_set, Sep.mid_set2, Sep.mid_set0, Sep.mid_splice, Sep.mid_splice0, List.set_cons_zero, List.set_cons_succ] at hw); (try simp only [Sep.splice, List.take_succ_cons, List.take_zero, List.drop_succ_cons, List.drop_zero, List.length_cons, List.length_nil, Nat.reduceAdd, List.cons_append, List.nil_append] at hw); (try replace hc0 := Sep.Holds.cells hw (i := 0) rfl); (try replace hc1 := Sep.Holds.cells hw (i := 1) rfl); (try replace hc2 := Sep.Holds.cells hw (i := 2) rfl); (try replace hc3 := Sep.Holds.cells hw (i := 3) rfl); (try replace hc4 := Sep.Holds.cells hw (i := 4) rfl); (try replace hc5 := Sep.Holds.cells hw (i := 5) rfl); (try replace hc6 := Sep.Holds.cells hw (i := 6) rfl)) | (refine wpList_on rfl (wp_storeAll (vs := [.int .i64 x.d, .int .i64 x.a, .int .i64 x.n]) rfl rfl (by rfl) hw (i := 3) rfl rfl rfl (by simp [Value.oneCell']) ?_); intro w_ hw_; clear hw; have hw := hw_; clear hw_; (try simp only [List.map_cons, List.map_nil, List.getD_cons_zero, List.getD_cons_succ, List.getD_nil, List.set_cons_zero, List.set_cons_succ, List.cons_append, List.nil_append, Act.eval, Array.getD_eq_getD_getElem?, List.getElem?_toArray, List.getElem?_cons_succ, List.getElem?_cons_zero, Option.getD_some, Value.cells] at hw); (try simp (disch := first | (simp; done) | (simp; omega)) only [Sep.mid_set, Sep.mid_set2, Sep.mid_set0, Sep.mid_splice, Sep.mid_splice0, List.set_cons_zero, List.set_cons_succ] at hw); (try simp only [Sep.splice, List.take_succ_cons, List.take_zero, List.drop_succ_cons, List.drop_zero, List.length_cons, List.length_nil, Nat.reduceAdd, List.cons_append, List.nil_append] at hw); (try replace hc0 := Sep.Holds.cells hw (i := 0) rfl); (try replace hc1 := Sep.Holds.cells hw (i := 1) rfl); (try replace hc2 := Sep.Holds.cells hw (i := 2) rfl); (try replace hc3 := Sep.Holds.cells hw (i := 3) rfl); (try replace hc4 := Sep.Holds.cells hw (i := 4) rfl); (try replace hc5 := Sep.Holds.cells hw (i := 5) rfl); (try replace hc6 := Sep.Holds.cells hw (i := 6) rfl)))
              refine wp_region_L [7, 8, 11] [(2, (fun w' => w' = w_.drew)), (5, (fun w' => w' = w_.drew)), (10, (fun w' => Holds e w' [pt b6_ [.int .i64 x.d, .int .i64 x.a, .int .i64 x.n] 23]))] (n := 13) (listed := (marks 13 0)) (by kernel_rfl) rfl (by kernel_rfl) ?conds1 ?_
              case conds1 =>
               intro c hc
               simp only [List.mem_cons, List.not_mem_nil, or_false] at hc
               rcases hc with rfl | rfl | rfl
               · rfl
               · rfl
               · exact (by replace hw := hw.drew; exact hw.sel [3] (by decide))
              replace hw := hw.drew
              (try replace hc0 := Sep.Holds.cells hw (i := 0) rfl); (try replace hc1 := Sep.Holds.cells hw (i := 1) rfl); (try replace hc2 := Sep.Holds.cells hw (i := 2) rfl); (try replace hc3 := Sep.Holds.cells hw (i := 3) rfl); (try replace hc4 := Sep.Holds.cells hw (i := 4) rfl); (try replace hc5 := Sep.Holds.cells hw (i := 5) rfl); (try replace hc6 := Sep.Holds.cells hw (i := 6) rfl)
              refine wpL_q 0 ?_ rfl (Or.inl ⟨by rfl, fun w_ hS_ => ?_⟩) (marks 13 1) ?_
              rotate_left
              next => (go_simp; try (first | rfl | exact (Bool.not_not _).symm))
              try simp only [Act.put, List.setIfInBounds_toArray, List.set_cons_zero, List.set_cons_succ]
              refine wpL_q 1 ?_ rfl (Or.inl ⟨by rfl, fun w_ hS_ => ?_⟩) (marks 13 3) ?_
              rotate_left
              next => (go_simp; try (first | rfl | exact (Bool.not_not _).symm))
              try simp only [Act.put, List.setIfInBounds_toArray, List.set_cons_zero, List.set_cons_succ]
              refine wpL_m 2 ?_ rfl (.head _) (Or.inl ⟨by rfl, fun w_ hS_ => ?_⟩) (marks 13 7) ?_
              rotate_left
              next => (subst hS_; go_simp; try (first | rfl | exact (Bool.not_not _).symm))
              try simp only [Act.put, List.setIfInBounds_toArray, List.set_cons_zero, List.set_cons_succ]
              refine wpL_q 3 ?_ rfl (Or.inl ⟨by rfl, fun w_ hS_ => ?_⟩) (marks 13 15) ?_
              rotate_left
              next => (go_simp; try (first | rfl | exact (Bool.not_not _).symm))
              try simp only [Act.put, List.setIfInBounds_toArray, List.set_cons_zero, List.set_cons_succ]
              refine wpL_q 4 ?_ rfl (Or.inl ⟨by rfl, fun w_ hS_ => ?_⟩) (marks 13 31) ?_
              rotate_left
              next => (go_simp; try (first | rfl | exact (Bool.not_not _).symm))
              try simp only [Act.put, List.setIfInBounds_toArray, List.set_cons_zero, List.set_cons_succ]
              refine wpL_m 5 ?_ rfl (.tail _ (.head _)) (Or.inl ⟨by rfl, fun w_ hS_ => ?_⟩) (marks 13 63) ?_
              rotate_left
              next => (subst hS_; go_simp; try (first | rfl | exact (Bool.not_not _).symm))
              try simp only [Act.put, List.setIfInBounds_toArray, List.set_cons_zero, List.set_cons_succ]
              refine wpL_q 6 ?_ rfl (Or.inl ⟨by rfl, fun w_ hS_ => ?_⟩) (marks 13 127) ?_
              rotate_left
              next => (go_simp; try (first | rfl | exact (Bool.not_not _).symm))
              try simp only [Act.put, List.setIfInBounds_toArray, List.set_cons_zero, List.set_cons_succ]
              refine wpL_q 9 ?_ rfl (Or.inl ⟨by rfl, fun w_ hS_ => ?_⟩) (marks 13 639) ?_
              rotate_left
              next => (go_simp; try (first | rfl | exact (Bool.not_not _).symm))
              try simp only [Act.put, List.setIfInBounds_toArray, List.set_cons_zero, List.set_cons_succ]
              refine wpL_m 10 ?_ rfl (.tail _ (.tail _ (.head _))) (Or.inl ⟨by rfl, fun w_ hS_ => ?_⟩) (marks 13 1663) ?_
              rotate_left
              next => (dsimp only at hS_; (try have q0 := Sep.Holds.cells hS_ (i := 0) rfl); (try have q1 := Sep.Holds.cells hS_ (i := 1) rfl); (try have q2 := Sep.Holds.cells hS_ (i := 2) rfl); (try have q3 := Sep.Holds.cells hS_ (i := 3) rfl); (try have q4 := Sep.Holds.cells hS_ (i := 4) rfl); (try have q5 := Sep.Holds.cells hS_ (i := 5) rfl); (try have q6 := Sep.Holds.cells hS_ (i := 6) rfl); go_simp; try (first | rfl | exact (Bool.not_not _).symm))
              try simp only [Act.put, List.setIfInBounds_toArray, List.set_cons_zero, List.set_cons_succ]
              refine wpL_o 7 rfl (by rfl) (marks 13 1791) ?_
              (refine wp_buildSlice [.int .u8 (x.d % 256), .int .u8 (x.a % 256)] rfl hw (by decide) (by go_simp; exact ⟨IntKind.wrap_u8 _, IntKind.wrap_u8 _⟩) rfl ?_; intro b3_ w_ hw_; clear hw; have hw := hw_; clear hw_; (try simp only [List.map_cons, List.map_nil, List.getD_cons_zero, List.getD_cons_succ, List.getD_nil, List.set_cons_zero, List.set_cons_succ, List.cons_append, List.nil_append, Act.eval, Array.getD_eq_getD_getElem?, List.getElem?_toArray, List.getElem?_cons_succ, List.getElem?_cons_zero, Option.getD_some, Value.cells] at hw); (try simp (disch := first | (simp; done) | (simp; omega)) only [Sep.mid_set, Sep.mid_set2, Sep.mid_set0, Sep.mid_splice, Sep.mid_splice0, List.set_cons_zero, List.set_cons_succ] at hw); (try simp only [Sep.splice, List.take_succ_cons, List.take_zero, List.drop_succ_cons, List.drop_zero, List.length_cons, List.length_nil, Nat.reduceAdd, List.cons_append, List.nil_append] at hw); (try replace hc0 := Sep.Holds.cells hw (i := 0) rfl); (try replace hc1 := Sep.Holds.cells hw (i := 1) rfl); (try replace hc2 := Sep.Holds.cells hw (i := 2) rfl); (try replace hc3 := Sep.Holds.cells hw (i := 3) rfl); (try replace hc4 := Sep.Holds.cells hw (i := 4) rfl); (try replace hc5 := Sep.Holds.cells hw (i := 5) rfl); (try replace hc6 := Sep.Holds.cells hw (i := 6) rfl))
              refine ⟨(SL.drop 7 (by kernel_rfl) (SL.drop 7 (by kernel_rfl) (SL.keep (by exact hw.sel [3] (by decide)) SL.nil))), ?_⟩
              try simp only [Act.put, List.setIfInBounds_toArray, List.set_cons_zero, List.set_cons_succ]
              refine wpL_o 8 rfl (by rfl) (marks 13 2047) ?_
              (refine wp_appendPt (i := 2) (j := 4) rfl rfl hw rfl rfl rfl (by rfl) (by simp [Value.oneCell']) (by decide) (by rfl) (by (try unfold maxLen); omega) (by (try unfold maxLen); omega) ?_; intro b2_ cap2_ off2_ w_ hcap2_ hw_; clear hw; have hw := hw_; clear hw_; (try simp only [List.map_cons, List.map_nil, List.getD_cons_zero, List.getD_cons_succ, List.getD_nil, List.set_cons_zero, List.set_cons_succ, List.cons_append, List.nil_append, Act.eval, Array.getD_eq_getD_getElem?, List.getElem?_toArray, List.getElem?_cons_succ, List.getElem?_cons_zero, Option.getD_some, Value.cells] at hw); (try simp (disch := first | (simp; done) | (simp; omega)) only [Sep.mid_set, Sep.mid_set2, Sep.mid_set0, Sep.mid_splice, Sep.mid_splice0, List.set_cons_zero, List.set_cons_succ] at hw); (try simp only [Sep.splice, List.take_succ_cons, List.take_zero, List.drop_succ_cons, List.drop_zero, List.length_cons, List.length_nil, Nat.reduceAdd, List.cons_append, List.nil_append] at hw); (try replace hc0 := Sep.Holds.cells hw (i := 0) rfl); (try replace hc1 := Sep.Holds.cells hw (i := 1) rfl); (try replace hc2 := Sep.Holds.cells hw (i := 2) rfl); (try replace hc3 := Sep.Holds.cells hw (i := 3) rfl); (try replace hc4 := Sep.Holds.cells hw (i := 4) rfl); (try replace hc5 := Sep.Holds.cells hw (i := 5) rfl); (try replace hc6 := Sep.Holds.cells hw (i := 6) rfl))
              refine ⟨(SL.drop 7 (by kernel_rfl) (SL.drop 7 (by kernel_rfl) (SL.keep (by exact hw.sel [3] (by decide)) SL.nil))), ?_⟩
              try simp only [Act.put, List.setIfInBounds_toArray, List.set_cons_zero, List.set_cons_succ]
              refine wpL_o 11 rfl (by rfl) (marks 13 4095) ?_
              (go_simp; go_at_call 20; refine (oEight _ _ _ x.n (by omega) e _ _ (hw.focus1 2 rfl)).mono ?_; rintro _ w_ ⟨v, rfl, hw_⟩; clear hw; have hw := Holds.unfocus1 2 (by simp) hw_; clear hw_; (try simp only [List.map_cons, List.map_nil, List.getD_cons_zero, List.getD_cons_succ, List.getD_nil, List.set_cons_zero, List.set_cons_succ, List.cons_append, List.nil_append, Act.eval, Array.getD_eq_getD_getElem?, List.getElem?_toArray, List.getElem?_cons_succ, List.getElem?_cons_zero, Option.getD_some, Value.cells] at hw); (try simp (disch := first | (simp; done) | (simp; omega)) only [Sep.mid_set, Sep.mid_set2, Sep.mid_set0, Sep.mid_splice, Sep.mid_splice0, List.set_cons_zero, List.set_cons_succ] at hw); (try simp only [Sep.splice, List.take_succ_cons, List.take_zero, List.drop_succ_cons, List.drop_zero, List.length_cons, List.length_nil, Nat.reduceAdd, List.cons_append, List.nil_append] at hw))
              refine ⟨(SL.drop 7 (by kernel_rfl) (SL.drop 7 (by kernel_rfl) (SL.drop 11 (by kernel_rfl) SL.nil))), ?_⟩
              try simp only [Act.put, List.setIfInBounds_toArray, List.set_cons_zero, List.set_cons_succ]
              refine wpL_q 12 ?_ rfl (Or.inl ⟨by rfl, fun w_ hS_ => ?_⟩) (marks 13 8191) ?_
              rotate_left
              next => (go_simp; try (first | rfl | exact (Bool.not_not _).symm))
              try simp only [Act.put, List.setIfInBounds_toArray, List.set_cons_zero, List.set_cons_succ]
              all_goals refine wpL_done (by kernel_rfl) ?_ _
              (try clear hc0); (try clear hc1); (try clear hc2); (try clear hc3); (try clear hc4); (try clear hc5); (try clear hc6)
              have hw := hw.sel [0, 1, 2] (by decide)
              (try simp only [List.map_cons, List.map_nil, List.getD_cons_zero, List.getD_cons_succ, List.getD_nil, List.set_cons_zero, List.set_cons_succ, List.cons_append, List.nil_append, Act.eval, Array.getD_eq_getD_getElem?, List.getElem?_toArray, List.getElem?_cons_succ, List.getElem?_cons_zero, Option.getD_some, Value.cells] at hw); (try simp (disch := first | (simp; done) | (simp; omega)) only [Sep.mid_set, Sep.mid_set2, Sep.mid_set0, Sep.mid_splice, Sep.mid_splice0, List.set_cons_zero, List.set_cons_succ] at hw); (try simp only [Sep.splice, List.take_succ_cons, List.take_zero, List.drop_succ_cons, List.drop_zero, List.length_cons, List.length_nil, Nat.reduceAdd, List.cons_append, List.nil_append] at hw)
              go_wp2_with fail
              go_roundw
              case rel =>
                refine ⟨k + 1, m2 + 2 + 8, c2 ++ encItm x, by omega, by go_num, by omega, Sep.hid (by rw [Hc3.out, flatB_snoc Hx.out, List.append_assoc]), Sep.hid (by rw [List.length_append, Hcl2.out, encItm_len]), ?_⟩
                rw [encB_append, show encB (encItm x) = [.int .u8 (x.d % 256), .int .u8 (x.a % 256)] ++ encB (be8 x.n) from rfl, ← List.append_assoc]
                exact hw
              case measure => simp [intOf]; omega
            · have hke : ni = k := by omega
              subst hke
              have Hd : Hid (c2 = bytesS s) := Sep.hid (by
                rw [Hc3.out, Hc2.out, List.take_of_length_le (by rw [Hni.out]; exact Nat.le_refl _)]
                unfold bytesS
                rw [Hnp.out, show (np : Int) % 256 = np by omega]
                simp only [List.append_assoc, List.cons_append, List.nil_append])
              go_wp2_with fail
              refine HP.out _ _ ⟨_, rfl, ?_⟩
              unfold IsB
              rw [← Hd.out, Hcl2.out]
              exact hw.sel [0, 2] (by decide)
end Go.Proofs.YteinbojpmhblkaaDoor
