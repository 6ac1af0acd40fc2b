/-
  The walk of Read.
-/
import Derived.Test.YtmokklkckecmdaaDoorCodeK
import Derived.Test.YtmokklkckecmdaaDoorSepDraw
namespace Go.Proofs.YtmokklkckecmdaaDoor
set_option linter.unusedSimpArgs false
set_option linter.unusedVariables false
open Go.RowKit Go.Sep
attribute [local go_sem] Oper.semAt_some

def readL (b : List Int) (n : Nat) : List Deed := (List.range n).map (fun k => insP ((b.drop (1 + k * 11)).take 11))
theorem readL_len (b : List Int) (n : Nat) : (readL b n).length = n := by simp [readL]
theorem readL_snoc (b : List Int) (k : Nat) : readL b (k + 1) = readL b k ++ [insP ((b.drop (1 + k * 11)).take 11)] := by
  unfold readL; rw [List.range_succ, List.map_append]; rfl
def readP (b : List Int) : List Deed × Int × Int :=
  if b.length = 0 then ([], 0, 8)
  else if b.getD 0 0 < 1 ∨ 24 < b.getD 0 0 then ([], 0, 7)
  else if (b.length : Int) < 1 + 11 * b.getD 0 0 then ([], 0, 8)
  else if mayP (readL b (b.getD 0 0).toNat) = true then (readL b (b.getD 0 0).toNat, 1 + 11 * b.getD 0 0, 0) else ([], 0, 1)
theorem RdA.two {e : World} {A B : HProp} {a : Option Addr} {l : List Deed} (h : RdA e B a l) : RdA e (sepL [A, B]) a l := by
  intro w L i hw hi
  exact h w _ L.length (hw.open_ i hi) (by rw [List.getElem?_append_right (by simp)]; simp)
theorem rd_part {e : World} {X : HProp} {p : Addr} {b : List Int} (h : RdB e X (some p) b) (k : Nat) : RdB e X (some ((p.add 1).add (k * 11))) ((b.drop (1 + k * 11)).take 11) := by
  intro w L i hw hi j x hj
  rw [List.getElem?_take] at hj
  split at hj
  · rw [List.getElem?_drop] at hj
    obtain ⟨p2, hp2, hc⟩ := h w L i hw hi _ x hj
    cases hp2
    refine ⟨_, rfl, ?_⟩
    rw [Go.Deep.add_add, Go.Deep.add_add, ← Nat.add_assoc]; exact hc
  · cases hj
theorem run_slice3 {P : Program} {w : World} {o : Oper} {a : Go.Act} {t E : TypeId} {z : Value} {kb : Nat} {x lo hi mx : Operand} [st : SlT P t E] [ti : TI P E z 1 kb] {n h cap : Nat} {p : Addr} {H : Int} (hH : H = (h : Int))
    (ho : o.op = .slice t x (some lo) (some hi) (some mx)) (hx : a.eval x = .slice (some p) n cap) (h1 : a.eval lo = .int .i64 1) (h2 : a.eval hi = .int .i64 H) (h3 : a.eval mx = .int .i64 H) (hh : 1 < h) (hc : h ≤ cap) :
    (execOp a.eval o).run P w = .ok (.value (.slice (some (p.add 1)) (h - 1) (h - 1))) w := by
  subst hH
  have hel : P.elem t = E := by simp [Program.elem, st.out]
  have run : (Instr.sliceAt t (.slice (some p) n cap) (some (.int .i64 1)) (some (.int .i64 (h : Int))) (some (.int .i64 (h : Int)))).run P w = .ok (.slice (some (p.add 1)) (h - 1) (h - 1)) w := by
    rw [run_sliceAt_slice (P := P) w t _ _ _ _ (by rw [hel]; exact st.out), run_slice_lhm (P := P) w t (some p) n cap (by rw [hel]; exact st.out) .i64 .i64 .i64 1 h h (by omega) (by omega) (by omega) (by omega), hel, ti.sizeOf_run]
    have hne : ¬ h = 1 := by omega
    simp [sliced, hne]
  unfold execOp
  simp only [ho, hx, h1, h2, h3, Option.map_some, Option.map_none, Sem.run_bind, Sem.run_pure, run, Result.andThen_ok]
structure Gv where
  v : Value
set_option maxRecDepth 20000 in
set_option maxHeartbeats 8000000 in
theorem oRead (b : List Int) (n ca : Nat) (a : Option Addr) (hn : Hid (b.length = n)) (hca : n ≤ ca) (hb : Bys b) (e w : World) (X : HProp) (hT : Tops e X) (hR : RdB e X a b) (hw : Holds e w [X]) :
    Calls Tryd.prog 10 #[.slice a n ca] w fun en w' => ∃ v, en = .returned (.tuple #[v, .int .i64 (readP b).2.1, .int .i64 (readP b).2.2]) ∧ Holds e w' [X, IsAs 23 v (readP b).1] := by
  have HR := Sep.hid hR; clear hR
  have HT := Sep.hid hT; clear hT
  have Hb := Sep.hid hb; clear hb
  by_cases h0 : n = 0
  · have hp : readP b = ([], 0, 8) := by unfold readP; rw [if_pos (by rw [hn.out]; exact h0)]
    rw [hp]; clear hp
    subst h0
    refine Sep.calls_post ?_
    intro Post_ hPost_
    have HP := Sep.hid hPost_
    clear hPost_
    refine calls_of_wp_marks Tryd.func10 rfl ?_
    simp only [Tryd.ntmps10, List.size_toArray, List.length_cons, List.length_nil, Nat.reduceAdd, Nat.reduceSub, Array.replicate_succ, Array.replicate_zero, List.push_toArray, List.append_toArray, List.nil_append, List.cons_append]
    go_wp2_with fail
    refine ⟨_, results_tmp3 rfl _ _ _, HP.out _ _ ⟨_, rfl, hw.addEmp (X := IsAs 23 (.slice none 0 0) []) (Sl.nil _ _ _)⟩⟩
  obtain ⟨p, rfl⟩ : ∃ p, a = some p := by
    obtain ⟨p, hp, _⟩ := HR.out _ _ 0 hw rfl 0 _ (List.getElem?_eq_getElem (by rw [hn.out]; omega))
    exact ⟨p, hp⟩
  obtain ⟨c, hc⟩ : ∃ c, b.getD 0 0 = c := ⟨_, rfl⟩
  have hcb : b[0]? = some c := by rw [← hc, List.getD_eq_getElem?_getD, List.getElem?_eq_getElem (by rw [hn.out]; omega)]; rfl
  have hc255 := Hb.out c (List.mem_of_getElem? hcb)
  have Hc8 : Hid (IntKind.i64.wrap c = c) := Sep.hid (IntWalk.i64_in _ (by omega))
  have g0 : w.cell? p = some (.int .u8 c) := by
    obtain ⟨p2, hp2, h⟩ := HR.out _ _ 0 hw rfl 0 c hcb
    cases hp2; exact h
  have hcw : wrap64 c = c := IntWalk.wrap64_in _ (by omega)
  by_cases h1 : c < 1
  · have hp : readP b = ([], 0, 7) := by unfold readP; rw [if_neg (by rw [hn.out]; exact h0), if_pos (by rw [hc]; exact .inl h1)]
    rw [hp]; clear hp hcb
    refine Sep.calls_post ?_
    intro Post_ hPost_
    have HP := Sep.hid hPost_
    clear hPost_
    refine calls_of_wp_marks Tryd.func10 rfl ?_
    simp only [Tryd.ntmps10, List.size_toArray, List.length_cons, List.length_nil, Nat.reduceAdd, Nat.reduceSub, Array.replicate_succ, Array.replicate_zero, List.push_toArray, List.append_toArray, List.nil_append, List.cons_append]
    go_wp2_with fail
    refine ⟨_, results_tmp3 rfl _ _ _, HP.out _ _ ⟨_, rfl, hw.addEmp (X := IsAs 23 (.slice none 0 0) []) (Sl.nil _ _ _)⟩⟩
  by_cases h2 : 24 < c
  · have hp : readP b = ([], 0, 7) := by unfold readP; rw [if_neg (by rw [hn.out]; exact h0), if_pos (by rw [hc]; exact .inr h2)]
    rw [hp]; clear hp hcb
    refine Sep.calls_post ?_
    intro Post_ hPost_
    have HP := Sep.hid hPost_
    clear hPost_
    refine calls_of_wp_marks Tryd.func10 rfl ?_
    simp only [Tryd.ntmps10, List.size_toArray, List.length_cons, List.length_nil, Nat.reduceAdd, Nat.reduceSub, Array.replicate_succ, Array.replicate_zero, List.push_toArray, List.append_toArray, List.nil_append, List.cons_append]
    go_wp2_with fail
    refine ⟨_, results_tmp3 rfl _ _ _, HP.out _ _ ⟨_, rfl, hw.addEmp (X := IsAs 23 (.slice none 0 0) []) (Sl.nil _ _ _)⟩⟩
  obtain ⟨m, rfl⟩ : ∃ m : Nat, c = m := ⟨c.toNat, by omega⟩
  have hm1 : 1 ≤ m := by omega
  have hm24 : m ≤ 24 := by omega
  by_cases h3 : (n : Int) < 1 + 11 * m
  · have hp : readP b = ([], 0, 8) := by
      unfold readP
      rw [if_neg (by rw [hn.out]; exact h0), if_neg (by rw [hc]; omega), if_pos (by rw [hc, hn.out]; exact h3)]
    rw [hp]; clear hp hcb
    have h3' : (n : Int) < 1 + (m : Int) * 11 := by omega
    refine Sep.calls_post ?_
    intro Post_ hPost_
    have HP := Sep.hid hPost_
    clear hPost_
    refine calls_of_wp_marks Tryd.func10 rfl ?_
    simp only [Tryd.ntmps10, List.size_toArray, List.length_cons, List.length_nil, Nat.reduceAdd, Nat.reduceSub, Array.replicate_succ, Array.replicate_zero, List.push_toArray, List.append_toArray, List.nil_append, List.cons_append]
    go_wp2_with fail
    refine ⟨_, results_tmp3 rfl _ _ _, HP.out _ _ ⟨_, rfl, hw.addEmp (X := IsAs 23 (.slice none 0 0) []) (Sl.nil _ _ _)⟩⟩
  have h3' : ¬ (n : Int) < 1 + (m : Int) * 11 := by omega
  have Hp : Hid (readP b = if mayP (readL b m) = true then (readL b m, 1 + 11 * (m : Int), 0) else ([], 0, 1)) := Sep.hid (by
    unfold readP
    rw [if_neg (by rw [hn.out]; exact h0), if_neg (by rw [hc]; omega), if_neg (by rw [hc, hn.out]; exact h3), hc]
    rfl)
  have Hlong : Hid ((1 : Int) + (m : Int) * 11 = ((1 + m * 11 : Nat) : Int)) := Sep.hid (by push_cast; rfl)
  have Hl2 : Hid (1 < 1 + m * 11 ∧ 1 + m * 11 ≤ ca) := Sep.hid (by omega)
  clear hcb hc hc255 h0 h3
  refine Sep.calls_post ?_
  intro Post_ hPost_
  have HP := Sep.hid hPost_
  clear hPost_
  refine calls_of_wp_marks Tryd.func10 rfl ?_
  simp only [Tryd.ntmps10, List.size_toArray, List.length_cons, List.length_nil, Nat.reduceAdd, Nat.reduceSub, Array.replicate_succ, Array.replicate_zero, List.push_toArray, List.append_toArray, List.nil_append, List.cons_append]
  go_wp2_with (first | (refine wpList_on rfl (wp_alloc rfl hw ?_); intro b7_ w_ hw_; clear hw; have hw := hw_; clear hw_; (try simp only [List.map_cons, List.map_nil, List.getD_cons_zero, List.getD_cons_succ, List.getD_nil, List.set_cons_zero, List.set_cons_succ, List.cons_append, List.nil_append, Act.eval, Array.getD_eq_getD_getElem?, List.getElem?_toArray, List.getElem?_cons_succ, List.getElem?_cons_zero, Option.getD_some, Value.cells] at hw); (try simp (disch := first | (simp; done) | (simp; omega)) only [Sep.mid_set, Sep.mid_set2, Sep.mid_set0, Sep.mid_splice, Sep.mid_splice0, List.set_cons_zero, List.set_cons_succ] at hw); (try simp only [Sep.splice, List.take_succ_cons, List.take_zero, List.drop_succ_cons, List.drop_zero, List.length_cons, List.length_nil, Nat.reduceAdd, List.cons_append, List.nil_append] at hw); (try replace hc0 := Sep.Holds.cells hw (i := 0) rfl); (try replace hc1 := Sep.Holds.cells hw (i := 1) rfl); (try replace hc2 := Sep.Holds.cells hw (i := 2) rfl); (try replace hc3 := Sep.Holds.cells hw (i := 3) rfl); (try replace hc4 := Sep.Holds.cells hw (i := 4) rfl); (try replace hc5 := Sep.Holds.cells hw (i := 5) rfl); (try replace hc6 := Sep.Holds.cells hw (i := 6) rfl)) | (refine wpList_on rfl (wp_of_run (run_slice3 Hlong.out rfl rfl rfl rfl rfl Hl2.out.1 Hl2.out.2) ?_); (try simp only [Act.put, List.setIfInBounds_toArray, List.set_cons_zero, List.set_cons_succ])))
  refine (oChunk ⟨p.block, p.off + 1, none⟩ (m * 11) (m * 11) e _ _ hw.focus0).mono ?_
  rintro _ w_ ⟨b2, b3, rfl, hw_⟩
  clear hw; (try clear hc0); (try clear hc1); (try clear hc2); (try clear hc3); (try clear hc4); (try clear hc5); (try clear hc6); have hw := Holds.unfocus0 hw_; clear hw_
  (try simp only [List.map_cons, List.map_nil, List.getD_cons_zero, List.getD_cons_succ, List.getD_nil, List.set_cons_zero, List.set_cons_succ, List.cons_append, List.nil_append, Act.eval, Array.getD_eq_getD_getElem?, List.getElem?_toArray, List.getElem?_cons_succ, List.getElem?_cons_zero, Option.getD_some, Value.cells] at hw); (try simp (disch := first | (simp; done) | (simp; omega)) only [Sep.mid_set, Sep.mid_set2, Sep.mid_set0, Sep.mid_splice, Sep.mid_splice0, List.set_cons_zero, List.set_cons_succ] at hw); (try simp only [Sep.splice, List.take_succ_cons, List.take_zero, List.drop_succ_cons, List.drop_zero, List.length_cons, List.length_nil, Nat.reduceAdd, List.cons_append, List.nil_append] at hw)
  go_wp2_with fail
  refine wp_rangeFunc (gf := 31) rfl entersC hw ?_
  intro fn l D rec w1 hrec hw1
  have Hrec := Sep.hid hrec; clear hrec
  clear hw; (try clear hc0); (try clear hc1); (try clear hc2); (try clear hc3); (try clear hc4); (try clear hc5); (try clear hc6)
  have hw1 := (hw1.addEmp (X := IsAs 23 (.slice none 0 0) (readL b 0)) (Sl.nil _ _ _)).sel [2, 3, 0, 1, 6, 4, 5] (by decide)
  simp only [List.map_cons, List.map_nil, List.getD_cons_zero, List.getD_cons_succ, List.cons_append, List.nil_append] at hw1
  have hw1 := exL.mk (f := fun g : Gv => [X, pt b7_ [g.v] 24, IsAs 23 g.v (readL b 0), pto D (.deferred (some [])), pto l (.loop (rec .ready none))]) ⟨.slice none 0 0⟩ (Holds.group [pt b2 [.slice (some ⟨p.block, p.off + 1, none⟩) (m * 11) (m * 11)] 25, pt b3 [.int .i64 11] 3] _ hw1)
  have hw1 := (Holds.ungroup [pt b2 [.slice (some ⟨p.block, p.off + 1, none⟩) (m * 11) (m * 11)] 25, pt b3 [.int .i64 11] 3] [_] hw1).sel [2, 0, 1] (by decide)
  refine (chunk_in b2 b3 l m ⟨p.block, p.off + 1, none⟩ hm24 e (fun k => exL (fun g : Gv => [X, pt b7_ [g.v] 24, IsAs 23 g.v (readL b k), pto D (.deferred (some [])), pto l (.loop (rec .ready none))])) ?_ w1 hw1).mono ?_
  · intro k C w2 hk hw2
    obtain ⟨⟨v⟩, hw2⟩ := hw2.open' (i := 1) rfl
    have hw2 := hw2.open_ 1 rfl
    simp only [List.set_cons_zero, List.set_cons_succ, List.cons_append, List.nil_append] at hw2
    obtain ⟨va, vc, rfl⟩ := Sl.value (i := 3) rfl hw2
    have hw2 : Holds e w2 [C, X, pt b7_ [.slice va (readL b k).length vc] 24, Sl 23 4 (.slice va (readL b k).length vc) (readL b k).length (encAs (readL b k)), pto D (.deferred (some [])), pto l (.loop (rec .ready none))] := hw2
    rw [readL_len] at hw2
    have hk24 : k ≤ 24 := by omega
    have Hin : Hid (∀ e2 w' X2, RdB e2 X2 (some ((p.add 1).add (k * 11))) ((b.drop (1 + k * 11)).take 11) → Holds e2 w' [X2] → Calls Tryd.prog 23 #[.slice (some ((p.add 1).add (k * 11))) 11 11] w' fun en w' => en = .returned (.agg (encA (insP ((b.drop (1 + k * 11)).take 11))).toArray) ∧ Holds e2 w' [X2]) := Sep.hid (fun e2 w' X2 h1 h2 =>
      oInstr _ ((b.drop (1 + k * 11)).take 11) 11 (Sep.hid (by rw [List.length_take, List.length_drop, hn.out]; omega)) (by decide) ((Hb.out.drop _).take _) e2 w' X2 h1 h2)
    have Hrd : Hid (RdB e X (some ((p.add 1).add (k * 11))) ((b.drop (1 + k * 11)).take 11)) := Sep.hid (rd_part HR.out k)
    have Hsn := Sep.hid (readL_snoc b k)
    have he : (p.add 1).add (k * 11) = ⟨p.block, p.off + 1 + k * 11, none⟩ := by unfold Addr.add; split <;> simp_all
    rw [he] at Hin Hrd
    clear he
    generalize hx : insP ((b.drop (1 + k * 11)).take 11) = x at *
    clear hx
    have hA : encA x = [.int .i64 x.f0, .int .i64 x.f1, .int .i64 x.f2, .int .i64 x.f3] := rfl
    refine yield_at Hrec.out hw2 (i := 5) rfl rfl ?_
    clear hw1 hk Hrec
    have hw := hw2; clear hw2
    go_simp
    gi_wp2_with fail
    refine ⟨_, 5, hw, rfl, fun w3 hw3 => ?_⟩
    clear hw
    have hw := hw3; clear hw3
    simp only [List.set_cons_zero, List.set_cons_succ] at hw
    (try replace hc0 := Sep.Holds.cells hw (i := 0) rfl); (try replace hc1 := Sep.Holds.cells hw (i := 1) rfl); (try replace hc2 := Sep.Holds.cells hw (i := 2) rfl); (try replace hc3 := Sep.Holds.cells hw (i := 3) rfl); (try replace hc4 := Sep.Holds.cells hw (i := 4) rfl); (try replace hc5 := Sep.Holds.cells hw (i := 5) rfl); (try replace hc6 := Sep.Holds.cells hw (i := 6) rfl)
    gi_wp2_with fail
    refine wp_region_LIn (by first | exact Wide.round _ | exact Wide.wide) (fun _ _ h => h) (by rfl) [2, 3, 4, 5] [(0, (fun w' => Holds e w' [pt b7_ [.slice va k vc] 24]))] (n := 6) (listed := (marks 6 0)) (by kernel_rfl) rfl (by kernel_rfl) ?conds1 ?_
    case conds1 =>
     intro c hc
     simp only [List.mem_cons, List.not_mem_nil, or_false] at hc
     rcases hc with rfl
     · exact (by replace hw := hw.drew; exact hw.sel [2] (by decide))
    replace hw := hw.drew
    (try replace hc0 := Sep.Holds.cells hw (i := 0) rfl); (try replace hc1 := Sep.Holds.cells hw (i := 1) rfl); (try replace hc2 := Sep.Holds.cells hw (i := 2) rfl); (try replace hc3 := Sep.Holds.cells hw (i := 3) rfl); (try replace hc4 := Sep.Holds.cells hw (i := 4) rfl); (try replace hc5 := Sep.Holds.cells hw (i := 5) rfl); (try replace hc6 := Sep.Holds.cells hw (i := 6) rfl)
    refine wpL_m 0 ?_ rfl (.head _) (Or.inl ⟨by rfl, fun w_ hS_ => ?_⟩) (marks 6 1) ?_
    rotate_left
    next => (dsimp only at hS_; (try have q0 := Sep.Holds.cells hS_ (i := 0) rfl); (try have q1 := Sep.Holds.cells hS_ (i := 1) rfl); (try have q2 := Sep.Holds.cells hS_ (i := 2) rfl); (try have q3 := Sep.Holds.cells hS_ (i := 3) rfl); (try have q4 := Sep.Holds.cells hS_ (i := 4) rfl); (try have q5 := Sep.Holds.cells hS_ (i := 5) rfl); (try have q6 := Sep.Holds.cells hS_ (i := 6) rfl); go_simp; try (first | rfl | exact (Bool.not_not _).symm))
    try simp only [Act.put, List.setIfInBounds_toArray, List.set_cons_zero, List.set_cons_succ]
    refine wpL_q 1 ?_ rfl (Or.inl ⟨by rfl, fun w_ hS_ => ?_⟩) (marks 6 3) ?_
    rotate_left
    next => (go_simp; try (first | rfl | exact (Bool.not_not _).symm))
    try simp only [Act.put, List.setIfInBounds_toArray, List.set_cons_zero, List.set_cons_succ]
    refine wpL_o 2 rfl (by rfl) (marks 6 7) ?_
    (go_simp; go_at_call 23; refine (Hin.out e _ _ Hrd.out.sep (Holds.focus0 (L := [X, C, pt b7_ [.slice va k vc] 24, Sl 23 4 (.slice va k vc) k (encAs (readL b k)), pto D (.deferred (some [])), pto l (.loop (rec .busy none))]) (hw.sel [1, 0, 2, 3, 4, 5] (by decide)))).mono ?_; rintro _ w_ ⟨rfl, hw_⟩; clear hw; have hw := (Holds.unfocus0 hw_).sel [1, 0, 2, 3, 4, 5] (by decide); clear hw_; (try simp only [List.map_cons, List.map_nil, List.getD_cons_zero, List.getD_cons_succ, List.getD_nil, List.set_cons_zero, List.set_cons_succ, List.cons_append, List.nil_append, Act.eval, Array.getD_eq_getD_getElem?, List.getElem?_toArray, List.getElem?_cons_succ, List.getElem?_cons_zero, Option.getD_some, Value.cells] at hw); (try simp (disch := first | (simp; done) | (simp; omega)) only [Sep.mid_set, Sep.mid_set2, Sep.mid_set0, Sep.mid_splice, Sep.mid_splice0, List.set_cons_zero, List.set_cons_succ] at hw); (try simp only [Sep.splice, List.take_succ_cons, List.take_zero, List.drop_succ_cons, List.drop_zero, List.length_cons, List.length_nil, Nat.reduceAdd, List.cons_append, List.nil_append] at hw))
    refine ⟨(SL.keep (by exact hw.sel [2] (by decide)) SL.nil), ?_⟩
    try simp only [Act.put, List.setIfInBounds_toArray, List.set_cons_zero, List.set_cons_succ]
    refine wpL_o 3 rfl (by rfl) (marks 6 15) ?_
    (refine wp_bsl1 (v := .agg (encA x).toArray) rfl rfl (by rfl) (by rfl) (by decide) hw ?_; intro b_ w_ hw_; clear hw; have hw := hw_; clear hw_; (try simp only [List.map_cons, List.map_nil, List.getD_cons_zero, List.getD_cons_succ, List.getD_nil, List.set_cons_zero, List.set_cons_succ, List.cons_append, List.nil_append, Act.eval, Array.getD_eq_getD_getElem?, List.getElem?_toArray, List.getElem?_cons_succ, List.getElem?_cons_zero, Option.getD_some, Value.cells] at hw); (try simp (disch := first | (simp; done) | (simp; omega)) only [Sep.mid_set, Sep.mid_set2, Sep.mid_set0, Sep.mid_splice, Sep.mid_splice0, List.set_cons_zero, List.set_cons_succ] at hw); (try simp only [Sep.splice, List.take_succ_cons, List.take_zero, List.drop_succ_cons, List.drop_zero, List.length_cons, List.length_nil, Nat.reduceAdd, List.cons_append, List.nil_append] at hw); (try replace hc0 := Sep.Holds.cells hw (i := 0) rfl); (try replace hc1 := Sep.Holds.cells hw (i := 1) rfl); (try replace hc2 := Sep.Holds.cells hw (i := 2) rfl); (try replace hc3 := Sep.Holds.cells hw (i := 3) rfl); (try replace hc4 := Sep.Holds.cells hw (i := 4) rfl); (try replace hc5 := Sep.Holds.cells hw (i := 5) rfl); (try replace hc6 := Sep.Holds.cells hw (i := 6) rfl))
    refine ⟨(SL.keep (by exact hw.sel [2] (by decide)) SL.nil), ?_⟩
    try simp only [Act.put, List.setIfInBounds_toArray, List.set_cons_zero, List.set_cons_succ]
    refine wpL_o 4 rfl (by rfl) (marks 6 31) ?_
    (refine wp_appendPt (i := 3) (j := 6) rfl rfl hw rfl rfl rfl (by rfl) (encA_one x) (by decide) (by rfl) (by (try unfold maxLen); omega) (by (try unfold maxLen); omega) ?_; intro b2_ cap2_ off2_ w_ hcap2_ hw_; clear hw; have hw := hw_; clear hw_; (try simp only [List.map_cons, List.map_nil, List.getD_cons_zero, List.getD_cons_succ, List.getD_nil, List.set_cons_zero, List.set_cons_succ, List.cons_append, List.nil_append, Act.eval, Array.getD_eq_getD_getElem?, List.getElem?_toArray, List.getElem?_cons_succ, List.getElem?_cons_zero, Option.getD_some, Value.cells] at hw); (try simp (disch := first | (simp; done) | (simp; omega)) only [Sep.mid_set, Sep.mid_set2, Sep.mid_set0, Sep.mid_splice, Sep.mid_splice0, List.set_cons_zero, List.set_cons_succ] at hw); (try simp only [Sep.splice, List.take_succ_cons, List.take_zero, List.drop_succ_cons, List.drop_zero, List.length_cons, List.length_nil, Nat.reduceAdd, List.cons_append, List.nil_append] at hw); (try replace hc0 := Sep.Holds.cells hw (i := 0) rfl); (try replace hc1 := Sep.Holds.cells hw (i := 1) rfl); (try replace hc2 := Sep.Holds.cells hw (i := 2) rfl); (try replace hc3 := Sep.Holds.cells hw (i := 3) rfl); (try replace hc4 := Sep.Holds.cells hw (i := 4) rfl); (try replace hc5 := Sep.Holds.cells hw (i := 5) rfl); (try replace hc6 := Sep.Holds.cells hw (i := 6) rfl))
    refine ⟨(SL.drop 4 (by kernel_rfl) SL.nil), ?_⟩
    try simp only [Act.put, List.setIfInBounds_toArray, List.set_cons_zero, List.set_cons_succ]
    refine wpL_o 5 rfl (by rfl) (marks 6 63) ?_
    (refine wp_store1 (v := _) rfl rfl rfl hw (i := 2) rfl (by simp [Sep.mid_length, Act.eval, Value.cells]; try omega) rfl ?_; intro w_ hw_; clear hw; have hw := hw_; clear hw_; (try simp only [List.map_cons, List.map_nil, List.getD_cons_zero, List.getD_cons_succ, List.getD_nil, List.set_cons_zero, List.set_cons_succ, List.cons_append, List.nil_append, Act.eval, Array.getD_eq_getD_getElem?, List.getElem?_toArray, List.getElem?_cons_succ, List.getElem?_cons_zero, Option.getD_some, Value.cells] at hw); (try simp (disch := first | (simp; done) | (simp; omega)) only [Sep.mid_set, Sep.mid_set2, Sep.mid_set0, Sep.mid_splice, Sep.mid_splice0, List.set_cons_zero, List.set_cons_succ] at hw); (try simp only [Sep.splice, List.take_succ_cons, List.take_zero, List.drop_succ_cons, List.drop_zero, List.length_cons, List.length_nil, Nat.reduceAdd, List.cons_append, List.nil_append] at hw); (try replace hc0 := Sep.Holds.cells hw (i := 0) rfl); (try replace hc1 := Sep.Holds.cells hw (i := 1) rfl); (try replace hc2 := Sep.Holds.cells hw (i := 2) rfl); (try replace hc3 := Sep.Holds.cells hw (i := 3) rfl); (try replace hc4 := Sep.Holds.cells hw (i := 4) rfl); (try replace hc5 := Sep.Holds.cells hw (i := 5) rfl); (try replace hc6 := Sep.Holds.cells hw (i := 6) rfl))
    refine ⟨(SL.drop 4 (by kernel_rfl) SL.nil), ?_⟩
    try simp only [Act.put, List.setIfInBounds_toArray, List.set_cons_zero, List.set_cons_succ]
    all_goals refine wpL_done (by kernel_rfl) ?_ _
    all_goals (
      show ∃ (L : List HProp) (j : Nat), Holds e _ L ∧ L[j]? = some (pto l (.loop (rec .busy none))) ∧ ∀ w', Holds e w' (L.set j (pto l (.loop (rec .ready none)))) → (Ending.returned (.bool true) = .returned (.bool true) ∧ Holds e w' [C, exL (fun g : Gv => [X, pt b7_ [g.v] 24, IsAs 23 g.v (readL b (k + 1)), pto D (.deferred (some [])), pto l (.loop (rec .ready none))])])
      refine ⟨_, 5, hw, rfl, fun w4 hw4 => ⟨rfl, ?_⟩⟩
      have h := hw4.sel [0, 1, 2, 3, 4, 5] (by decide)
      have hs : IsAs 23 (.slice (some ⟨b2_, off2_, none⟩) (k + 1) cap2_) (readL b (k + 1)) = Sl 23 4 (.slice (some ⟨b2_, off2_, none⟩) (k + 1) cap2_) (k + 1) (encAs (readL b k) ++ encA x) := by
        unfold IsAs; rw [readL_len, Hsn.out, encAs_snoc]
      rw [← hs] at h
      exact exL.mk (f := fun g : Gv => [X, pt b7_ [g.v] 24, IsAs 23 g.v (readL b (k + 1)), pto D (.deferred (some [])), pto l (.loop (rec .ready none))]) ⟨_⟩ h)
  · rintro en_ w3 ⟨⟨u, rfl⟩, hw3⟩
    refine ⟨⟨u, rfl⟩, ?_⟩
    obtain ⟨⟨v⟩, hw3⟩ := hw3.open' (i := 0) rfl
    have hw3 := hw3.open_ 0 rfl
    simp only [List.set_cons_zero, List.set_cons_succ, List.cons_append, List.nil_append] at hw3
    refine ⟨_, 6, .ready, none, hw3, rfl, by simp, fun w4 hw4 => ?_⟩
    dsimp only
    clear hw1 hw3 Hrec
    have hw := hw4; clear hw4
    simp only [List.set_cons_zero, List.set_cons_succ] at hw
    have hw : Holds e w4 [X, pt b2 [.slice (some ⟨p.block, p.off + 1, none⟩) (m * 11) (m * 11)] 25, pt b3 [.int .i64 11] 3, pt b7_ [v] 24, Sl 23 4 v (readL b m).length (encAs (readL b m)), pto D (.deferred (some [])), emp] := hw
    obtain ⟨va, vc, rfl⟩ := Sl.value (i := 4) rfl hw
    have Hlen := Sep.hid (readL_len b m)
    generalize readL b m = l2 at *
    rw [Hlen.out] at hw
    (try replace hc0 := Sep.Holds.cells hw (i := 0) rfl); (try replace hc1 := Sep.Holds.cells hw (i := 1) rfl); (try replace hc2 := Sep.Holds.cells hw (i := 2) rfl); (try replace hc3 := Sep.Holds.cells hw (i := 3) rfl); (try replace hc4 := Sep.Holds.cells hw (i := 4) rfl); (try replace hc5 := Sep.Holds.cells hw (i := 5) rfl); (try replace hc6 := Sep.Holds.cells hw (i := 6) rfl)
    go_wp2_with fail
    refine (oMay l2 m vc va Hlen e _ _ HT.out.sep.sep (RdA.two rdA).sep (Holds.focus0 (Holds.group [X, Sl 23 4 (.slice va m vc) m (encAs l2)] _ (hw.sel [0, 4, 1, 2, 3, 5] (by decide))))).mono ?_
    rintro _ w_ ⟨rfl, hw_⟩
    clear hw; (try clear hc0); (try clear hc1); (try clear hc2); (try clear hc3); (try clear hc4); (try clear hc5); (try clear hc6)
    have hw := Holds.ungroup [_, _] _ (Holds.unfocus0 hw_); clear hw_
    (try simp only [List.map_cons, List.map_nil, List.getD_cons_zero, List.getD_cons_succ, List.getD_nil, List.set_cons_zero, List.set_cons_succ, List.cons_append, List.nil_append, Act.eval, Array.getD_eq_getD_getElem?, List.getElem?_toArray, List.getElem?_cons_succ, List.getElem?_cons_zero, Option.getD_some, Value.cells] at hw); (try simp (disch := first | (simp; done) | (simp; omega)) only [Sep.mid_set, Sep.mid_set2, Sep.mid_set0, Sep.mid_splice, Sep.mid_splice0, List.set_cons_zero, List.set_cons_succ] at hw); (try simp only [Sep.splice, List.take_succ_cons, List.take_zero, List.drop_succ_cons, List.drop_zero, List.length_cons, List.length_nil, Nat.reduceAdd, List.cons_append, List.nil_append] at hw)
    cases hma : mayP l2 with
    | true =>
      have Hp2 : Hid (readP b = (l2, 1 + (m : Int) * 11, 0)) := Sep.hid (by rw [Hp.out, if_pos hma, Int.mul_comm])
      clear Hp; have Hma := Sep.hid hma; clear hma
      (try replace hc0 := Sep.Holds.cells hw (i := 0) rfl); (try replace hc1 := Sep.Holds.cells hw (i := 1) rfl); (try replace hc2 := Sep.Holds.cells hw (i := 2) rfl); (try replace hc3 := Sep.Holds.cells hw (i := 3) rfl); (try replace hc4 := Sep.Holds.cells hw (i := 4) rfl); (try replace hc5 := Sep.Holds.cells hw (i := 5) rfl); (try replace hc6 := Sep.Holds.cells hw (i := 6) rfl)
      go_wp2_with fail
      refine leaves_mark hw (i := 5) rfl (fun w5 hw5 => ⟨_, results_tmp3 rfl _ _ _, HP.out _ _ ⟨.slice va m vc, by rw [Hp2.out]; rfl, ?_⟩⟩)
      rw [Hp2.out]
      unfold IsAs
      rw [Hlen.out]
      exact hw5.sel [0, 1] (by decide)
    | false =>
      have Hp2 : Hid (readP b = ([], 0, 1)) := Sep.hid (by rw [Hp.out, if_neg (by rw [hma]; decide)])
      clear Hp; have Hma := Sep.hid hma; clear hma
      (try replace hc0 := Sep.Holds.cells hw (i := 0) rfl); (try replace hc1 := Sep.Holds.cells hw (i := 1) rfl); (try replace hc2 := Sep.Holds.cells hw (i := 2) rfl); (try replace hc3 := Sep.Holds.cells hw (i := 3) rfl); (try replace hc4 := Sep.Holds.cells hw (i := 4) rfl); (try replace hc5 := Sep.Holds.cells hw (i := 5) rfl); (try replace hc6 := Sep.Holds.cells hw (i := 6) rfl)
      go_wp2_with fail
      refine leaves_mark hw (i := 5) rfl (fun w5 hw5 => ⟨_, results_tmp3 rfl _ _ _, HP.out _ _ ⟨.slice none 0 0, by rw [Hp2.out]; rfl, ?_⟩⟩)
      rw [Hp2.out]
      exact (hw5.sel [0] (by decide)).addEmp (X := IsAs 23 (.slice none 0 0) []) (Sl.nil _ _ _)
end Go.Proofs.YtmokklkckecmdaaDoor
