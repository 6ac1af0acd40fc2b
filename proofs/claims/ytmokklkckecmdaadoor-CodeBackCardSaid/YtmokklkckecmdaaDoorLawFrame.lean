/-
  The frame of a law's proof: the arguments read behind the call as they read before it.
-/
import Derived.Test.YtmokklkckecmdaaDoorFlat
namespace Go.Sep
set_option linter.unusedSimpArgs false
set_option linter.unusedVariables false
open Go.RowKit Go.ChangeShapes Go.WideShapes

theorem trodAll_below {H : Type} {enc : TypeId × Value → H} {P : Program} (hl : laidOutB P = true) {W W' : World} (hb : Below W.heap.size W W') : ∀ (ts : List TypeId) (vs : List Value) (ds : List (DataW H)) (ps : List MemPlace),
    (∀ t ∈ ts, P.readableRec t = true ∧ t < P.types.size) → DataW.TrodAll enc P W 0 (fun _ => true) true ts vs ds ps → (∀ x ∈ ps, x.block < W.heap.size) →
    DataW.TrodAll enc P W' 0 (fun b => decide (b < W.heap.size)) true ts vs ds ps
  | [], vs, ds, ps, _, h, _ => by
    obtain ⟨rfl, rfl, rfl⟩ := trodAll_nil h
    exact trodAll_mk0
  | t :: ts, vs, ds, ps, hr, h, hp => by
    obtain ⟨v, vs', d, ds', p, q, rfl, rfl, rfl, h0, h1⟩ := trodAll_cons h
    exact trodAll_cons_mk (Below.trod hl (hr t (by simp)).1 (hr t (by simp)).2 h0 hb (fun x hx => hp x (by simp [hx])))
      (trodAll_below hl hb ts vs' ds' q (fun t' ht' => hr t' (by simp [ht'])) h1 (fun x hx => hp x (by simp [hx])))

section
variable {P : Program} {ops : Array Oper} {Q : Exit → Act → World → Prop} {K : Act → World → Prop} {a : Act} {e w : World} {rest : List Oper} {o : Oper} {L : List HProp}
/-- A struct is read out of what was there when the law began. -/
theorem wp_loadOld {T : TypeId} {x : Operand} {z : Value} {n k i : Nat} {ad : Addr} {vs : List Value} [ti : TI P T z n k] [ag : Agg P T] (ho : o.op = .load T x) (hx : a.eval x = .pointer (some ad))
    (hw : Holds e w L) (hi : L[i]? = some (Old e)) (hl : vs.length = n) (hv : ∀ j v, vs[j]? = some v → e.cell? (ad.add j) = some v)
    (h : K (a.put o.dst (.agg vs.toArray)) w) : o.wp P a w K Q := by
  have hrun : (loadCells ad vs.length).run P w = .ok vs.toArray w :=
    run_loadCells_list (P := P) w ad vs (fun j v hj => by
      have h1 := hv j v hj
      rw [(hw.below hi).cell (World.block_lt_of_cell? e _ h1)]; exact h1)
  rw [hl] at hrun
  unfold Oper.wp execOp
  simp only [ho, hx, Instr.loadAt, Instr.sureAddr, loadVar, Sem.run_bind, Sem.run_pure, Result.andThen_ok, ag.run, if_true, ti.sizeOf_run, hrun]
  exact h
/-- The region in which an act is read into a variable of its own. -/
theorem wpList_act {t T : TypeId} {o0 o1 o2 o3 : Oper} {z : Value} {n k i len cap q : Nat} {ad : Addr} {vs : List Value} {x y x1 x3 y3 : Operand} (ti : TI P T z n k) (ag : Agg P T) (st : SlT P t T)
    (hx : a.eval x = .slice (some ad) len cap) (hy : a.eval y = .int .i64 (q : Int)) (hq : q < len)
    (hw : Holds e w L) (hi : L[i]? = some (Old e)) (hl : vs.length = n) (hz : z.cells.toList.length = n) (hone : ∀ v ∈ vs, v.oneCell' = true)
    (hv : ∀ j v, vs[j]? = some v → e.cell? ((ad.add (q * n)).add j) = some v)
    (h0 : o0.op = .indexAddr t x y) (g0 : Region.wanted o0 (yielded ops a.tmps) = true)
    (h1 : o1.op = .load T x1) (g1 : Region.wanted o1 (yielded ops (a.put o0.dst (.pointer (some (ad.add (q * n))))).tmps) = true)
    (e1 : (a.put o0.dst (.pointer (some (ad.add (q * n))))).eval x1 = .pointer (some (ad.add (q * n))))
    (h2 : o2.op = .alloc T) (g2 : Region.wanted o2 (yielded ops ((a.put o0.dst (.pointer (some (ad.add (q * n))))).put o1.dst (.agg vs.toArray)).tmps) = true)
    (h3 : o3.op = .store T x3 y3) (g3 : ∀ b, Region.wanted o3 (yielded ops (((a.put o0.dst (.pointer (some (ad.add (q * n))))).put o1.dst (.agg vs.toArray)).put o2.dst (.pointer (some ⟨b, 0, none⟩))).tmps) = true)
    (hx3 : ∀ b, (((a.put o0.dst (.pointer (some (ad.add (q * n))))).put o1.dst (.agg vs.toArray)).put o2.dst (.pointer (some ⟨b, 0, none⟩))).eval x3 = .pointer (some ⟨b, 0, none⟩))
    (hy3 : ∀ b, (((a.put o0.dst (.pointer (some (ad.add (q * n))))).put o1.dst (.agg vs.toArray)).put o2.dst (.pointer (some ⟨b, 0, none⟩))).eval y3 = .agg vs.toArray)
    (h : ∀ b w', Holds e w' (L ++ [pt b vs T]) → Q .normal ((((a.put o0.dst (.pointer (some (ad.add (q * n))))).put o1.dst (.agg vs.toArray)).put o2.dst (.pointer (some ⟨b, 0, none⟩))).put o3.dst undef) w') :
    wpList P ops Q [o0, o1, o2, o3] a w := by
  have hel : P.elem t = T := by simp [Program.elem, st.out]
  refine wpList_on g0 ?_
  unfold Oper.wp execOp
  have hr : (Instr.indexAt t (.slice (some ad) len cap) (.int .i64 (q : Int))).run P w = .ok (.pointer (some (ad.add (q * n)))) w := by
    rw [run_indexAt_slice (P := P) w t ad len cap .i64 q (by rw [hel]; exact st.out), if_pos (by omega), hel, ti.sizeOf_run]
    simp
  simp only [h0, hx, hy, Sem.run_bind, Sem.run_pure, hr, Result.andThen_ok]
  refine wpList_on g1 (wp_loadOld h1 e1 hw hi hl hv ?_)
  refine wpList_on g2 (wp_alloc h2 hw ?_)
  intro b w1 hw1
  refine wpList_on (g3 b) (wp_storeAll (vs := vs) (t := T) (ti := ti) h3 (hx3 b) (by rw [hy3 b]; rfl) hw1 (i := L.length) (by simp) hl hz hone ?_)
  intro w2 hw2
  unfold wpList
  refine h b w2 ?_
  simpa using hw2
end

theorem fitsK_nil {cs : List Value} (h : fitsK cs []) : cs = [] := by
  cases cs with
  | nil => rfl
  | cons c cs => exact h.elim
theorem fitsK_cons {cs : List Value} {k : IntKind} {ks : List (Option IntKind)} (h : fitsK cs (some k :: ks)) : ∃ z cs', cs = .int k z :: cs' ∧ (Lit.int k z).wf = true ∧ fitsK cs' ks := by
  cases cs with
  | nil => exact h.elim
  | cons c cs => obtain ⟨⟨z, rfl, hz⟩, h⟩ := h; exact ⟨z, cs, rfl, hz, h⟩
theorem fitsK_consB {cs : List Value} {ks : List (Option IntKind)} (h : fitsK cs (none :: ks)) : ∃ z cs', cs = .bool z :: cs' ∧ fitsK cs' ks := by
  cases cs with
  | nil => exact h.elim
  | cons c cs => obtain ⟨⟨z, rfl⟩, h⟩ := h; exact ⟨z, cs, rfl, h⟩
theorem exists_list {α : Type} {R : Nat → α → Prop} (len : Nat) (h : ∀ i, i < len → ∃ d, R i d) : ∃ l : List α, l.length = len ∧ ∀ i d, l[i]? = some d → R i d := by
  induction len with
  | zero => exact ⟨[], rfl, fun i d hd => by simp at hd⟩
  | succ n ih =>
    obtain ⟨l, hl, hR⟩ := ih (fun i hi => h i (by omega))
    obtain ⟨d, hd⟩ := h n (by omega)
    refine ⟨l ++ [d], by simp [hl], fun i x hx => ?_⟩
    by_cases hi : i < n
    · rw [List.getElem?_append_left (by omega)] at hx; exact hR i x hx
    · rw [List.getElem?_append_right (by omega)] at hx
      have : i = n := by
        have h1 := (List.getElem?_eq_some_iff.1 hx).1
        simp at h1; omega
      subst this
      rw [hl] at hx; simp at hx; subst hx; exact hd

/-- A law that answers true and has left what was there as it was. -/
theorem law_true {H : Type} {enc : TypeId × Value → H} {P : Program} {f : Func} {s : ChangeSpec} {W W' : World} {args : Array Value} {ds gs : List (DataW H)} {before : List MemPlace} {tb : TypeId}
    (hl : laidOutB P = true) (hts : ∀ t ∈ f.params.toList, P.readableRec t = true ∧ t < P.types.size) (hvars : s.vars = []) (hres : f.resultTypes = #[tb]) (htb : P.underlying tb = some .bool)
    (hfn : s.fn H (ds ++ gs) = { results := [.lit (.bool true)], args := ds }) (hW : DataW.Whole enc P f.params.toList s.vars false W args.toList ds gs before) (hb : Below W.heap.size W W') :
    s.post enc P f false true false false W args (.bool true) W' := by
  have hW' := hW
  obtain ⟨p, q, hA, hV, rfl, _, _⟩ := hW
  rw [hvars] at hV
  obtain ⟨rfl, rfl⟩ := trodVars_none hV
  refine ⟨ds, [], _, [], p, [], hW', ?_, ?_, ?_, hb.frame _, fun h => by cases h⟩
  · rw [hres, hfn]; exact trodAll_mk1 (shut_bool htb _)
  · rw [hfn]; exact trodAll_below hl hb _ _ _ _ hts hA (fun x hx => hW'.lt x (by simp [hx]))
  · rw [hfn, hvars]; rfl
end Go.Sep
