/-
  Parts of slices: 'xs[:k]', 'xs[l:]' as values alone; append of a part of what is held elsewhere.
-/
import Derived.Test.YtmokklkckecmdaaDoorSepMore
import Derived.Test.YtmokklkckecmdaaDoorSepRet
import Derived.Test.YtmokklkckecmdaaDoorSepRead
namespace Go.Sep
set_option linter.unusedSimpArgs false
set_option linter.unusedVariables false
variable {P : Program} {ops : Array Oper} {Q : Exit → Act → World → Prop} {K : Act → World → Prop} {a : Act} {e w : World} {rest : List Oper} {o : Oper} {L : List HProp}

/-- 'xs[:k]', as a value. -/
theorem run_sliceTo {t E : TypeId} {z : Value} {sz kb : Nat} {x hi : Operand} [st : SlT P t E] [ti : TI P E z sz kb] {n k cap : Nat} {ao : Option Addr}
    (ho : o.op = .slice t x none (some hi) none) (hx : a.eval x = .slice ao n cap) (hh : a.eval hi = .int .i64 (k : Int)) (hk : k ≤ cap) :
    (execOp a.eval o).run P w = .ok (.value (.slice ao k cap)) w := by
  have hel : P.elem t = E := by simp [Program.elem, st.out]
  have run : (Instr.sliceAt t (.slice ao n cap) none (some (.int .i64 (k : Int))) none).run P w = .ok (.slice ao k cap) w := by
    rw [run_sliceAt_slice (P := P) w t _ _ _ _ (by rw [hel]; exact st.out), run_slice_h (P := P) w t ao n cap (by rw [hel]; exact st.out) .i64 k (by omega) (by omega), hel, ti.sizeOf_run]
    simp only [Result.andThen_ok, Int.toNat_natCast]
    congr 1
    unfold sliced
    cases ao with
    | none => simp
    | some ad =>
      by_cases hc : cap = 0
      · subst hc; obtain rfl : k = 0 := by omega
        simp
      · have h0 : ad.add 0 = ad := by unfold Addr.add; split <;> simp_all
        simp [hc, h0]
  unfold execOp
  simp only [ho, hx, hh, Option.map_some, Option.map_none, Sem.run_bind, Sem.run_pure, run, Result.andThen_ok]
/-- 'xs[l:]', as a value. -/
theorem run_sliceFrom {t E : TypeId} {z : Value} {sz kb : Nat} {x lo : Operand} [st : SlT P t E] [ti : TI P E z sz kb] {n l cap : Nat} {ao : Option Addr}
    (ho : o.op = .slice t x (some lo) none none) (hx : a.eval x = .slice ao n cap) (hlo : a.eval lo = .int .i64 (l : Int)) (hl : l ≤ n) :
    (execOp a.eval o).run P w = .ok (.value (sliced ao l n cap sz)) w := by
  have hel : P.elem t = E := by simp [Program.elem, st.out]
  have run : (Instr.sliceAt t (.slice ao n cap) (some (.int .i64 (l : Int))) none none).run P w = .ok (sliced ao l n cap sz) w := by
    rw [run_sliceAt_slice (P := P) w t _ _ _ _ (by rw [hel]; exact st.out), run_slice_l (P := P) w t ao n cap (by rw [hel]; exact st.out) .i64 l (by omega) (by omega), hel, ti.sizeOf_run]
    simp
  unfold execOp
  simp only [ho, hx, hlo, Option.map_some, Option.map_none, Sem.run_bind, Sem.run_pure, run, Result.andThen_ok]
theorem sliced_from {b off l n cap sz : Nat} (h1 : l < n) (h2 : n ≤ cap) : sliced (some ⟨b, off, none⟩) l n cap sz = .slice (some ⟨b, off + l * sz, none⟩) (n - l) (cap - l) := by
  have hadd : (⟨b, off, none⟩ : Addr).add (l * sz) = ⟨b, off + l * sz, none⟩ := by unfold Addr.add; split <;> simp_all
  have hne : ¬ cap = l := by omega
  simp [sliced, hne, hadd]
theorem sliced_end {ao : Option Addr} {n cap sz : Nat} : ∃ a' c', sliced ao n n cap sz = .slice a' 0 c' := by
  cases ao with
  | none => exact ⟨none, cap - n, by simp [sliced]⟩
  | some ad =>
    by_cases h : cap = n
    · exact ⟨some ad, 0, by simp [sliced, h]⟩
    · exact ⟨some (ad.add (n * sz)), cap - n, by simp [sliced, h]⟩
/-- What stands in a part of a slice that is held. -/
theorem Holds.part {b off j N cap sz T k m : Nat} {all : List Value} (hw : Holds e w L) (hj : L[j]? = some (Sl T sz (.slice (some ⟨b, off, none⟩) N cap) N all)) (hkm : k + m ≤ N) :
    ∀ (q : Nat) (y : Value), ((all.drop (k * sz)).take (m * sz))[q]? = some y → w.cell? ((⟨b, off + k * sz, none⟩ : Addr).add q) = some y := by
  intro q y hq
  have hln : all.length = N * sz := hw.fact hj (fun _ h => h.1)
  rcases hw.openSl hj with ⟨h2, _⟩ | ⟨b', cap', pre, post, hv, g1, g2, g3, hw'⟩
  · cases h2
  · cases hv
    have hjl : j < L.length := (List.getElem?_eq_some_iff.1 hj).1
    have hadd : (⟨b, pre.length + k * sz, none⟩ : Addr).add q = ⟨b, pre.length + (k * sz + q), none⟩ := by unfold Addr.add; split <;> simp_all [Nat.add_assoc]
    rw [hadd, hw'.cells (List.getElem?_set_self hjl)]
    have hlt := (List.getElem?_eq_some_iff.1 hq).1
    rw [List.length_take, List.length_drop] at hlt
    rw [Sep.mid_get _ _ _ _ (by omega)]
    rw [List.getElem?_take, if_pos (by omega), List.getElem?_drop] at hq
    exact hq
/-- What 'xs[:k]' lets read. -/
theorem Holds.rdTo {b off j N cap sz T k : Nat} {all : List Value} (hw : Holds e w L) (hj : L[j]? = some (Sl T sz (.slice (some ⟨b, off, none⟩) N cap) N all)) (hk : k ≤ N) :
    (0 < k ∧ ∃ ad c, Value.slice (some ⟨b, off, none⟩) k cap = .slice (some ad) k c ∧ ∀ (q : Nat) (y : Value), (all.take (k * sz))[q]? = some y → w.cell? (ad.add q) = some y) ∨ (k = 0 ∧ ∃ ao c, Value.slice (some ⟨b, off, none⟩) k cap = .slice ao 0 c) := by
  by_cases h0 : k = 0
  · subst h0; exact .inr ⟨rfl, _, _, rfl⟩
  · refine .inl ⟨by omega, _, _, rfl, fun q y hq => ?_⟩
    have := hw.part (k := 0) (m := k) hj (by omega) q y (by rw [Nat.zero_mul, List.drop_zero]; exact hq)
    rwa [Nat.zero_mul, Nat.add_zero] at this
/-- What 'xs[k:]' lets read. -/
theorem Holds.rdFrom {b off j N cap sz T k : Nat} {all : List Value} (hw : Holds e w L) (hj : L[j]? = some (Sl T sz (.slice (some ⟨b, off, none⟩) N cap) N all)) (hk : k ≤ N) :
    (0 < N - k ∧ ∃ ad c, sliced (some ⟨b, off, none⟩) k N cap sz = .slice (some ad) (N - k) c ∧ ∀ (q : Nat) (y : Value), (all.drop (k * sz))[q]? = some y → w.cell? (ad.add q) = some y) ∨ (N - k = 0 ∧ ∃ ao c, sliced (some ⟨b, off, none⟩) k N cap sz = .slice ao 0 c) := by
  have hln : all.length = N * sz := hw.fact hj (fun _ h => h.1)
  by_cases h0 : k = N
  · subst h0; exact .inr ⟨by omega, sliced_end⟩
  · have hcap : N ≤ cap := by
      rcases hw.openSl hj with ⟨h2, _⟩ | ⟨b', cap', pre, post, hv, g1, _⟩
      · cases h2
      · cases hv; exact g1
    refine .inl ⟨by omega, _, _, sliced_from (by omega) hcap, fun q y hq => ?_⟩
    refine hw.part (k := k) (m := N - k) hj (by omega) q y ?_
    have hlt := (List.getElem?_eq_some_iff.1 hq).1
    rw [List.length_drop, hln, ← Nat.sub_mul] at hlt
    rw [List.getElem?_take, if_pos hlt]
    exact hq
/-- A row of parts without the one that was taken out. -/
theorem sepL.erase {R : List HProp} {i : Nat} {h : Heap} (H : sepL (R.set i emp) h) : sepL (R.eraseIdx i) h := by
  have h1 := H.sel ((List.range R.length).eraseIdx i) (List.Nodup.sublist (List.eraseIdx_sublist _ _) List.nodup_range)
  have h2 : ((List.range R.length).eraseIdx i).map (fun j => (R.set i emp).getD j emp) = R.eraseIdx i := by
    apply List.ext_getElem?
    intro q
    rw [List.getElem?_map, List.getElem?_eraseIdx, List.getElem?_eraseIdx]
    split
    · rename_i hq
      by_cases hql : q < R.length
      · rw [List.getElem?_range hql, Option.map_some, List.getD_eq_getElem?_getD, List.getElem?_set_ne (by omega), List.getElem?_eq_getElem hql]; rfl
      · rw [List.getElem?_eq_none (by simp; omega), List.getElem?_eq_none (by omega)]; rfl
    · rename_i hq
      by_cases hql : q + 1 < R.length
      · rw [List.getElem?_range hql, Option.map_some, List.getD_eq_getElem?_getD, List.getElem?_set_ne (by omega), List.getElem?_eq_getElem hql]; rfl
      · rw [List.getElem?_eq_none (by simp; omega), List.getElem?_eq_none (by omega)]; rfl
  rw [h2] at h1
  exact h1
theorem Holds.erase {R : List HProp} {i j : Nat} (hw : Holds e w L) (hj : L[j]? = some (sepL (R.set i emp))) : Holds e w (L.set j (sepL (R.eraseIdx i))) := ⟨hw.1, hw.2.imp hj fun _ h => h.erase⟩
/-- append of what can be read. -/
theorem wp_appendRd {t E : TypeId} {z : Value} {sz k : Nat} {s x : Operand} [st : SlT P t E] [ti : TI P E z sz k]
    (ho : o.op = .call { callee := .builtin .append, args := #[s, x], argTypes := #[t, t] }) {i n m : Nat} {v u : Value} {cs news : List Value} (hs : a.eval s = v) (hw : Holds e w L) (hi : L[i]? = some (Sl E sz v n cs))
    (hx : a.eval x = u) (hln : news.length = m * sz) (hu : (0 < m ∧ ∃ ad c, u = .slice (some ad) m c ∧ ∀ (q : Nat) (y : Value), news[q]? = some y → w.cell? (ad.add q) = some y) ∨ (m = 0 ∧ ∃ ao c, u = .slice ao 0 c)) (h1 : ∀ y ∈ news, y.oneCell' = true) (hzs : z.cells.size = sz)
    (h63 : n + m ≤ maxLen) (hbytes : (n + m) * k ≤ 140737488355328)
    (h : ∀ a' cap' w', Holds e w' (L.set i (Sl E sz (.slice a' (n + m) cap') (n + m) (cs ++ news))) → K (a.put o.dst (.slice a' (n + m) cap')) w') : o.wp P a w K Q := by
  have hset : L.set i (Sl E sz v n cs) = L := by
    apply List.ext_getElem?
    intro q
    rw [List.getElem?_set]
    split
    · rename_i e; subst e
      rw [hi]
      have := (List.getElem?_eq_some_iff.1 hi).1
      simp [this]
    · rfl
  rcases hu with ⟨hm, ad, c, rfl, hc⟩ | ⟨rfl, ao, c, rfl⟩
  · exact wp_append ho hs hw hi ad hx hln hc h1 hm hzs h63 hbytes (fun b cap off w' _ hw' => h _ _ w' hw')
  · have hn0 : news = [] := List.eq_nil_of_length_eq_zero (by simpa using hln)
    subst hn0
    obtain ⟨ii, hii, hz0, hz1, hz2⟩ := ti.info
    have hf : (Builtin.firstCells ii.size 0 (.slice ao 0 c)).run P w = .ok #[] w := by
      cases ao with
      | none => rfl
      | some ad => simp [Builtin.firstCells, loadCells, loadCellsFrom]
    have key : ∀ ao' cap', v = .slice ao' n cap' → n ≤ cap' → (Builtin.append_ #[t, t] o.type #[v, .slice ao 0 c]).run P w = .ok (.slice ao' n cap') w := by
      rintro ao' cap' rfl hle
      cases ao' with
      | none => simp [Builtin.append_, run_underlying st.out, sizeOf, typeInfo, hii, Builtin.lenOf, hle, hf]
      | some ad => simp [Builtin.append_, run_underlying st.out, sizeOf, typeInfo, hii, Builtin.lenOf, hle, hf, storeCells]
    have fin : ∀ ao' cap', v = .slice ao' n cap' → n ≤ cap' → o.wp P a w K Q := by
      intro ao' cap' hv hle
      have hr := key ao' cap' hv hle
      unfold Oper.wp execOp
      simp only [ho, resolve, invoke, builtin, Sem.run_bind, Sem.run_pure, Result.andThen_ok, List.map_toArray, List.map_cons, List.map_nil, hs, hx, hr]
      have hh := h ao' cap' w
      simp only [Nat.add_zero, List.append_nil] at hh
      refine hh ?_
      rw [← hv, hset]; exact hw
    rcases hw.openSl hi with ⟨h1, h2, _⟩ | ⟨b, cap, pre, post, h1, h2, _⟩
    · exact fin none 0 (by rw [h1, h2]) (by omega)
    · exact fin _ _ h1 h2
end Go.Sep
