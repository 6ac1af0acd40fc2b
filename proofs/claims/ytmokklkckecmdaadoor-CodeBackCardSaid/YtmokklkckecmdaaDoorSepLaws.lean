/-
  The laws of single operations over 'Holds': a new block, a load and a store of several cells, append, a call by its contract.
-/
import Derived.Test.YtmokklkckecmdaaDoorSep
namespace Go.Sep
set_option linter.unusedSimpArgs false
set_option linter.unusedVariables false
open Go.RowKit

/-- What a type's row of the table says: its zero value, its cells, its bytes; is it a struct or an array? -/
class TI (P : Program) (t : TypeId) (z : outParam Value) (n : outParam Nat) (k : outParam Nat) : Prop where
  out : (P.info? t).map (fun i => (i.zero, i.size, i.bytes)) = some (some z, n, k)
class Agg (P : Program) (t : TypeId) : Prop where
  out : (match P.underlying t with | some (.struct _) => true | some (.array _ _) => true | _ => false) = true
class Flat (P : Program) (t : TypeId) : Prop where
  out : (match P.underlying t with | some (.struct _) => false | some (.array _ _) => false | some _ => true | none => false) = true
class SlT (P : Program) (t : TypeId) (e : outParam TypeId) : Prop where
  out : P.underlying t = some (.slice e)

section
variable {P : Program} {ops : Array Oper} {Q : Exit → Act → World → Prop} {K : Act → World → Prop} {a : Act} {e w : World} {rest : List Oper} {o : Oper} {L : List HProp}

theorem TI.info {t : TypeId} {z : Value} {n k : Nat} (h : TI P t z n k) : ∃ i, P.info? t = some i ∧ i.zero = some z ∧ i.size = n ∧ i.bytes = k := by
  have := h.out
  cases hi : P.info? t with
  | none => simp [hi] at this
  | some i => simp [hi] at this; exact ⟨i, rfl, this.1, this.2.1, this.2.2⟩

theorem Agg.run {t : TypeId} (h : Agg P t) (w : World) : (isAgg t).run P w = .ok true w := by
  have := h.out
  cases hu : P.underlying t with
  | none => simp [hu] at this
  | some d => cases d <;> simp [hu] at this <;> simp [isAgg, run_underlying hu]
theorem Flat.run {t : TypeId} (h : Flat P t) (w : World) : (isAgg t).run P w = .ok false w := by
  have := h.out
  cases hu : P.underlying t with
  | none => simp [hu] at this
  | some d => cases d <;> simp [hu] at this <;> simp [isAgg, run_underlying hu]
theorem TI.sizeOf_run {t : TypeId} {z : Value} {n k : Nat} (h : TI P t z n k) (w : World) : (sizeOf t).run P w = .ok n w := by
  obtain ⟨i, hi, _, hs, _⟩ := h.info
  simp [sizeOf, typeInfo, hi, hs]
theorem TI.zero_run {t : TypeId} {z : Value} {n k : Nat} (h : TI P t z n k) (w : World) : (zeroValue t).run P w = .ok z w := by
  obtain ⟨i, hi, hz, _⟩ := h.info
  simp [zeroValue, typeInfo, hi, hz]

/-- An operation whose guard lets it run. -/
theorem wpList_on (hwant : Region.wanted o (yielded ops a.tmps) = true) (h : o.wp P a w (wpList P ops Q rest) Q) : wpList P ops Q (o :: rest) a w := by
  unfold wpList
  rw [if_pos hwant]
  exact .inl h

theorem wp_box {T : TypeId} {x : Operand} (ho : o.op = .box T x) (hw : Holds e w L)
    (h : ∀ b w', Holds e w' (L ++ [pt b (a.eval x).cells.toList T]) → K (a.put o.dst (.pointer (some ⟨b, 0, none⟩))) w') : o.wp P a w K Q := by
  unfold Oper.wp execOp
  simp only [ho, Instr.box, newVar, newRow, Sem.run_bind, Sem.run_pure, run_newObj, Result.andThen_ok]
  refine h w.heap.size _ ?_
  have := hw.allocCells (a.eval x).cells.toList T
  simpa using this

theorem wp_alloc {T : TypeId} {z : Value} {n k : Nat} [ti : TI P T z n k] (ho : o.op = .alloc T) (hw : Holds e w L)
    (h : ∀ b w', Holds e w' (L ++ [pt b z.cells.toList T]) → K (a.put o.dst (.pointer (some ⟨b, 0, none⟩))) w') : o.wp P a w K Q := by
  unfold Oper.wp execOp
  simp only [ho, Instr.alloc, newVar, newRow, Sem.run_bind, Sem.run_pure, run_newObj, Result.andThen_ok, ti.zero_run]
  refine h w.heap.size _ ?_
  have := hw.allocCells z.cells.toList T
  simpa using this

/-- A slice literal. -/
theorem wp_buildSlice {t E : TypeId} {z : Value} {n k len : Nat} {parts : Array (Nat × Operand)} [st : SlT P t E] [ti : TI P E z n k] (cells : List Value) (ho : o.op = .buildSlice t len parts) (hw : Holds e w L)
    (hsz : len * n ≤ 16777216)
    (hf : Instr.fill (fun i => some (i * n, n)) ((Array.range (len * n)).map (fun j => z.cells[j % z.cells.size]!)) (parts.map fun x => (x.1, a.eval x.2)).toList = some cells.toArray)
    (hlen : cells.length = len * n)
    (h : ∀ b w', Holds e w' (L ++ [pt b cells E]) → K (a.put o.dst (.slice (some ⟨b, 0, none⟩) len len)) w') : o.wp P a w K Q := by
  unfold Oper.wp execOp
  have h24 : ¬ (len * n > 2 ^ 24) := by omega
  have fin : K (a.put o.dst (.slice (some ⟨w.heap.size, 0, none⟩) len len)) (w.alloc (.cells cells.toArray E)) := h w.heap.size _ (hw.allocCells cells E)
  by_cases h0 : len * n = 0
  · have hr0 : Array.range 0 = #[] := rfl
    simp only [h0, hr0, Array.map_empty] at hf
    simp only [ho, Instr.buildSlice, Sem.run_bind, run_underlying st.out, Result.andThen_ok, ti.sizeOf_run, if_false, h0, if_true, Sem.run_pure, hr0, Array.map_empty, show ¬ ((0 : Nat) > 2 ^ 24) from by omega, hf, newRow, run_newObj]
    exact fin
  · simp only [ho, Instr.buildSlice, Sem.run_bind, run_underlying st.out, Result.andThen_ok, ti.sizeOf_run, h24, if_false, h0, ti.zero_run, Sem.run_pure, hf, newRow, run_newObj]
    exact fin

theorem fill_one (n : Nat) (z : Array Value) (v : Value) (hz : z.size = n) (hv : v.cells.size = n) :
    Instr.fill (fun i => some (i * n, n)) ((Array.range (1 * n)).map (fun j => z[j % z.size]!)) [(0, v)] = some v.cells := by
  have key : ∀ (l : List Value) (pre : Array Value) (post : List Value), post.length = l.length →
      (l.zipIdx pre.size).foldl (fun (cs : Array Value) (x : Value × Nat) => cs.setIfInBounds (0 + x.2) x.1) (pre ++ post.toArray) = pre ++ l.toArray := by
    intro l
    induction l with
    | nil => intro pre post hp; have : post = [] := List.eq_nil_of_length_eq_zero (by simpa using hp); subst this; simp
    | cons x l ih =>
      intro pre post hp
      obtain ⟨p, post, rfl⟩ : ∃ p q, post = p :: q := by cases post with | nil => simp at hp | cons p q => exact ⟨p, q, rfl⟩
      simp only [List.zipIdx_cons, List.foldl_cons]
      have e1 : (pre ++ (p :: post).toArray).setIfInBounds (0 + pre.size) x = (pre.push x) ++ post.toArray := by
        apply Array.ext'
        simp
      rw [e1]
      have := ih (pre.push x) post (by simpa using hp)
      simp only [Array.size_push] at this
      rw [this]
      apply Array.ext'
      simp
  simp only [Instr.fill, hv, ne_eq, not_true, false_or, Nat.zero_mul, Nat.zero_add, Array.size_map, Array.size_range, Nat.one_mul, Nat.lt_irrefl, if_false, gt_iff_lt]
  have h := key v.cells.toList #[] ((Array.range n).map (fun j => z[j % z.size]!)).toList (by simp [hv])
  simp only [Array.size_empty, Array.empty_append, Array.toArray_toList] at h
  refine congrArg some (Eq.trans ?_ h)
  rw [← Array.foldl_toList, Array.toList_zipIdx]
  simp only [Nat.zero_add]

/-- A slice literal of one element. -/
theorem wp_bsl1 {t E : TypeId} {z v : Value} {n k : Nat} {x : Operand} [st : SlT P t E] [ti : TI P E z n k] (ho : o.op = .buildSlice t 1 #[(0, x)]) (hx : a.eval x = v) (hzs : z.cells.size = n) (hv : v.cells.size = n) (hn : n ≤ 16777216) (hw : Holds e w L)
    (h : ∀ b w', Holds e w' (L ++ [pt b v.cells.toList E]) → K (a.put o.dst (.slice (some ⟨b, 0, none⟩) 1 1)) w') : o.wp P a w K Q :=
  wp_buildSlice v.cells.toList ho hw (by omega) (by
    have := fill_one n z.cells v hzs hv
    simpa [hx] using this) (by simp [hv]) h
/-- The empty one. -/
theorem wp_bsl0 {t E : TypeId} {z : Value} {n k : Nat} [st : SlT P t E] [ti : TI P E z n k] (ho : o.op = .buildSlice t 0 #[]) (hw : Holds e w L)
    (h : ∀ b w', Holds e w' (L ++ [pt b [] E]) → K (a.put o.dst (.slice (some ⟨b, 0, none⟩) 0 0)) w') : o.wp P a w K Q :=
  wp_buildSlice [] ho hw (by omega) (by simp [Instr.fill]) (by simp) h

/-- A struct or an array is read whole. -/
theorem wp_loadN {T : TypeId} {x : Operand} {z : Value} {n k b off i : Nat} {cs vs : List Value} {t : TypeId} [ti : TI P T z n k] [ag : Agg P T] (ho : o.op = .load T x) (hx : a.eval x = .pointer (some ⟨b, off, none⟩))
    (hw : Holds e w L) (hi : L[i]? = some (pt b cs t)) (hl : vs.length = n) (hv : ∀ j v, vs[j]? = some v → cs[off + j]? = some v)
    (h : K (a.put o.dst (.agg vs.toArray)) w) : o.wp P a w K Q := by
  have hc := fun k => hw.cells hi k
  have hrun : (loadCells ⟨b, off, none⟩ vs.length).run P w = .ok vs.toArray w :=
    run_loadCells_list (P := P) w ⟨b, off, none⟩ vs (fun j v hj => by
      have hadd : (⟨b, off, none⟩ : Addr).add j = ⟨b, off + j, none⟩ := by unfold Addr.add; split <;> simp_all
      rw [hadd, hc]; exact hv j v hj)
  rw [hl] at hrun
  unfold Oper.wp execOp
  simp only [ho, hx, Instr.loadAt, Instr.sureAddr, loadVar, Sem.run_bind, Sem.run_pure, Result.andThen_ok, ag.run, if_true, ti.sizeOf_run, hrun]
  exact h

theorem wp_load1 {T : TypeId} {x : Operand} {b off i : Nat} {v : Value} {cs : List Value} {t : TypeId} [fl : Flat P T] (ho : o.op = .load T x) (hx : a.eval x = .pointer (some ⟨b, off, none⟩))
    (hw : Holds e w L) (hi : L[i]? = some (pt b cs t)) (hv : cs[off]? = some v)
    (h : K (a.put o.dst v) w) : o.wp P a w K Q := by
  have hc := (hw.cells hi off).trans hv
  unfold Oper.wp execOp
  simp only [ho, hx, Instr.loadAt, Instr.sureAddr, loadVar, Sem.run_bind, Sem.run_pure, Result.andThen_ok, fl.run, Bool.false_eq_true, if_false, run_load, hc]
  exact h

/-- A struct or an array that lies in a block of its own, as a function's result. -/
theorem run_loadVar_block {ty : TypeId} {z : Value} {n k b i : Nat} {cs : List Value} {t : TypeId} [ti : TI P ty z n k] [ag : Agg P ty] (hw : Holds e w L) (hi : L[i]? = some (pt b cs t)) (hl : cs.length = n) :
    (loadVar ty ⟨b, 0, none⟩).run P w = .ok (.agg cs.toArray) w := by
  have hc := fun k => hw.cells hi k
  have hrun : (loadCells ⟨b, 0, none⟩ cs.length).run P w = .ok cs.toArray w :=
    run_loadCells_list (P := P) w ⟨b, 0, none⟩ cs (fun j v hj => by
      have hadd : (⟨b, 0, none⟩ : Addr).add j = ⟨b, j, none⟩ := by unfold Addr.add; split <;> simp_all
      rw [hadd, hc]; exact hj)
  rw [hl] at hrun
  simp only [loadVar, Sem.run_bind, ag.run, Result.andThen_ok, if_true, ti.sizeOf_run, hrun, Sem.run_pure]
theorem res_cell_tmp {fn : Func} {p q : Tmp} {ty : TypeId} {z v : Value} {n k b i : Nat} {cs : List Value} {t : TypeId} {tmps : Array Value} [ti : TI P ty z n k] [ag : Agg P ty] (h : fn.results = #[.cell p ty, .tmp q])
    (hp : tmps.getD p undef = .pointer (some ⟨b, 0, none⟩)) (hq : tmps.getD q undef = v) (hw : Holds e w L) (hi : L[i]? = some (pt b cs t)) (hl : cs.length = n) :
    (results fn tmps).run P w = .ok (.tuple #[.agg cs.toArray, v]) w := by
  have hr := run_loadVar_block (P := P) (ty := ty) hw hi hl
  have hp' : tmps[p]?.getD undef = .pointer (some ⟨b, 0, none⟩) := by simpa using hp
  have hq' : tmps[q]?.getD undef = v := by simpa using hq
  simp [results, h, hp', hq', asAddr, hr]
theorem res_cell {fn : Func} {p : Tmp} {ty : TypeId} {z : Value} {n k b i : Nat} {cs : List Value} {t : TypeId} {tmps : Array Value} [ti : TI P ty z n k] [ag : Agg P ty] (h : fn.results = #[.cell p ty])
    (hp : tmps.getD p undef = .pointer (some ⟨b, 0, none⟩)) (hw : Holds e w L) (hi : L[i]? = some (pt b cs t)) (hl : cs.length = n) :
    (results fn tmps).run P w = .ok (.agg cs.toArray) w := by
  have hr := run_loadVar_block (P := P) (ty := ty) hw hi hl
  have hp' : tmps[p]?.getD undef = .pointer (some ⟨b, 0, none⟩) := by simpa using hp
  simp [results, h, hp', asAddr, hr]

/-- A store of n cells. -/
theorem wp_storeN {T : TypeId} {x y : Operand} {z : Value} {n k b off i : Nat} {cs : List Value} {vs : List Value} {t : TypeId} [ti : TI P T z n k] (ho : o.op = .store T x y) (hx : a.eval x = .pointer (some ⟨b, off, none⟩))
    (hy : (a.eval y).cells.toList = vs) (hw : Holds e w L) (hi : L[i]? = some (pt b cs t)) (hn : vs.length = n) (hfit : off + n ≤ cs.length) (h1 : ∀ v ∈ vs, v.oneCell' = true)
    (h : ∀ w', Holds e w' (L.set i (pt b (splice cs off vs) t)) → K (a.put o.dst undef) w') : o.wp P a w K Q := by
  have hst := run_storeCells_at P b off t vs 0 cs.toArray w (hw.at_ hi) (by simp; omega) h1
  have hsz : (a.eval y).cells.size = n := by rw [← hn, ← hy]; simp
  have hcl : (a.eval y).cells.toList = vs := hy
  unfold Oper.wp execOp
  simp only [ho, hx, Instr.storeAt, Instr.sureAddr, storeVar, Sem.run_bind, Sem.run_pure, Result.andThen_ok, ti.sizeOf_run, hsz, ne_eq, not_true, if_false, hcl, hst]
  refine h _ ?_
  have := hw.setRow (cs' := splice cs off vs) hi
  simpa [splice] using this

/-- A store of several cells that the walk has already begun. -/
theorem upon_storeN {b off i : Nat} {cs : List Value} {vs : List Value} {t : TypeId} (hw : Holds e w L) (hi : L[i]? = some (pt b cs t)) (hfit : off + vs.length ≤ cs.length) (h1 : ∀ v ∈ vs, v.oneCell' = true)
    (h : ∀ w', Holds e w' (L.set i (pt b (splice cs off vs) t)) → K (a.put o.dst undef) w') : o.upon P a K Q ((Sem.run P (storeCells ⟨b, off, none⟩ vs) w).andThen fun _ w' => .ok .skip w') := by
  have hst := run_storeCells_at P b off t vs 0 cs.toArray w (hw.at_ hi) (by simp; omega) h1
  rw [hst]
  refine h _ ?_
  have := hw.setRow (cs' := splice cs off vs) hi
  simpa [splice] using this

theorem wp_storeAll {T : TypeId} {x y : Operand} {z : Value} {n k b i : Nat} {cs : List Value} {vs : List Value} {t : TypeId} [ti : TI P T z n k] (ho : o.op = .store T x y) (hx : a.eval x = .pointer (some ⟨b, 0, none⟩))
    (hy : (a.eval y).cells.toList = vs) (hw : Holds e w L) (hi : L[i]? = some (pt b cs t)) (hn : vs.length = n) (hl : cs.length = n) (h1 : ∀ v ∈ vs, v.oneCell' = true)
    (h : ∀ w', Holds e w' (L.set i (pt b vs t)) → K (a.put o.dst undef) w') : o.wp P a w K Q := by
  refine wp_storeN ho hx hy hw hi hn (by omega) h1 (fun w' hw' => h w' ?_)
  have : splice cs 0 vs = vs := by
    unfold splice
    rw [Nat.zero_add, hn, ← hl, List.drop_length]; simp
  rwa [this] at hw'
theorem wp_store1 {T : TypeId} {x y : Operand} {z v : Value} {k b off i : Nat} {cs : List Value} {t : TypeId} [ti : TI P T z 1 k] (ho : o.op = .store T x y) (hx : a.eval x = .pointer (some ⟨b, off, none⟩))
    (hy : a.eval y = v) (hw : Holds e w L) (hi : L[i]? = some (pt b cs t)) (hfit : off < cs.length) (h1 : v.oneCell' = true)
    (h : ∀ w', Holds e w' (L.set i (pt b (cs.set off v) t)) → K (a.put o.dst undef) w') : o.wp P a w K Q := by
  have hc1 : v.cells = #[v] := by cases v <;> simp [Value.oneCell'] at h1 <;> rfl
  have hcell : w.cell? ⟨b, off, none⟩ = some cs[off] := by rw [hw.cells hi]; simp [hfit]
  have hfro := hw.free hi off
  have hst := run_store P w ⟨b, off, none⟩ v .plain h1
  rw [hcell] at hst
  simp only [hfro, Bool.false_eq_true, if_false] at hst
  have hadd : (⟨b, off, none⟩ : Addr).add 0 = ⟨b, off, none⟩ := rfl
  unfold Oper.wp execOp
  simp only [ho, hx, hy, Instr.storeAt, Instr.sureAddr, storeVar, storeCells, hc1, Sem.run_bind, Sem.run_pure, Result.andThen_ok, ti.sizeOf_run, hst, hadd, List.size_toArray, List.length_cons, List.length_nil, ne_eq, not_true, if_false, Nat.zero_add]
  exact h _ (hw.setCell hi v)

/-- A slice that is held: n elements of sz cells each, which are cs; what stands ahead of it and behind it in its array is nobody's. -/
def Sl (T : TypeId) (sz : Nat) (v : Value) (n : Nat) (cs : List Value) : HProp := fun h =>
  cs.length = n * sz ∧ ((v = .slice none 0 0 ∧ n = 0) ∨
    ∃ b cap pre post, v = .slice (some ⟨b, pre.length, none⟩) n cap ∧ n ≤ cap ∧ cap ≤ maxLen ∧ (cap - n) * sz ≤ post.length ∧ h b = some (.cells (mid pre cs post).toArray T (0, 0)))

theorem Sl.nil (T sz : Nat) (h : Heap) : Sl T sz (.slice none 0 0) 0 [] h := ⟨by simp, .inl ⟨rfl, rfl⟩⟩

theorem Holds.newSl {i b : Nat} {cs : List Value} {T : TypeId} (hw : Holds e w L) (hi : L[i]? = some (pt b cs T)) (sz n : Nat) (hl : cs.length = n * sz) (hm : n ≤ maxLen) :
    Holds e w (L.set i (Sl T sz (.slice (some ⟨b, 0, none⟩) n n) n cs)) :=
  hw.imp _ hi fun h hp => ⟨hl, .inr ⟨b, n, [], [], rfl, Nat.le_refl _, hm, by simp, by simpa [pt, mid] using hp⟩⟩

theorem Holds.openSl {i sz n : Nat} {v : Value} {cs : List Value} {T : TypeId} (hw : Holds e w L) (hi : L[i]? = some (Sl T sz v n cs)) :
    (v = .slice none 0 0 ∧ n = 0 ∧ cs = []) ∨ ∃ b cap pre post, v = .slice (some ⟨b, pre.length, none⟩) n cap ∧ n ≤ cap ∧ cap ≤ maxLen ∧ (cap - n) * sz ≤ post.length ∧ Holds e w (L.set i (pt b (mid pre cs post) T)) := by
  obtain ⟨E, f, f1, f2, f3⟩ := hw
  obtain ⟨hl, h | ⟨b, cap, pre, post, hv, h1, h2, h3, h4⟩⟩ := f1 i _ hi
  · obtain ⟨h1, rfl⟩ := h
    exact .inl ⟨h1, rfl, List.eq_nil_of_length_eq_zero (by simpa using hl)⟩
  · refine .inr ⟨b, cap, pre, post, hv, h1, h2, h3, E, f, ?_, f2, f3⟩
    intro j R hj
    rw [List.getElem?_set] at hj
    split at hj
    · rename_i e; subst e
      split at hj
      · cases hj; exact h4
      · cases hj
    · exact f1 j R hj
theorem Holds.closeSl {i sz n b cap : Nat} {pre cs post : List Value} {T : TypeId} (hw : Holds e w L) (hi : L[i]? = some (pt b (mid pre cs post) T)) (hl : cs.length = n * sz) (h1 : n ≤ cap) (h2 : cap ≤ maxLen) (h3 : (cap - n) * sz ≤ post.length) :
    Holds e w (L.set i (Sl T sz (.slice (some ⟨b, pre.length, none⟩) n cap) n cs)) :=
  hw.imp _ hi fun _ hp => ⟨hl, .inr ⟨b, cap, pre, post, rfl, h1, h2, h3, hp⟩⟩

/-- append: the slice at place i grows by what stands at place j. -/
theorem wp_append {t E : TypeId} {z : Value} {sz k : Nat} {s x : Operand} [st : SlT P t E] [ti : TI P E z sz k]
    (ho : o.op = .call { callee := .builtin .append, args := #[s, x], argTypes := #[t, t] }) {i n m c : Nat} {v : Value} {cs news : List Value} (hs : a.eval s = v) (hw : Holds e w L) (hi : L[i]? = some (Sl E sz v n cs))
    (ad : Addr) (hx : a.eval x = .slice (some ad) m c) (hl : news.length = m * sz) (hnews : ∀ j u, news[j]? = some u → w.cell? (ad.add j) = some u) (h1 : ∀ u ∈ news, u.oneCell' = true) (hm : 0 < m) (hzs : z.cells.size = sz)
    (h63 : n + m ≤ maxLen) (hbytes : (n + m) * k ≤ 140737488355328)
    (h : ∀ b cap off w', n + m ≤ cap → Holds e w' (L.set i (Sl E sz (.slice (some ⟨b, off, none⟩) (n + m) cap) (n + m) (cs ++ news))) → K (a.put o.dst (.slice (some ⟨b, off, none⟩) (n + m) cap)) w') : o.wp P a w K Q := by
  obtain ⟨ii, hii, hz0, hz1, hz2⟩ := ti.info
  have hcs : cs.length = n * sz := hw.fact hi fun h hp => hp.1
  have hsmall : n + m ≤ 9223372036854775807 := by simp only [maxLen] at h63; omega
  have grown : ∀ old, old < n + m → Holds e (w.drew.alloc (.cells (cs.toArray ++ news.toArray ++ Builtin.zeroCells z.cells (grownCap w (n + m) old E - (n + m))) E))
      (L.set i (Sl E sz (.slice (some ⟨w.heap.size, 0, none⟩) (n + m) (grownCap w (n + m) old E)) (n + m) (cs ++ news))) := by
    intro old hold
    have hge := grownCap_ge w (n + m) old E
    have hcm : grownCap w (n + m) old E ≤ maxLen := grownCap_le_maxLen w (n + m) old E h63
    have h1 := (hw.drew.alloc (.cells (cs.toArray ++ news.toArray ++ Builtin.zeroCells z.cells (grownCap w (n + m) old E - (n + m))) E))
    have hil : i < L.length := (List.getElem?_eq_some_iff.1 hi).1
    have h2 := h1.swapIn hil
    have h4 := h2.imp (i := i) (Sl E sz (.slice (some ⟨w.heap.size, 0, none⟩) (n + m) (grownCap w (n + m) old E)) (n + m) (cs ++ news)) (by rw [List.getElem?_set_self hil]) (fun hh hp => by
      refine ⟨by rw [List.length_append, hcs, hl, Nat.add_mul], .inr ⟨w.heap.size, _, [], (Builtin.zeroCells z.cells (grownCap w (n + m) old E - (n + m))).toList, rfl, hge, hcm, ?_, ?_⟩⟩
      · rw [Array.length_toList, size_zeroCells, hzs]; exact Nat.le_refl _
      · simp only [pto, World.size_drew] at hp
        rw [hp]
        congr 2
        apply Array.ext'
        simp [mid])
    rwa [List.set_set] at h4
  have key : ∃ b off cap w', n + m ≤ cap ∧ (Builtin.append_ #[t, t] o.type #[v, .slice (some ad) m c]).run P w = .ok (.slice (some ⟨b, off, none⟩) (n + m) cap) w' ∧
      Holds e w' (L.set i (Sl E sz (.slice (some ⟨b, off, none⟩) (n + m) cap) (n + m) (cs ++ news))) := by
    rcases hw.openSl hi with ⟨rfl, rfl, rfl⟩ | ⟨b, cap, pre, post, rfl, hnc, hcm, hpost, hH⟩
    · have hr := run_append_nil (P := P) w t o.type E ii z st.out hii hz0 ad m c news (by rw [hl, hz1]) hnews hm (by omega) (by rw [hz2]; simp only [Nat.zero_add] at hbytes; omega)
      have hg := grown 0 (by omega)
      simp only [Nat.zero_add, List.nil_append, Array.empty_append] at hg ⊢
      exact ⟨_, _, _, _, by have := grownCap_ge w m 0 E; exact this, hr, by simpa using hg⟩
    · have hil : i < L.length := (List.getElem?_eq_some_iff.1 hi).1
      have hH : Holds e w (L.set i (pt b (pre ++ cs ++ post) E)) := hH
      have hii' : (L.set i (pt b (pre ++ cs ++ post) E))[i]? = some (pt b (pre ++ cs ++ post) E) := List.getElem?_set_self hil
      have hwb := hH.at_ hii'
      by_cases hroom : n + m ≤ cap
      · -- there is room
        have hf := run_firstCells_some (P := P) w ii.size m ad m c news (by rw [hl, hz1]) hnews
        have hle : m * sz ≤ (cap - n) * sz := Nat.mul_le_mul_right _ (by omega)
        have hst := run_storeCells_at P b (pre.length + n * ii.size) E news 0 (pre ++ cs ++ post).toArray w hwb (by
            simp only [Nat.add_zero, List.size_toArray, List.length_append, hz1, hcs, hl]
            omega) h1
        have hadd : (⟨b, pre.length, none⟩ : Addr).add (n * ii.size) = ⟨b, pre.length + n * ii.size, none⟩ := by unfold Addr.add; split <;> simp_all
        refine ⟨b, pre.length, cap, w.setRow b (pre ++ cs ++ news ++ post.drop (m * sz)).toArray, hroom, ?_, ?_⟩
        · have hcells : ((pre ++ cs ++ post).toArray.toList.take (pre.length + n * ii.size + 0) ++ news ++ (pre ++ cs ++ post).toArray.toList.drop (pre.length + n * ii.size + 0 + news.length)).toArray = (pre ++ cs ++ news ++ post.drop (m * sz)).toArray := by
            congr 1
            have e1 : pre.length + n * ii.size + 0 = (pre ++ cs).length := by simp [hz1, hcs]
            rw [e1]
            simp only [List.append_assoc]
            rw [← List.append_assoc pre cs post, List.take_left, ← List.drop_drop, List.drop_left, hl]
            simp
          rw [hcells] at hst
          simp [Builtin.append_, run_underlying st.out, sizeOf, typeInfo, hii, Builtin.lenOf, hroom, hf, hadd, hst]
        · have h5 := hH.setRow (cs' := pre ++ cs ++ news ++ post.drop (m * sz)) hii'
          rw [List.set_set] at h5
          have h6 := h5.imp (i := i) (Sl E sz (.slice (some ⟨b, pre.length, none⟩) (n + m) cap) (n + m) (cs ++ news)) (List.getElem?_set_self hil) (fun hh hp => by
            refine ⟨by rw [List.length_append, hcs, hl, Nat.add_mul], .inr ⟨b, cap, pre, post.drop (m * sz), rfl, hroom, hcm, ?_, ?_⟩⟩
            · rw [List.length_drop]
              have : (cap - n) * sz = (cap - (n + m)) * sz + m * sz := by rw [← Nat.add_mul]; congr 1; omega
              omega
            · simp only [pt] at hp
              rw [hp]; simp [mid])
          rwa [List.set_set] at h6
      · have hr := run_append_grow (P := P) w t o.type E ii z st.out hii hz0 ⟨b, pre.length, none⟩ n cap cs (by rw [hcs, hz1]) (fun j u hj => by
            have hadd : (⟨b, pre.length, none⟩ : Addr).add j = ⟨b, pre.length + j, none⟩ := by unfold Addr.add; split <;> simp_all
            rw [hadd, hH.cells hii', List.append_assoc, List.getElem?_append_right (by omega)]
            rw [show pre.length + j - pre.length = j by omega, List.getElem?_append_left (List.getElem?_eq_some_iff.1 hj).1]; exact hj)
          ad m c news (by rw [hl, hz1]) hnews (by omega) (by omega) (growslice_fits (by omega) (by rw [hz2]; exact hbytes))
        exact ⟨_, _, _, _, grownCap_ge w (n + m) cap E, hr, grown cap (by omega)⟩
  obtain ⟨b, off, cap, w', hcap, hr, hH⟩ := key
  unfold Oper.wp execOp
  simp only [ho, resolve, invoke, builtin, Sem.run_bind, Sem.run_pure, Result.andThen_ok, List.map_toArray, List.map_cons, List.map_nil, hs, hx, hr]
  exact h b cap off w' hcap hH

/-- append of what a literal holds. -/
theorem wp_appendPt {t E T' : TypeId} {z : Value} {sz k : Nat} {s x : Operand} [st : SlT P t E] [ti : TI P E z sz k]
    (ho : o.op = .call { callee := .builtin .append, args := #[s, x], argTypes := #[t, t] }) {i j n m c b' : Nat} {v : Value} {cs news : List Value} (hs : a.eval s = v) (hw : Holds e w L) (hi : L[i]? = some (Sl E sz v n cs))
    (hx : a.eval x = .slice (some ⟨b', 0, none⟩) m c) (hj : L[j]? = some (pt b' news T')) (hl : news.length = m * sz) (h1 : ∀ u ∈ news, u.oneCell' = true) (hm : 0 < m) (hzs : z.cells.size = sz)
    (h63 : n + m ≤ maxLen) (hbytes : (n + m) * k ≤ 140737488355328)
    (h : ∀ b cap off w', n + m ≤ cap → Holds e w' (L.set i (Sl E sz (.slice (some ⟨b, off, none⟩) (n + m) cap) (n + m) (cs ++ news))) → K (a.put o.dst (.slice (some ⟨b, off, none⟩) (n + m) cap)) w') : o.wp P a w K Q :=
  wp_append ho hs hw hi ⟨b', 0, none⟩ hx hl (fun q u hq => by
    have hadd : (⟨b', 0, none⟩ : Addr).add q = ⟨b', q, none⟩ := by unfold Addr.add; split <;> simp_all
    rw [hadd, hw.cells hj]; exact hq) h1 hm hzs h63 hbytes h

/-- A call of a function value. -/
def HasBody (P : Program) (f : FuncId) : Prop := ∃ fn, P.funcs[f]? = some fn ∧ fn.body.isNone = false ∧ (fn.name == "runtime.NumGoroutine") = false
theorem wp_callv {args' : List Value} {f : Operand} {args : Array Operand} {ts : Array TypeId} {fm : FuncId} {first cap : Array Value} (ho : o.op = .call { callee := .value f, args := args, argTypes := ts }) (hf : a.eval f = .func (.func fm) first cap)
    (hb : HasBody P fm) (hargs : first.toList ++ args.toList.map a.eval ++ cap.toList = args') (h : Calls P fm args'.toArray w fun en w'' => ∃ v, en = .returned v ∧ K (a.put o.dst v) w'') : o.wp P a w K Q := by
  obtain ⟨fn, hfn, hbody, hname⟩ := hb
  have hargs' : args'.toArray = first ++ args.map a.eval ++ cap := by subst hargs; simp
  rw [hargs'] at h
  unfold Oper.wp execOp
  have hr : (callFunc fm (first ++ args.map a.eval ++ cap)).run P w = .ok (.enter fm (first ++ args.map a.eval ++ cap)) w := by
    have h1 : fn.name ≠ "runtime.NumGoroutine" := by simpa using hname
    have h2 : fn.body ≠ none := by intro h0; simp [h0] at hbody
    simp [callFunc, hfn, h1, h2]
  simp only [ho, resolve, hf, Deferred.ofValue, invoke, Sem.run_bind, Sem.run_pure, Result.andThen_ok, hr]
  exact h.mono fun en w'' ⟨v, he, hk⟩ => by subst he; exact hk
end
end Go.Sep
