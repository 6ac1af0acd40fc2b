/-
  More laws of single operations: a zero value built; loads and comparisons as runs.
-/
import Derived.Test.YtmokklkckecmdaaDoorSepLaws
import Derived.Laws.MakeOwn
namespace Go.Sep
set_option linter.unusedSimpArgs false
set_option linter.unusedVariables false
open Go.RowKit
section
variable {P : Program} {ops : Array Oper} {Q : Exit → Act → World → Prop} {K : Act → World → Prop} {a : Act} {e w : World} {rest : List Oper} {o : Oper} {L : List HProp}

theorem wp_build0 {T E : TypeId} {m : Nat} {cs0 : Array Value} {z2 : Value} {n k n2 k2 : Nat} [ti : TI P T (.agg cs0) n k] [te : TI P E z2 n2 k2] (ht : P.underlying T = some (.array m E)) (ho : o.op = .build T #[])
    (h : K (a.put o.dst (.agg cs0)) w) : o.wp P a w K Q := by
  unfold Oper.wp execOp
  simp only [ho, Instr.build, Sem.run_bind, ti.zero_run, run_underlying ht, te.sizeOf_run, Result.andThen_ok, Array.map_empty, Instr.fill, Sem.run_pure, Value.cells]
  exact h

theorem run_loadN {T : TypeId} {x : Operand} {z : Value} {n k b off i : Nat} {cs vs : List Value} {t : TypeId} [ti : TI P T z n k] [ag : Agg P T] (ho : o.op = .load T x) (hx : a.eval x = .pointer (some ⟨b, off, none⟩))
    (hw : Holds e w L) (hi : L[i]? = some (pt b cs t)) (hl : vs.length = n) (hv : ∀ j v, vs[j]? = some v → cs[off + j]? = some v) :
    (execOp a.eval o).run P w = .ok (.value (.agg vs.toArray)) w := by
  have hc := fun k => hw.cells hi k
  have hrun : (loadCells ⟨b, off, none⟩ vs.length).run P w = .ok vs.toArray w :=
    run_loadCells_list (P := P) w ⟨b, off, none⟩ vs (fun j v hj => by
      have hadd : (⟨b, off, none⟩ : Addr).add j = ⟨b, off + j, none⟩ := by unfold Addr.add; split <;> simp_all
      rw [hadd, hc]; exact hv j v hj)
  rw [hl] at hrun
  unfold execOp
  simp only [ho, hx, Instr.loadAt, Instr.sureAddr, loadVar, Sem.run_bind, Sem.run_pure, Result.andThen_ok, ag.run, if_true, ti.sizeOf_run, hrun]

/-- Two parts at once. -/
theorem Holds.focus2 {A B : HProp} (i j : Nat) (hi : L[i]? = some A) (hj : L[j]? = some B) (hij : i ≠ j) (H : Holds e w L) : Holds e w [sepL ((L.set i emp).set j emp), A, B] := by
  have h1 := H.focus1 i hi
  have h2 := h1.imp (i := 0) (sepL [sepL ((L.set i emp).set j emp), B]) rfl (fun h hh => sepL.focus (by rw [List.getElem?_set_ne hij]; exact hj) hh)
  have h3 : Holds e w ([sepL ((L.set i emp).set j emp), B] ++ [A]) := Holds.ungroup _ _ h2
  exact h3.sel [0, 2, 1] (by decide)
theorem sepL.unfocus2 {A B : HProp} {h : Heap} (i j : Nat) (hil : i < L.length) (hjl : j < L.length) (hij : i ≠ j) (H : sepL [sepL ((L.set i emp).set j emp), A, B] h) : sepL ((L.set i A).set j B) h := by
  have h1 : sepL [sepL ((L.set i emp).set j emp), B, A] h := H.sel [0, 2, 1] (by decide)
  have h2 := sepL.unfocus (L := L.set i emp) (N := [A]) (by simpa using hjl) h1
  have h3 := sepL.swapIn (i := i) (by simpa using hil) h2
  have e1 : ((L.set i emp).set j B).set i A = (L.set i A).set j B := by
    rw [List.set_comm _ _ hij.symm, List.set_set]
  rwa [e1] at h3
theorem Holds.unfocus2 {A B : HProp} {N : List HProp} (i j : Nat) (hil : i < L.length) (hjl : j < L.length) (hij : i ≠ j) (H : Holds e w (sepL ((L.set i emp).set j emp) :: A :: B :: N)) : Holds e w ((L.set i A).set j B ++ N) := by
  have h1 : Holds e w (sepL [sepL ((L.set i emp).set j emp), A, B] :: N) := Holds.group [sepL ((L.set i emp).set j emp), A, B] N H
  have h2 := h1.imp (i := 0) (sepL ((L.set i A).set j B)) rfl (fun h hh => sepL.unfocus2 i j hil hjl hij hh)
  exact Holds.ungroup _ _ h2

/-- A part that says a fact of no memory. -/
def fct (p : Prop) : HProp := fun _ => p
/-- Parts of which something is hidden. -/
def exL {α : Type} (f : α → List HProp) : HProp := fun h => ∃ x, sepL (f x) h
theorem sepL.tail {A : HProp} {M : List HProp} {h : Heap} (H : sepL (A :: M) h) : sepL M h := by
  obtain ⟨f, h1, h2, h3⟩ := H
  exact ⟨fun i => f (i + 1), fun i P hi => h1 (i + 1) P (by simpa using hi), fun i j b hij hb => h2 _ _ b (by omega) hb, fun i b o hb => h3 _ b o hb⟩
theorem sepL.two {A : HProp} {M : List HProp} {h : Heap} (H : sepL (A :: M) h) : sepL [A, sepL M] h := by
  have h1 := sepL.focus (L := A :: M) (i := 0) rfl H
  have h2 : sepL [A, sepL (emp :: M)] h := h1.sel [1, 0] (by decide)
  exact h2.imp (i := 1) (Q := sepL M) rfl (fun _ hh => hh.tail)
theorem Holds.open' {α : Type} {f : α → List HProp} {i : Nat} (hi : L[i]? = some (exL f)) (H : Holds e w L) : ∃ x, Holds e w (L.set i (sepL (f x))) :=
  H.elim (i := i) (Q := fun x => sepL (f x)) hi (fun _ hh => hh)
theorem exL.open_ {α : Type} {f : α → List HProp} {X : HProp} (H : Holds e w [X, exL f]) : ∃ x, Holds e w [X, sepL (f x)] := H.open' (i := 1) rfl
theorem exL.mk {α : Type} {f : α → List HProp} {X : HProp} (x : α) (H : Holds e w (X :: f x)) : Holds e w [X, exL f] :=
  ⟨H.1, (sepL.two H.2).imp (i := 1) (Q := exL f) rfl (fun _ hh => ⟨x, hh⟩)⟩
theorem Holds.fct {i : Nat} {p : Prop} (hi : L[i]? = some (Sep.fct p)) (H : Holds e w L) : p := H.fact hi (fun _ h => h)
theorem Holds.addFct {p : Prop} (hp : p) (H : Holds e w L) : Holds e w (L ++ [Sep.fct p]) := H.addEmp hp

/-- 'make([]T, n)' of elements of one cell each. -/
theorem wp_make1 {t E : TypeId} {z : Value} {k n : Nat} {x y : Operand} [st : SlT P t E] [ti : TI P E z 1 k] (hz : z.cells = #[z]) (ho : o.op = .makeSlice t x y) (hx : a.eval x = .int .i64 (n : Int)) (hy : a.eval y = .int .i64 (n : Int))
    (hn : n ≤ 1000000) (hk : k ≤ 1000) (hw : Holds e w L)
    (h : ∀ b w', Holds e w' (L ++ [pt b (List.replicate n z) E]) → K (a.put o.dst (.slice (some ⟨b, 0, none⟩) n n)) w') : o.wp P a w K Q := by
  obtain ⟨i, hi, h1, h2, h3⟩ := ti.info
  have hb : (i.bytes : Int) * (n : Int) ≤ 281474976710656 := by
    rw [h3]
    have : k * n ≤ 1000 * 1000000 := Nat.mul_le_mul hk hn
    have h' : ((k * n : Nat) : Int) ≤ 1000 * 1000000 := by omega
    rw [Int.natCast_mul] at h'
    omega
  have hr := run_make (P := P) w t E i z st.out hi h1 .i64 .i64 n n (by omega) (Int.le_refl _) hb (by omega)
  simp only [Int.toNat_natCast, h2, Nat.mul_one] at hr
  have hm : madeCells z.cells n = (List.replicate n z).toArray := by
    unfold madeCells
    rw [hz]
    apply Array.ext
    · simp
    · intro j h1 h2
      simp [Nat.mod_one]
  rw [hm] at hr
  unfold Oper.wp execOp
  simp only [ho, hx, hy, Sem.run_bind, Sem.run_pure, hr, Result.andThen_ok]
  exact h _ _ (hw.allocCells _ _)
/-- Four results. -/
theorem ret4 {fn : Func} {R : Ending → World → Prop} {a : Act} {w : World} {p q r s : Tmp} {x y z u : Value} (h : fn.results = #[.tmp p, .tmp q, .tmp r, .tmp s])
    (hp : a.tmps.getD p undef = x) (hq : a.tmps.getD q undef = y) (hr : a.tmps.getD r undef = z) (hs : a.tmps.getD s undef = u) (hd : a.defers = []) (hR : R (.returned (.tuple #[x, y, z, u])) w) : bodyPost P fn R .ret a w := by
  refine bodyPost_ret (v := .tuple #[x, y, z, u]) ?_ hd hR
  subst hp; subst hq; subst hr; subst hs
  simp [results, h]
/-- append of what a slice holds, of any length. -/
theorem wp_appendSl {t E T' : TypeId} {z : Value} {sz k : Nat} {s x : Operand} [st : SlT P t E] [ti : TI P E z sz k]
    (ho : o.op = .call { callee := .builtin .append, args := #[s, x], argTypes := #[t, t] }) {i j n m : Nat} {v u : Value} {cs news : List Value} (hs : a.eval s = v) (hw : Holds e w L) (hi : L[i]? = some (Sl E sz v n cs))
    (hx : a.eval x = u) (hj : L[j]? = some (Sl T' sz u m news)) (h1 : ∀ y ∈ news, y.oneCell' = true) (hzs : z.cells.size = sz)
    (h63 : n + m ≤ maxLen) (hbytes : (n + m) * k ≤ 140737488355328)
    (h : ∀ a' cap' w', Holds e w' (L.set i (Sl E sz (.slice a' (n + m) cap') (n + m) (cs ++ news))) → K (a.put o.dst (.slice a' (n + m) cap')) w') : o.wp P a w K Q := by
  have hln : news.length = m * sz := hw.fact hj (fun _ h => h.1)
  have hset : L.set i (Sl E sz v n cs) = L := by
    apply List.ext_getElem?
    intro q
    rw [List.getElem?_set]
    split
    · rename_i e; subst e
      rw [hi]
      have := (List.getElem?_eq_some_iff.1 hi).1
      simp [this]
    · rfl
  by_cases hm : 0 < m
  · rcases hw.openSl hj with ⟨_, h2, _⟩ | ⟨b, cap, pre, post, rfl, _, _, _, hw'⟩
    · omega
    · have hjl : j < L.length := (List.getElem?_eq_some_iff.1 hj).1
      exact wp_append ho hs hw hi ⟨b, pre.length, none⟩ hx hln (fun q y hq => by
        have hadd : (⟨b, pre.length, none⟩ : Addr).add q = ⟨b, pre.length + q, none⟩ := by unfold Addr.add; split <;> simp_all
        rw [hadd, hw'.cells (List.getElem?_set_self hjl), Sep.mid, List.append_assoc, List.getElem?_append_right (by omega), Nat.add_sub_cancel_left, List.getElem?_append_left (List.getElem?_eq_some_iff.1 hq).1]
        exact hq) h1 hm hzs h63 hbytes (fun b cap off w' _ hw' => h _ _ w' hw')
  · have hm0 : m = 0 := by omega
    subst hm0
    have hn0 : news = [] := List.eq_nil_of_length_eq_zero (by simpa using hln)
    subst hn0
    obtain ⟨ii, hii, hz0, hz1, hz2⟩ := ti.info
    have hu : ∃ ao c, u = .slice ao 0 c := by
      rcases hw.openSl hj with ⟨h1, _, _⟩ | ⟨b, cap, pre, post, h1, _⟩
      · exact ⟨_, _, h1⟩
      · exact ⟨_, _, h1⟩
    obtain ⟨ao, c, rfl⟩ := hu
    have hf : (Builtin.firstCells ii.size 0 (.slice ao 0 c)).run P w = .ok #[] w := by
      cases ao with
      | none => rfl
      | some ad => simp [Builtin.firstCells, loadCells, loadCellsFrom]
    have key : ∀ ao' cap', v = .slice ao' n cap' → n ≤ cap' → (Builtin.append_ #[t, t] o.type #[v, .slice ao 0 c]).run P w = .ok (.slice ao' n cap') w := by
      rintro ao' cap' rfl hle
      cases ao' with
      | none => simp [Builtin.append_, run_underlying st.out, sizeOf, typeInfo, hii, Builtin.lenOf, hle, hf]
      | some ad => simp [Builtin.append_, run_underlying st.out, sizeOf, typeInfo, hii, Builtin.lenOf, hle, hf, storeCells]
    have fin : ∀ ao' cap', v = .slice ao' n cap' → n ≤ cap' → o.wp P a w K Q := by
      intro ao' cap' hv hle
      have hr := key ao' cap' hv hle
      unfold Oper.wp execOp
      simp only [ho, resolve, invoke, builtin, Sem.run_bind, Sem.run_pure, Result.andThen_ok, List.map_toArray, List.map_cons, List.map_nil, hs, hx, hr]
      have hh := h ao' cap' w
      simp only [Nat.add_zero, List.append_nil] at hh
      refine hh ?_
      rw [← hv, hset]; exact hw
    rcases hw.openSl hi with ⟨h1, h2, _⟩ | ⟨b, cap, pre, post, h1, h2, _⟩
    · exact fin none 0 (by rw [h1, h2]) (by omega)
    · exact fin _ _ h1 h2
end
end Go.Sep
