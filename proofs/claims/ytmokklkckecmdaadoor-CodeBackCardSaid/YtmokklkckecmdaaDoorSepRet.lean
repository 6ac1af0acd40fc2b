/-
  A function's results, three of them; numbers that wrap.
-/
import Derived.Test.YtmokklkckecmdaaDoorSepMore
import Derived.IntWalk
namespace Go.Sep
set_option linter.unusedSimpArgs false
set_option linter.unusedVariables false
theorem ret3 {P : Program} {fn : Func} {R : Ending → World → Prop} {a : Act} {w : World} {p q r : Tmp} {x y z : Value} (h : fn.results = #[.tmp p, .tmp q, .tmp r])
    (hp : a.tmps.getD p undef = x) (hq : a.tmps.getD q undef = y) (hr : a.tmps.getD r undef = z) (hd : a.defers = []) (hR : R (.returned (.tuple #[x, y, z])) w) : bodyPost P fn R .ret a w := by
  refine bodyPost_ret (v := .tuple #[x, y, z]) ?_ hd hR
  subst hp; subst hq; subst hr
  simp [results, h]
theorem i64_over (n : Int) (h : 9223372036854775807 < n ∧ n ≤ 18446744073709551614) : IntKind.i64.wrap n = n - 18446744073709551616 := by
  rw [IntKind.wrap_i64]; (try unfold wrap64); omega
theorem res_cell_tmp2 {P : Program} {e w : World} {L : List HProp} {fn : Func} {p q q2 : Tmp} {ty : TypeId} {z v v2 : Value} {n k b i : Nat} {cs : List Value} {t : TypeId} {tmps : Array Value} [ti : TI P ty z n k] [ag : Agg P ty] (h : fn.results = #[.cell p ty, .tmp q, .tmp q2])
    (hp : tmps.getD p undef = .pointer (some ⟨b, 0, none⟩)) (hq : tmps.getD q undef = v) (hq2 : tmps.getD q2 undef = v2) (hw : Holds e w L) (hi : L[i]? = some (pt b cs t)) (hl : cs.length = n) :
    (results fn tmps).run P w = .ok (.tuple #[.agg cs.toArray, v, v2]) w := by
  have hr := run_loadVar_block (P := P) (ty := ty) hw hi hl
  have hp' : tmps[p]?.getD undef = .pointer (some ⟨b, 0, none⟩) := by simpa using hp
  have hq' : tmps[q]?.getD undef = v := by simpa using hq
  have hq2' : tmps[q2]?.getD undef = v2 := by simpa using hq2
  simp [results, h, hp', hq', hq2', asAddr, hr]
section
open Go.RowKit
variable {P : Program} {ops : Array Oper} {Q : Exit → Act → World → Prop} {K : Act → World → Prop} {a : Act} {e w : World} {rest : List Oper} {o : Oper} {L : List HProp}
theorem wp_mv {x : Operand} (ho : o.op = .move x) (h : K (a.put o.dst (a.eval x)) w) : o.wp P a w K Q := by
  unfold Oper.wp execOp
  simp only [ho, Sem.run_pure]
  exact h
/-- 'xs[l:]' of a slice that is held. -/
theorem wp_sliceFrom {t E : TypeId} {z : Value} {sz k : Nat} {x lo : Operand} [st : SlT P t E] [ti : TI P E z sz k] {i n l : Nat} {v : Value} {cs : List Value}
    (ho : o.op = .slice t x (some lo) none none) (hx : a.eval x = v) (hlo : a.eval lo = .int .i64 (l : Int)) (hw : Holds e w L) (hi : L[i]? = some (Sl E sz v n cs)) (hl : l ≤ n)
    (h : ∀ a' c', Holds e w (L.set i (Sl E sz (.slice a' (n - l) c') (n - l) (cs.drop (l * sz)))) → K (a.put o.dst (.slice a' (n - l) c')) w) : o.wp P a w K Q := by
  have hel : P.elem t = E := by simp [Program.elem, st.out]
  have hcs : cs.length = n * sz := hw.fact hi fun h hp => hp.1
  have hil : i < L.length := (List.getElem?_eq_some_iff.1 hi).1
  have run : ∀ ao cap, v = .slice ao n cap → (Instr.sliceAt t v (some (.int .i64 (l : Int))) none none).run P w = .ok (sliced ao l n cap sz) w := by
    rintro ao cap rfl
    rw [run_sliceAt_slice (P := P) w t _ _ _ _ (by rw [hel]; exact st.out), run_slice_l (P := P) w t ao n cap (by rw [hel]; exact st.out) .i64 l (by omega) (by omega), hel, ti.sizeOf_run]
    simp
  have fin : ∀ ao cap, v = .slice ao n cap → (∃ a' c', sliced ao l n cap sz = .slice a' (n - l) c' ∧ Holds e w (L.set i (Sl E sz (.slice a' (n - l) c') (n - l) (cs.drop (l * sz))))) → o.wp P a w K Q := by
    rintro ao cap hv ⟨a', c', hs, hH⟩
    have hr := run ao cap hv
    unfold Oper.wp execOp
    simp only [ho, hx, hlo, Option.map_some, Option.map_none, Sem.run_bind, Sem.run_pure, hr, Result.andThen_ok, hs]
    exact h a' c' hH
  rcases hw.openSl hi with ⟨rfl, rfl, rfl⟩ | ⟨b, cap, pre, post, rfl, hnc, hcm, hpost, hH⟩
  · obtain rfl : l = 0 := by omega
    refine fin none 0 rfl ⟨none, 0, by simp [sliced], ?_⟩
    have hset : L.set i (Sl E sz (.slice none 0 0) 0 []) = L := by
      apply List.ext_getElem?
      intro q
      rw [List.getElem?_set]
      split
      · rename_i e; subst e; rw [hi]; try simp [hil]
      · rfl
    simpa [hset] using hw
  · have hii : (L.set i (pt b (mid pre cs post) E))[i]? = some (pt b (mid pre cs post) E) := List.getElem?_set_self hil
    by_cases hcl : cap = l
    · have hnl : n = l := by omega
      refine fin _ cap rfl ⟨some ⟨b, pre.length, none⟩, 0, by simp [sliced, hcl], ?_⟩
      have hd : cs.drop (l * sz) = [] := List.drop_eq_nil_of_le (by rw [hcs, hnl]; exact Nat.le_refl _)
      have hm : mid pre cs post = mid pre [] (cs ++ post) := by simp [mid]
      have h1 : Holds e w (L.set i (pt b (mid pre [] (cs ++ post)) E)) := by rw [← hm]; exact hH
      have h2 := h1.closeSl (i := i) (sz := sz) (n := 0) (cap := 0) (List.getElem?_set_self hil) (by simp) (Nat.le_refl _) (Nat.zero_le _) (by simp)
      rw [List.set_set] at h2
      rw [hd, show n - l = 0 by omega]
      exact h2
    · refine fin _ cap rfl ⟨some ⟨b, pre.length + l * sz, none⟩, cap - l, ?_, ?_⟩
      · have hadd : (⟨b, pre.length, none⟩ : Addr).add (l * sz) = ⟨b, pre.length + l * sz, none⟩ := by unfold Addr.add; split <;> simp_all
        simp [sliced, hcl, hadd]
      · have hle : l * sz ≤ cs.length := by rw [hcs]; exact Nat.mul_le_mul_right _ hl
        have hm : mid pre cs post = mid (pre ++ cs.take (l * sz)) (cs.drop (l * sz)) post := by simp [mid]
        have hlen : (pre ++ cs.take (l * sz)).length = pre.length + l * sz := by simp; omega
        have h1 : Holds e w (L.set i (pt b (mid (pre ++ cs.take (l * sz)) (cs.drop (l * sz)) post) E)) := by rw [← hm]; exact hH
        have h2 := h1.closeSl (i := i) (sz := sz) (n := n - l) (cap := cap - l) (List.getElem?_set_self hil) (by rw [List.length_drop, hcs, ← Nat.sub_mul]) (by omega) (by omega) (by rw [show cap - l - (n - l) = cap - n by omega]; exact hpost)
        rw [List.set_set, hlen] at h2
        exact h2
end
end Go.Sep
