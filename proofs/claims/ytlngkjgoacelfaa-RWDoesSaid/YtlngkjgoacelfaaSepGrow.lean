/-
  append(xs, make([]T, n)...) onto the slice that is nil: a new row of zero values.
-/
import Derived.Test.YtlngkjgoacelfaaSepRead
import Derived.Lib.AppendZerosOnto
namespace Go.Sep
set_option linter.unusedSimpArgs false
set_option linter.unusedVariables false
open Go.RowKit
section
variable {P : Program} {ops : Array Oper} {Q : Exit → Act → World → Prop} {K : Act → World → Prop} {a : Act} {e w : World} {rest : List Oper} {o : Oper} {L : List HProp}
theorem wp_appendZeros {t tn E : TypeId} {z : Value} {k n : Nat} {x y : Operand} [st : SlT P t E] [ti : TI P E z 1 k] (htn : P.underlying tn = some (.int .i64)) (hz : z.cells = #[z])
    (ho : o.op = .call { callee := .builtin .append, args := #[x, y], argTypes := #[t, tn] }) (hx : a.eval x = .slice none 0 0) (hy : a.eval y = .int .i64 (n : Int))
    (h0 : 0 < n) (hn : n ≤ 1000000) (hk : k ≤ 1000) (hw : Holds e w L)
    (h : ∀ b G w', n ≤ G → G ≤ maxLen → Holds e w' (L ++ [Sl E 1 (.slice (some ⟨b, 0, none⟩) 0 G) 0 []]) → K (a.put o.dst (.slice (some ⟨b, 0, none⟩) n G)) w') : o.wp P a w K Q := by
  obtain ⟨i, hi, h1, h2, h3⟩ := ti.info
  have hold : (Builtin.firstCells i.size 0 (.slice none 0 0)).run P w.drew = .ok ([] : List Value).toArray w.drew := rfl
  have hkn : n * k ≤ 1000000 * 1000 := Nat.mul_le_mul hn hk
  have hbig : n * i.bytes ≤ 140737488355328 := by rw [h3]; omega
  have hfit := growslice_fits (need := n) (old := 0) h0 hbig
  have hr := Lib.run_append_grow_zeros (P := P) w t tn o.type E i z .i64 .i64 st.out htn hi h1 none 0 0 [] hold n h0 (by rw [h2]; decide) (by omega) (by simp; omega) (by rw [h3]; omega) (by simpa using hfit)
  simp only [Nat.zero_add] at hr
  have hge := grownCap_ge w n 0 E
  have hcm : grownCap w n 0 E ≤ maxLen := grownCap_le_maxLen w n 0 E (by unfold maxLen; omega)
  unfold Oper.wp execOp
  simp only [ho, resolve, invoke, builtin, Sem.run_bind, Sem.run_pure, Result.andThen_ok, List.map_toArray, List.map_cons, List.map_nil, hx, hy, hr]
  refine h _ _ _ hge hcm ?_
  have hH := hw.drew.alloc (.cells (([] : List Value).toArray ++ Builtin.zeroCells z.cells n ++ Builtin.zeroCells z.cells (grownCap w n 0 E - n)) E)
  have h4 := hH.imp (i := L.length) (P := pto w.drew.heap.size _) (Sl E 1 (.slice (some ⟨w.heap.size, 0, none⟩) 0 (grownCap w n 0 E)) 0 []) (by rw [List.getElem?_append_right (Nat.le_refl _), Nat.sub_self]; rfl) (fun hh hp => by
    refine ⟨by simp, .inr ⟨w.heap.size, _, [], (Builtin.zeroCells z.cells n ++ Builtin.zeroCells z.cells (grownCap w n 0 E - n)).toList, rfl, Nat.zero_le _, hcm, ?_, ?_⟩⟩
    · rw [Array.length_toList, Array.size_append, size_zeroCells, size_zeroCells, hz]
      simp; omega
    · simp only [pto, World.size_drew] at hp
      rw [hp]
      congr 2
      apply Array.ext'
      simp [mid])
  have h5 : (L ++ [pto w.drew.heap.size (.cells (([] : List Value).toArray ++ Builtin.zeroCells z.cells n ++ Builtin.zeroCells z.cells (grownCap w n 0 E - n)) E)]).set L.length (Sl E 1 (.slice (some ⟨w.heap.size, 0, none⟩) 0 (grownCap w n 0 E)) 0 []) = L ++ [Sl E 1 (.slice (some ⟨w.heap.size, 0, none⟩) 0 (grownCap w n 0 E)) 0 []] := by
    rw [List.set_append_right _ _ (Nat.le_refl _), Nat.sub_self]; rfl
  rw [h5] at h4
  exact h4
end
end Go.Sep
