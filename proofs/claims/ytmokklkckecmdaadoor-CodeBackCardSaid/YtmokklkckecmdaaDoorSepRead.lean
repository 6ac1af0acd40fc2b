/-
  Worlds that differ in what was drawn alone; 'xs[:k]'.
-/
import Derived.Test.YtmokklkckecmdaaDoorSepRet
import Derived.Test.YtmokklkckecmdaaDoorRegionS
namespace Go.Sep
set_option linter.unusedSimpArgs false
set_option linter.unusedVariables false
open Go.RowKit

/-- 'SL.drop' with the load's number said: the kernel then reckons over a closed term. -/
theorem SL.dropI {ops : Array Oper} {loud : List Nat} {conds : Conds} (j i : Nat) {C : World → Prop} {listed : Array Bool} {w : World} (h : (loud.contains j && (desc ops i).getD j false && listed.getD j true) = true) (hr : SL ops loud conds listed w) : SL ops loud (List.cons (i, C) conds) listed w :=
  SL.drop j h hr
/-- As the world was, but for what was drawn. -/
structure Drew (w w' : World) : Prop where
  heap : w'.heap = w.heap
  os : w'.os = w.os
  tape : w'.tape = w.tape
  output : w'.output = w.output
theorem Drew.refl (w : World) : Drew w w := ⟨rfl, rfl, rfl, rfl⟩
theorem Drew.drew {w w' : World} (h : Drew w w') : Drew w w'.drew := ⟨h.heap, h.os, h.tape, h.output⟩
theorem Drew.trans {w w' w2 : World} (h : Drew w w') (h2 : Drew w' w2) : Drew w w2 := ⟨h2.heap.trans h.heap, h2.os.trans h.os, h2.tape.trans h.tape, h2.output.trans h.output⟩
theorem Drew.cell {w w' : World} (h : Drew w w') (a : Addr) : w'.cell? a = w.cell? a := by
  unfold World.cell?; rw [h.heap]
theorem Holds.drewTo {e w w' : World} {L : List HProp} (hw : Holds e w L) (h : Drew w w') : Holds e w' L := hw.env h.heap h.os h.tape h.output
section
variable {P : Program} {ops : Array Oper} {Q : Exit → Act → World → Prop} {K : Act → World → Prop} {a : Act} {e w : World} {rest : List Oper} {o : Oper} {L : List HProp}
/-- 'xs[:k]'. -/
theorem wp_sliceTo {t E : TypeId} {z : Value} {sz kb : Nat} {x hi : Operand} [st : SlT P t E] [ti : TI P E z sz kb] {n k cap : Nat} {ao : Option Addr}
    (ho : o.op = .slice t x none (some hi) none) (hx : a.eval x = .slice ao n cap) (hh : a.eval hi = .int .i64 (k : Int)) (hk : k ≤ cap)
    (h : K (a.put o.dst (.slice ao k cap)) w) : o.wp P a w K Q := by
  have hel : P.elem t = E := by simp [Program.elem, st.out]
  have run : (Instr.sliceAt t (.slice ao n cap) none (some (.int .i64 (k : Int))) none).run P w = .ok (.slice ao k cap) w := by
    rw [run_sliceAt_slice (P := P) w t _ _ _ _ (by rw [hel]; exact st.out), run_slice_h (P := P) w t ao n cap (by rw [hel]; exact st.out) .i64 k (by omega) (by omega), hel, ti.sizeOf_run]
    simp only [Result.andThen_ok, Int.toNat_natCast]
    congr 1
    unfold sliced
    cases ao with
    | none => simp
    | some ad =>
      by_cases hc : cap = 0
      · subst hc; obtain rfl : k = 0 := by omega
        simp
      · have h0 : ad.add 0 = ad := by unfold Addr.add; split <;> simp_all
        simp [hc, h0]
  unfold Oper.wp execOp
  simp only [ho, hx, hh, Option.map_some, Option.map_none, Sem.run_bind, Sem.run_pure, run, Result.andThen_ok]
  exact h
end
end Go.Sep
