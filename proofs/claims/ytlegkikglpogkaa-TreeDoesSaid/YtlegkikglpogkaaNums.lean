/-
  Slices of whole numbers that are read: an element. (For seats without the ring; never beside Reads.)
-/
import Derived.Test.YtlegkikglpogkaaInts
import Derived.Test.YtlegkikglpogkaaSepRead
namespace Go.Proofs.Ytlegkikglpogkaa
set_option linter.unusedSimpArgs false
set_option linter.unusedVariables false
open Go.RowKit Go.Sep

/-- An element of a slice that is held. -/
theorem num_at {T : TypeId} {e w : World} {L : List HProp} {i n k ca : Nat} {a : Option Addr} {l : List Int} {x : Int} (hw : Holds e w L) (hi : L[i]? = some (Sl T 1 (.slice a n ca) n (encI l))) (hx : l[k]? = some x) :
    ∃ b off, a = some ⟨b, off, none⟩ ∧ w.cell? ⟨b, off + k, none⟩ = some (.int .i64 x) := by
  have hk : k < l.length := (List.getElem?_eq_some_iff.1 hx).1
  have hln : (encI l).length = n * 1 := hw.fact hi (fun _ h => h.1)
  rw [encI_length] at hln
  rcases hw.openSl hi with ⟨_, h2, _⟩ | ⟨b, cap, pre, post, hv, _, _, _, hw'⟩
  · omega
  · cases hv
    refine ⟨b, pre.length, rfl, ?_⟩
    have hil : i < L.length := (List.getElem?_eq_some_iff.1 hi).1
    rw [hw'.cells (List.getElem?_set_self hil), Sep.mid_get _ _ _ _ (by rw [encI_length]; exact hk)]
    exact encI_get hx
theorem num_cap {T : TypeId} {e w : World} {L : List HProp} {i n ca : Nat} {a : Option Addr} {cs : List Value} {sz : Nat} (hw : Holds e w L) (hi : L[i]? = some (Sl T sz (.slice a n ca) n cs)) : n ≤ ca := by
  rcases hw.openSl hi with ⟨h1, h2, _⟩ | ⟨b, cap, pre, post, hv, h2, _, _, hw'⟩
  · omega
  · cases hv; exact h2
section
variable {P : Program} {ops : Array Oper} {Q : Exit → Act → World → Prop} {K : Act → World → Prop} {a : Act} {e w : World} {rest : List Oper} {o : Oper} {L : List HProp}
/-- An element of a slice that is held is read. -/
theorem wp_loadAt {T T' : TypeId} [fl : Flat P T] {xo : Operand} {b q off n ca k i : Nat} {l : List Int} {x : Int} (ho : o.op = .load T xo) (hx : a.eval xo = .pointer (some ⟨b, q, none⟩))
    (hw : Holds e w L) (hi : L[i]? = some (Sl T' 1 (.slice (some ⟨b, off, none⟩) n ca) n (encI l))) (hq : q = off + k) (hk : l[k]? = some x)
    (h : K (a.put o.dst (.int .i64 x)) w) : o.wp P a w K Q := by
  obtain ⟨b', off', hb, hc⟩ := num_at hw hi hk
  cases hb
  subst hq
  unfold Oper.wp execOp
  simp only [ho, hx, Instr.loadAt, Instr.sureAddr, loadVar, Sem.run_bind, Sem.run_pure, Result.andThen_ok, fl.run, Bool.false_eq_true, if_false, run_load, hc]
  exact h
end
end Go.Proofs.Ytlegkikglpogkaa
