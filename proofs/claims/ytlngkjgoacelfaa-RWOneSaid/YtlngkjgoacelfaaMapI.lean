/-
  Maps from whole numbers to whole numbers that are held; how often numbers were seen.
-/
import Derived.Test.YtlngkjgoacelfaaTypes
import Derived.Test.YtlngkjgoacelfaaSepRange
namespace Go.Proofs.Ytlngkjgoacelfaa
set_option linter.unusedSimpArgs false
set_option linter.unusedVariables false
open Go.RowKit Go.Sep

def setI (f : Int → Option Int) (x : Int) (v : Option Int) : Int → Option Int := fun y => if y = x then v else f y
def encF (f : Int → Option Int) : Int → Option Value := fun x => (f x).map (Value.int .i64)
theorem setF_some (f : Int → Option Int) (x v : Int) : setF (encF f) x (some (.int .i64 v)) = encF (setI f x (some v)) := by
  funext y; unfold setF encF setI; split <;> rfl
theorem setF_none (f : Int → Option Int) (x : Int) : setF (encF f) x none = encF (setI f x none) := by
  funext y; unfold setF encF setI; split <;> rfl
theorem enc_getD (f : Int → Option Int) (q : Int) : (encF f q).getD (.int .i64 0) = .int .i64 ((f q).getD 0) := by unfold encF; cases f q <;> rfl
theorem enc_isSome (f : Int → Option Int) (q : Int) : (encF f q).isSome = (f q).isSome := by unfold encF; cases f q <;> rfl
theorem enc_some {f : Int → Option Int} {q : Int} {v : Value} (h : encF f q = some v) : ∃ n, v = .int .i64 n ∧ f q = some n := by
  unfold encF at h
  cases hf : f q with
  | none => rw [hf] at h; cases h
  | some n => rw [hf] at h; exact ⟨n, (Option.some.inj h).symm, rfl⟩
section
variable {P : Program} {ops : Array Oper} {Q : Exit → Act → World → Prop} {K : Act → World → Prop} {a : Act} {e w : World} {rest : List Oper} {o : Oper} {L : List HProp}
theorem wp_newMap {t : TypeId} (ho : o.op = .makeMap t none) (hw : Holds e w L)
    (h : ∀ r w', Holds e w' (L ++ [IsMap r .i64 (encF fun _ => none)]) → K (a.put o.dst (.map (some r))) w') : o.wp P a w K Q := wp_makeMap ho hw .i64 h
theorem wp_look {t kt el : TypeId} {kd : TypeDesc} {b : Nat} [mt : MpT P t kt el] [it : IntT P kt kd] [ti : TI P el (.int .i64 0) 1 b] {x y : Operand} {i r : Nat} {f : Int → Option Int} {q : Int}
    (ho : o.op = .lookup t x y false) (hx : a.eval x = .map (some r)) (hy : a.eval y = .int .i64 q) (hw : Holds e w L) (hi : L[i]? = some (IsMap r .i64 (encF f)))
    (h : K (a.put o.dst (.int .i64 ((f q).getD 0))) w) : o.wp P a w K Q :=
  wp_lookup ho hx hy hw hi (by rw [if_neg (by decide), enc_getD]; exact h)
theorem wp_lookV {t kt el : TypeId} {kd : TypeDesc} {b : Nat} [mt : MpT P t kt el] [it : IntT P kt kd] [ti : TI P el (.int .i64 0) 1 b] {x y : Operand} {i r : Nat} {f : Int → Option Int} {q v : Int}
    (ho : o.op = .lookup t x y false) (hx : a.eval x = .map (some r)) (hy : a.eval y = .int .i64 q) (hw : Holds e w L) (hi : L[i]? = some (IsMap r .i64 (encF f))) (hv : (f q).getD 0 = v)
    (h : K (a.put o.dst (.int .i64 v)) w) : o.wp P a w K Q := by
  subst hv; exact wp_look ho hx hy hw hi h
theorem wp_lookOk {t kt el : TypeId} {kd : TypeDesc} {b : Nat} [mt : MpT P t kt el] [it : IntT P kt kd] [ti : TI P el (.int .i64 0) 1 b] {x y : Operand} {i r : Nat} {f : Int → Option Int} {q : Int}
    (ho : o.op = .lookup t x y true) (hx : a.eval x = .map (some r)) (hy : a.eval y = .int .i64 q) (hw : Holds e w L) (hi : L[i]? = some (IsMap r .i64 (encF f)))
    (h : K (a.put o.dst (.tuple #[.int .i64 ((f q).getD 0), .bool (f q).isSome])) w) : o.wp P a w K Q :=
  wp_lookup ho hx hy hw hi (by rw [if_pos rfl, enc_getD, enc_isSome]; exact h)
theorem wp_lookOkV {t kt el : TypeId} {kd : TypeDesc} {b : Nat} [mt : MpT P t kt el] [it : IntT P kt kd] [ti : TI P el (.int .i64 0) 1 b] {x y : Operand} {i r : Nat} {f : Int → Option Int} {q v : Int} {s : Bool}
    (ho : o.op = .lookup t x y true) (hx : a.eval x = .map (some r)) (hy : a.eval y = .int .i64 q) (hw : Holds e w L) (hi : L[i]? = some (IsMap r .i64 (encF f))) (hv : (f q).getD 0 = v) (hs : (f q).isSome = s)
    (h : K (a.put o.dst (.tuple #[.int .i64 v, .bool s])) w) : o.wp P a w K Q := by
  subst hv; subst hs; exact wp_lookOk ho hx hy hw hi h
theorem wp_setI {t kt el : TypeId} {kd : TypeDesc} [mt : MpT P t kt el] [it : IntT P kt kd] {x y z : Operand} {i r : Nat} {f : Int → Option Int} {q v : Int}
    (ho : o.op = .mapUpdate t x y z) (hx : a.eval x = .map (some r)) (hy : a.eval y = .int .i64 q) (hz : a.eval z = .int .i64 v) (hw : Holds e w L) (hi : L[i]? = some (IsMap r .i64 (encF f)))
    (h : ∀ w', Holds e w' (L.set i (IsMap r .i64 (encF (setI f q (some v))))) → K (a.put o.dst undef) w') : o.wp P a w K Q :=
  wp_mapUpdate ho hx hy hz hw hi (by rw [setF_some]; exact h)
theorem wp_delI {t kt el t2 : TypeId} {kd : TypeDesc} [mt : MpT P t kt el] [it : IntT P kt kd] {x y : Operand} {i r : Nat} {f : Int → Option Int} {q : Int}
    (ho : o.op = .call { callee := .builtin .delete, args := #[x, y], argTypes := #[t, t2] }) (hx : a.eval x = .map (some r)) (hy : a.eval y = .int .i64 q) (hw : Holds e w L) (hi : L[i]? = some (IsMap r .i64 (encF f)))
    (h : ∀ w', Holds e w' (L.set i (IsMap r .i64 (encF (setI f q none)))) → K (a.put o.dst (.tuple #[])) w') : o.wp P a w K Q :=
  wp_mapDelete ho hx hy hw hi (by rw [setF_none]; exact h)
end
/-- Each number of a list was seen once. -/
def once (l : List Int) : Int → Option Int := fun y => if y ∈ l then some 1 else none
theorem once_nil : once [] = fun _ => none := by funext y; simp [once]
theorem once_new {l : List Int} {t : Int} (h : t ∉ l) : (once l t).getD 0 = 0 := by simp [once, h]
theorem once_snoc {l : List Int} {t : Int} : setI (once l) t (some 1) = once (l ++ [t]) := by
  funext y
  unfold setI once
  by_cases hy : y = t
  · simp [hy]
  · simp [hy]
theorem once_some {l : List Int} {t n : Int} (h : once l t = some n) : t ∈ l ∧ n = 1 := by
  unfold once at h
  split at h
  · rename_i hm; exact ⟨hm, (Option.some.inj h).symm⟩
  · cases h
end Go.Proofs.Ytlngkjgoacelfaa
