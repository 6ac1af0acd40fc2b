/-
  Drawn regions: the same laws in shorter words, for texts that a program prints.
-/
import Derived.Test.YtmokklkckecmdaaDoorRegion
namespace Go.Sep
set_option linter.unusedSimpArgs false
set_option linter.unusedVariables false
open Go.RowKit
/-- n marks, those of m's digits set. -/
def marks (n m : Nat) : Array Bool := ((List.range n).map (Nat.testBit m)).toArray
section
variable {P : Program} {ops : Array Oper} {Q : Exit → Act → World → Prop} {loud : List Nat} {conds : Conds}
theorem wpL_q (i : Nat) (v : Value) {oi : Oper} {fuel : Nat} {listed : Array Bool} {a : Act} {w : World} {r_ : List Oper} (hi : ops.toList.drop i = oi :: r_)
    (hy : YieldsIf P ops (fun _ => True) oi v a) (l : Array Bool) (h : wpL P ops Q loud conds fuel l (a.put oi.dst v) w)
    (hs : Region.noSelect ops = true := by kernel_rfl) (hf : Region.free .any ops listed i = true := by kernel_rfl) (hr : (Region.ready .any ops listed).contains i = true := by kernel_rfl) (hq : loud.contains i = false := by kernel_rfl)
    (hl : listed.setIfInBounds i true = l := by kernel_rfl) (hQ : ∀ c a w, Q (.panic c) (a.put oi.dst v) w → Q (.panic c) a w := by exact fun _ _ _ h => h) : wpL P ops Q loud conds (fuel + 1) listed a w :=
  wpL_take i hi hs hf hr hq hQ (.inl fun _ => trivial) hy hl h
theorem wpL_m (i : Nat) (v : Value) {oi : Oper} {C : World → Prop} {fuel : Nat} {listed : Array Bool} {a : Act} {w : World} {r_ : List Oper} (hi : ops.toList.drop i = oi :: r_) (hC : (i, C) ∈ (show List (Nat × (World → Prop)) from conds))
    (hy : YieldsIf P ops C oi v a) (l : Array Bool) (h : wpL P ops Q loud conds fuel l (a.put oi.dst v) w)
    (hs : Region.noSelect ops = true := by kernel_rfl) (hf : Region.free .any ops listed i = true := by kernel_rfl) (hr : (Region.ready .any ops listed).contains i = true := by kernel_rfl) (hq : loud.contains i = false := by kernel_rfl)
    (hl : listed.setIfInBounds i true = l := by kernel_rfl) (hQ : ∀ c a w, Q (.panic c) (a.put oi.dst v) w → Q (.panic c) a w := by exact fun _ _ _ h => h) : wpL P ops Q loud conds (fuel + 1) listed a w :=
  wpL_take i hi hs hf hr hq hQ (.inr hC) hy hl h
theorem wpL_b (i : Nat) (b : Bool) {oi : Oper} {fuel : Nat} {listed : Array Bool} {a : Act} {w : World} {r_ : List Oper} (hi : ops.toList.drop i = oi :: r_)
    (hy : YieldsIf P ops (fun _ => True) oi (.bool b) a) (l : Array Bool) (h : ∀ bb : Bool, b = bb → wpL P ops Q loud conds fuel l (a.put oi.dst (.bool bb)) w)
    (hs : Region.noSelect ops = true := by kernel_rfl) (hf : Region.free .any ops listed i = true := by kernel_rfl) (hr : (Region.ready .any ops listed).contains i = true := by kernel_rfl) (hq : loud.contains i = false := by kernel_rfl)
    (hl : listed.setIfInBounds i true = l := by kernel_rfl) (hQ : ∀ c a w, Q (.panic c) (a.put oi.dst (.bool b)) w → Q (.panic c) a w := by exact fun _ _ _ h => h) : wpL P ops Q loud conds (fuel + 1) listed a w :=
  wpL_take i hi hs hf hr hq hQ (.inl fun _ => trivial) hy hl (h b rfl)
theorem wpL_bm (i : Nat) (b : Bool) {oi : Oper} {C : World → Prop} {fuel : Nat} {listed : Array Bool} {a : Act} {w : World} {r_ : List Oper} (hi : ops.toList.drop i = oi :: r_) (hC : (i, C) ∈ (show List (Nat × (World → Prop)) from conds))
    (hy : YieldsIf P ops C oi (.bool b) a) (l : Array Bool) (h : ∀ bb : Bool, b = bb → wpL P ops Q loud conds fuel l (a.put oi.dst (.bool bb)) w)
    (hs : Region.noSelect ops = true := by kernel_rfl) (hf : Region.free .any ops listed i = true := by kernel_rfl) (hr : (Region.ready .any ops listed).contains i = true := by kernel_rfl) (hq : loud.contains i = false := by kernel_rfl)
    (hl : listed.setIfInBounds i true = l := by kernel_rfl) (hQ : ∀ c a w, Q (.panic c) (a.put oi.dst (.bool b)) w → Q (.panic c) a w := by exact fun _ _ _ h => h) : wpL P ops Q loud conds (fuel + 1) listed a w :=
  wpL_take i hi hs hf hr hq hQ (.inr hC) hy hl (h b rfl)
theorem wpL_s (i : Nat) {oi : Oper} {fuel : Nat} {listed : Array Bool} {a : Act} {w : World} {r_ : List Oper} (hi : ops.toList.drop i = oi :: r_)
    (hwant : Region.wanted oi (yielded ops a.tmps) = false) (l : Array Bool) (h : wpL P ops Q loud conds fuel l (a.put oi.dst undef) w)
    (hr : Region.ready .any ops listed = [i] := by kernel_rfl) (hl : listed.setIfInBounds i true = l := by kernel_rfl) : wpL P ops Q loud conds (fuel + 1) listed a w :=
  wpL_skip i hi hr hwant hl h
theorem wpL_o (i : Nat) {oi : Oper} {fuel : Nat} {listed : Array Bool} {a : Act} {w : World} {r_ : List Oper} (hi : ops.toList.drop i = oi :: r_)
    (hwant : Region.wanted oi (yielded ops a.tmps) = true) (l : Array Bool)
    (h : oi.wp P a w (fun a' w' => SL ops loud conds l w' ∧ wpL P ops Q loud conds fuel l a' w') Q)
    (hr : Region.ready .any ops listed = [i] := by kernel_rfl) (hl : listed.setIfInBounds i true = l := by kernel_rfl) : wpL P ops Q loud conds (fuel + 1) listed a w :=
  wpL_one i hi hr hwant hl h

/-- What a piece of code must leave, whichever way it went. -/
def Normal (F : Act → World → Prop) : Exit → Act → World → Prop
  | .normal, a, w => F a w
  | _, _, _ => False
theorem wp_cut {c : Code} {a : Act} {w : World} (F : Act → World → Prop) (h1 : c.wp P (Normal F) a w) (h2 : ∀ a' w', F a' w' → Q .normal a' w') : c.wp P Q a w :=
  Code.wp_mono (fun e a w h => by cases e <;> first | exact h2 _ _ h | exact h.elim) h1
end
end Go.Sep
