/-
  Slices of whole numbers, and the walk of Same.
-/
import Derived.Test.YtmokklkckecmdaaDoorTypes
import Derived.Test.YtmokklkckecmdaaDoorSepList
import Derived.Test.YtmokklkckecmdaaDoorSepMore
import Derived.Test.YtmokklkckecmdaaDoorRegionS
namespace Go.Proofs.YtmokklkckecmdaaDoor
set_option linter.unusedSimpArgs false
set_option linter.unusedVariables false
open Go.RowKit Go.Sep

theorem Sl.value {e w : World} {L : List HProp} {i n sz : Nat} {v : Value} {cs : List Value} {T : TypeId} (hi : L[i]? = some (Sl T sz v n cs)) (hw : Holds e w L) : ∃ a cap, v = .slice a n cap := by
  refine hw.fact hi (fun h hh => ?_)
  rcases hh.2 with ⟨h1, h2⟩ | ⟨b, cap, pre, post, h1, _⟩
  · exact ⟨none, 0, by rw [h1, h2]⟩
  · exact ⟨_, _, h1⟩


def encI (l : List Int) : List Value := l.map (Value.int .i64)
theorem encI_length (l : List Int) : (encI l).length = l.length := by simp [encI]
theorem encI_append (l m : List Int) : encI (l ++ m) = encI l ++ encI m := by simp [encI]
theorem encI_one (l : List Int) : ∀ v ∈ encI l, v.oneCell' = true := by simp [encI, Value.oneCell']
/-- A slice of whole numbers. -/
def IsInts (v : Value) (l : List Int) : HProp := Sl 3 1 v l.length (encI l)
theorem sl_snoc (v : Value) (l : List Int) (t : Int) : Sl 3 1 v (l.length + 1) (encI l ++ [.int .i64 t]) = IsInts v (l ++ [t]) := by
  unfold IsInts
  rw [encI_append, List.length_append]
  rfl
def slLen : Value → Nat
  | .slice _ n _ => n
  | _ => 0
theorem encI_get {l : List Int} {k : Nat} {x : Int} (h : l[k]? = some x) : (encI l)[k]? = some (.int .i64 x) := by simp [encI, h]

end Go.Proofs.YtmokklkckecmdaaDoor
