/-
  Lists whose elements are laid one behind the other, so many cells each; a piece in the middle of a row.
-/
import Derived.Test.YtmokklkckecmdaaDoorSepLaws
namespace Go.Sep
set_option linter.unusedSimpArgs false
set_option linter.unusedVariables false
theorem calls_post {P : Program} {f : FuncId} {args : Array Value} {w : World} {Φ : Ending → World → Prop} (h : ∀ Post : Ending → World → Prop, (∀ en w', Φ en w' → Post en w') → Calls P f args w Post) : Calls P f args w Φ :=
  h Φ fun _ _ h => h
theorem hid {p : Prop} (h : p) : RowKit.Hid p := h
section
variable {α β : Type}

theorem flat_len {f : α → List β} {k : Nat} (hf : ∀ a, (f a).length = k) (l : List α) : (l.flatMap f).length = l.length * k := by
  induction l with
  | nil => simp
  | cons a l ih => simp [ih, hf, Nat.add_mul]; omega

theorem flat_split (f : α → List β) {l : List α} {i : Nat} {a : α} (hi : l[i]? = some a) : l.flatMap f = (l.take i).flatMap f ++ f a ++ (l.drop (i + 1)).flatMap f := by
  obtain ⟨h, rfl⟩ := List.getElem?_eq_some_iff.1 hi
  have e : l.flatMap f = (l.take i ++ l[i] :: l.drop (i + 1)).flatMap f := by rw [← List.drop_eq_getElem_cons h, List.take_append_drop]
  rw [e, List.flatMap_append, List.flatMap_cons, List.append_assoc]

theorem flat_set (f : α → List β) {l : List α} {i : Nat} (b : α) (hi : i < l.length) : (l.set i b).flatMap f = (l.take i).flatMap f ++ f b ++ (l.drop (i + 1)).flatMap f := by
  have h1 : (l.set i b)[i]? = some b := by simp [hi]
  rw [flat_split f h1, List.take_set_of_le (Nat.le_refl _), List.drop_set_of_lt (by omega)]

theorem flat_take_len {f : α → List β} {k : Nat} (hf : ∀ a, (f a).length = k) {l : List α} {i : Nat} (hi : i ≤ l.length) : ((l.take i).flatMap f).length = i * k := by
  rw [flat_len hf, List.length_take, Nat.min_eq_left hi]

theorem flat_get {f : α → List β} {k : Nat} (hf : ∀ a, (f a).length = k) {l : List α} {i j : Nat} {a : α} (hi : l[i]? = some a) (hj : j < k) : (l.flatMap f)[i * k + j]? = (f a)[j]? := by
  have hlt : i < l.length := (List.getElem?_eq_some_iff.1 hi).1
  rw [flat_split f hi, List.append_assoc, List.getElem?_append_right (by rw [flat_take_len hf (by omega)]; omega), flat_take_len hf (by omega), Nat.add_sub_cancel_left, List.getElem?_append_left (by rw [hf]; exact hj)]

end
section
theorem mid_length (pre cs post : List Value) : (mid pre cs post).length = pre.length + cs.length + post.length := by simp [mid]; omega
theorem mid_get (pre cs post : List Value) (j : Nat) (h : j < cs.length) : (mid pre cs post)[pre.length + j]? = cs[j]? := by
  unfold mid
  rw [List.append_assoc, List.getElem?_append_right (by omega), Nat.add_sub_cancel_left, List.getElem?_append_left h]
theorem mid_get0 (pre cs post : List Value) (h : 0 < cs.length) : (mid pre cs post)[pre.length]? = cs[0]? := mid_get pre cs post 0 h
theorem mid_set (pre cs post : List Value) (j : Nat) (v : Value) (h : j < cs.length) : (mid pre cs post).set (pre.length + j) v = mid pre (cs.set j v) post := by
  unfold mid
  rw [List.append_assoc, List.set_append_right (pre.length + j) v (by omega), Nat.add_sub_cancel_left, List.set_append_left j v (by omega), List.append_assoc]
theorem mid_set2 (pre cs post : List Value) (j k : Nat) (v : Value) (h : j + k < cs.length) : (mid pre cs post).set (pre.length + j + k) v = mid pre (cs.set (j + k) v) post := by rw [Nat.add_assoc]; exact mid_set pre cs post _ v h
theorem mid_get2 (pre cs post : List Value) (j k : Nat) (h : j + k < cs.length) : (mid pre cs post)[pre.length + j + k]? = cs[j + k]? := by rw [Nat.add_assoc]; exact mid_get pre cs post _ h
theorem mid_set0 (pre cs post : List Value) (v : Value) (h : 0 < cs.length) : (mid pre cs post).set pre.length v = mid pre (cs.set 0 v) post := mid_set pre cs post 0 v h

theorem splice_length (cs : List Value) (o : Nat) (vs : List Value) (h : o + vs.length ≤ cs.length) : (splice cs o vs).length = cs.length := by
  simp [splice]; omega
theorem mid_splice (pre cs post : List Value) (j : Nat) (vs : List Value) (h : j + vs.length ≤ cs.length) : splice (mid pre cs post) (pre.length + j) vs = mid pre (splice cs j vs) post := by
  unfold splice mid
  have e1 : (pre ++ cs ++ post).take (pre.length + j) = pre ++ cs.take j := by
    rw [List.append_assoc, List.take_append, List.take_of_length_le (by omega), Nat.add_sub_cancel_left, List.take_append_of_le_length (by omega)]
  have e2 : (pre ++ cs ++ post).drop (pre.length + j + vs.length) = cs.drop (j + vs.length) ++ post := by
    rw [List.append_assoc, List.drop_append, List.drop_eq_nil_of_le (by omega), show pre.length + j + vs.length - pre.length = j + vs.length by omega, List.drop_append_of_le_length (by omega), List.nil_append]
  rw [e1, e2]
  simp
theorem mid_splice0 (pre cs post : List Value) (vs : List Value) (h : vs.length ≤ cs.length) : splice (mid pre cs post) pre.length vs = mid pre (splice cs 0 vs) post := mid_splice pre cs post 0 vs (by omega)
theorem splice_all (cs vs : List Value) (h : cs.length = vs.length) : splice cs 0 vs = vs := by
  unfold splice
  rw [Nat.zero_add, ← h, List.drop_length]; simp
/-- The element i of what lies in the middle. -/
theorem mid_elem {α : Type} {f : α → List Value} {l : List α} {i : Nat} {a : α} (hi : l[i]? = some a) (pre post : List Value) :
    mid pre (l.flatMap f) post = mid (pre ++ (l.take i).flatMap f) (f a) ((l.drop (i + 1)).flatMap f ++ post) := by
  unfold mid
  rw [flat_split f hi]
  simp
theorem mid_elem_set {α : Type} (f : α → List Value) {l : List α} {i : Nat} (a : α) (hi : i < l.length) (pre post : List Value) :
    mid pre ((l.set i a).flatMap f) post = mid (pre ++ (l.take i).flatMap f) (f a) ((l.drop (i + 1)).flatMap f ++ post) := by
  unfold mid
  rw [flat_set f a hi]
  simp
end
end Go.Sep
namespace Go.Sep
theorem ifok {c : Prop} [Decidable c] {b : Bool} {X : Result Bool} {w : World} (h : X = .ok b w) : (if c then X else .ok false w) = .ok (decide c && b) w := by
  by_cases hc : c <;> simp [hc, h]
theorem ifok1 {c : Prop} [Decidable c] {w : World} : (if c then .ok true w else .ok false w) = Result.ok (decide c) w := by
  by_cases hc : c <;> simp [hc]
theorem ifokV {c : Prop} [Decidable c] {b : Bool} {X : Result Value} {w : World} (h : X = .ok (.bool b) w) : (if c then X else .ok (.bool false) w) = .ok (.bool (decide c && b)) w := by
  by_cases hc : c <;> simp [hc, h]
theorem ifokV1 {c : Prop} [Decidable c] {w : World} : (if c then .ok (.bool true) w else .ok (.bool false) w) = Result.ok (Value.bool (decide c)) w := by
  by_cases hc : c <;> simp [hc]
end Go.Sep
