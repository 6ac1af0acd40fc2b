/-
  The reference's flight: how its calls lie in memory; what is read of them.
-/
import Derived.Test.YtecdkajhcglpdaaFlR
import Derived.Test.YtecdkajhcglpdaaReads
import Derived.Test.YtecdkajhcglpdaaSepPick
namespace Go.Proofs.Ytecdkajhcglpdaa
set_option linter.unusedSimpArgs false
set_option linter.unusedVariables false
open Go.RowKit Go.Sep Go.RingM

def encC (c : CallV) (v : Value) : List Value := [.int .i64 c.of, .int .i64 c.key, .bool c.gone, v]
def encCs (cs : List CallV) (vs : List Value) : List Value := (List.zipWith encC cs vs).flatten
def joinedOf (vs : List Value) (cs : List CallV) : List HProp := List.zipWith (fun v c => IsInts v c.joined) vs cs
structure RFv where
  a : Option Addr
  cap : Nat
  vs : List Value
def rfParts (p n : Nat) (cs : List CallV) (x : RFv) : List HProp := [pt p [.slice x.a cs.length x.cap, .int .i64 (n : Int)] 47, Sl 44 4 (.slice x.a cs.length x.cap) cs.length (encCs cs x.vs), sepL (joinedOf x.vs cs), fct (x.vs.length = cs.length)]
def IsRF (p n : Nat) (cs : List CallV) : HProp := exL (rfParts p n cs)
theorem encCs_length {cs : List CallV} {vs : List Value} (h : vs.length = cs.length) : (encCs cs vs).length = cs.length * 4 := by
  unfold encCs
  induction cs generalizing vs with
  | nil => simp
  | cons c cs ih =>
    cases vs with
    | nil => simp at h
    | cons v vs =>
      have := ih (vs := vs) (by simpa using h)
      simp only [List.zipWith_cons_cons, List.flatten_cons, List.length_append, this, List.length_cons]
      simp [encC]; omega
theorem encCs_get {cs : List CallV} {vs : List Value} (h : vs.length = cs.length) {k j : Nat} {c : CallV} {v : Value} (hc : cs[k]? = some c) (hv : vs[k]? = some v) (hj : j < 4) : (encCs cs vs)[k * 4 + j]? = (encC c v)[j]? := by
  unfold encCs
  induction cs generalizing vs k with
  | nil => simp at hc
  | cons d cs ih =>
    cases vs with
    | nil => simp at hv
    | cons u vs =>
      cases k with
      | zero =>
        simp at hc hv; subst hc hv
        rw [List.zipWith_cons_cons, List.flatten_cons, List.getElem?_append_left (by simp [encC]; omega)]
        simp
      | succ k =>
        have h1 := ih (vs := vs) (by simpa using h) (k := k) (by simpa using hc) (by simpa using hv)
        rw [List.zipWith_cons_cons, List.flatten_cons, List.getElem?_append_right (by simp [encC]; omega), ← h1]
        congr 1
        simp [encC]; omega
theorem joinedOf_length {vs : List Value} {cs : List CallV} (h : vs.length = cs.length) : (joinedOf vs cs).length = cs.length := by
  unfold joinedOf; rw [List.length_zipWith, h, Nat.min_self]
theorem joinedOf_get {vs : List Value} {cs : List CallV} {i : Nat} {c : CallV} (h : vs.length = cs.length) (hc : cs[i]? = some c) : ∃ v, vs[i]? = some v ∧ (joinedOf vs cs)[i]? = some (IsInts v c.joined) := by
  obtain ⟨hi, hc'⟩ := List.getElem?_eq_some_iff.1 hc
  have hi2 : i < vs.length := by omega
  refine ⟨vs[i], List.getElem?_eq_getElem hi2, ?_⟩
  unfold joinedOf
  rw [List.getElem?_zipWith, List.getElem?_eq_getElem hi2, hc]
/-- The cells of a call that is held. -/
theorem call_at {e w : World} {L : List HProp} {i n k ca : Nat} {a : Option Addr} {cs : List CallV} {vs : List Value} {c : CallV} {v : Value} (hw : Holds e w L) (hi : L[i]? = some (Sl 44 4 (.slice a n ca) n (encCs cs vs))) (hlen : vs.length = cs.length) (hc : cs[k]? = some c) (hv : vs[k]? = some v) :
    ∃ b off, a = some ⟨b, off, none⟩ ∧ w.cell? ⟨b, off + k * 4, none⟩ = some (.int .i64 c.of) ∧ w.cell? ⟨b, off + k * 4 + 1, none⟩ = some (.int .i64 c.key) ∧ w.cell? ⟨b, off + k * 4 + 2, none⟩ = some (.bool c.gone) ∧ w.cell? ⟨b, off + k * 4 + 3, none⟩ = some v := by
  have hk : k < cs.length := (List.getElem?_eq_some_iff.1 hc).1
  have hln : (encCs cs vs).length = n * 4 := hw.fact hi (fun _ h => h.1)
  have hln2 := encCs_length hlen
  rcases hw.openSl hi with ⟨_, h2, _⟩ | ⟨b, cap, pre, post, hv', _, _, _, hw'⟩
  · omega
  · cases hv'
    have hil : i < L.length := (List.getElem?_eq_some_iff.1 hi).1
    have hcell : ∀ j, j < 4 → w.cell? ⟨b, pre.length + (k * 4 + j), none⟩ = (encC c v)[j]? := fun j hj => by
      rw [hw'.cells (List.getElem?_set_self hil), Sep.mid_get _ _ _ _ (by omega), encCs_get hlen hc hv hj]
    exact ⟨b, pre.length, rfl, hcell 0 (by omega), by have := hcell 1 (by omega); rwa [← Nat.add_assoc] at this, by have := hcell 2 (by omega); rwa [← Nat.add_assoc] at this, by have := hcell 3 (by omega); rwa [← Nat.add_assoc] at this⟩
end Go.Proofs.Ytecdkajhcglpdaa
