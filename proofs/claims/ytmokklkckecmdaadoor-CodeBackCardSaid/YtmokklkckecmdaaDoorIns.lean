/-
  Instructions and programs, as plain data: what is asked of them.
-/
import Derived.Test.YtmokklkckecmdaaDoorDeed
namespace Go.Proofs.YtmokklkckecmdaaDoor
set_option linter.unusedSimpArgs false
set_option linter.unusedVariables false
open Go.RowKit Go.Sep

def formT : List (List Nat) := [[48, 48, 48], [114, 48, 110], [114, 114, 48], [114, 114, 48], [114, 48, 106], [114, 114, 106], [48, 48, 48], [114, 112, 48], [114, 48, 48], [114, 48, 48], [114, 114, 48], [114, 114, 110], [114, 114, 110], [114, 114, 48], [114, 48, 110], [114, 114, 48], [114, 114, 48], [114, 114, 110], [114, 48, 48], [114, 114, 112], [114, 48, 48], [48, 48, 111], [114, 48, 111], [114, 48, 111], [48, 48, 111], [48, 48, 111], [48, 48, 111], [48, 48, 111], [48, 111, 111], [114, 111, 111], [48, 48, 111], [48, 48, 111], [114, 48, 111], [48, 48, 111], [114, 48, 111], [48, 48, 111], [114, 114, 111], [114, 114, 111], [114, 48, 111], [114, 112, 111], [114, 112, 111], [114, 48, 111], [114, 48, 111], [114, 114, 111], [114, 48, 111], [114, 48, 111], [114, 48, 48]]
/-- The letters of an Op. -/
def formP (op : Int) : List Nat := if 0 ≤ op then formT.getD op.toNat [] else []
def strOf (l : List Nat) : ByteArray := ⟨(l.map UInt8.ofNat).toArray⟩
def letters : List Nat := [48, 106, 110, 111, 112, 114]
theorem form_cases (op : Int) : (formP op = [] ∧ (op < 0 ∨ 46 < op)) ∨ ∃ c0 c1 c2, formP op = [c0, c1, c2] ∧ c0 ∈ letters ∧ c1 ∈ letters ∧ c2 ∈ letters := by
  unfold formP
  by_cases h : 0 ≤ op
  · rw [if_pos h]
    by_cases h2 : op.toNat < 47
    · have : ∀ q, q < 47 → ∃ c0 c1 c2, formT.getD q [] = [c0, c1, c2] ∧ c0 ∈ letters ∧ c1 ∈ letters ∧ c2 ∈ letters := by
        intro q hq
        have hall : ∀ l ∈ formT, ∃ c0 c1 c2, l = [c0, c1, c2] ∧ c0 ∈ letters ∧ c1 ∈ letters ∧ c2 ∈ letters := by
          intro l hl
          simp only [formT, List.mem_cons, List.not_mem_nil, or_false] at hl
          rcases hl with rfl | rfl | rfl | rfl | rfl | rfl | rfl | rfl | rfl | rfl | rfl | rfl | rfl | rfl | rfl | rfl | rfl | rfl | rfl | rfl | rfl | rfl | rfl | rfl | rfl | rfl | rfl | rfl | rfl | rfl | rfl | rfl | rfl | rfl | rfl | rfl | rfl | rfl | rfl | rfl | rfl | rfl | rfl | rfl | rfl | rfl | rfl <;> exact ⟨_, _, _, rfl, by decide, by decide, by decide⟩
        have hlt : q < formT.length := hq
        rw [List.getD_eq_getElem?_getD, List.getElem?_eq_getElem hlt]
        exact hall _ (List.getElem_mem hlt)
      exact .inr (this _ h2)
    · left
      refine ⟨?_, by omega⟩
      have hl : formT.length = 47 := rfl
      rw [List.getD_eq_getElem?_getD, List.getElem?_eq_none (by rw [hl]; omega)]; rfl
  · rw [if_neg h]; exact .inl ⟨rfl, by omega⟩
def fitsP (c : Nat) (n long : Int) : Bool :=
  if c = 114 then decide (0 ≤ n ∧ n < 6) else if c = 111 then decide (0 ≤ n ∧ n < 4) else if c = 112 then decide (0 ≤ n ∧ n < 8)
  else if c = 106 then decide (0 ≤ n ∧ n ≤ long) else if c = 110 then true else decide (n = 0)
def rightP (x : Deed) (long : Int) : Bool := match formP x.f0 with
  | [c0, c1, c2] => fitsP c0 x.f1 long && (fitsP c1 x.f2 long && fitsP c2 x.f3 long)
  | _ => false
def mayP (l : List Deed) : Bool := decide (1 ≤ l.length ∧ l.length ≤ 24) && l.all (fun x => rightP x l.length)
theorem size_strOf (l : List Nat) : (strOf l).size = l.length := by simp [strOf, ByteArray.size]
theorem decode_strOf (l : List Nat) (k c : Nat) (hc : l[k]? = some c) (h : c < 128) : Utf8.decode (strOf l) k = (c, 1) := by
  obtain ⟨hk, rfl⟩ := List.getElem?_eq_some_iff.1 hc
  have e1 : ((strOf l).get! (k + 0)).toNat = l[k] := by
    have : (strOf l).get! (k + 0) = UInt8.ofNat l[k] := by
      simp [strOf, ByteArray.get!, hk]
    rw [this]
    simp [UInt8.toNat_ofNat]; omega
  unfold Utf8.decode
  simp only [e1]
  rw [if_pos (by omega)]
end Go.Proofs.YtmokklkckecmdaaDoor
