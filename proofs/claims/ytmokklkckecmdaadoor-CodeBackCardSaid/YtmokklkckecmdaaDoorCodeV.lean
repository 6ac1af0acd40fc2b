/-
  Bytes that came in; Bytes, whether it may be or not.
-/
import Derived.Test.YtmokklkckecmdaaDoorCodeU
namespace Go.Proofs.YtmokklkckecmdaaDoor
set_option linter.unusedSimpArgs false
set_option linter.unusedVariables false
open Go.ChangeShapes Go.WideShapes Go.ChangeAt Go.RowKit Go.Sep

def BytesAt (e : World) (a : Option Addr) (l : List Int) : Prop := ∀ (i : Nat) (n : Int), l[i]? = some n → (0 ≤ n ∧ n ≤ 255) ∧ ∃ p : Addr, a = some p ∧ e.cell? (p.add i) = some (.int .u8 n)
theorem flatU : flatK Tryd.prog 2 5 = some [some .u8] := by kernel_rfl
theorem cellsU : Tryd.prog.cellsOf 5 = 1 := by kernel_rfl
theorem slice_cap {H : Type} {enc : TypeId × Value → H} {P : Program} {w : World} {t e : TypeId} {a : Option Addr} {len cap : Nat} {d : DataW H} {ps : List MemPlace} (ht : P.underlying t = some (.slice e)) (h : DataW.Trod enc P w 0 (fun _ => true) true t (.slice a len cap) d ps) : len ≤ cap := by
  obtain ⟨fuel, hf⟩ := h
  rcases Go.Deep.open_slice ht hf with ⟨h0, _⟩ | ⟨p, len', cap', m, q, D, Pl, hcs, hb, hl, hm, hmm, hx, hi⟩
  · simp [Value.cells] at h0; omega
  · simp [Value.cells] at hcs
    obtain ⟨rfl, rfl, rfl⟩ := hcs
    omega
theorem open_bytes {H : Type} {enc : TypeId × Value → H} {W : World} {v : Value} {d : DataW H} {ps : List MemPlace} {b0 : Nat} (hv : Value.okWide Tryd.prog W .any b0 25 v) (h : DataW.Trod enc Tryd.prog W 0 (fun _ => true) true 25 v d ps) :
    ∃ (a : Option Addr) (cap : Nat) (l : List Int), v = .slice a l.length cap ∧ l.length ≤ cap ∧ BytesAt W a l := by
  obtain ⟨a, len, cap, rfl, hlen, _, hR⟩ := open_slice_flat 2 Tryd.underlying25 flatU (by rw [cellsU]; rfl) hv h
  have hlc := slice_cap Tryd.underlying25 h
  obtain ⟨l, hl, hA⟩ := exists_list (R := fun i (n : Int) => (0 ≤ n ∧ n ≤ 255) ∧ ∃ p : Addr, a = some p ∧ W.cell? (p.add i) = some (.int .u8 n)) len (fun i hi => by
    obtain ⟨p, cs, hp, hf, hc⟩ := hR i hi
    obtain ⟨z0, cs, rfl, hw, hf⟩ := fitsK_cons hf
    obtain rfl := fitsK_nil hf
    have := hc 0 _ rfl
    simp only [List.length_cons, List.length_nil, Nat.zero_add, Nat.mul_one, Nat.add_zero] at this
    exact ⟨z0, wf_u8 hw, p, hp, this⟩)
  subst hl
  exact ⟨a, cap, l, rfl, hlc, hA⟩
theorem old_bytes {e : World} {a : Option Addr} {l : List Int} (h : BytesAt e a l) : RdB e (Old e) a l := by
  intro w L i hw hi k x hx
  obtain ⟨_, p, hp, hc⟩ := h k x hx
  exact ⟨p, hp, old_cell hw hi hc⟩
theorem bytes_bys {e : World} {a : Option Addr} {l : List Int} (h : BytesAt e a l) : Bys l := by
  intro x hx
  obtain ⟨k, hk⟩ := List.getElem?_of_mem hx
  exact (h k x hk).1
/-- The bytes of a program, none where it may not be; and what is told. -/
def bL (l : List Deed) : List Int := if mayP l = true then bytesP l else []
def eL (l : List Deed) : Int := if mayP l = true then 0 else 1
theorem oBytesX (l : List Deed) (n ca : Nat) (a : Option Addr) (hn : Hid (l.length = n)) (e w : World) (X : HProp) (hT : Tops e X) (hR : RdA e X a l) (hw : Holds e w [X]) :
    Calls Tryd.prog 7 #[.slice a n ca] w fun en w' => ∃ v, en = .returned (.tuple #[v, .int .i64 (eL l)]) ∧ Holds e w' [X, IsB v (bL l)] := by
  cases hm : mayP l with
  | true =>
    unfold bL eL; rw [if_pos hm, if_pos hm]
    exact oBytes l n ca a hn e w X hT hR hm hw
  | false =>
    unfold bL eL; rw [if_neg (by rw [hm]; decide), if_neg (by rw [hm]; decide)]
    refine (oBytes_no l n ca a hn e w X hT hR hm hw).mono ?_
    rintro _ w_ ⟨rfl, hw_⟩
    exact ⟨_, rfl, hw_.addEmp (X := IsB (.slice none 0 0) []) (Sl.nil _ _ _)⟩
theorem rBytesX (l : List Deed) (n ca : Nat) (a : Option Addr) (hn : Hid (l.length = n)) (hn2 : n ≤ 1000000) (e w : World) (X : HProp) (hR : RdA e X a l) (hw : Holds e w [X]) :
    Calls Tryd.prog 8 #[.slice a n ca] w fun en w' => ∃ v, en = .returned (.tuple #[v, .int .i64 (eL l)]) ∧ Holds e w' [X, IsB v (bL l)] := by
  cases hm : mayP l with
  | true =>
    unfold bL eL; rw [if_pos hm, if_pos hm]
    exact rBytes l n ca a hn e w X hR hm hw
  | false =>
    unfold bL eL; rw [if_neg (by rw [hm]; decide), if_neg (by rw [hm]; decide)]
    refine (rBytes_no l n ca a hn hn2 e w X hR hm hw).mono ?_
    rintro _ w_ ⟨rfl, hw_⟩
    exact ⟨_, rfl, hw_.addEmp (X := IsB (.slice none 0 0) []) (Sl.nil _ _ _)⟩
theorem bL_len (l : List Deed) (h : l.length ≤ 60) : (bL l).length ≤ 1000 := by
  unfold bL; split
  · rw [bytesP_len]; omega
  · simp
theorem readP_len (b : List Int) : (readP b).1.length ≤ 24 := by
  unfold readP
  split
  · simp
  split
  · simp
  split
  · simp
  split
  · rename_i h; simp only; rw [readL_len]; omega
  · simp
end Go.Proofs.YtmokklkckecmdaaDoor
