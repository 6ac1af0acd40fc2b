/-
  The acts that come in: how they lie in the world in which the law begins. (Printed by gen_law.py.)
-/
import Derived.Test.YtmokklkckecmdaaDoorDeed
import Derived.Test.YtmokklkckecmdaaDoorLawArgs
namespace Go.Proofs.YtmokklkckecmdaaDoor
set_option linter.unusedSimpArgs false
set_option linter.unusedVariables false
open Go.ChangeShapes Go.WideShapes Go.ChangeAt Go.RowKit Go.Sep

def encA (d : Deed) : List Value := [.int .i64 d.f0, .int .i64 d.f1, .int .i64 d.f2, .int .i64 d.f3]
def Deed.ok (d : Deed) : Prop := (-9223372036854775808 ≤ d.f0 ∧ d.f0 ≤ 9223372036854775807) ∧ (-9223372036854775808 ≤ d.f1 ∧ d.f1 ≤ 9223372036854775807) ∧ (-9223372036854775808 ≤ d.f2 ∧ d.f2 ≤ 9223372036854775807) ∧ (-9223372036854775808 ≤ d.f3 ∧ d.f3 ≤ 9223372036854775807)
theorem encA_one (d : Deed) : ∀ v ∈ encA d, v.oneCell' = true := by simp [encA, Value.oneCell']
/-- The acts that came in: as they lie in the world in which the law began. -/
def ActsAt (e : World) (a : Option Addr) (l : List Deed) : Prop := ∀ (i : Nat) (d : Deed), l[i]? = some d → d.ok ∧ ∃ p : Addr, a = some p ∧ ∀ j c, (encA d)[j]? = some c → e.cell? ((p.add (i * 4)).add j) = some c
theorem flatA : flatK Tryd.prog 5 23 = some [some .i64, some .i64, some .i64, some .i64] := by kernel_rfl
theorem cellsA : Tryd.prog.cellsOf 23 = 4 := by kernel_rfl
theorem fitsA {cs : List Value} (h : fitsK cs [some .i64, some .i64, some .i64, some .i64]) : ∃ d : Deed, d.ok ∧ cs = encA d := by
  obtain ⟨z0, cs0, rfl, w0, hh0⟩ := fitsK_cons h
  obtain ⟨z1, cs1, rfl, w1, hh1⟩ := fitsK_cons hh0
  obtain ⟨z2, cs2, rfl, w2, hh2⟩ := fitsK_cons hh1
  obtain ⟨z3, cs3, rfl, w3, hh3⟩ := fitsK_cons hh2
  obtain rfl := fitsK_nil hh3
  exact ⟨⟨z0, z1, z2, z3⟩, ⟨wf_i64 w0, wf_i64 w1, wf_i64 w2, wf_i64 w3⟩, rfl⟩
theorem open_acts {H : Type} {enc : TypeId × Value → H} {W : World} {v : Value} {d : DataW H} {ps : List MemPlace} {b0 : Nat} (hv : Value.okWide Tryd.prog W .any b0 24 v) (h : DataW.Trod enc Tryd.prog W 0 (fun _ => true) true 24 v d ps) :
    ∃ (a : Option Addr) (cap : Nat) (l : List Deed), v = .slice a l.length cap ∧ l.length ≤ maxLen ∧ ActsAt W a l := by
  obtain ⟨a, len, cap, rfl, hlen, _, hR⟩ := open_slice_flat 5 Tryd.underlying24 flatA (by rw [cellsA]; rfl) hv h
  obtain ⟨l, hl, hA⟩ := exists_list (R := fun i (d : Deed) => d.ok ∧ ∃ p : Addr, a = some p ∧ ∀ j c, (encA d)[j]? = some c → W.cell? ((p.add (i * 4)).add j) = some c) len (fun i hi => by
    obtain ⟨p, cs, hp, hf, hc⟩ := hR i hi
    obtain ⟨d, hd, rfl⟩ := fitsA hf
    exact ⟨d, hd, p, hp, fun j c hj => by rw [Go.Deep.add_add]; exact hc j c hj⟩)
  subst hl
  exact ⟨a, cap, l, rfl, hlen, hA⟩
theorem open_act {H : Type} {enc : TypeId × Value → H} {W : World} {v : Value} {d : DataW H} {ps : List MemPlace} {b0 : Nat} (hv : Value.okWide Tryd.prog W .any b0 23 v) (h : DataW.Trod enc Tryd.prog W 0 (fun _ => true) true 23 v d ps) :
    ∃ k : Deed, k.ok ∧ v = .agg (encA k).toArray := by
  obtain ⟨cs, rfl, _⟩ := okWide_struct Tryd.underlying23 hv
  obtain ⟨fuel, hf⟩ := h
  obtain ⟨k, hok, hk⟩ := fitsA (trod_fits 5 fuel 23 _ _ _ flatA hf (by rw [cellsA]; rfl))
  have : cs = (encA k).toArray := by
    apply Array.toList_inj.1
    simpa [Value.cells] using hk
  exact ⟨k, hok, by rw [this]⟩
/-- An act is read. -/
theorem wp_loadAct {ops : Array Oper} {Q : Exit → Go.Act → World → Prop} {K : Go.Act → World → Prop} {a : Go.Act} {e w : World} {o : Oper} {L : List HProp} {i : Nat} {ad : Addr} {d : Deed} {x : Operand} (ho : o.op = .load 23 x) (hx : a.eval x = .pointer (some ad))
    (hw : Holds e w L) (hi : L[i]? = some (Old e)) (hv : ∀ j c, (encA d)[j]? = some c → e.cell? (ad.add j) = some c)
    (h : K (a.put o.dst (.agg (encA d).toArray)) w) : o.wp Tryd.prog a w K Q :=
  wp_loadOld ho hx hw hi rfl hv h
end Go.Proofs.YtmokklkckecmdaaDoor
