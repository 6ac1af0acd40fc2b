/-
  What a value of a type made of whole numbers and bools alone looks like in cells; and the frame of a law's proof: what the call must be shown to do, once for all shapes of arguments.
-/
import Derived.Test.YtmokklkckecmdaaDoorRegion
import Derived.ProofKit
import Derived.OpenShut
import Derived.Deep.Slices
namespace Go.Sep
set_option linter.unusedSimpArgs false
set_option linter.unusedVariables false
open Go.RowKit Go.ChangeShapes Go.WideShapes

def fieldsK (P : Program) (g : TypeId → Option (List (Option IntKind))) : Nat → List Field → Option (List (Option IntKind))
  | _, [] => some []
  | off, f :: fs =>
    if f.offset = off then
      match g f.type with
      | some ks => if P.cellsOf f.type = ks.length then (fieldsK P g (off + ks.length) fs).map (ks ++ ·) else none
      | none => none
    else none
def flatK (P : Program) : Nat → TypeId → Option (List (Option IntKind))
  | 0, _ => none
  | n + 1, t => match P.underlying t with
    | some (.int k) => some [some k]
    | some .bool => some [none]
    | some (.struct fs) => fieldsK P (flatK P n) 0 fs.toList
    | some (.array m e) => match flatK P n e with
      | some ks => if P.cellsOf e = ks.length then some (List.replicate m ks).flatten else none
      | none => none
    | _ => none

def fitsK : List Value → List (Option IntKind) → Prop
  | [], [] => True
  | c :: cs, some k :: ks => (∃ z, c = .int k z ∧ (Lit.int k z).wf = true) ∧ fitsK cs ks
  | c :: cs, none :: ks => (∃ b, c = .bool b) ∧ fitsK cs ks
  | _, _ => False

theorem fitsK.length : ∀ {cs : List Value} {ks : List (Option IntKind)}, fitsK cs ks → cs.length = ks.length
  | [], [], _ => rfl
  | c :: cs, some k :: ks, h => by simp [h.2.length]
  | c :: cs, none :: ks, h => by simp [h.2.length]
  | [], _ :: _, h => h.elim
  | _ :: _, [], h => h.elim
theorem fitsK.append : ∀ {a : List Value} {ks : List (Option IntKind)} {b : List Value} {ls : List (Option IntKind)}, fitsK a ks → fitsK b ls → fitsK (a ++ b) (ks ++ ls)
  | [], [], _, _, _, h => h
  | c :: cs, some k :: ks, _, _, h, h' => ⟨h.1, h.2.append h'⟩
  | c :: cs, none :: ks, _, _, h, h' => ⟨h.1, h.2.append h'⟩
  | [], _ :: _, _, _, h, _ => h.elim
  | _ :: _, [], _, _, h, _ => h.elim

theorem take_add' {α : Type} (l : List α) (i j : Nat) : l.take (i + j) = l.take i ++ (l.drop i).take j := List.take_add

theorem fieldsK_fits {P : Program} {g : TypeId → Option (List (Option IntKind))} {cs : List Value} : ∀ (fs : List Field) (off : Nat) (ks : List (Option IntKind)), fieldsK P g off fs = some ks →
    (∀ (i : Nat) (f : Field), fs[i]? = some f → ∀ fk, g f.type = some fk → fitsK ((cs.drop f.offset).take (P.cellsOf f.type)) fk) → fitsK ((cs.drop off).take ks.length) ks
  | [], off, ks, h, _ => by simp [fieldsK] at h; subst h; simp [fitsK]
  | f :: fs, off, ks, h, hf => by
    unfold fieldsK at h
    split at h
    · rename_i hoff
      cases hg : g f.type with
      | none => simp [hg] at h
      | some k1 =>
        simp only [hg] at h
        split at h
        · rename_i hc
          cases hr : fieldsK P g (off + k1.length) fs with
          | none => simp [hr] at h
          | some k2 =>
            simp [hr] at h
            subst h
            have h1 := hf 0 f rfl k1 hg
            have h2 := fieldsK_fits fs (off + k1.length) k2 hr (fun i f' hi => hf (i + 1) f' (by simpa using hi))
            rw [hoff, hc] at h1
            have := h1.append h2
            rw [List.length_append, take_add', List.drop_drop]
            exact this
        · cases h
    · cases h

theorem array_fits {P : Program} {e : TypeId} {ks : List (Option IntKind)} {cs : List Value} (m : Nat) (hc : P.cellsOf e = ks.length) (h : ∀ i, i < m → fitsK ((cs.drop (i * P.cellsOf e)).take (P.cellsOf e)) ks) :
    fitsK (cs.take (m * ks.length)) (List.replicate m ks).flatten := by
  induction m with
  | zero => simp [fitsK]
  | succ m ih =>
    have h1 := ih (fun i hi => h i (by omega))
    have h2 := h m (by omega)
    rw [hc] at h2
    rw [List.replicate_succ', List.flatten_append, Nat.add_mul, Nat.one_mul, take_add']
    simpa using h1.append h2

section
variable {H : Type} {enc : TypeId × Value → H} {P : Program} {w : World} {base : Nat} {spare : Nat → Bool} {held : Bool}

theorem trod_fits : ∀ (n : Nat) (fuel : Nat) (t : TypeId) (cs : List Value) (x : DataW H × List MemPlace) (ks : List (Option IntKind)), flatK P n t = some ks → DataW.trod enc P w base spare held fuel t cs = some x → P.cellsOf t = ks.length → fitsK cs ks
  | 0, _, _, _, _, _, h, _, _ => by simp [flatK] at h
  | n + 1, fuel, t, cs, x, ks, h, hx, hct => by
    unfold flatK at h
    cases hu : P.underlying t with
    | none => simp [hu] at h
    | some d =>
      simp only [hu] at h
      cases d with
      | int k =>
        simp only [Option.some.injEq] at h
        subst h
        obtain ⟨z, rfl, _, hw⟩ := DataW.trod_int hu hx
        exact ⟨⟨z, rfl, hw⟩, trivial⟩
      | bool =>
        simp only [Option.some.injEq] at h
        subst h
        obtain ⟨b, rfl, _⟩ := DataW.trod_bool hu hx
        exact ⟨⟨b, rfl⟩, trivial⟩
      | struct fs =>
        obtain ⟨xs, m, _, _, hlen, hxl, hf⟩ := DataW.trod_struct hu hx
        have := fieldsK_fits (cs := cs) fs.toList 0 ks h (fun i f hi fk hg => by
          have hi' : fs[i]? = some f := by simpa using hi
          have h1 := hf i f hi'
          have hil : i < fs.size := (Array.getElem?_eq_some_iff.1 hi').1
          have hxi : xs[i]? = some (xs[i]'(by omega)) := List.getElem?_eq_getElem (by omega)
          by_cases hcf : P.cellsOf f.type = fk.length
          · exact trod_fits n m f.type _ _ fk hg (h1.trans hxi) hcf
          · exfalso
            -- the check has looked at the lengths
            have key : ∀ (l : List Field) (off : Nat) (q : List (Option IntKind)), fieldsK P (flatK P n) off l = some q → ∀ f' ∈ l, ∀ k', flatK P n f'.type = some k' → P.cellsOf f'.type = k'.length := by
              intro l
              induction l with
              | nil => intro _ _ _ f' hf'; cases hf'
              | cons a l ih =>
                intro off q hq f' hf' k' hk'
                unfold fieldsK at hq
                split at hq
                · cases hg' : flatK P n a.type with
                  | none => simp [hg'] at hq
                  | some k1 =>
                    simp only [hg'] at hq
                    split at hq
                    · rename_i hc1
                      rcases List.mem_cons.1 hf' with rfl | hm
                      · rw [hg'] at hk'; cases hk'; exact hc1
                      · cases hr : fieldsK P (flatK P n) (off + k1.length) l with
                        | none => simp [hr] at hq
                        | some k2 => exact ih _ _ hr f' hm k' hk'
                    · cases hq
                · cases hq
            exact hcf (key fs.toList 0 ks h f (List.mem_of_getElem? hi) fk hg))
        simp only [List.drop_zero] at this
        rwa [List.take_of_length_le (by omega)] at this
      | array m e =>
        obtain ⟨xs, q, _, _, hlen, hxl, hf⟩ := DataW.trod_array hu hx
        cases hg : flatK P n e with
        | none => simp [hg] at h
        | some k1 =>
          simp only [hg] at h
          split at h
          · rename_i hc
            simp only [Option.some.injEq] at h
            subst h
            have hl2 : (List.replicate m k1).flatten.length = m * k1.length := by simp
            have := array_fits (P := P) (e := e) (cs := cs) m hc (fun i hi => by
              have h1 := hf i hi
              have hxi : xs[i]? = some (xs[i]'(by omega)) := List.getElem?_eq_getElem (by omega)
              exact trod_fits n q e _ _ k1 hg (h1.trans hxi) hc)
            rwa [List.take_of_length_le (by omega)] at this
          · cases h
      | _ => simp at h
end

/-- An argument that is a slice of such values: its cells, one element behind the other. -/
theorem open_slice_flat {H : Type} {enc : TypeId × Value → H} {P : Program} {w : World} {t e : TypeId} {v : Value} {d : DataW H} {ps : List MemPlace} {ks : List (Option IntKind)} (n : Nat)
    (ht : P.underlying t = some (.slice e)) (hk : flatK P n e = some ks) (hc : P.cellsOf e = ks.length) {b0 : Nat} (hv : Value.okWide P w .any b0 t v) (h : DataW.Trod enc P w 0 (fun _ => true) true t v d ps) :
    ∃ (a : Option Addr) (len cap : Nat), v = .slice a len cap ∧ len ≤ maxLen ∧ (a = none → len = 0) ∧
      ∀ i, i < len → ∃ (p : Addr) (cs : List Value), a = some p ∧ fitsK cs ks ∧ ∀ j c, cs[j]? = some c → w.cell? (p.add (i * ks.length + j)) = some c := by
  obtain ⟨a, len, cap, rfl⟩ := okWide_slice ht hv
  obtain ⟨fuel, hf⟩ := h
  rcases Go.Deep.open_slice ht hf with ⟨h0, _⟩ | ⟨p, len', cap', m, q, D, Pl, hcs, hb, hl, hm, hmm, hx, hi⟩
  · simp [Value.cells] at h0
    obtain ⟨rfl, rfl, rfl⟩ := h0
    exact ⟨none, 0, 0, rfl, by simp, fun _ => rfl, fun i hi => by omega⟩
  · simp [Value.cells] at hcs
    obtain ⟨rfl, rfl, rfl⟩ := hcs
    refine ⟨some p, len, cap, rfl, by omega, fun h => by (cases h), fun i hil => ?_⟩
    obtain ⟨cs', hc', ht'⟩ := hi i (by simp at hmm; omega)
    obtain ⟨_, hcl, hat⟩ := World.cells?_some hc'
    have hfit := trod_fits n q e cs' _ ks hk ht' hc
    refine ⟨p, cs', rfl, hfit, fun j c hj => ?_⟩
    have hjl : j < P.cellsOf e := by rw [hc, ← hfit.length]; exact (List.getElem?_eq_some_iff.1 hj).1
    have := hat j hjl
    rw [Go.Deep.add_add, hc] at this
    rw [this]; exact hj
end Go.Sep
