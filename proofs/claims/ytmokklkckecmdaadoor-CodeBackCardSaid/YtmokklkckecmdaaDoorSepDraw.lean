/-
  A region that draws its order, in a round of a loop over a function.
-/
import Derived.Test.YtmokklkckecmdaaDoorSepRound
import Derived.Test.YtmokklkckecmdaaDoorRegion
namespace Go.Sep
set_option linter.unusedSimpArgs false
set_option linter.unusedVariables false
section
variable {P : Program} {ops : Array Oper} {Q : Exit → Act → World → Prop} {F : Fence} {m : Nat}
theorem wpOpsIn_of (hF : Wide F) (hQ : ∀ a w, ¬ Q .outgrown a w) (hd : ops.toList.all noDefer = true) : ∀ {l : List Nat} {a : Act} {w : World}, wpOps P ops Q l a w → wpOpsIn F m P ops Q l a w
  | [], _, _, h => h
  | i :: l, a, w, h => by
    simp only [wpOps] at h
    simp only [wpOpsIn]
    cases ho : ops[i]? with
    | none => simp only [ho] at h ⊢; exact wpOpsIn_of hF hQ hd h
    | some o =>
      simp only [ho] at h ⊢
      have hno : noDefer o = true := List.all_eq_true.1 hd o (Array.mem_toList_iff.2 (Array.mem_of_getElem? ho))
      split
      · rename_i hw
        rw [if_pos hw] at h
        rcases h with h | ⟨_, a', w', h⟩
        · exact wpIn_ofwp hF hno (Oper.wp_mono (fun a w h => wpOpsIn_of hF hQ hd h) h)
        · exact (hQ _ _ h).elim
      · rename_i hw
        rw [if_neg hw] at h
        exact ⟨fun _ _ => hF.fn _, wpOpsIn_of hF hQ hd h⟩
theorem wp_region_LIn (hF : Wide F) (hQ : ∀ a w, ¬ Q .outgrown a w) (hd : ops.toList.all noDefer = true) (loud : List Nat) (conds : Conds) {id : Nat} {a : Act} {w : World} {listed : Array Bool} {n : Nat} (hm : P.follows .mixedOrders = true) (hn : ops.size = n) (hl : Array.replicate n false = listed)
    (h0 : ∀ c ∈ (show List (Nat × (World → Prop)) from conds), c.2 w.drew)
    (h : wpL P ops Q loud conds n listed a w.drew) : (Code.region id ops true).wpIn F m P Q a w := by
  subst hn
  subst hl
  refine wpIn_region_draw fun t => wpOpsIn_of hF hQ hd ?_
  simp only [Region.schedule, hm, Bool.true_or, if_true]
  refine wpAny_sound ops.size t _ a _ (wpAny_of_L _ _ _ _ (h ?_ ?_))
  · intro j o ho hj
    have hlt : j < ops.size := by
      rcases Nat.lt_or_ge j ops.size with h' | h'
      · exact h'
      · simp [Array.getElem?_eq_none h'] at ho
    simp [hlt] at hj
  · exact fun c hc _ => h0 c hc
end
end Go.Sep
