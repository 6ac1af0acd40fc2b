/-
  A region that draws its order, walked in one order: an operation that only looks at memory may be taken as soon as it is ready, if what it looks at holds till an operation that waits for it has come.
-/
import Derived.Test.YtmokklkckecmdaaDoorSepList
import Derived.Orders
namespace Go.Sep
set_option linter.unusedSimpArgs false
set_option linter.unusedVariables false

/-- Who waits for operation i, directly or through others (i itself among them). -/
def descGo (i : Nat) : List Oper → Array Bool → Array Bool
  | [], acc => acc
  | o :: r, acc => descGo i r (acc.push (acc.size == i || o.after.any fun e => Region.binds .any e && acc.getD e.on false))
def desc (ops : Array Oper) (i : Nat) : Array Bool := descGo i ops.toList #[]

def Closed (ops : Array Oper) (listed : Array Bool) : Prop :=
  ∀ (j : Nat) (o : Oper), ops[j]? = some o → listed.getD j true = true → ∀ e ∈ o.after, Region.binds .any e = true → listed.getD e.on false = true

theorem descGo_spec (ops : Array Oper) (i : Nat) : ∀ (l : List Oper) (acc : Array Bool), (∀ k, l[k]? = ops[acc.size + k]?) →
    (∀ j, acc.getD j false = true → j = i ∨ ∃ o, ops[j]? = some o ∧ ∃ e ∈ o.after, Region.binds .any e = true ∧ e.on < j ∧ acc.getD e.on false = true) →
    ∀ j, (descGo i l acc).getD j false = true → j = i ∨ ∃ o, ops[j]? = some o ∧ ∃ e ∈ o.after, Region.binds .any e = true ∧ e.on < j ∧ (descGo i l acc).getD e.on false = true := by
  intro l
  induction l with
  | nil => intro acc _ h; exact h
  | cons o r ih =>
    intro acc hl h
    refine ih _ (fun k => ?_) (fun j hj => ?_)
    · have := hl (k + 1)
      simp only [List.getElem?_cons_succ] at this
      rw [this, Array.size_push]
      congr 1
      omega
    · have keep : ∀ q, acc.getD q false = true → (acc.push (acc.size == i || o.after.any fun e => Region.binds .any e && acc.getD e.on false)).getD q false = true := by
        intro q hq
        simp only [Array.getD_eq_getD_getElem?] at hq ⊢
        have hlt : q < acc.size := by
          rcases Nat.lt_or_ge q acc.size with h' | h'
          · exact h'
          · simp [Array.getElem?_eq_none h'] at hq
        rw [Array.getElem?_push, if_neg (by omega)]
        exact hq
      by_cases hjs : j = acc.size
      · subst hjs
        simp only [Array.getD_eq_getD_getElem?, Array.getElem?_push, if_true, Option.getD_some, Bool.or_eq_true, beq_iff_eq, Array.any_eq_true] at hj
        rcases hj with hj | ⟨q, hq, hb⟩
        · exact .inl hj
        · right
          simp only [Bool.and_eq_true] at hb
          have hlt : (o.after[q]).on < acc.size := by
            rcases Nat.lt_or_ge (o.after[q]).on acc.size with h' | h'
            · exact h'
            · have h0 := hb.2; simp [Array.getElem?_eq_none h'] at h0
          refine ⟨o, ?_, o.after[q], Array.getElem_mem hq, hb.1, hlt, keep _ (by simpa [Array.getD_eq_getD_getElem?] using hb.2)⟩
          have := hl 0
          simpa using this.symm
      · have hj' : acc.getD j false = true := by
          simp only [Array.getD_eq_getD_getElem?, Array.getElem?_push] at hj ⊢
          rwa [if_neg hjs] at hj
        rcases h j hj' with h1 | ⟨o', ho', e, he, hb, hlt, hacc⟩
        · exact .inl h1
        · exact .inr ⟨o', ho', e, he, hb, hlt, keep _ hacc⟩

theorem desc_spec (ops : Array Oper) (i j : Nat) (h : (desc ops i).getD j false = true) :
    j = i ∨ ∃ o, ops[j]? = some o ∧ ∃ e ∈ o.after, Region.binds .any e = true ∧ e.on < j ∧ (desc ops i).getD e.on false = true :=
  descGo_spec ops i ops.toList #[] (fun k => by simp) (fun j hj => by simp at hj) j h

/-- Who waits for i has not come while i has not. -/
theorem not_listed {ops : Array Oper} {listed : Array Bool} (hc : Closed ops listed) {i : Nat} (hi : listed.getD i true = false) :
    ∀ j, (desc ops i).getD j false = true → listed.getD j true = false := by
  intro j
  induction j using Nat.strongRecOn with
  | _ j ih =>
    intro hj
    rcases desc_spec ops i j hj with rfl | ⟨o, ho, e, he, hb, hlt, hd⟩
    · exact hi
    · have h1 := ih e.on hlt hd
      cases hl : listed.getD j true with
      | false => rfl
      | true =>
        have h2 := hc j o ho hl e he hb
        simp only [Array.getD_eq_getD_getElem?] at h1 h2
        cases hx : listed[e.on]? with
        | none => simp [hx] at h1
        | some b => simp only [hx, Option.getD_some] at h1 h2; rw [h1] at h2; cases h2

/-- What holds for the operations that look at memory, each as long as nobody who waits for it and who acts has come. -/
def Conds := List (Nat × (World → Prop))
def SL (ops : Array Oper) (loud : List Nat) (conds : Conds) (listed : Array Bool) (w : World) : Prop :=
  ∀ c ∈ (show List (Nat × (World → Prop)) from conds), (∀ j ∈ loud, (desc ops c.1).getD j false = true → listed.getD j true = false) → c.2 w

section
variable {P : Program} {ops : Array Oper} {Q : Exit → Act → World → Prop} {loud : List Nat} {conds : Conds}

def wpAnyL (P : Program) (ops : Array Oper) (Q : Exit → Act → World → Prop) (loud : List Nat) (conds : Conds) : Nat → Array Bool → Act → World → Prop
  | 0, listed, a, w => Region.ready .any ops listed = [] ∧ Q .normal a w
  | fuel + 1, listed, a, w =>
    (Region.ready .any ops listed = [] → Q .normal a w) ∧
    ∀ i ∈ Region.ready .any ops listed, wpOp P ops Q i (fun a' w' => SL ops loud conds (listed.setIfInBounds i true) w' ∧ wpAnyL P ops Q loud conds fuel (listed.setIfInBounds i true) a' w') a w

theorem wpAny_of_L : ∀ (fuel : Nat) (listed : Array Bool) (a : Act) (w : World), wpAnyL P ops Q loud conds fuel listed a w → wpAny P .any ops Q fuel listed a w
  | 0, _, _, _, h => h
  | fuel + 1, _, _, _, h => ⟨h.1, fun i hi => wpOp_mono (fun a' w' h' => wpAny_of_L fuel _ a' w' h'.2) (h.2 i hi)⟩

theorem Closed.set {listed : Array Bool} (hc : Closed ops listed) {i : Nat} (hr : i ∈ Region.ready .any ops listed) : Closed ops (listed.setIfInBounds i true) := by
  intro j o ho hj e he hb
  obtain ⟨hjun, oi, hoi, hall⟩ := mem_ready.1 hr
  have up : ∀ q, listed.getD q false = true → (listed.setIfInBounds i true).getD q false = true := by
    intro q hq
    simp only [Array.getD_eq_getD_getElem?, Array.getElem?_setIfInBounds] at hq ⊢
    split
    · split
      · rfl
      · rename_i e1 h1; subst e1; simp [Array.getElem?_eq_none (Nat.le_of_not_lt h1)] at hq
    · exact hq
  by_cases hji : j = i
  · subst hji
    rw [hoi] at ho; cases ho
    exact up _ (hall e he hb)
  · have hj' : listed.getD j true = true := by
      rwa [getD_set_ne true (Ne.symm hji)] at hj
    exact up _ (hc j o ho hj' e he hb)

theorem SL.same {listed : Array Bool} {i : Nat} {w : World} (hi : loud.contains i = false) (h : SL ops loud conds (listed.setIfInBounds i true) w) : SL ops loud conds listed w := by
  intro c hc hl
  refine h c hc (fun j hj hd => ?_)
  have hne : i ≠ j := fun e => by subst e; simp at hi; exact hi hj
  rw [getD_set_ne true hne]
  exact hl j hj hd
theorem SL.same' {listed : Array Bool} {i : Nat} {w : World} (hi : loud.contains i = false) (h : SL ops loud conds listed w) : SL ops loud conds (listed.setIfInBounds i true) w := by
  intro c hc hl
  refine h c hc (fun j hj hd => ?_)
  have hne : i ≠ j := fun e => by subst e; simp at hi; exact hi hj
  have := hl j hj hd
  rwa [getD_set_ne true hne] at this

theorem wpAnyL_first {i : Nat} {oi : Oper} {v : Value} {C : World → Prop} (hi : ops[i]? = some oi) (hq : loud.contains i = false) (hsel : ∀ (j : Nat) (o : Oper) cs b, ops[j]? = some o → o.op ≠ .select cs b)
    (hQ : ∀ c a w, Q (.panic c) (a.put oi.dst v) w → Q (.panic c) a w) (hC : (∀ w, C w) ∨ (i, C) ∈ (show List (Nat × (World → Prop)) from conds)) :
    ∀ (fuel : Nat) (listed : Array Bool) (a : Act) (w : World),
      (∀ j oj, ops[j]? = some oj → j ≠ i → listed.getD j true = false → (∀ e ∈ oj.after, Region.binds .any e = true → e.on ≠ i) → oi.apart ops oj = true) →
      i ∈ Region.ready .any ops listed → Closed ops listed → YieldsIf P ops C oi v a → SL ops loud conds listed w →
      wpAnyL P ops Q loud conds fuel (listed.setIfInBounds i true) (a.put oi.dst v) w → wpAnyL P ops Q loud conds (fuel + 1) listed a w := by
  have hCw : ∀ (listed : Array Bool) (w : World), i ∈ Region.ready .any ops listed → Closed ops listed → SL ops loud conds listed w → C w := by
    intro listed w hr hc hS
    rcases hC with h | h
    · exact h w
    · exact hS _ h (fun j _ hd => not_listed hc (mem_ready.1 hr).1 j hd)
  intro fuel
  induction fuel with
  | zero =>
    intro listed a w _ hr hc hy hS H
    refine ⟨fun h => (by rw [h] at hr; cases hr), fun j hj => ?_⟩
    by_cases hji : j = i
    · subst hji; exact hy.wpOp hi (hCw _ _ hr hc hS) ⟨hS.same' hq, H⟩
    · have := ready_mono hj hji
      rw [H.1] at this
      cases this
  | succ fuel ih =>
    intro listed a w hfree hr hc hy hS H
    refine ⟨fun h => (by rw [h] at hr; cases hr), fun j hj => ?_⟩
    by_cases hji : j = i
    · subst hji; exact hy.wpOp hi (hCw _ _ hr hc hS) ⟨hS.same' hq, H⟩
    · have h1 := H.2 j (ready_mono hj hji)
      obtain ⟨hjun, oj, hoj, hall⟩ := mem_ready.1 hj
      have hnot : ∀ e ∈ oj.after, Region.binds .any e = true → e.on ≠ i := fun e he hb heq => by
        have h1 := hall e he hb
        have h0 := (mem_ready.1 hr).1
        rw [heq] at h1
        rcases Nat.lt_or_ge i listed.size with h' | h'
        · simp [h'] at h0 h1; rw [h0] at h1; cases h1
        · simp [Array.getElem?_eq_none h'] at h1
      have h2 := wpOp_putIf hoj (hfree j oj hoj hji hjun hnot) (fun cs b => hsel i oi cs b hi) (fun cs b => hsel j oj cs b hoj) hQ hy h1
      have hfree' : ∀ k ok, ops[k]? = some ok → k ≠ i → (listed.setIfInBounds j true).getD k true = false →
          (∀ e ∈ ok.after, Region.binds .any e = true → e.on ≠ i) → oi.apart ops ok = true := fun k ok hk hki hun hno => by
        refine hfree k ok hk hki ?_ hno
        by_cases hjk : j = k
        · subst hjk; exact hjun
        · rw [getD_set_ne true hjk] at hun; exact hun
      refine wpOp_mono (fun a' w' h3 => ?_) h2
      have hS' : SL ops loud conds (listed.setIfInBounds j true) w' := by
        have := h3.2.1
        rw [Array.setIfInBounds_comm _ _ (Ne.symm hji)] at this
        exact this.same hq
      refine ⟨hS', ih (listed.setIfInBounds j true) a' w' hfree' (ready_mono hr (Ne.symm hji)) (hc.set hj) h3.1 hS' ?_⟩
      rw [Array.setIfInBounds_comm _ _ hji]
      exact h3.2.2

theorem drop_get {i : Nat} {oi : Oper} {r : List Oper} (h : ops.toList.drop i = oi :: r) : ops[i]? = some oi := by
  have := congrArg (fun l => l[0]?) h
  simpa using this

/-! ### The moves of a walk: the state carries that 'listed' is closed and what holds. -/
def wpL (P : Program) (ops : Array Oper) (Q : Exit → Act → World → Prop) (loud : List Nat) (conds : Conds) (fuel : Nat) (listed : Array Bool) (a : Act) (w : World) : Prop :=
  Closed ops listed → SL ops loud conds listed w → wpAnyL P ops Q loud conds fuel listed a w

theorem wpL_take (i : Nat) {oi : Oper} {v : Value} {C : World → Prop} {fuel : Nat} {listed listed' : Array Bool} {a : Act} {w : World} {r_ : List Oper} (hi : ops.toList.drop i = oi :: r_)
    (hs : Region.noSelect ops = true) (hf : Region.free .any ops listed i = true) (hr : (Region.ready .any ops listed).contains i = true) (hq : loud.contains i = false)
    (hQ : ∀ c a w, Q (.panic c) (a.put oi.dst v) w → Q (.panic c) a w) (hC : (∀ w, C w) ∨ (i, C) ∈ (show List (Nat × (World → Prop)) from conds)) (hy : YieldsIf P ops C oi v a) (hl : listed.setIfInBounds i true = listed')
    (h : wpL P ops Q loud conds fuel listed' (a.put oi.dst v) w) : wpL P ops Q loud conds (fuel + 1) listed a w := fun hc hS =>
  have hr' : i ∈ Region.ready .any ops listed := by simpa using hr
  wpAnyL_first (drop_get hi) hq (Region.noSelect_spec hs) hQ hC fuel listed a w (Region.free_spec (drop_get hi) hf) hr' hc hy hS (by subst hl; exact h (hc.set hr') (hS.same' hq))

/-- A test: it parts. -/
theorem wpL_takeB (i : Nat) {oi : Oper} {b : Bool} {C : World → Prop} {fuel : Nat} {listed listed' : Array Bool} {a : Act} {w : World} {r_ : List Oper} (hi : ops.toList.drop i = oi :: r_)
    (hs : Region.noSelect ops = true) (hf : Region.free .any ops listed i = true) (hr : (Region.ready .any ops listed).contains i = true) (hq : loud.contains i = false)
    (hQ : ∀ c a w, Q (.panic c) (a.put oi.dst (.bool b)) w → Q (.panic c) a w) (hC : (∀ w, C w) ∨ (i, C) ∈ (show List (Nat × (World → Prop)) from conds)) (hy : YieldsIf P ops C oi (.bool b) a) (hl : listed.setIfInBounds i true = listed')
    (ht : b = true → wpL P ops Q loud conds fuel listed' (a.put oi.dst (.bool true)) w) (hfa : b = false → wpL P ops Q loud conds fuel listed' (a.put oi.dst (.bool false)) w) : wpL P ops Q loud conds (fuel + 1) listed a w := by
  refine wpL_take i hi hs hf hr hq hQ hC hy hl ?_
  cases b with
  | true => exact ht rfl
  | false => exact hfa rfl

/-- One operation alone can come next. -/
theorem wpL_one (i : Nat) {oi : Oper} {fuel : Nat} {listed listed' : Array Bool} {a : Act} {w : World} {r_ : List Oper} (hi : ops.toList.drop i = oi :: r_) (hr : Region.ready .any ops listed = [i]) (hwant : Region.wanted oi (yielded ops a.tmps) = true) (hl : listed.setIfInBounds i true = listed')
    (h : oi.wp P a w (fun a' w' => SL ops loud conds listed' w' ∧ wpL P ops Q loud conds fuel listed' a' w') Q) : wpL P ops Q loud conds (fuel + 1) listed a w := fun hc hS => by
  refine ⟨fun h0 => (by rw [hr] at h0; cases h0), fun j hj => ?_⟩
  have hj' := hj
  rw [hr] at hj
  obtain rfl : j = i := by simpa using hj
  unfold wpOp
  simp only [drop_get hi, hwant, if_true]
  refine .inl (Oper.wp_mono ?_ h)
  intro a' w' ⟨h1, h2⟩
  subst hl
  exact ⟨h1, h2 (hc.set hj') h1⟩
/-- One operation alone can come next, and its guard says no. -/
theorem SL.more {listed : Array Bool} {i : Nat} {w : World} (h : SL ops loud conds listed w) : SL ops loud conds (listed.setIfInBounds i true) w := fun c hc hl => h c hc fun j hj hd => by
  have := hl j hj hd
  by_cases hij : i = j
  · subst hij
    rcases Nat.lt_or_ge i listed.size with h' | h'
    · simp [h'] at this
    · simp [Array.getElem?_eq_none h'] at this
  · rwa [getD_set_ne true hij] at this
theorem wpL_skip (i : Nat) {oi : Oper} {fuel : Nat} {listed listed' : Array Bool} {a : Act} {w : World} {r_ : List Oper} (hi : ops.toList.drop i = oi :: r_) (hr : Region.ready .any ops listed = [i]) (hwant : Region.wanted oi (yielded ops a.tmps) = false) (hl : listed.setIfInBounds i true = listed')
    (h : wpL P ops Q loud conds fuel listed' (a.put oi.dst undef) w) : wpL P ops Q loud conds (fuel + 1) listed a w := fun hc hS => by
  refine ⟨fun h0 => (by rw [hr] at h0; cases h0), fun j hj => ?_⟩
  have hj' := hj
  rw [hr] at hj
  obtain rfl : j = i := by simpa using hj
  unfold wpOp
  simp only [drop_get hi, hwant, Bool.false_eq_true, if_false]
  subst hl
  exact ⟨hS.more, h (hc.set hj') hS.more⟩
/-- Of those that can come next whichever comes. -/
theorem wpL_all {rs : List Nat} {fuel : Nat} {listed : Array Bool} {a : Act} {w : World} (hr : Region.ready .any ops listed = rs) (hne : rs ≠ [])
    (h : ∀ i ∈ rs, ∃ oi r_, ops.toList.drop i = oi :: r_ ∧ Region.wanted oi (yielded ops a.tmps) = true ∧ oi.wp P a w (fun a' w' => SL ops loud conds (listed.setIfInBounds i true) w' ∧ wpL P ops Q loud conds fuel (listed.setIfInBounds i true) a' w') Q) :
    wpL P ops Q loud conds (fuel + 1) listed a w := fun hc hS => by
  refine ⟨fun h0 => absurd (hr ▸ h0) hne, fun j hj => ?_⟩
  obtain ⟨oi, r_, hi, hwant, hh⟩ := h j (hr ▸ hj)
  unfold wpOp
  simp only [drop_get hi, hwant, if_true]
  refine .inl (Oper.wp_mono ?_ hh)
  intro a' w' ⟨h1, h2⟩
  exact ⟨h1, h2 (hc.set hj) h1⟩
theorem wpL_done {listed : Array Bool} {a : Act} {w : World} (hr : Region.ready .any ops listed = []) (h : Q .normal a w) : ∀ fuel, wpL P ops Q loud conds fuel listed a w
  | 0 => fun _ _ => ⟨hr, h⟩
  | _ + 1 => fun _ _ => ⟨fun _ => h, by rw [hr]; simp⟩
theorem wp_region_L (loud : List Nat) (conds : Conds) {id : Nat} {a : Act} {w : World} {listed : Array Bool} {n : Nat} (hm : P.follows .mixedOrders = true) (hn : ops.size = n) (hl : Array.replicate n false = listed)
    (h0 : ∀ c ∈ (show List (Nat × (World → Prop)) from conds), c.2 w.drew)
    (h : wpL P ops Q loud conds n listed a w.drew) : (Code.region id ops true).wp P Q a w := by
  subst hn
  subst hl
  refine wp_region_any hm (wpAny_of_L _ _ _ _ (h ?_ ?_))
  · intro j o ho hj
    have hlt : j < ops.size := by
      rcases Nat.lt_or_ge j ops.size with h' | h'
      · exact h'
      · simp [Array.getElem?_eq_none h'] at ho
    simp [hlt] at hj
  · exact fun c hc _ => h0 c hc

theorem SL.nil {listed : Array Bool} {w : World} : SL ops loud [] listed w := fun c hc => by cases hc
theorem SL.keep {c : Nat × (World → Prop)} {listed : Array Bool} {w : World} (h : c.2 w) (hr : SL ops loud conds listed w) : SL ops loud (List.cons c conds) listed w := fun d hd hl => by
  rcases List.mem_cons.1 hd with rfl | hd
  · exact h
  · exact hr d hd hl
/-- Operation j, who acts, waits for c's, and has come. -/
theorem SL.drop (j : Nat) {c : Nat × (World → Prop)} {listed : Array Bool} {w : World} (h : (loud.contains j && (desc ops c.1).getD j false && listed.getD j true) = true) (hr : SL ops loud conds listed w) : SL ops loud (List.cons c conds) listed w := fun d hd hl => by
  rcases List.mem_cons.1 hd with rfl | hd
  · simp only [Bool.and_eq_true] at h
    have := hl j (by simpa using h.1.1) h.1.2
    rw [this] at h
    exact absurd h.2 (by simp)
  · exact hr d hd hl
end
end Go.Sep
