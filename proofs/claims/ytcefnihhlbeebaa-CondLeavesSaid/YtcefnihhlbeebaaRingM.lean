/-
  Rows of nodes as plain data, and circles of links that stand for them.
-/
namespace Go.RingM
set_option linter.unusedSimpArgs false
set_option linter.unusedVariables false

/-- From a through all of l to z, by links there and back. -/
def Seg (nx pv : Nat → Nat) (a : Nat) : List Nat → Nat → Prop
  | [], z => nx a = z ∧ pv z = a
  | x :: l, z => nx a = x ∧ pv x = a ∧ Seg nx pv x l z
def lst (a : Nat) : List Nat → Nat
  | [] => a
  | x :: l => lst x l
def fst : List Nat → Nat → Nat
  | [], z => z
  | x :: _, _ => x
theorem lst_mem (a : Nat) (l : List Nat) : lst a l ∈ a :: l := by
  induction l generalizing a with
  | nil => simp [lst]
  | cons x l ih => simpa [lst] using Or.inr (by simpa using ih x)
theorem fst_mem (l : List Nat) (z : Nat) : fst l z ∈ l ++ [z] := by cases l <;> simp [fst]
theorem lst_snoc (a : Nat) (l : List Nat) (x : Nat) : lst a (l ++ [x]) = x := by
  induction l generalizing a with
  | nil => rfl
  | cons y l ih => exact ih y

theorem Seg.congr {nx pv nx' pv' : Nat → Nat} {a : Nat} {l : List Nat} {z : Nat} (h : Seg nx pv a l z) (hn : ∀ u ∈ a :: l, nx' u = nx u) (hp : ∀ v ∈ l ++ [z], pv' v = pv v) : Seg nx' pv' a l z := by
  induction l generalizing a with
  | nil => exact ⟨by rw [hn a (by simp)]; exact h.1, by rw [hp z (by simp)]; exact h.2⟩
  | cons x l ih =>
    exact ⟨by rw [hn a (by simp)]; exact h.1, by rw [hp x (by simp)]; exact h.2.1, ih h.2.2 (fun u hu => hn u (List.mem_cons_of_mem _ hu)) (fun v hv => hp v (by simpa using Or.inr (by simpa using hv)))⟩

theorem Seg.mid {nx pv : Nat → Nat} {a : Nat} {l1 l2 : List Nat} {z : Nat} (h : Seg nx pv a (l1 ++ l2) z) : nx (lst a l1) = fst l2 z ∧ pv (fst l2 z) = lst a l1 := by
  induction l1 generalizing a with
  | nil => cases l2 with
    | nil => exact h
    | cons y l => exact ⟨h.1, h.2.1⟩
  | cons x l ih => exact ih h.2.2

theorem Seg.insert {nx pv nx' pv' : Nat → Nat} {a x : Nat} {l1 l2 : List Nat} {z : Nat} (h : Seg nx pv a (l1 ++ l2) z) (hx : x ∉ a :: (l1 ++ l2)) (hxz : x ≠ z)
    (ha : (a :: (l1 ++ l2)).Nodup) (hz : ((l1 ++ l2) ++ [z]).Nodup)
    (hn : ∀ u, nx' u = if u = x then fst l2 z else if u = lst a l1 then x else nx u) (hp : ∀ v, pv' v = if v = fst l2 z then x else if v = x then lst a l1 else pv v) :
    Seg nx' pv' a (l1 ++ x :: l2) z := by
  induction l1 generalizing a with
  | nil =>
    simp only [List.nil_append, List.mem_cons, not_or] at hx ha hz h
    have hax : ¬ a = x := fun e => hx.1 e.symm
    cases l2 with
    | nil => refine ⟨by simp [hn, hax, lst], by simp [hp, hxz, fst, lst], by simp [hn, fst], by simp [hp, fst]⟩
    | cons y l =>
      have hxy : ¬ x = y := fun e => hx.2 (by simp [e])
      refine ⟨by simp [hn, hax, lst], by simp [hp, hxy, fst, lst], by simp [hn, fst], by simp [hp, fst], h.2.2.congr ?_ ?_⟩
      · intro u hu
        have h1 : ¬ u = x := fun e => hx.2 (e ▸ hu)
        have h2 : ¬ u = a := fun e => (List.nodup_cons.1 ha).1 (e ▸ hu)
        simp [hn, h1, h2, lst]
      · intro v hv
        have h1 : ¬ v = y := fun e => (List.nodup_cons.1 (show (y :: (l ++ [z])).Nodup by simpa using hz)).1 (by rw [← e]; exact hv)
        have h2 : ¬ v = x := by
          rintro rfl
          rcases List.mem_append.1 hv with hv | hv
          · exact hx.2 (List.mem_cons_of_mem _ hv)
          · exact hxz (by simpa using hv)
        simp [hp, h1, h2, fst]
  | cons b l1 ih =>
    obtain ⟨h1, h2, h3⟩ := h
    have hx' : x ∉ b :: (l1 ++ l2) := fun hm => hx (List.mem_cons_of_mem _ hm)
    have hax : ¬ a = x := fun e => hx (by simp [e])
    have hbx : ¬ b = x := fun e => hx (by simp [e])
    have hlb : ¬ a = lst b l1 := fun e => (List.nodup_cons.1 ha).1 (by
      have := lst_mem b l1; rw [← e] at this
      simp only [List.cons_append, List.mem_cons, List.mem_append] at this ⊢
      rcases this with h | h
      · exact .inl h
      · exact .inr (.inl h))
    have hbf : ¬ b = fst l2 z := fun e => (List.nodup_cons.1 (show (b :: ((l1 ++ l2) ++ [z])).Nodup by simpa using hz)).1 (by
      have := fst_mem l2 z; rw [← e] at this
      simp only [List.mem_append] at this ⊢
      rcases this with h | h
      · exact .inl (.inr h)
      · exact .inr h)
    refine ⟨by simp [hn, hax, lst, hlb, h1], by simp [hp, hbf, hbx, h2], ih h3 hx' (List.nodup_cons.1 ha).2 ?_ hn hp⟩
    exact (List.nodup_cons.1 (show (b :: ((l1 ++ l2) ++ [z])).Nodup by simpa using hz)).2

theorem Seg.remove {nx pv nx' pv' : Nat → Nat} {a x : Nat} {l1 l2 : List Nat} {z : Nat} (h : Seg nx pv a (l1 ++ x :: l2) z)
    (ha : (a :: (l1 ++ x :: l2)).Nodup) (hz : ((l1 ++ x :: l2) ++ [z]).Nodup)
    (hn : ∀ u, u ≠ x → nx' u = if u = lst a l1 then fst l2 z else nx u) (hp : ∀ v, v ≠ x → pv' v = if v = fst l2 z then lst a l1 else pv v) :
    Seg nx' pv' a (l1 ++ l2) z := by
  induction l1 generalizing a with
  | nil =>
    simp only [List.nil_append] at ha hz h ⊢
    obtain ⟨ha1, ha2⟩ := List.nodup_cons.1 ha
    obtain ⟨hx1, _⟩ := List.nodup_cons.1 ha2
    have hz' : (x :: (l2 ++ [z])).Nodup := by simpa using hz
    obtain ⟨hx2, hz2⟩ := List.nodup_cons.1 hz'
    have hax : a ≠ x := fun e => ha1 (by simp [e])
    cases l2 with
    | nil =>
      have hzx : z ≠ x := fun e => hx2 (by simp [e])
      exact ⟨by simp [hn a hax, lst, fst], by simp [hp z hzx, lst, fst]⟩
    | cons y l =>
      have hyx : y ≠ x := fun e => hx1 (by simp [e])
      refine ⟨by simp [hn a hax, lst, fst], by simp [hp y hyx, lst, fst], h.2.2.2.2.congr ?_ ?_⟩
      · intro u hu
        have h1 : u ≠ x := fun e => hx1 (e ▸ hu)
        have h2 : ¬ u = a := fun e => ha1 (e ▸ List.mem_cons_of_mem _ hu)
        simp [hn u h1, h2, lst]
      · intro v hv
        have h1 : v ≠ x := fun e => hx2 (by rw [← e]; exact List.mem_cons_of_mem _ hv)
        have h2 : ¬ v = y := fun e => (List.nodup_cons.1 (show (y :: (l ++ [z])).Nodup from hz2)).1 (by rw [← e]; exact hv)
        simp [hp v h1, h2, fst]
  | cons b l1 ih =>
    obtain ⟨h1, h2, h3⟩ := h
    obtain ⟨ha1, ha2⟩ := List.nodup_cons.1 ha
    have hz' : (b :: ((l1 ++ x :: l2) ++ [z])).Nodup := by simpa using hz
    obtain ⟨hb1, hz2⟩ := List.nodup_cons.1 hz'
    have hax : a ≠ x := fun e => ha1 (by simp [e])
    have hbx : b ≠ x := fun e => hb1 (by simp [e])
    have hlb : ¬ a = lst b l1 := fun e => ha1 (by
      have := lst_mem b l1; rw [← e] at this
      simp only [List.cons_append, List.mem_cons, List.mem_append] at this ⊢
      rcases this with h | h
      · exact .inl h
      · exact .inr (.inl h))
    have hbf : ¬ b = fst l2 z := fun e => hb1 (by
      have := fst_mem l2 z; rw [← e] at this
      simp only [List.mem_append, List.mem_cons] at this ⊢
      rcases this with h | h
      · exact .inl (.inr (.inr h))
      · exact .inr h)
    exact ⟨by simp [hn a hax, lst, hlb, h1], by simp [hp b hbx, hbf, h2], ih h3 ha2 hz2 hn hp⟩

/-- Rows of nodes; how many nodes there are. -/
structure Ring where
  n : Nat
  rows : List (List Nat)

structure Ring.Wf (R : Ring) : Prop where
  one : ∀ (r : Nat) (l : List Nat), R.rows[r]? = some l → l.Nodup ∧ ∀ x ∈ l, x < R.n
  apart : ∀ (r s : Nat) (l m : List Nat) (x : Nat), R.rows[r]? = some l → R.rows[s]? = some m → x ∈ l → x ∈ m → r = s

/-- The row of a node, or -1. -/
def Ring.inOf (R : Ring) (x : Nat) : Int :=
  match R.rows.findIdx? (fun l => decide (x ∈ l)) with
  | some i => i
  | none => -1

theorem Ring.inOf_none {R : Ring} {x : Nat} (h : ∀ (r : Nat) (l : List Nat), R.rows[r]? = some l → x ∉ l) : R.inOf x = -1 := by
  unfold Ring.inOf
  rw [List.findIdx?_eq_none_iff.2 (fun l hl => by
    obtain ⟨r, hr, rfl⟩ := List.getElem_of_mem hl
    simpa using h r _ (List.getElem?_eq_getElem hr))]
theorem Ring.inOf_some {R : Ring} (hR : R.Wf) {x r : Nat} {l : List Nat} (hr : R.rows[r]? = some l) (hx : x ∈ l) : R.inOf x = r := by
  unfold Ring.inOf
  cases hf : R.rows.findIdx? (fun l => decide (x ∈ l)) with
  | none =>
    have := List.findIdx?_eq_none_iff.1 hf l (List.mem_of_getElem? hr)
    simp [hx] at this
  | some i =>
    obtain ⟨hi, h1, _⟩ := List.findIdx?_eq_some_iff_getElem.1 hf
    have := hR.apart i r _ l x (List.getElem?_eq_getElem hi) hr (by simpa using h1) hx
    simp [this]
theorem Ring.inOf_cases {R : Ring} (hR : R.Wf) (x : Nat) : (R.inOf x = -1 ∧ ∀ (r : Nat) (l : List Nat), R.rows[r]? = some l → x ∉ l) ∨ ∃ (r : Nat) (l : List Nat), R.inOf x = (r : Nat) ∧ R.rows[r]? = some l ∧ x ∈ l ∧ r < R.rows.length := by
  by_cases h : ∃ (r : Nat) (l : List Nat), R.rows[r]? = some l ∧ x ∈ l
  · obtain ⟨r, l, hr, hx⟩ := h
    exact .inr ⟨r, l, Ring.inOf_some hR hr hx, hr, hx, (List.getElem?_eq_some_iff.1 hr).1⟩
  · have h' : ∀ (r : Nat) (l : List Nat), R.rows[r]? = some l → x ∉ l := fun r l hr hx => h ⟨r, l, hr, hx⟩
    exact .inl ⟨Ring.inOf_none h', h'⟩

def Ring.setRow (R : Ring) (r : Nat) (l : List Nat) : Ring := ⟨R.n, R.rows.set r l⟩

theorem getElem?_set' {α : Type} {L : List α} {r s : Nat} {l m : α} (h : (L.set r l)[s]? = some m) : (s = r ∧ m = l ∧ r < L.length) ∨ (s ≠ r ∧ L[s]? = some m) := by
  by_cases e : s = r
  · subst e
    rw [List.getElem?_set_self'] at h
    cases hL : L[s]? with
    | none => rw [hL] at h; cases h
    | some y => rw [hL] at h; exact .inl ⟨rfl, (by simpa using h.symm), (List.getElem?_eq_some_iff.1 hL).1⟩
  · rw [List.getElem?_set_ne (fun h => e h.symm)] at h
    exact .inr ⟨e, h⟩

/-- How the links stand for the rows. -/
structure Laid (R : Ring) (nx pv : List Nat) : Prop where
  lenN : nx.length = R.n + R.rows.length
  lenP : pv.length = R.n + R.rows.length
  seg : ∀ (r : Nat) (l : List Nat), R.rows[r]? = some l → Seg (fun i => nx.getD i 0) (fun i => pv.getD i 0) (R.n + r) l (R.n + r)

theorem getD_set {l : List Nat} {i : Nat} (h : i < l.length) (v j d : Nat) : (l.set i v).getD j d = if j = i then v else l.getD j d := by
  simp only [List.getD_eq_getElem?_getD]
  by_cases e : j = i
  · subst e; simp [List.getElem?_set_self h]
  · simp [List.getElem?_set_ne (fun h => e h.symm), e]

/-- A node more: between two halves of a row. -/
theorem Laid.insert {R : Ring} {nx pv : List Nat} (h : Laid R nx pv) (hR : R.Wf) {r x : Nat} {l1 l2 : List Nat} (hr : R.rows[r]? = some (l1 ++ l2)) (hx : x < R.n) (hin : ∀ (s : Nat) (m : List Nat), R.rows[s]? = some m → x ∉ m) :
    (R.setRow r (l1 ++ x :: l2)).Wf ∧
    Laid (R.setRow r (l1 ++ x :: l2)) ((nx.set (lst (R.n + r) l1) x).set x (fst l2 (R.n + r))) ((pv.set x (lst (R.n + r) l1)).set (fst l2 (R.n + r)) x) := by
  obtain ⟨hnd, hlt⟩ := hR.one r _ hr
  have hrl : r < R.rows.length := (List.getElem?_eq_some_iff.1 hr).1
  have hxl : x ∉ l1 ++ l2 := hin r _ hr
  have hmem : ∀ y, y ∈ l1 ++ x :: l2 ↔ y = x ∨ y ∈ l1 ++ l2 := fun y => by
    simp only [List.mem_append, List.mem_cons]
    constructor
    · rintro (h | h | h)
      · exact .inr (.inl h)
      · exact .inl h
      · exact .inr (.inr h)
    · rintro (h | h | h)
      · exact .inr (.inl h)
      · exact .inl h
      · exact .inr (.inr h)
  have hnd' : (l1 ++ x :: l2).Nodup := by
    rw [List.nodup_append] at hnd ⊢
    obtain ⟨n1, n2, n3⟩ := hnd
    simp only [List.mem_append, not_or] at hxl
    refine ⟨n1, List.nodup_cons.2 ⟨hxl.2, n2⟩, ?_⟩
    intro a ha b hb
    rcases List.mem_cons.1 hb with rfl | hb
    · exact fun e => hxl.1 (e ▸ ha)
    · exact n3 a ha b hb
  have hbe : lst (R.n + r) l1 ∈ (R.n + r) :: (l1 ++ l2) := by
    have := lst_mem (R.n + r) l1
    simp only [List.mem_cons, List.mem_append] at this ⊢
    rcases this with h | h
    · exact .inl h
    · exact .inr (.inl h)
  have haf : fst l2 (R.n + r) ∈ (R.n + r) :: (l1 ++ l2) := by
    have := fst_mem l2 (R.n + r)
    simp only [List.mem_cons, List.mem_append] at this ⊢
    rcases this with h | h | h
    · exact .inr (.inr h)
    · exact .inl h
    · cases h
  have hbd : ∀ y ∈ (R.n + r) :: (l1 ++ l2), y < R.n + R.rows.length := fun y hy => by
    rcases List.mem_cons.1 hy with rfl | hy
    · omega
    · have := hlt y hy; omega
  have hbe' := hbd _ hbe
  have haf' := hbd _ haf
  have hxN : x < R.n + R.rows.length := by omega
  have en : ∀ j, ((nx.set (lst (R.n + r) l1) x).set x (fst l2 (R.n + r))).getD j 0 = if j = x then fst l2 (R.n + r) else if j = lst (R.n + r) l1 then x else nx.getD j 0 := fun j => by
    rw [getD_set (by rw [List.length_set, h.lenN]; exact hxN), getD_set (by rw [h.lenN]; exact hbe')]
  have ep : ∀ j, ((pv.set x (lst (R.n + r) l1)).set (fst l2 (R.n + r)) x).getD j 0 = if j = fst l2 (R.n + r) then x else if j = x then lst (R.n + r) l1 else pv.getD j 0 := fun j => by
    rw [getD_set (by rw [List.length_set, h.lenP]; exact haf'), getD_set (by rw [h.lenP]; exact hxN)]
  refine ⟨⟨?_, ?_⟩, ⟨?_, ?_, ?_⟩⟩
  · intro s m hs
    replace hs := getElem?_set' hs
    rcases hs with ⟨rfl, rfl, _⟩ | ⟨hne, hs⟩
    · exact ⟨hnd', fun y hy => by
        rcases (hmem y).1 hy with rfl | hy
        · exact hx
        · exact hlt y hy⟩
    · exact hR.one s m hs
  · intro s t m k y hs ht hy1 hy2
    replace hs := getElem?_set' hs; replace ht := getElem?_set' ht
    rcases hs with ⟨rfl, rfl, _⟩ | ⟨hne, hs⟩ <;> rcases ht with ⟨rfl, rfl, _⟩ | ⟨hne', ht⟩
    · rfl
    · rcases (hmem y).1 hy1 with rfl | hy1
      · exact absurd hy2 (hin _ _ ht)
      · exact hR.apart _ _ _ _ y hr ht hy1 hy2
    · rcases (hmem y).1 hy2 with rfl | hy2
      · exact absurd hy1 (hin _ _ hs)
      · exact hR.apart _ _ _ _ y hs hr hy1 hy2
    · exact hR.apart _ _ _ _ y hs ht hy1 hy2
  · simp [Ring.setRow, h.lenN]
  · simp [Ring.setRow, h.lenP]
  · intro s m hs
    replace hs := getElem?_set' hs
    rcases hs with ⟨rfl, rfl, _⟩ | ⟨hne, hs⟩
    · refine (h.seg _ _ hr).insert ?_ ?_ ?_ ?_ en ep
      · simp only [List.mem_cons, not_or]; exact ⟨by show x ≠ R.n + _; omega, hxl⟩
      · show x ≠ R.n + _; omega
      · exact List.nodup_cons.2 ⟨fun hm => by have := hlt _ hm; omega, hnd⟩
      · rw [List.nodup_append]
        exact ⟨hnd, by simp, fun a ha b hb => by have := hlt a ha; have : b = R.n + s := (by simpa using hb); omega⟩
    · have hml : ∀ u ∈ m, u ∉ l1 ++ l2 := fun u hu hu' => hne (hR.apart _ _ _ _ u hs hr hu hu')
      have hmx : x ∉ m := hin _ _ hs
      have hmn := (hR.one s m hs).2
      have hsl : s < R.rows.length := (List.getElem?_eq_some_iff.1 hs).1
      have key : ∀ u ∈ (R.n + s) :: m, u ≠ x ∧ u ∉ (R.n + r) :: (l1 ++ l2) := by
        intro u hu
        rcases List.mem_cons.1 hu with rfl | hu
        · refine ⟨by omega, ?_⟩
          intro hm
          rcases List.mem_cons.1 hm with hm | hm
          · omega
          · have := hlt _ hm; omega
        · have := hmn u hu
          refine ⟨fun e => hmx (e ▸ hu), ?_⟩
          intro hm
          rcases List.mem_cons.1 hm with hm | hm
          · omega
          · exact hml u hu hm
      refine (h.seg s m hs).congr ?_ ?_
      · intro u hu
        have k := key u hu
        have k2 : ¬ u = lst (R.n + r) l1 := fun e => k.2 (e ▸ hbe)
        show List.getD _ _ _ = _
        rw [en, if_neg k.1, if_neg k2]
      · intro u hu
        have k := key u (by simpa [or_comm] using hu)
        have k2 : ¬ u = fst l2 (R.n + r) := fun e => k.2 (e ▸ haf)
        show List.getD _ _ _ = _
        rw [ep, if_neg k2, if_neg k.1]

/-- A node less. -/
theorem Laid.remove {R : Ring} {nx pv : List Nat} (h : Laid R nx pv) (hR : R.Wf) {r x : Nat} {l1 l2 : List Nat} (hr : R.rows[r]? = some (l1 ++ x :: l2)) :
    (R.setRow r (l1 ++ l2)).Wf ∧ nx.getD x 0 = fst l2 (R.n + r) ∧ pv.getD x 0 = lst (R.n + r) l1 ∧
    Laid (R.setRow r (l1 ++ l2)) ((nx.set (lst (R.n + r) l1) (fst l2 (R.n + r))).set x x) ((pv.set (fst l2 (R.n + r)) (lst (R.n + r) l1)).set x x) := by
  obtain ⟨hnd, hlt⟩ := hR.one r _ hr
  have hrl : r < R.rows.length := (List.getElem?_eq_some_iff.1 hr).1
  have hx : x < R.n := hlt x (by simp)
  have hsub : ∀ y, y ∈ l1 ++ l2 → y ∈ l1 ++ x :: l2 := fun y hy => by
    simp only [List.mem_append, List.mem_cons] at hy ⊢
    rcases hy with h | h
    · exact .inl h
    · exact .inr (.inr h)
  have hnd' : (l1 ++ l2).Nodup := hnd.sublist (by simp)
  have hseg := h.seg r _ hr
  have e1 : nx.getD x 0 = fst l2 (R.n + r) := by
    have := (Seg.mid (l1 := l1 ++ [x]) (l2 := l2) (by simpa using hseg)).1
    rw [lst_snoc] at this; exact this
  have e2 : pv.getD x 0 = lst (R.n + r) l1 := by
    have := (Seg.mid (l1 := l1) (l2 := x :: l2) hseg).2
    exact this
  have hbe : lst (R.n + r) l1 ∈ (R.n + r) :: (l1 ++ x :: l2) := by
    have := lst_mem (R.n + r) l1
    simp only [List.mem_cons, List.mem_append] at this ⊢
    rcases this with h | h
    · exact .inl h
    · exact .inr (.inl h)
  have haf : fst l2 (R.n + r) ∈ (R.n + r) :: (l1 ++ x :: l2) := by
    have := fst_mem l2 (R.n + r)
    simp only [List.mem_cons, List.mem_append] at this ⊢
    rcases this with h | h | h
    · exact .inr (.inr (.inr h))
    · exact .inl h
    · cases h
  have hbd : ∀ y ∈ (R.n + r) :: (l1 ++ x :: l2), y < R.n + R.rows.length := fun y hy => by
    rcases List.mem_cons.1 hy with rfl | hy
    · omega
    · have := hlt y hy; omega
  have hbe' := hbd _ hbe
  have haf' := hbd _ haf
  have hxN : x < R.n + R.rows.length := by omega
  have en : ∀ j, j ≠ x → ((nx.set (lst (R.n + r) l1) (fst l2 (R.n + r))).set x x).getD j 0 = if j = lst (R.n + r) l1 then fst l2 (R.n + r) else nx.getD j 0 := fun j hj => by
    rw [getD_set (by rw [List.length_set, h.lenN]; exact hxN), getD_set (by rw [h.lenN]; exact hbe'), if_neg hj]
  have ep : ∀ j, j ≠ x → ((pv.set (fst l2 (R.n + r)) (lst (R.n + r) l1)).set x x).getD j 0 = if j = fst l2 (R.n + r) then lst (R.n + r) l1 else pv.getD j 0 := fun j hj => by
    rw [getD_set (by rw [List.length_set, h.lenP]; exact hxN), getD_set (by rw [h.lenP]; exact haf'), if_neg hj]
  refine ⟨⟨?_, ?_⟩, e1, e2, ⟨?_, ?_, ?_⟩⟩
  · intro s m hs
    replace hs := getElem?_set' hs
    rcases hs with ⟨rfl, rfl, _⟩ | ⟨hne, hs⟩
    · exact ⟨hnd', fun y hy => hlt y (hsub y hy)⟩
    · exact hR.one s m hs
  · intro s t m k y hs ht hy1 hy2
    replace hs := getElem?_set' hs; replace ht := getElem?_set' ht
    rcases hs with ⟨rfl, rfl, _⟩ | ⟨hne, hs⟩ <;> rcases ht with ⟨rfl, rfl, _⟩ | ⟨hne', ht⟩
    · rfl
    · exact hR.apart _ _ _ _ y hr ht (hsub y hy1) hy2
    · exact hR.apart _ _ _ _ y hs hr hy1 (hsub y hy2)
    · exact hR.apart _ _ _ _ y hs ht hy1 hy2
  · simp [Ring.setRow, h.lenN]
  · simp [Ring.setRow, h.lenP]
  · intro s m hs
    replace hs := getElem?_set' hs
    rcases hs with ⟨rfl, rfl, _⟩ | ⟨hne, hs⟩
    · refine hseg.remove ?_ ?_ en ep
      · exact List.nodup_cons.2 ⟨fun hm => by have := hlt _ hm; omega, hnd⟩
      · rw [List.nodup_append]
        exact ⟨hnd, by simp, fun a ha b hb => by have := hlt a ha; have : b = R.n + s := (by simpa using hb); omega⟩
    · have hml : ∀ u ∈ m, u ∉ l1 ++ x :: l2 := fun u hu hu' => hne (hR.apart _ _ _ _ u hs hr hu hu')
      have hmn := (hR.one s m hs).2
      have hsl : s < R.rows.length := (List.getElem?_eq_some_iff.1 hs).1
      have key : ∀ u ∈ (R.n + s) :: m, u ≠ x ∧ u ∉ (R.n + r) :: (l1 ++ x :: l2) := by
        intro u hu
        rcases List.mem_cons.1 hu with rfl | hu
        · refine ⟨by omega, ?_⟩
          intro hm
          rcases List.mem_cons.1 hm with hm | hm
          · omega
          · have := hlt _ hm; omega
        · have := hmn u hu
          refine ⟨fun e => hml u hu (by simp [e]), ?_⟩
          intro hm
          rcases List.mem_cons.1 hm with hm | hm
          · omega
          · exact hml u hu hm
      refine (h.seg s m hs).congr ?_ ?_
      · intro u hu
        have k := key u hu
        have k2 : ¬ u = lst (R.n + r) l1 := fun e => k.2 (e ▸ hbe)
        show List.getD _ _ _ = _
        rw [en u k.1, if_neg k2]
      · intro u hu
        have k := key u (by simpa [or_comm] using hu)
        have k2 : ¬ u = fst l2 (R.n + r) := fun e => k.2 (e ▸ haf)
        show List.getD _ _ _ = _
        rw [ep u k.1, if_neg k2]

theorem inOf_insert {R : Ring} (hR : R.Wf) {r x : Nat} {l1 l2 : List Nat} (hr : R.rows[r]? = some (l1 ++ l2)) (hW : (R.setRow r (l1 ++ x :: l2)).Wf) (y : Nat) :
    (R.setRow r (l1 ++ x :: l2)).inOf y = if y = x then (r : Int) else R.inOf y := by
  have hrl : r < R.rows.length := (List.getElem?_eq_some_iff.1 hr).1
  have hself : (R.setRow r (l1 ++ x :: l2)).rows[r]? = some (l1 ++ x :: l2) := List.getElem?_set_self hrl
  by_cases e : y = x
  · subst e; rw [if_pos rfl]; exact Ring.inOf_some hW hself (by simp)
  · rw [if_neg e]
    rcases Ring.inOf_cases hR y with ⟨h, hn⟩ | ⟨s, l, h, hs, hy, _⟩
    · rw [h]
      refine Ring.inOf_none (fun s m hs hm => ?_)
      replace hs := getElem?_set' hs
      rcases hs with ⟨rfl, rfl, _⟩ | ⟨_, hs⟩
      · refine hn s _ hr ?_
        simp only [List.mem_append, List.mem_cons] at hm ⊢
        rcases hm with h | h | h
        · exact .inl h
        · exact absurd h e
        · exact .inr h
      · exact hn s m hs hm
    · rw [h]
      by_cases es : s = r
      · subst es
        rw [hr] at hs; cases hs
        refine Ring.inOf_some hW hself ?_
        simp only [List.mem_append, List.mem_cons] at hy ⊢
        rcases hy with h | h
        · exact .inl h
        · exact .inr (.inr h)
      · exact Ring.inOf_some hW (show (R.rows.set r _)[s]? = some l by rw [List.getElem?_set_ne (fun h => es h.symm)]; exact hs) hy

theorem inOf_remove {R : Ring} (hR : R.Wf) {r x : Nat} {l1 l2 : List Nat} (hr : R.rows[r]? = some (l1 ++ x :: l2)) (hW : (R.setRow r (l1 ++ l2)).Wf) (y : Nat) :
    (R.setRow r (l1 ++ l2)).inOf y = if y = x then -1 else R.inOf y := by
  have hrl : r < R.rows.length := (List.getElem?_eq_some_iff.1 hr).1
  have hself : (R.setRow r (l1 ++ l2)).rows[r]? = some (l1 ++ l2) := List.getElem?_set_self hrl
  have hnd := (hR.one r _ hr).1
  have hx : x ∉ l1 ++ l2 := by
    rw [List.nodup_append] at hnd
    obtain ⟨_, h2, h3⟩ := hnd
    intro hm
    rcases List.mem_append.1 hm with hm | hm
    · exact h3 x hm x (by simp) rfl
    · exact (List.nodup_cons.1 h2).1 hm
  by_cases e : y = x
  · subst e; rw [if_pos rfl]
    refine Ring.inOf_none (fun s m hs hm => ?_)
    replace hs := getElem?_set' hs
    rcases hs with ⟨rfl, rfl, _⟩ | ⟨hne, hs⟩
    · exact hx hm
    · exact hne (hR.apart s r m _ y hs hr hm (by simp))
  · rw [if_neg e]
    rcases Ring.inOf_cases hR y with ⟨h, hn⟩ | ⟨s, l, h, hs, hy, _⟩
    · rw [h]
      refine Ring.inOf_none (fun s m hs hm => ?_)
      replace hs := getElem?_set' hs
      rcases hs with ⟨rfl, rfl, _⟩ | ⟨_, hs⟩
      · refine hn s _ hr ?_
        simp only [List.mem_append, List.mem_cons] at hm ⊢
        rcases hm with h | h
        · exact .inl h
        · exact .inr (.inr h)
      · exact hn s m hs hm
    · rw [h]
      by_cases es : s = r
      · subst es
        rw [hr] at hs; cases hs
        refine Ring.inOf_some hW hself ?_
        simp only [List.mem_append, List.mem_cons] at hy ⊢
        rcases hy with h | h | h
        · exact .inl h
        · exact absurd h e
        · exact .inr h
      · exact Ring.inOf_some hW (show (R.rows.set r _)[s]? = some l by rw [List.getElem?_set_ne (fun h => es h.symm)]; exact hs) hy

/-- What the program's rings answer. -/
def Ring.isRow (R : Ring) (r : Int) : Bool := decide (0 ≤ r) && decide (r < R.rows.length)
def Ring.isNode (R : Ring) (x : Int) : Bool := decide (0 ≤ x) && decide (x < R.n)
def Ring.in_ (R : Ring) (x : Int) : Int := if R.isNode x then R.inOf x.toNat else -1
def Ring.row (R : Ring) (r : Int) : List Nat := if R.isRow r then R.rows.getD r.toNat [] else []
def Ring.mayE (R : Ring) (r x : Int) : Int := if R.isRow r && R.isNode x then (if R.in_ x = -1 then 0 else 6) else 3
def Ring.add (R : Ring) (ahead : Bool) (r x : Int) : Ring := if R.mayE r x = 0 then R.setRow r.toNat (if ahead then x.toNat :: R.row r else R.row r ++ [x.toNat]) else R
def Ring.drop (R : Ring) (x : Int) : Ring := if R.in_ x = -1 then R else R.setRow (R.in_ x).toNat ((R.row (R.in_ x)).filter (fun y => decide (y ≠ x.toNat)))
def Ring.first (R : Ring) (r : Int) : Int := match R.row r with | [] => -1 | x :: _ => x

theorem Ring.row_of {R : Ring} {r : Nat} {l : List Nat} (h : R.rows[r]? = some l) : R.row r = l := by
  have hrl : r < R.rows.length := (List.getElem?_eq_some_iff.1 h).1
  unfold Ring.row Ring.isRow
  have e : R.rows[r]? = some R.rows[r] := List.getElem?_eq_getElem hrl
  rw [h] at e; cases e
  simp [hrl, List.getD_eq_getElem?_getD]
theorem filter_out {l1 l2 : List Nat} {x : Nat} (h : (l1 ++ x :: l2).Nodup) : (l1 ++ x :: l2).filter (fun y => decide (y ≠ x)) = l1 ++ l2 := by
  rw [List.nodup_append] at h
  obtain ⟨_, h2, h3⟩ := h
  have e1 : l1.filter (fun y => decide (y ≠ x)) = l1 := List.filter_eq_self.2 (fun y hy => by simpa using h3 y hy x (by simp))
  have e2 : l2.filter (fun y => decide (y ≠ x)) = l2 := List.filter_eq_self.2 (fun y hy => by
    have := (List.nodup_cons.1 h2).1
    simpa using fun e : y = x => this (e ▸ hy))
  rw [List.filter_append, List.filter_cons, e1, e2]
  simp
theorem mem_split {l : List Nat} {x : Nat} (h : x ∈ l) : ∃ l1 l2, l = l1 ++ x :: l2 := List.append_of_mem h
end Go.RingM
