/-
  A table of structs each of which has one cell that leads to something of its own (a slice): what the structs' cells are, what each leads to; read, written, told anew, one more.
-/
import Derived.Test.YtcefnihhlbeebaaSepPick
import Derived.Test.YtcefnihhlbeebaaSepMore
import Derived.Test.YtcefnihhlbeebaaSepList
namespace Go.Sep
set_option linter.unusedSimpArgs false
set_option linter.unusedVariables false
variable {α : Type} {enc : α → Value → List Value} {R : Value → α → HProp} {sz : Nat}

def tabC (enc : α → Value → List Value) (xs : List α) (vs : List Value) : List Value := (List.zipWith enc xs vs).flatten
def tabR (R : Value → α → HProp) (xs : List α) (vs : List Value) : List HProp := List.zipWith (fun x v => R v x) xs vs

theorem tabC_length (hsz : ∀ x v, (enc x v).length = sz) {xs : List α} {vs : List Value} (h : vs.length = xs.length) : (tabC enc xs vs).length = xs.length * sz := by
  unfold tabC
  induction xs generalizing vs with
  | nil => simp
  | cons c cs ih =>
    cases vs with
    | nil => simp at h
    | cons v vs =>
      have := ih (vs := vs) (by simpa using h)
      simp only [List.zipWith_cons_cons, List.flatten_cons, List.length_append, this, List.length_cons, hsz]
      rw [Nat.add_mul]; omega
theorem tabC_get (hsz : ∀ x v, (enc x v).length = sz) {xs : List α} {vs : List Value} {k j : Nat} {c : α} {v : Value} (hc : xs[k]? = some c) (hv : vs[k]? = some v) (hj : j < sz) : (tabC enc xs vs)[k * sz + j]? = (enc c v)[j]? := by
  unfold tabC
  induction xs generalizing vs k with
  | nil => simp at hc
  | cons d cs ih =>
    cases vs with
    | nil => simp at hv
    | cons u vs =>
      cases k with
      | zero =>
        simp at hc hv; subst hc hv
        rw [List.zipWith_cons_cons, List.flatten_cons, List.getElem?_append_left (by rw [hsz]; omega)]
        simp
      | succ k =>
        have h1 := ih (vs := vs) (k := k) (by simpa using hc) (by simpa using hv)
        rw [List.zipWith_cons_cons, List.flatten_cons, List.getElem?_append_right (by rw [hsz, Nat.add_mul]; omega), ← h1]
        congr 1
        rw [hsz, Nat.add_mul]; omega
theorem tabR_length {xs : List α} {vs : List Value} (h : vs.length = xs.length) : (tabR R xs vs).length = xs.length := by
  unfold tabR; rw [List.length_zipWith, h, Nat.min_self]
theorem tab_get {xs : List α} {vs : List Value} {i : Nat} {c : α} (h : vs.length = xs.length) (hc : xs[i]? = some c) : ∃ v, vs[i]? = some v ∧ (tabR R xs vs)[i]? = some (R v c) := by
  obtain ⟨hi, hc'⟩ := List.getElem?_eq_some_iff.1 hc
  have hi2 : i < vs.length := by omega
  refine ⟨vs[i], List.getElem?_eq_getElem hi2, ?_⟩
  unfold tabR
  rw [List.getElem?_zipWith, List.getElem?_eq_getElem hi2, hc]
theorem tabC_set (hsz : ∀ x v, (enc x v).length = sz) {xs : List α} {vs : List Value} {k j : Nat} {c c' : α} {v v' x : Value} (hc : xs[k]? = some c) (hv : vs[k]? = some v) (hj : j < sz) (hx : (enc c v).set j x = enc c' v') : (tabC enc xs vs).set (k * sz + j) x = tabC enc (xs.set k c') (vs.set k v') := by
  unfold tabC
  induction xs generalizing vs k with
  | nil => simp at hc
  | cons d cs ih =>
    cases vs with
    | nil => simp at hv
    | cons u vs =>
      cases k with
      | zero =>
        simp at hc hv; subst hc hv
        rw [List.zipWith_cons_cons, List.flatten_cons, List.set_append_left _ _ (by rw [hsz]; omega)]
        simp [hx]
      | succ k =>
        have h1 := ih (vs := vs) (k := k) (by simpa using hc) (by simpa using hv)
        rw [List.zipWith_cons_cons, List.flatten_cons, List.set_append_right _ _ (by rw [hsz, Nat.add_mul]; omega), List.set_cons_succ, List.set_cons_succ, List.zipWith_cons_cons, List.flatten_cons, ← h1]
        congr 2
        rw [hsz, Nat.add_mul]; omega
theorem tabR_set {xs : List α} {vs : List Value} (h : vs.length = xs.length) {k : Nat} {c' : α} {v' : Value} : (tabR R xs vs).set k (R v' c') = tabR R (xs.set k c') (vs.set k v') := by
  apply List.ext_getElem?
  intro q
  unfold tabR
  simp only [List.getElem?_set, List.getElem?_zipWith, List.length_zipWith, h, Nat.min_self]
  by_cases hq : k = q
  · subst hq
    by_cases hl : k < xs.length
    · simp [hl]
    · simp [hl]
  · simp [hq]
theorem tab_set_same {α : Type} {l : List α} {k : Nat} {x : α} (h : l[k]? = some x) : l.set k x = l := by
  apply List.ext_getElem?
  intro q
  rw [List.getElem?_set]
  by_cases hq : k = q
  · subst hq; rw [h]; simp [(List.getElem?_eq_some_iff.1 h).1]
  · simp [hq]
theorem tabR_same {xs : List α} {vs : List Value} {k : Nat} {c : α} {v : Value} (hc : xs[k]? = some c) (hv : vs[k]? = some v) : (tabR R xs vs).set k (R v c) = tabR R xs vs := by
  apply tab_set_same
  unfold tabR
  rw [List.getElem?_zipWith, hv, hc]
theorem tabC_snoc {xs : List α} {vs : List Value} (h : vs.length = xs.length) (x : α) (v : Value) : tabC enc (xs ++ [x]) (vs ++ [v]) = tabC enc xs vs ++ enc x v := by
  unfold tabC
  rw [List.zipWith_append h.symm, List.flatten_append]
  simp
theorem tabR_snoc {xs : List α} {vs : List Value} (h : vs.length = xs.length) (x : α) (v : Value) : tabR R (xs ++ [x]) (vs ++ [v]) = tabR R xs vs ++ [R v x] := by
  unfold tabR
  rw [List.zipWith_append h.symm]
  simp
theorem tabC_map {enc' : α → Value → List Value} {f : α → α} (he : ∀ x v, enc (f x) v = enc x v) {xs : List α} {vs : List Value} : tabC enc (xs.map f) vs = tabC enc xs vs := by
  unfold tabC
  rw [List.zipWith_map_left]
  congr 2
  funext x v
  exact he x v

section
variable {P : Program} {ops : Array Oper} {Q : Exit → Act → World → Prop} {K : Act → World → Prop} {a : Act} {e w : World} {rest : List Oper} {o : Oper} {L : List HProp}
/-- A cell of a slice that is held is stored to. -/
theorem wp_storeSl' {T T2 : TypeId} {x y : Operand} {z v : Value} {k b off n cap i j sz : Nat} {cs : List Value} [ti : TI P T z 1 k] (ho : o.op = .store T x y) (hx : a.eval x = .pointer (some ⟨b, off + j, none⟩)) (hy : a.eval y = v)
    (hw : Holds e w L) (hi : L[i]? = some (Sl T2 sz (.slice (some ⟨b, off, none⟩) n cap) n cs)) (hj : j < cs.length) (h1 : v.oneCell' = true)
    (h : ∀ w', Holds e w' (L.set i (Sl T2 sz (.slice (some ⟨b, off, none⟩) n cap) n (cs.set j v))) → K (a.put o.dst undef) w') : o.wp P a w K Q := by
  have hln : cs.length = n * sz := hw.fact hi (fun _ h => h.1)
  have hil : i < L.length := (List.getElem?_eq_some_iff.1 hi).1
  rcases hw.openSl hi with ⟨h2, _⟩ | ⟨b', cap', pre, post, hv, g1, g2, g3, hw'⟩
  · cases h2
  · cases hv
    refine wp_store1 (v := v) (i := i) (cs := mid pre cs post) (t := T2) ho hx hy hw' (List.getElem?_set_self hil) (by rw [mid_length]; omega) h1 (fun w' hw2 => h w' ?_)
    rw [List.set_set, mid_set _ _ _ _ _ hj] at hw2
    have h3 := Holds.closeSl (i := i) (sz := sz) (n := n) (cap := cap) (pre := pre) (cs := cs.set j v) (post := post) hw2 (List.getElem?_set_self hil) (by rw [List.length_set]; exact hln) g1 g2 g3
    rwa [List.set_set] at h3
end
/-- The cells of a struct of a table that is held. -/
theorem tab_at {e w : World} {L : List HProp} {i n k ca T : Nat} {a : Option Addr} {xs : List α} {vs : List Value} {c : α} {v : Value} (hsz : ∀ x v, (enc x v).length = sz) (hw : Holds e w L) (hi : L[i]? = some (Sl T sz (.slice a n ca) n (tabC enc xs vs))) (hn : n ≠ 0) (hlen : vs.length = xs.length) (hc : xs[k]? = some c) (hv : vs[k]? = some v) :
    ∃ b off, a = some ⟨b, off, none⟩ ∧ ∀ j, j < sz → w.cell? ⟨b, off + k * sz + j, none⟩ = (enc c v)[j]? := by
  have hk : k < xs.length := (List.getElem?_eq_some_iff.1 hc).1
  have hln : (tabC enc xs vs).length = n * sz := hw.fact hi (fun _ h => h.1)
  have hln2 := tabC_length hsz hlen
  rcases hw.openSl hi with ⟨_, h2, _⟩ | ⟨b, cap, pre, post, hv', _, _, _, hw'⟩
  · exact absurd h2 hn
  · cases hv'
    have hil : i < L.length := (List.getElem?_eq_some_iff.1 hi).1
    refine ⟨b, pre.length, rfl, fun j hj => ?_⟩
    have : k * sz + j < xs.length * sz := by
      have h1 : k * sz + sz ≤ xs.length * sz := by
        have := Nat.mul_le_mul_right sz (show k + 1 ≤ xs.length from hk)
        rw [Nat.add_mul] at this; omega
      omega
    rw [Nat.add_assoc, hw'.cells (List.getElem?_set_self hil), Sep.mid_get _ _ _ _ (by omega), tabC_get hsz hc hv hj]
end Go.Sep
namespace Go.Sep
set_option linter.unusedSimpArgs false
set_option linter.unusedVariables false
section
variable {P : Program} {ops : Array Oper} {Q : Exit → Act → World → Prop} {K : Act → World → Prop} {a : Act} {e w : World} {rest : List Oper} {o : Oper} {L : List HProp}
/-- Several cells of a slice that is held are stored to. -/
theorem wp_storeSlN {T T2 : TypeId} {x y : Operand} {z : Value} {nn k b off n cap i j sz : Nat} {vs cs : List Value} [ti : TI P T z nn k] (ho : o.op = .store T x y) (hx : a.eval x = .pointer (some ⟨b, off + j, none⟩)) (hy : (a.eval y).cells.toList = vs)
    (hw : Holds e w L) (hi : L[i]? = some (Sl T2 sz (.slice (some ⟨b, off, none⟩) n cap) n cs)) (hvn : vs.length = nn) (hj : j + vs.length ≤ cs.length) (h1 : ∀ v ∈ vs, v.oneCell' = true)
    (h : ∀ w', Holds e w' (L.set i (Sl T2 sz (.slice (some ⟨b, off, none⟩) n cap) n (splice cs j vs))) → K (a.put o.dst undef) w') : o.wp P a w K Q := by
  have hln : cs.length = n * sz := hw.fact hi (fun _ h => h.1)
  have hil : i < L.length := (List.getElem?_eq_some_iff.1 hi).1
  rcases hw.openSl hi with ⟨h2, _⟩ | ⟨b', cap', pre, post, hv, g1, g2, g3, hw'⟩
  · cases h2
  · cases hv
    refine wp_storeN (vs := vs) (i := i) (cs := mid pre cs post) (t := T2) ho hx hy hw' (List.getElem?_set_self hil) hvn (by rw [mid_length]; omega) h1 (fun w' hw2 => h w' ?_)
    rw [List.set_set, mid_splice _ _ _ _ _ hj] at hw2
    have h3 := Holds.closeSl (i := i) (sz := sz) (n := n) (cap := cap) (pre := pre) (cs := splice cs j vs) (post := post) hw2 (List.getElem?_set_self hil) (by rw [splice_length _ _ _ hj]; exact hln) g1 g2 g3
    rwa [List.set_set] at h3
end
theorem flat_put {α : Type} {f : α → List Value} {m : Nat} (hf : ∀ a, (f a).length = m) {l : List α} {i j : Nat} {a b : α} {v : Value} (hi : l[i]? = some a) (hj : j < m) (h : (f a).set j v = f b) : (l.flatMap f).set (i * m + j) v = (l.set i b).flatMap f := by
  have hlt := (List.getElem?_eq_some_iff.1 hi).1
  rw [flat_set f b hlt, flat_split f hi]
  have e1 := flat_take_len (f := f) hf (l := l) (i := i) (by omega)
  rw [List.append_assoc, List.set_append_right _ _ (by omega), e1, List.set_append_left _ _ (by rw [hf]; omega), show i * m + j - i * m = j by omega, h, List.append_assoc]
theorem flat_putN {α : Type} {f : α → List Value} {m : Nat} (hf : ∀ a, (f a).length = m) {l : List α} {i j : Nat} {a b : α} {vs : List Value} (hi : l[i]? = some a) (hj : j + vs.length ≤ m) (h : splice (f a) j vs = f b) : splice (l.flatMap f) (i * m + j) vs = (l.set i b).flatMap f := by
  have hlt := (List.getElem?_eq_some_iff.1 hi).1
  rw [flat_set f b hlt, flat_split f hi]
  have e1 := flat_take_len (f := f) hf (l := l) (i := i) (by omega)
  have h2 := mid_splice ((l.take i).flatMap f) (f a) ((l.drop (i + 1)).flatMap f) j vs (by rw [hf]; exact hj)
  unfold mid at h2
  rw [e1] at h2
  rw [h2, h]
end Go.Sep
namespace Go.Sep
section
variable {P : Program} {ops : Array Oper} {Q : Exit → Act → World → Prop} {K : Act → World → Prop} {a : Act} {e w : World} {rest : List Oper} {o : Oper} {L : List HProp}
/-- Several cells of a slice that is held are read. -/
theorem wp_loadSlN {T T2 : TypeId} {x : Operand} {z : Value} {nn k b off n cap i j sz : Nat} {vs cs : List Value} [ti : TI P T z nn k] [ag : Agg P T] (ho : o.op = .load T x) (hx : a.eval x = .pointer (some ⟨b, off + j, none⟩))
    (hw : Holds e w L) (hi : L[i]? = some (Sl T2 sz (.slice (some ⟨b, off, none⟩) n cap) n cs)) (hl : vs.length = nn) (hv : ∀ (q : Nat) (v : Value), vs[q]? = some v → cs[j + q]? = some v)
    (h : K (a.put o.dst (.agg vs.toArray)) w) : o.wp P a w K Q := by
  have hil : i < L.length := (List.getElem?_eq_some_iff.1 hi).1
  rcases hw.openSl hi with ⟨h2, _⟩ | ⟨b', cap', pre, post, hv2, g1, g2, g3, hw'⟩
  · cases h2
  · cases hv2
    refine wp_loadN (vs := vs) (i := i) (cs := mid pre cs post) (t := T2) ho hx hw' (List.getElem?_set_self hil) hl (fun q v hq => ?_) h
    have h3 := hv q v hq
    rw [Nat.add_assoc, Sep.mid_get _ _ _ _ (List.getElem?_eq_some_iff.1 h3).1]
    exact h3
end
end Go.Sep
