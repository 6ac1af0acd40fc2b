/-
  A condition, as plain data: who waits, and for which lock; what its methods answer, and what they leave.
-/
import Derived.Test.YtcefnihhlbeebaaRowsM
import Derived.Test.YtcefnihhlbeebaaInts
import Derived.Test.YtcefnihhlbeebaaSepTab
import Derived.Test.YtcefnihhlbeebaaDeed
namespace Go.Proofs.Ytcefnihhlbeebaa
set_option linter.unusedSimpArgs false
set_option linter.unusedVariables false
open Go.RowKit Go.Sep Go.RingM

abbrev Told := Int × Int
structure CM where
  n : Nat
  w : List Told
def ts (l : List Told) : List Int := l.map Prod.fst
def outT (l : List Told) (t : Int) : List Told := l.filter (fun x => !decide (x.1 = t))
def lockOf (l : List Told) (t : Int) : Int := ((l.find? (fun x => decide (x.1 = t))).map Prod.snd).getD 0
def CM.wait (M : CM) (t k : Int) : Int × CM :=
  if ¬ (0 ≤ t ∧ t < M.n) then (3, M) else if t ∈ ts M.w then (6, M) else (0, { M with w := M.w ++ [(t, k)] })
def CM.signal (M : CM) : List Told × CM := (M.w.take 1, { M with w := M.w.drop 1 })
def CM.bcast (M : CM) : List Told × CM := (M.w, { M with w := [] })
def CM.leave (M : CM) (t : Int) : Bool × Told × CM := if t ∈ ts M.w then (true, (t, lockOf M.w t), { M with w := outT M.w t }) else (false, (0, 0), M)
/-- Error; is one that waited out; who is told. -/
def CM.act (M : CM) (a : Deed) : Int × Bool × List Told × CM :=
  if a.f0 = 0 then ((M.wait a.f1 a.f2).1, false, [], (M.wait a.f1 a.f2).2)
  else if a.f0 = 1 then (0, false, M.signal.1, M.signal.2)
  else if a.f0 = 2 then (0, false, M.bcast.1, M.bcast.2)
  else if a.f0 = 3 then (0, (M.leave a.f1).1, if (M.leave a.f1).1 then [(M.leave a.f1).2.1] else [], (M.leave a.f1).2.2)
  else (0, false, [], M)
theorem act_cases (M : CM) (a : Deed) : (a.f0 = 0 ∧ M.act a = ((M.wait a.f1 a.f2).1, false, [], (M.wait a.f1 a.f2).2)) ∨
    (¬ a.f0 = 0 ∧ a.f0 = 1 ∧ M.act a = (0, false, M.signal.1, M.signal.2)) ∨
    (¬ a.f0 = 0 ∧ ¬ a.f0 = 1 ∧ a.f0 = 2 ∧ M.act a = (0, false, M.bcast.1, M.bcast.2)) ∨
    (¬ a.f0 = 0 ∧ ¬ a.f0 = 1 ∧ ¬ a.f0 = 2 ∧ a.f0 = 3 ∧ a.f1 ∈ ts M.w ∧ M.act a = (0, true, [(a.f1, lockOf M.w a.f1)], { M with w := outT M.w a.f1 })) ∨
    (¬ a.f0 = 0 ∧ ¬ a.f0 = 1 ∧ ¬ a.f0 = 2 ∧ a.f0 = 3 ∧ a.f1 ∉ ts M.w ∧ M.act a = (0, false, [], M)) ∨
    (¬ a.f0 = 0 ∧ ¬ a.f0 = 1 ∧ ¬ a.f0 = 2 ∧ ¬ a.f0 = 3 ∧ M.act a = (0, false, [], M)) := by
  unfold CM.act CM.leave
  by_cases h0 : a.f0 = 0
  · exact .inl ⟨h0, by rw [if_pos h0]⟩
  by_cases h1 : a.f0 = 1
  · exact .inr (.inl ⟨h0, h1, by rw [if_neg h0, if_pos h1]⟩)
  by_cases h2 : a.f0 = 2
  · exact .inr (.inr (.inl ⟨h0, h1, h2, by rw [if_neg h0, if_neg h1, if_pos h2]⟩))
  by_cases h3 : a.f0 = 3
  · by_cases ht : a.f1 ∈ ts M.w
    · exact .inr (.inr (.inr (.inl ⟨h0, h1, h2, h3, ht, by rw [if_neg h0, if_neg h1, if_neg h2, if_pos h3, if_pos ht]; rfl⟩)))
    · exact .inr (.inr (.inr (.inr (.inl ⟨h0, h1, h2, h3, ht, by rw [if_neg h0, if_neg h1, if_neg h2, if_pos h3, if_neg ht]; rfl⟩))))
  · exact .inr (.inr (.inr (.inr (.inr ⟨h0, h1, h2, h3, by rw [if_neg h0, if_neg h1, if_neg h2, if_neg h3]⟩))))

/-- What stays true: unlike tasks, all of them there. -/
structure CM.Ok (M : CM) : Prop where
  nd : (ts M.w).Nodup
  pos : ∀ t ∈ ts M.w, 0 ≤ t ∧ t < M.n
theorem ts_append (l m : List Told) : ts (l ++ m) = ts l ++ ts m := List.map_append
theorem ts_outT (l : List Told) (t : Int) : ts (outT l t) = without (ts l) t := by
  unfold ts outT without
  rw [List.filter_map]; rfl
theorem outT_none {l : List Told} {t : Int} (h : t ∉ ts l) : outT l t = l := by
  unfold outT
  rw [List.filter_eq_self]
  intro x hx
  have : x.1 ≠ t := fun e => h (by rw [← e]; exact List.mem_map_of_mem hx)
  simp [this]
theorem outT_sub (l : List Told) (t : Int) : (outT l t).Sublist l := List.filter_sublist
theorem ts_mem {l : List Told} {x : Told} (h : x ∈ l) : x.1 ∈ ts l := List.mem_map_of_mem h
theorem lockOf_mem {l : List Told} (hnd : (ts l).Nodup) {x : Told} (h : x ∈ l) : lockOf l x.1 = x.2 := by
  unfold lockOf
  induction l with
  | nil => cases h
  | cons y l ih =>
    have hnd' : y.1 ∉ ts l ∧ (ts l).Nodup := by simpa [ts] using hnd
    rcases List.mem_cons.1 h with rfl | h'
    · simp
    · have hne : ¬ y.1 = x.1 := fun e => hnd'.1 (by rw [e]; exact ts_mem h')
      rw [List.find?_cons_of_neg (by simpa using hne)]
      exact ih hnd'.2 h'
theorem ok_wait {M : CM} (h : M.Ok) (t k : Int) : (M.wait t k).2.Ok := by
  unfold CM.wait
  split
  · exact h
  · rename_i h1
    split
    · exact h
    · rename_i h2
      have h1 : 0 ≤ t ∧ t < M.n := Decidable.of_not_not h1
      refine ⟨?_, ?_⟩
      · show (ts (M.w ++ [(t, k)])).Nodup
        rw [ts_append, List.nodup_append]
        refine ⟨h.nd, by simp [ts], fun a ha b hb e => h2 ?_⟩
        simp [ts] at hb; rw [← hb, ← e]; exact ha
      · intro x hx
        have hx : x ∈ ts (M.w ++ [(t, k)]) := hx
        rw [ts_append] at hx
        rcases List.mem_append.1 hx with hx | hx
        · exact h.pos x hx
        · simp [ts] at hx; rw [hx]; exact h1
theorem ok_sub {M : CM} (h : M.Ok) {l : List Told} (hl : l.Sublist M.w) : CM.Ok { M with w := l } := by
  have hs : (ts l).Sublist (ts M.w) := hl.map _
  exact ⟨h.nd.sublist hs, fun t ht => h.pos t (hs.subset ht)⟩
theorem ok_act {M : CM} (h : M.Ok) (a : Deed) : (M.act a).2.2.2.Ok := by
  rcases act_cases M a with ⟨_, hb⟩ | ⟨_, _, hb⟩ | ⟨_, _, _, hb⟩ | ⟨_, _, _, _, _, hb⟩ | ⟨_, _, _, _, _, hb⟩ | ⟨_, _, _, _, hb⟩ <;> rw [hb]
  · exact ok_wait h _ _
  · exact ok_sub h (List.drop_sublist _ _)
  · exact ok_sub h (List.nil_sublist _)
  · exact ok_sub h (outT_sub _ _)
  · exact h
  · exact h

theorem act_n (M : CM) (a : Deed) : (M.act a).2.2.2.n = M.n := by
  rcases act_cases M a with ⟨_, hb⟩ | ⟨_, _, hb⟩ | ⟨_, _, _, hb⟩ | ⟨_, _, _, _, _, hb⟩ | ⟨_, _, _, _, _, hb⟩ | ⟨_, _, _, _, hb⟩ <;> rw [hb]
  · unfold CM.wait; split
    · rfl
    · split <;> rfl
  · rfl
  · rfl
theorem act_len (M : CM) (a : Deed) : (M.act a).2.2.1.length ≤ M.w.length + 1 := by
  rcases act_cases M a with ⟨_, hb⟩ | ⟨_, _, hb⟩ | ⟨_, _, _, hb⟩ | ⟨_, _, _, _, _, hb⟩ | ⟨_, _, _, _, _, hb⟩ | ⟨_, _, _, _, hb⟩ <;> rw [hb]
  · exact Nat.zero_le _
  · simp only [CM.signal, List.length_take]; omega
  · exact Nat.le_succ _
  · simp
  · exact Nat.zero_le _
  · exact Nat.zero_le _

/-! ### Slices of these -/
def encX (x : Told) : List Value := [.int .i64 x.1, .int .i64 x.2]
def encT (l : List Told) : List Value := l.flatMap encX
theorem encX_len (x : Told) : (encX x).length = 2 := rfl
theorem encT_length (l : List Told) : (encT l).length = l.length * 2 := flat_len encX_len l
theorem encT_append (l m : List Told) : encT (l ++ m) = encT l ++ encT m := by simp [encT]
theorem encT_one (l : List Told) : ∀ v ∈ encT l, v.oneCell' = true := by
  intro v hv
  obtain ⟨x, _, hx⟩ := List.mem_flatMap.1 hv
  simp [encX] at hx
  rcases hx with rfl | rfl <;> rfl
theorem encT_get {l : List Told} {k j : Nat} {x : Told} (h : l[k]? = some x) (hj : j < 2) : (encT l)[k * 2 + j]? = (encX x)[j]? := flat_get encX_len h hj
def IsTolds (T : TypeId) (v : Value) (l : List Told) : HProp := Sl T 2 v l.length (encT l)
theorem tolds_snoc (T : TypeId) (v : Value) (l : List Told) (x : Told) : Sl T 2 v (l.length + 1) (encT l ++ encX x) = IsTolds T v (l ++ [x]) := by
  unfold IsTolds
  rw [encT_append, List.length_append]
  simp [encT]
/-- An element of a slice of these that is held. -/
theorem told_at {T : TypeId} {e w : World} {L : List HProp} {i n k ca : Nat} {a : Option Addr} {l : List Told} {x : Told} (hw : Holds e w L) (hi : L[i]? = some (Sl T 2 (.slice a n ca) n (encT l))) (hx : l[k]? = some x) :
    ∃ b off, a = some ⟨b, off, none⟩ ∧ w.cell? ⟨b, off + k * 2, none⟩ = some (.int .i64 x.1) ∧ w.cell? ⟨b, off + k * 2 + 1, none⟩ = some (.int .i64 x.2) := by
  have hk : k < l.length := (List.getElem?_eq_some_iff.1 hx).1
  have hln : (encT l).length = n * 2 := hw.fact hi (fun _ h => h.1)
  have hln2 := encT_length l
  rcases hw.openSl hi with ⟨_, h2, _⟩ | ⟨b, cap, pre, post, hv', _, _, _, hw'⟩
  · omega
  · cases hv'
    have hil : i < L.length := (List.getElem?_eq_some_iff.1 hi).1
    have hcell : ∀ j, j < 2 → w.cell? ⟨b, pre.length + (k * 2 + j), none⟩ = (encX x)[j]? := fun j hj => by
      rw [hw'.cells (List.getElem?_set_self hil), Sep.mid_get _ _ _ _ (by omega), encT_get hx hj]
    exact ⟨b, pre.length, rfl, hcell 0 (by omega), by have := hcell 1 (by omega); rwa [← Nat.add_assoc] at this⟩
/-- What is read of a slice of these. -/
def ReadsT (w : World) (a : Option Addr) (l : List Told) : Prop := ∀ (k : Nat) (x : Told), l[k]? = some x → ∃ b off, a = some ⟨b, off, none⟩ ∧ w.cell? ⟨b, off + k * 2, none⟩ = some (.int .i64 x.1) ∧ w.cell? ⟨b, off + k * 2 + 1, none⟩ = some (.int .i64 x.2)
theorem readsT {T : TypeId} {e w : World} {L : List HProp} {i n ca : Nat} {a : Option Addr} {l : List Told} (hw : Holds e w L) (hi : L[i]? = some (Sl T 2 (.slice a n ca) n (encT l))) : ReadsT w a l := fun k x hx => told_at hw hi hx
theorem takeT {l : List Told} {k : Nat} {x : Told} (h : l[k]? = some x) : l.take (k + 1) = l.take k ++ [x] := by
  rw [List.take_add_one, h]; rfl
end Go.Proofs.Ytcefnihhlbeebaa
