/-
  A semaphore, as plain data: what its methods answer, and what they leave.
-/
import Derived.Test.YtpbpineehbemhaaRowsM
import Derived.Test.YtpbpineehbemhaaSepMap
import Derived.Test.YtpbpineehbemhaaDeed
namespace Go.Proofs.Ytpbpineehbemhaa
set_option linter.unusedSimpArgs false
set_option linter.unusedVariables false
open Go.RowKit Go.Sep Go.RingM

structure SM where
  n : Nat
  held : Int
  room : Int
  w : List Int
  d : List Int
  f : Int → Option Int
def fits (held n most : Int) : Bool := decide (0 ≤ held ∧ 0 ≤ n ∧ 0 ≤ most ∧ held ≤ most ∧ n ≤ most - held)
def setI (f : Int → Option Int) (x : Int) (v : Option Int) : Int → Option Int := fun y => if y = x then v else f y
def encF (f : Int → Option Int) : Int → Option Value := fun x => (f x).map (Value.int .i64)
theorem setF_some (f : Int → Option Int) (x v : Int) : setF (encF f) x (some (.int .i64 v)) = encF (setI f x (some v)) := by
  funext y; unfold setF encF setI; split <;> rfl
theorem setF_none (f : Int → Option Int) (x : Int) : setF (encF f) x none = encF (setI f x none) := by
  funext y; unfold setF encF setI; split <;> rfl
theorem setI_self {f : Int → Option Int} {x : Int} (h : f x = none) : setI f x none = f := by
  funext y; unfold setI; split
  · rename_i e; rw [e, h]
  · rfl
def SM.wt (M : SM) (t : Int) : Int := (M.f t).getD 0
def SM.may (M : SM) (t n : Int) : Int := if ¬ (0 ≤ t ∧ t < M.n) then 3 else if n < 0 then 1 else if t ∈ M.w ∨ t ∈ M.d then 6 else 0
def SM.tryA (M : SM) (t n : Int) : Bool × Int × SM :=
  if ¬ M.may t n = 0 then (false, M.may t n, M)
  else if M.w = [] ∧ fits M.held n M.room = true then (true, 0, { M with held := M.held + n })
  else (false, 0, M)
def SM.acq (M : SM) (t n : Int) : Bool × Int × SM :=
  if ¬ M.may t n = 0 then (false, M.may t n, M)
  else if M.w = [] ∧ fits M.held n M.room = true then (true, 0, { M with held := M.held + n })
  else if M.room < n then (false, 0, { M with d := M.d ++ [t], f := setI M.f t (some n) })
  else (false, 0, { M with w := M.w ++ [t], f := setI M.f t (some n) })
/-- The first one is given what it wants. -/
def SM.step (M : SM) (t : Int) : SM := { M with held := M.held + M.wt t, w := M.w.tail, f := setI M.f t none }
def SM.giveGo : List Int → SM → List Int × SM
  | [], M => ([], M)
  | t :: l, M => if fits M.held (M.wt t) M.room = true then (t :: (giveGo l (M.step t)).1, (giveGo l (M.step t)).2) else ([], M)
def SM.give (M : SM) : List Int × SM := giveGo M.w M
def SM.rel (M : SM) (n : Int) : List Int × Int × SM :=
  if n < 0 then ([], 1, M) else if M.held < n then ([], 4, M)
  else ((SM.give { M with held := M.held - n }).1, 0, (SM.give { M with held := M.held - n }).2)
def SM.drop (M : SM) (t : Int) : SM := { M with w := without M.w t, d := without M.d t, f := setI M.f t none }
def SM.leave (M : SM) (t : Int) : List Int × Bool × SM :=
  if t ∈ M.w ∨ t ∈ M.d then ((M.drop t).give.1, true, (M.drop t).give.2) else ([], false, M)
def SM.act (M : SM) (a : Deed) : List Int × Bool × Int × SM :=
  if a.f0 = 0 then ([], (M.acq a.f1 a.f2).1, (M.acq a.f1 a.f2).2.1, (M.acq a.f1 a.f2).2.2)
  else if a.f0 = 1 then ([], (M.tryA a.f1 a.f2).1, (M.tryA a.f1 a.f2).2.1, (M.tryA a.f1 a.f2).2.2)
  else if a.f0 = 2 then ((M.rel a.f2).1, false, (M.rel a.f2).2.1, (M.rel a.f2).2.2)
  else if a.f0 = 3 then ((M.leave a.f1).1, (M.leave a.f1).2.1, 0, (M.leave a.f1).2.2)
  else ([], false, 0, M)

/-- What stays true of one. -/
structure SM.Ok (M : SM) : Prop where
  h0 : 0 ≤ M.held
  h1 : M.held ≤ M.room
  h2 : M.room ≤ 9223372036854775807
  is : ∀ t, (M.f t).isSome = true ↔ t ∈ M.w ∨ t ∈ M.d
  pos : ∀ t v, M.f t = some v → 0 ≤ v ∧ v ≤ 9223372036854775807
  lo : ∀ t v, t ∈ M.w → M.f t = some v → v ≤ M.room
  hi : ∀ t v, t ∈ M.d → M.f t = some v → M.room < v
  nd : (M.w ++ M.d).Nodup
theorem SM.Ok.none {M : SM} (h : M.Ok) {t : Int} (h1 : ¬ (t ∈ M.w ∨ t ∈ M.d)) : M.f t = none := by
  cases hf : M.f t with
  | none => rfl
  | some v => exact absurd ((h.is t).1 (by rw [hf]; rfl)) h1
theorem SM.Ok.get {M : SM} (h : M.Ok) {t : Int} (h1 : t ∈ M.w ∨ t ∈ M.d) : M.f t = .some (M.wt t) := by
  have := (h.is t).2 h1
  unfold SM.wt
  cases hf : M.f t with
  | none => rw [hf] at this; cases this
  | some v => rfl
theorem SM.wt_pos {M : SM} (h : M.Ok) (t : Int) : 0 ≤ M.wt t ∧ M.wt t ≤ 9223372036854775807 := by
  unfold SM.wt
  cases hf : M.f t with
  | none => simp
  | some v => exact h.pos t v hf
theorem fits_iff (a b c : Int) : fits a b c = true ↔ (0 ≤ a ∧ 0 ≤ b ∧ 0 ≤ c ∧ a ≤ c ∧ b ≤ c - a) := by unfold fits; simp
theorem SM.Ok.step {M : SM} (h : M.Ok) {t : Int} {l : List Int} (hw : M.w = t :: l) (hf : fits M.held (M.wt t) M.room = true) : (M.step t).Ok := by
  have hf := (fits_iff _ _ _).1 hf
  have hnd := h.nd
  rw [hw] at hnd
  have ht : t ∉ l ++ M.d := (List.nodup_cons.1 (by simpa using hnd)).1
  have hne : ∀ x, x ∈ l ∨ x ∈ M.d → x ≠ t := fun x hx e => ht (by subst e; simpa using hx)
  refine ⟨?_, ?_, h.h2, ?_, ?_, ?_, ?_, ?_⟩
  · show 0 ≤ M.held + M.wt t; omega
  · show M.held + M.wt t ≤ M.room; omega
  · intro x
    show (setI M.f t Option.none x).isSome = true ↔ x ∈ M.w.tail ∨ x ∈ M.d
    rw [hw, List.tail_cons]
    unfold setI
    split
    · rename_i e; subst e
      constructor
      · intro hh; cases hh
      · intro hh; exact absurd rfl (hne x hh)
    · rename_i e
      rw [h.is x, hw]; simp [e]
  · intro x v hx
    have hx : setI M.f t Option.none x = Option.some v := hx
    unfold setI at hx
    split at hx
    · cases hx
    · exact h.pos x v hx
  · intro x v hm hx
    have hx : setI M.f t Option.none x = Option.some v := hx
    have hm : x ∈ M.w.tail := hm
    unfold setI at hx
    split at hx
    · cases hx
    · exact h.lo x v (List.mem_of_mem_tail hm) hx
  · intro x v hm hx
    have hx : setI M.f t Option.none x = Option.some v := hx
    have hm : x ∈ M.d := hm
    unfold setI at hx
    split at hx
    · cases hx
    · exact h.hi x v hm hx
  · show (M.w.tail ++ M.d).Nodup
    rw [hw, List.tail_cons]
    exact (List.nodup_cons.1 (by simpa using hnd)).2
theorem give_ok : ∀ (l : List Int) (M : SM), M.w = l → M.Ok → (SM.giveGo l M).2.Ok
  | [], M, _, h => h
  | t :: l, M, hw, h => by
    unfold SM.giveGo
    split
    · rename_i hf
      exact give_ok l (M.step t) (by show M.w.tail = l; rw [hw]; rfl) (h.step hw hf)
    · exact h
theorem SM.Ok.give {M : SM} (h : M.Ok) : M.give.2.Ok := give_ok _ _ rfl h
theorem without_mem {l : List Int} {x y : Int} : y ∈ without l x ↔ y ∈ l ∧ ¬ y = x := by unfold without; simp
theorem SM.Ok.drop {M : SM} (h : M.Ok) (t : Int) : (M.drop t).Ok := by
  refine ⟨h.h0, h.h1, h.h2, ?_, ?_, ?_, ?_, ?_⟩
  · intro x
    show (setI M.f t Option.none x).isSome = true ↔ x ∈ without M.w t ∨ x ∈ without M.d t
    unfold setI
    split
    · rename_i e; subst e; simp [without_mem]
    · rename_i e; rw [h.is x]; simp [without_mem, e]
  · intro x v hx
    have hx : setI M.f t Option.none x = Option.some v := hx
    unfold setI at hx
    split at hx
    · cases hx
    · exact h.pos x v hx
  · intro x v hm hx
    have hx : setI M.f t Option.none x = Option.some v := hx
    have hm : x ∈ without M.w t := hm
    unfold setI at hx
    split at hx
    · cases hx
    · exact h.lo x v (without_mem.1 hm).1 hx
  · intro x v hm hx
    have hx : setI M.f t Option.none x = Option.some v := hx
    have hm : x ∈ without M.d t := hm
    unfold setI at hx
    split at hx
    · cases hx
    · exact h.hi x v (without_mem.1 hm).1 hx
  · show (without M.w t ++ without M.d t).Nodup
    unfold without
    rw [← List.filter_append]
    exact h.nd.filter _
theorem SM.Ok.room {M : SM} (h : M.Ok) {x : Int} (h0 : 0 ≤ x) (h1 : x ≤ M.room) : SM.Ok { M with held := x } :=
  ⟨h0, h1, h.h2, h.is, h.pos, h.lo, h.hi, h.nd⟩
theorem may_cases (M : SM) (t n : Int) : (¬ M.may t n = 0) ∨ (M.may t n = 0 ∧ 0 ≤ t ∧ t < M.n ∧ 0 ≤ n ∧ t ∉ M.w ∧ t ∉ M.d) := by
  unfold SM.may
  by_cases h1 : 0 ≤ t ∧ t < M.n
  · by_cases h2 : n < 0
    · exact .inl (by simp [h1, h2])
    · by_cases h3 : t ∈ M.w ∨ t ∈ M.d
      · exact .inl (by simp [h1, h2, h3])
      · exact .inr ⟨by simp [h1, h2, h3], h1.1, h1.2, by omega, fun h => h3 (.inl h), fun h => h3 (.inr h)⟩
  · exact .inl (by simp [h1])
theorem acq_cases (M : SM) (t n : Int) : (¬ M.may t n = 0 ∧ M.acq t n = (false, M.may t n, M) ∧ M.tryA t n = (false, M.may t n, M)) ∨
    (M.may t n = 0 ∧ 0 ≤ t ∧ t < M.n ∧ 0 ≤ n ∧ t ∉ M.w ∧ t ∉ M.d ∧ (
      (M.w = [] ∧ fits M.held n M.room = true ∧ M.acq t n = (true, 0, { M with held := M.held + n }) ∧ M.tryA t n = (true, 0, { M with held := M.held + n })) ∨
      (¬ (M.w = [] ∧ fits M.held n M.room = true) ∧ M.tryA t n = (false, 0, M) ∧ (
        (M.room < n ∧ M.acq t n = (false, 0, { M with d := M.d ++ [t], f := setI M.f t (some n) })) ∨
        (¬ M.room < n ∧ M.acq t n = (false, 0, { M with w := M.w ++ [t], f := setI M.f t (some n) })))))) := by
  unfold SM.acq SM.tryA
  rcases may_cases M t n with h | ⟨h, h1, h2, h3, h4, h5⟩
  · exact .inl ⟨h, by rw [if_pos h], by rw [if_pos h]⟩
  · refine .inr ⟨h, h1, h2, h3, h4, h5, ?_⟩
    have hn : ¬ ¬ M.may t n = 0 := by simp [h]
    rw [if_neg hn, if_neg hn]
    by_cases h6 : M.w = [] ∧ fits M.held n M.room = true
    · exact .inl ⟨h6.1, h6.2, by rw [if_pos h6], by rw [if_pos h6]⟩
    · refine .inr ⟨h6, by rw [if_neg h6], ?_⟩
      by_cases h7 : M.room < n
      · exact .inl ⟨h7, by rw [if_neg h6, if_pos h7]⟩
      · exact .inr ⟨h7, by rw [if_neg h6, if_neg h7]⟩
theorem nodup_put {l m : List Int} {t : Int} (h : (l ++ m).Nodup) (h1 : t ∉ l) (h2 : t ∉ m) : ((l ++ [t]) ++ m).Nodup ∧ (l ++ (m ++ [t])).Nodup := by
  simp only [List.nodup_append, List.mem_append, List.mem_singleton, List.nodup_cons, List.not_mem_nil, not_false_eq_true, List.nodup_nil, and_true, true_and] at h ⊢
  obtain ⟨a, b, c⟩ := h
  refine ⟨⟨⟨a, fun x hx y hy e => ?_⟩, b, ?_⟩, a, ⟨b, ?_⟩, ?_⟩
  · subst hy; subst e; exact h1 hx
  · rintro x (hx | rfl) y hy
    · exact c x hx y hy
    · exact fun e => h2 (e ▸ hy)
  · rintro x hx y rfl e; exact h2 (e ▸ hx)
  · rintro x hx y (hy | rfl)
    · exact c x hx y hy
    · exact fun e => h1 (e ▸ hx)
theorem SM.Ok.acq {M : SM} (h : M.Ok) (t n : Int) (hn : n ≤ 9223372036854775807) : (M.acq t n).2.2.Ok := by
  rcases acq_cases M t n with ⟨_, hb, _⟩ | ⟨_, h1, h2, h3, h4, h5, ⟨h6, h7, hb, _⟩ | ⟨h6, _, ⟨h7, hb⟩ | ⟨h7, hb⟩⟩⟩
  · rw [hb]; exact h
  · rw [hb]
    have h7 := (fits_iff _ _ _).1 h7
    exact h.room (by have := h.h0; omega) (by omega)
  all_goals
    rw [hb]
    have hpos : ∀ x v, setI M.f t (Option.some n) x = Option.some v → 0 ≤ v ∧ v ≤ 9223372036854775807 := by
      intro x v hx
      unfold setI at hx
      split at hx
      · cases hx; exact ⟨h3, hn⟩
      · exact h.pos x v hx
  · refine ⟨h.h0, h.h1, h.h2, ?_, hpos, ?_, ?_, (nodup_put h.nd h4 h5).2⟩
    · intro x
      show (setI M.f t (Option.some n) x).isSome = true ↔ x ∈ M.w ∨ x ∈ M.d ++ [t]
      unfold setI
      split
      · rename_i e; subst e; simp
      · rename_i e; rw [h.is x]; simp [e]
    · intro x v hm hx
      have hx : setI M.f t (Option.some n) x = Option.some v := hx
      have hm : x ∈ M.w := hm
      unfold setI at hx
      split at hx
      · rename_i e; exact absurd (e ▸ hm) h4
      · exact h.lo x v hm hx
    · intro x v hm hx
      have hx : setI M.f t (Option.some n) x = Option.some v := hx
      have hm : x ∈ M.d ++ [t] := hm
      unfold setI at hx
      split at hx
      · cases hx; exact h7
      · rename_i e; exact h.hi x v (by simpa [e] using hm) hx
  · refine ⟨h.h0, h.h1, h.h2, ?_, hpos, ?_, ?_, (nodup_put h.nd h4 h5).1⟩
    · intro x
      show (setI M.f t (Option.some n) x).isSome = true ↔ x ∈ M.w ++ [t] ∨ x ∈ M.d
      unfold setI
      split
      · rename_i e; subst e; simp
      · rename_i e; rw [h.is x]; simp [e]
    · intro x v hm hx
      have hx : setI M.f t (Option.some n) x = Option.some v := hx
      have hm : x ∈ M.w ++ [t] := hm
      unfold setI at hx
      split at hx
      · cases hx; show n ≤ M.room; omega
      · rename_i e; exact h.lo x v (by simpa [e] using hm) hx
    · intro x v hm hx
      have hx : setI M.f t (Option.some n) x = Option.some v := hx
      have hm : x ∈ M.d := hm
      unfold setI at hx
      split at hx
      · rename_i e; exact absurd (e ▸ hm) h5
      · exact h.hi x v hm hx
theorem SM.Ok.tryA {M : SM} (h : M.Ok) (t n : Int) : (M.tryA t n).2.2.Ok := by
  rcases acq_cases M t n with ⟨_, _, hb⟩ | ⟨_, h1, h2, h3, h4, h5, ⟨h6, h7, _, hb⟩ | ⟨h6, hb, _⟩⟩
  · rw [hb]; exact h
  · rw [hb]
    have h7 := (fits_iff _ _ _).1 h7
    exact h.room (by have := h.h0; omega) (by omega)
  · rw [hb]; exact h
theorem SM.Ok.rel {M : SM} (h : M.Ok) (n : Int) : (M.rel n).2.2.Ok := by
  unfold SM.rel
  repeat' split
  · exact h
  · exact h
  · exact (h.room (by omega) (by have := h.h1; omega)).give
theorem SM.Ok.leave {M : SM} (h : M.Ok) (t : Int) : (M.leave t).2.2.Ok := by
  unfold SM.leave
  split
  · exact (h.drop t).give
  · exact h
theorem SM.Ok.act {M : SM} (h : M.Ok) (a : Deed) (ha : a.f2 ≤ 9223372036854775807) : (M.act a).2.2.2.Ok := by
  unfold SM.act
  repeat' split
  · exact h.acq _ _ ha
  · exact h.tryA _ _
  · exact h.rel _
  · exact h.leave _
  · exact h
theorem SM.ok_new (n : Nat) (room : Int) (h0 : 0 ≤ room) (h1 : room ≤ 9223372036854775807) : SM.Ok ⟨n, 0, room, [], [], fun _ => none⟩ :=
  ⟨Int.le_refl _, h0, h1, by simp, by simp, by simp, by simp, by simp⟩
theorem give_n : ∀ (l : List Int) (M : SM), (SM.giveGo l M).2.n = M.n ∧ (SM.giveGo l M).2.room = M.room ∧ (SM.giveGo l M).2.d = M.d
  | [], M => ⟨rfl, rfl, rfl⟩
  | t :: l, M => by
    unfold SM.giveGo
    split
    · exact give_n l (M.step t)
    · exact ⟨rfl, rfl, rfl⟩
theorem act_n (M : SM) (a : Deed) : (M.act a).2.2.2.n = M.n ∧ (M.act a).2.2.2.room = M.room := by
  unfold SM.act SM.acq SM.tryA SM.rel SM.leave
  repeat' split
  all_goals first | exact ⟨rfl, rfl⟩ | exact ⟨(give_n _ _).1, (give_n _ _).2.1⟩
/-- What the reference keeps. -/
def SM.wn (M : SM) : List Int := M.w.map M.wt
def SM.dn (M : SM) : List Int := M.d.map M.wt
end Go.Proofs.Ytpbpineehbemhaa
