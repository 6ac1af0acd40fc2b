/-
  The walks of 'change' and of the table's methods that change one task.
-/
import Derived.Test.YtmoikkfhlnogbaaWalkB
namespace Go.Proofs.Ytmoikkfhlnogbaa
set_option linter.unusedSimpArgs false
set_option linter.unusedVariables false
open Go.RowKit Go.Sep Go.TaskM
attribute [local simp] Sep.mid_get Sep.mid_get0 Sep.mid_get2 encT_length

/-- Open a table. -/
theorem IsTable.open_ {e w : World} {L : List HProp} {i p : Nat} {T : Table} (hi : L[i]? = some (IsTable p T)) (hw : Holds e w L) :
    ∃ v, Holds e w (L.set i (pt p [v, .int .i64 T.most] 68) ++ [Sl 53 17 v T.l.length (T.l.flatMap encT)]) := by
  obtain ⟨v, h⟩ := hw.elim (Q := fun v => sepL [pt p [v, .int .i64 T.most] 68, Sl 53 17 v T.l.length (T.l.flatMap encT)]) hi (fun h hh => hh)
  have hil : i < L.length := (List.getElem?_eq_some_iff.1 hi).1
  have h2 := h.open_ i (List.getElem?_set_self hil)
  rw [List.set_set] at h2
  exact ⟨v, h2⟩
/-- Shut it: the struct at place i, the slice at place j. -/
theorem IsTable.mk {e w : World} {p : Nat} {T : Table} {v : Value} {N : List HProp} (hw : Holds e w (pt p [v, .int .i64 T.most] 68 :: Sl 53 17 v T.l.length (T.l.flatMap encT) :: N)) : Holds e w (IsTable p T :: N) := by
  have h := Holds.group [pt p [v, .int .i64 T.most] 68, Sl 53 17 v T.l.length (T.l.flatMap encT)] N hw
  exact h.imp (i := 0) (IsTable p T) rfl (fun h hh => ⟨v, hh⟩)

set_option maxHeartbeats 400000 in
theorem of_in (p : Nat) (n : Int) (b off : Nat) (len cap : Nat) (most : Int) (w : World) (h0 : 0 ≤ n) (h1 : n < len) (hc : ∀ k, w.cell? ⟨p, k, none⟩ = [.slice (some ⟨b, off, none⟩) len cap, .int .i64 most][k]?) :
    Calls Try.prog 36 #[.pointer (some ⟨p, 0, none⟩), .int .i64 n] w fun en w' => en = .returned (.pointer (some ⟨b, off + n.toNat * 17, none⟩)) ∧ w' = w := by
  go_enter Try.func36, Try.ntmps36
  go_wp2
  go_ret
  refine ⟨?_, rfl⟩
  simp [Addr.add]
  try (intro h; simp [h])
set_option maxHeartbeats 400000 in
theorem of_out (p : Nat) (n : Int) (a : Option Addr) (len cap : Nat) (most : Int) (w : World) (h : n < 0 ∨ (len : Int) ≤ n) (hc : ∀ k, w.cell? ⟨p, k, none⟩ = [.slice a len cap, .int .i64 most][k]?) :
    Calls Try.prog 36 #[.pointer (some ⟨p, 0, none⟩), .int .i64 n] w fun en w' => en = .returned (.pointer none) ∧ w' = w := by
  rcases h with h | h
  all_goals
    go_enter Try.func36, Try.ntmps36
    go_wp2
    go_ret
    exact ⟨rfl, rfl⟩

def MayOk (fm : Nat) (m : Task → Bool) : Prop := HasBody Try.prog fm ∧ ∀ (t : Task) (e w : World) (R : HProp), Holds e w [R] →
  Calls Try.prog fm #[.agg (encT t).toArray] w fun en w' => en = .returned (.bool (m t)) ∧ Holds e w' [R]
def DoOk (fd : Nat) (cd : List Value) (g : Task → Task) (C : HProp) (C' : Task → HProp) : Prop := HasBody Try.prog fd ∧ ∀ (t : Task) (pre post : List Value) (b : Nat) (e w : World) (R : HProp), Holds e w [R, pt b (mid pre (encT t) post) 53, C] →
  Calls Try.prog fd (.pointer (some ⟨b, pre.length, none⟩) :: cd).toArray w fun en w' => en = .returned (.tuple #[]) ∧ Holds e w' [R, pt b (mid pre (encT (g t)) post) 53, C' t]

theorem Table.can_none {T : Table} {n : Int} {m : Task → Bool} (h : T.get n = none) : T.can n m = false := by simp [Table.can, h]
theorem Table.can_some {T : Table} {n : Int} {m : Task → Bool} {t : Task} (h : T.get n = some t) : T.can n m = (!t.isNo && m t) := by simp [Table.can, h]
theorem Table.get_none {T : Table} {n : Int} (h : T.get n = none) : n < 0 ∨ (T.l.length : Int) ≤ n := by
  unfold Table.get at h
  split at h
  · rename_i h0; simp at h; omega
  · omega
theorem Table.get_some {T : Table} {n : Int} {t : Task} (h : T.get n = some t) : 0 ≤ n ∧ n < T.l.length ∧ T.l[n.toNat]? = some t := by
  unfold Table.get at h
  split at h
  · rename_i h0; have := (List.getElem?_eq_some_iff.1 h).1; exact ⟨h0, by omega, h⟩
  · cases h

set_option maxHeartbeats 1000000 in
theorem change_calls {fm fd : Nat} {cd : List Value} {m : Task → Bool} {g : Task → Task} {C : HProp} {C' : Task → HProp} (hmay : Hid (MayOk fm m)) (hdo : Hid (DoOk fd cd g C C')) (p : Nat) (T : Table) (n : Int) (e w : World) (R : HProp)
    (hw : Holds e w [R, IsTable p T, C]) :
    Calls Try.prog 37 #[.pointer (some ⟨p, 0, none⟩), .int .i64 n, .func (.func fm) #[] #[], .func (.func fd) #[] cd.toArray] w fun en w' =>
      en = .returned (.bool (T.can n m)) ∧ Holds e w' [R, IsTable p (T.change n m g), if T.can n m then C' (T.getD n) else C] := by
  obtain ⟨v, hw⟩ := IsTable.open_ (i := 1) rfl hw
  (try simp only [List.map_cons, List.map_nil, List.getD_cons_zero, List.getD_cons_succ, List.getD_nil, List.set_cons_zero, List.set_cons_succ, List.cons_append, List.nil_append, Act.eval, Array.getD_eq_getD_getElem?, List.getElem?_toArray, List.getElem?_cons_succ, List.getElem?_cons_zero, Option.getD_some, Value.cells] at hw); (try simp (disch := first | (simp; done) | (simp; omega)) only [Sep.mid_set, Sep.mid_set2, Sep.mid_set0, Sep.mid_splice, Sep.mid_splice0, List.set_cons_zero, List.set_cons_succ] at hw); (try simp only [Sep.splice, List.take_succ_cons, List.take_zero, List.drop_succ_cons, List.drop_zero, List.length_cons, List.length_nil, Nat.reduceAdd, List.cons_append, List.nil_append] at hw)
  cases hget : T.get n with
  | none =>
    have hc := Table.can_none (m := m) hget
    have ho := Table.get_none hget
    have e1 : T.change n m g = T := by simp [Table.change, hc]
    rw [e1, hc]
    clear hget
    obtain ⟨a, cap, rfl⟩ : ∃ a cap, v = .slice a T.l.length cap := by
      refine hw.fact (i := 3) rfl (fun h hh => ?_)
      rcases hh.2 with ⟨h1, h2⟩ | ⟨b, cap, pre, post, h1, _⟩
      · exact ⟨none, 0, by rw [h1, h2]⟩
      · exact ⟨_, _, h1⟩
    (try replace hc0 := Sep.Holds.cells hw (i := 0) rfl); (try replace hc1 := Sep.Holds.cells hw (i := 1) rfl); (try replace hc2 := Sep.Holds.cells hw (i := 2) rfl); (try replace hc3 := Sep.Holds.cells hw (i := 3) rfl); (try replace hc4 := Sep.Holds.cells hw (i := 4) rfl); (try replace hc5 := Sep.Holds.cells hw (i := 5) rfl); (try replace hc6 := Sep.Holds.cells hw (i := 6) rfl)
    have Hc := Sep.hid hc; clear hc
    have He := Sep.hid e1; clear e1
    go_enter Try.func37, Try.ntmps37
    go_wp2_with (go_at_call 36; refine (of_out p n a T.l.length cap T.most _ ho hc1).mono ?_; rintro _ w_ ⟨rfl, rfl⟩)
    go_ret
    exact ⟨rfl, by simpa using (IsTable.mk (hw.sel [1, 3, 0, 2] (by decide))).sel [1, 0, 2] (by decide)⟩
  | some t =>
    obtain ⟨h0, h1, hl⟩ := Table.get_some hget
    have hcan := Table.can_some (m := m) hget
    have hgd : T.getD n = t := by simp [Table.getD, hget]
    rcases hw.openSl (i := 3) rfl with ⟨_, h2, _⟩ | ⟨b, cap, pre, post, rfl, hnc, hcm, hpost, hw'⟩
    · omega
    clear hw; have hw := hw'; clear hw'
    rw [Sep.mid_elem hl] at hw
    have hpre : pre.length + n.toNat * 17 = (pre ++ (T.l.take n.toNat).flatMap encT).length := by
      rw [List.length_append, flat_take_len encT_length (by omega)]
    have hback : ∀ (u : Task) (w' : World) (X : HProp), Holds e w' [R, pt p [.slice (some ⟨b, pre.length, none⟩) T.l.length cap, .int .i64 T.most] 68, X, pt b (mid (pre ++ (T.l.take n.toNat).flatMap encT) (encT u) ((T.l.drop (n.toNat + 1)).flatMap encT ++ post)) 53] →
        Holds e w' [R, IsTable p { T with l := T.l.set n.toNat u }, X] := by
      intro u w' X h
      rw [← Sep.mid_elem_set encT u (by omega)] at h
      have h := h.closeSl (i := 3) (sz := 17) (n := T.l.length) (cap := cap) rfl (by rw [flat_len encT_length, List.length_set]) hnc hcm hpost
      have h := (IsTable.mk (T := { T with l := T.l.set n.toNat u }) (v := .slice (some ⟨b, pre.length, none⟩) T.l.length cap) (N := [R, X]) (by simpa using h.sel [1, 3, 0, 2] (by decide)))
      exact h.sel [1, 0, 2] (by decide)
    have hset : T.l.set n.toNat t = T.l := by
      apply List.ext_getElem?
      intro q
      by_cases hq : n.toNat = q
      · subst hq; rw [List.getElem?_set_self (by omega), hl]
      · rw [List.getElem?_set_ne hq]
    generalize pre ++ (T.l.take n.toNat).flatMap encT = pre2 at hw hpre hback
    generalize (T.l.drop (n.toNat + 1)).flatMap encT ++ post = post2 at hw hback
    have Hset := Sep.hid hset; clear hset
    have Hcan := Sep.hid hcan; clear hcan
    have Hgd := Sep.hid hgd; clear hgd
    have Hl := Sep.hid hl; clear hl
    have Hback := Sep.hid hback; clear hback
    clear hget hpost hcm hnc
    have hlt : n < (T.l.length : Int) := h1
    generalize hlen : T.l.length = len at *
    have Hlen := Sep.hid hlen; clear hlen
    (try replace hc0 := Sep.Holds.cells hw (i := 0) rfl); (try replace hc1 := Sep.Holds.cells hw (i := 1) rfl); (try replace hc2 := Sep.Holds.cells hw (i := 2) rfl); (try replace hc3 := Sep.Holds.cells hw (i := 3) rfl); (try replace hc4 := Sep.Holds.cells hw (i := 4) rfl); (try replace hc5 := Sep.Holds.cells hw (i := 5) rfl); (try replace hc6 := Sep.Holds.cells hw (i := 6) rfl)
    have hlen17 : (encT t).length = 17 := rfl
    cases hno : t.isNo with
    | true =>
      have hfin : Hid (T.can n m = false) := Sep.hid (by rw [Hcan.out, hno]; rfl)
      refine Sep.calls_post ?_
      intro Post_ hPost_
      have HP := Sep.hid hPost_
      clear hPost_
      go_enter Try.func37, Try.ntmps37
      go_wp2_with (first
        | (go_at_call 36; refine (of_in p n b pre.length len cap T.most _ h0 hlt hc1).mono ?_; rintro _ w_ ⟨rfl, rfl⟩)
        | (refine wpList_on rfl (wp_loadN (vs := encT t) rfl rfl hw (i := 3) rfl rfl (by intro j v hj; rw [Sep.mid_get _ _ _ _ (List.getElem?_eq_some_iff.1 hj).1]; exact hj) ?_))
        | (refine wpList_on rfl (wp_eqTz t rfl rfl rfl ?_)))
      have e1 : T.change n m g = T := by simp [Table.change, hfin.out]
      refine HP.out _ _ ?_
      rw [e1, hfin.out]
      refine ⟨rfl, ?_⟩
      have h := Hback.out t _ C hw
      rw [Hset.out] at h
      simpa using h
    | false =>
      cases hm : m t with
      | false =>
        have hfin : Hid (T.can n m = false) := Sep.hid (by rw [Hcan.out, hno, hm]; rfl)
        refine Sep.calls_post ?_
        intro Post_ hPost_
        have HP := Sep.hid hPost_
        clear hPost_
        go_enter Try.func37, Try.ntmps37
        go_wp2_with (first
          | (go_at_call 36; refine (of_in p n b pre.length len cap T.most _ h0 hlt hc1).mono ?_; rintro _ w_ ⟨rfl, rfl⟩)
          | (refine wpList_on rfl (wp_loadN (vs := encT t) rfl rfl hw (i := 3) rfl rfl (by intro j v hj; rw [Sep.mid_get _ _ _ _ (List.getElem?_eq_some_iff.1 hj).1]; exact hj) ?_))
          | (refine wpList_on rfl (wp_eqTz t rfl rfl rfl ?_))
          | (refine wpList_on rfl (wp_callv (args' := [.agg (encT t).toArray]) (fm := fm) rfl rfl hmay.out.1 rfl ?_); refine (hmay.out.2 t e _ _ hw.focus0).mono ?_; rintro _ w_ ⟨rfl, hw_⟩; refine ⟨_, rfl, ?_⟩; clear hw; have hw := Holds.unfocus0 (N := []) hw_; clear hw_; simp only [List.append_nil] at hw; (try replace hc0 := Sep.Holds.cells hw (i := 0) rfl); (try replace hc1 := Sep.Holds.cells hw (i := 1) rfl); (try replace hc2 := Sep.Holds.cells hw (i := 2) rfl); (try replace hc3 := Sep.Holds.cells hw (i := 3) rfl); (try replace hc4 := Sep.Holds.cells hw (i := 4) rfl); (try replace hc5 := Sep.Holds.cells hw (i := 5) rfl); (try replace hc6 := Sep.Holds.cells hw (i := 6) rfl)))
        have e1 : T.change n m g = T := by simp [Table.change, hfin.out]
        refine HP.out _ _ ?_
        rw [e1, hfin.out]
        refine ⟨rfl, ?_⟩
        have h := Hback.out t _ C hw
        rw [Hset.out] at h
        simpa using h
      | true =>
        have hfin : Hid (T.can n m = true) := Sep.hid (by rw [Hcan.out, hno, hm]; rfl)
        refine Sep.calls_post ?_
        intro Post_ hPost_
        have HP := Sep.hid hPost_
        clear hPost_
        go_enter Try.func37, Try.ntmps37
        go_wp2_with (first
          | (go_at_call 36; refine (of_in p n b pre.length len cap T.most _ h0 hlt hc1).mono ?_; rintro _ w_ ⟨rfl, rfl⟩)
          | (refine wpList_on rfl (wp_loadN (vs := encT t) rfl rfl hw (i := 3) rfl rfl (by intro j v hj; rw [Sep.mid_get _ _ _ _ (List.getElem?_eq_some_iff.1 hj).1]; exact hj) ?_))
          | (refine wpList_on rfl (wp_eqTz t rfl rfl rfl ?_))
          | (refine wpList_on rfl (wp_callv (args' := [.agg (encT t).toArray]) (fm := fm) rfl rfl hmay.out.1 rfl ?_); refine (hmay.out.2 t e _ _ hw.focus0).mono ?_; rintro _ w_ ⟨rfl, hw_⟩; refine ⟨_, rfl, ?_⟩; clear hw; have hw := Holds.unfocus0 (N := []) hw_; clear hw_; simp only [List.append_nil] at hw; (try replace hc0 := Sep.Holds.cells hw (i := 0) rfl); (try replace hc1 := Sep.Holds.cells hw (i := 1) rfl); (try replace hc2 := Sep.Holds.cells hw (i := 2) rfl); (try replace hc3 := Sep.Holds.cells hw (i := 3) rfl); (try replace hc4 := Sep.Holds.cells hw (i := 4) rfl); (try replace hc5 := Sep.Holds.cells hw (i := 5) rfl); (try replace hc6 := Sep.Holds.cells hw (i := 6) rfl))
          | (refine wpList_on rfl (wp_callv (args' := .pointer (some ⟨b, pre2.length, none⟩) :: cd) (fm := fd) rfl rfl hdo.out.1 (by simp [Act.eval]) ?_); refine (hdo.out.2 t pre2 post2 b e _ (sepL [R, pt p [.slice (some ⟨b, pre.length, none⟩) len cap, .int .i64 T.most] 68]) (Holds.group [R, pt p [.slice (some ⟨b, pre.length, none⟩) len cap, .int .i64 T.most] 68] [_, _] (hw.sel [0, 1, 3, 2] (by decide)))).mono ?_; rintro _ w_ ⟨rfl, hw_⟩; refine ⟨_, rfl, ?_⟩; clear hw; have hw := (Holds.ungroup [_, _] [_, _] hw_).sel [0, 1, 3, 2] (by decide); clear hw_))
        have e1 : T.change n m g = { T with l := T.l.set n.toNat (g t) } := by simp [Table.change, hfin.out, Hgd.out]
        refine HP.out _ _ ?_
        rw [e1, hfin.out, Hgd.out]
        exact ⟨rfl, by simpa using Hback.out (g t) _ (C' t) hw⟩
end Go.Proofs.Ytmoikkfhlnogbaa
