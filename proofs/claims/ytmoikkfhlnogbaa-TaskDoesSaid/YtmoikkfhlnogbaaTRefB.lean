/-
  The document's own table: Set, Park.
-/
import Derived.Test.YtmoikkfhlnogbaaTRefA
namespace Go.Proofs.Ytmoikkfhlnogbaa
set_option linter.unusedSimpArgs false
set_option linter.unusedVariables false
open Go.RowKit Go.Sep Go.TaskM

theorem set_reg_out {T : Table} (n reg x : Int) (h : regOk reg = false) : T.change n live (setG reg x) = T := by
  unfold Table.change
  split
  · rename_i hc
    have h1 : setG reg x (T.getD n) = T.getD n := by
      unfold setG; apply put_out
      unfold regOk at h
      simp at h
      omega
    rw [h1]
    have h2 : ∃ y, T.get n = some y := by
      unfold Table.can at hc
      cases hg : T.get n with
      | none => rw [hg] at hc; cases hc
      | some y => exact ⟨y, rfl⟩
    obtain ⟨y, hy⟩ := h2
    unfold Table.getD
    rw [hy]
    unfold Table.get at hy
    split at hy
    · rw [Option.getD_some, tab_set_same hy]
    · cases hy
  · rfl
theorem encT_set_nat (t : Task) (x : Int) {r : Nat} (h : r < 6) : (encT t).set (4 + r) (.int .i64 x) = encT (setG (r : Int) x t) := by
  have h1 := encT_set_reg t (r : Int) x (by omega) (by omega)
  rw [Int.toNat_natCast] at h1
  exact h1
set_option maxHeartbeats 4000000 in
theorem rSet (p : Nat) (T : Table) (hT : St T) (n reg x : Int) (e w : World) (X : HProp) (hw : Holds e w [X, IsR p T]) :
    Calls Try.prog 12 #[.pointer (some ⟨p, 0, none⟩), .int .i64 n, .int .i64 reg, .int .i64 x] w fun en w' => en = .returned (.bool (T.can n live && regOk reg)) ∧ Holds e w' [X, IsR p (T.change n live (setG reg x))] := by
  have Hw0 := Sep.hid hw
  have hcl := can_live hT n
  obtain ⟨⟨a, cap⟩, hw⟩ := exL.open_ hw
  have hw := hw.open_ 1 rfl
  (try simp only [List.map_cons, List.map_nil, List.getD_cons_zero, List.getD_cons_succ, List.getD_nil, List.set_cons_zero, List.set_cons_succ, List.cons_append, List.nil_append, Act.eval, Array.getD_eq_getD_getElem?, List.getElem?_toArray, List.getElem?_cons_succ, List.getElem?_cons_zero, Option.getD_some, Value.cells] at hw); (try simp (disch := first | (simp; done) | (simp; omega)) only [Sep.mid_set, Sep.mid_set2, Sep.mid_set0, Sep.mid_splice, Sep.mid_splice0, List.set_cons_zero, List.set_cons_succ] at hw); (try simp only [Sep.splice, List.take_succ_cons, List.take_zero, List.drop_succ_cons, List.drop_zero, List.length_cons, List.length_nil, Nat.reduceAdd, List.cons_append, List.nil_append] at hw)
  obtain ⟨len, hlen'⟩ : ∃ n, T.l.length = n := ⟨_, rfl⟩
  have hlen := Sep.hid hlen'
  rw [hlen'] at hw
  clear hlen'
  (try simp only [List.map_cons, List.map_nil, List.getD_cons_zero, List.getD_cons_succ, List.getD_nil, List.set_cons_zero, List.set_cons_succ, List.cons_append, List.nil_append, Act.eval, Array.getD_eq_getD_getElem?, List.getElem?_toArray, List.getElem?_cons_succ, List.getElem?_cons_zero, Option.getD_some, Value.cells] at hw); (try simp (disch := first | (simp; done) | (simp; omega)) only [Sep.mid_set, Sep.mid_set2, Sep.mid_set0, Sep.mid_splice, Sep.mid_splice0, List.set_cons_zero, List.set_cons_succ] at hw); (try simp only [Sep.splice, List.take_succ_cons, List.take_zero, List.drop_succ_cons, List.drop_zero, List.length_cons, List.length_nil, Nat.reduceAdd, List.cons_append, List.nil_append] at hw)
  (try replace hc0 := Sep.Holds.cells hw (i := 0) rfl); (try replace hc1 := Sep.Holds.cells hw (i := 1) rfl); (try replace hc2 := Sep.Holds.cells hw (i := 2) rfl); (try replace hc3 := Sep.Holds.cells hw (i := 3) rfl); (try replace hc4 := Sep.Holds.cells hw (i := 4) rfl); (try replace hc5 := Sep.Holds.cells hw (i := 5) rfl); (try replace hc6 := Sep.Holds.cells hw (i := 6) rfl)
  cases h1 : isSt T.l n 1 with
  | true =>
    have hc : T.can n live = true := by rw [hcl, h1]; rfl
    have H1 := Sep.hid h1
    obtain ⟨k, t, rfl, ht, hs⟩ := isSt_get H1.out
    have Ht := Sep.hid ht
    obtain ⟨b, off, hab, _⟩ := task_at (i := 2) hw rfl hlen.out ht
    subst hab
    have hk : k < len := by have := (List.getElem?_eq_some_iff.1 ht).1; rw [hlen.out] at this; exact this
    have Hj : Hid (k * 17 + 17 ≤ (T.l.flatMap encT).length) := Sep.hid (by rw [flat_len (f := encT) encT_length, hlen.out]; omega)
    clear ht
    by_cases hr : 0 ≤ reg ∧ reg < 6
    · obtain ⟨r, rfl⟩ : ∃ r : Nat, reg = (r : Int) := ⟨reg.toNat, by omega⟩
      have hr6 : r < 6 := by omega
      have hro : regOk (r : Int) = true := by unfold regOk; simp; omega
      rw [hc, hro, change_at hc Ht.out]
      clear hc hs hr hro hcl h1
      refine Sep.calls_post ?_
      intro Post_ hPost_
      have HP := Sep.hid hPost_
      clear hPost_
      go_enter Try.func12, Try.ntmps12
      go_wp2_with fail
      refine (rIs p len cap (some ⟨b, off, none⟩) T.l k 1 hlen _ (hc1 0) (Sep.hid (fun k t ht => task_at (i := 2) hw rfl hlen.out ht))).mono ?_
      rintro _ w_ ⟨rfl, rfl⟩
      rw [H1.out]
      go_wp2_with (refine wpList_on rfl (wp_storeSl' (i := 2) (j := k * 17 + (4 + r)) rfl (by show Value.pointer (some ⟨b, off + k * 17 + 4 + r, none⟩) = Value.pointer (some ⟨b, off + (k * 17 + (4 + r)), none⟩); rw [show off + k * 17 + 4 + r = off + (k * 17 + (4 + r)) by omega]) rfl hw rfl (by have := Hj.out; omega) rfl ?_); intro w_ hw_; clear hw; have hw := hw_; clear hw_; (try simp only [List.map_cons, List.map_nil, List.getD_cons_zero, List.getD_cons_succ, List.getD_nil, List.set_cons_zero, List.set_cons_succ, List.cons_append, List.nil_append, Act.eval, Array.getD_eq_getD_getElem?, List.getElem?_toArray, List.getElem?_cons_succ, List.getElem?_cons_zero, Option.getD_some, Value.cells] at hw); (try simp (disch := first | (simp; done) | (simp; omega)) only [Sep.mid_set, Sep.mid_set2, Sep.mid_set0, Sep.mid_splice, Sep.mid_splice0, List.set_cons_zero, List.set_cons_succ] at hw); (try simp only [Sep.splice, List.take_succ_cons, List.take_zero, List.drop_succ_cons, List.drop_zero, List.length_cons, List.length_nil, Nat.reduceAdd, List.cons_append, List.nil_append] at hw); (try replace hc0 := Sep.Holds.cells hw (i := 0) rfl); (try replace hc1 := Sep.Holds.cells hw (i := 1) rfl); (try replace hc2 := Sep.Holds.cells hw (i := 2) rfl); (try replace hc3 := Sep.Holds.cells hw (i := 3) rfl); (try replace hc4 := Sep.Holds.cells hw (i := 4) rfl); (try replace hc5 := Sep.Holds.cells hw (i := 5) rfl); (try replace hc6 := Sep.Holds.cells hw (i := 6) rfl))
      rw [flat_put (j := 4 + r) (b := setG (r : Int) x t) encT_length Ht.out (by omega) (encT_set_nat t x hr6)] at hw
      exact HP.out _ _ ⟨rfl, ref_close (T := { T with l := T.l.set k (setG (r : Int) x t) }) (by simp [hlen.out]) hw⟩
    · have hro : regOk reg = false := by unfold regOk; simp; omega
      rw [hc, hro, set_reg_out _ _ _ hro]
      have hr2 : reg < 0 ∨ (¬ reg < 0 ∧ 5 < reg) := by omega
      clear hc hs hr hro hcl h1
      rcases hr2 with hr2 | ⟨hr2, hr3⟩
      all_goals
        refine Sep.calls_post ?_
        intro Post_ hPost_
        have HP := Sep.hid hPost_
        clear hPost_
        go_enter Try.func12, Try.ntmps12
        go_wp2_with fail
        refine (rIs p len cap (some ⟨b, off, none⟩) T.l k 1 hlen _ (hc1 0) (Sep.hid (fun k t ht => task_at (i := 2) hw rfl hlen.out ht))).mono ?_
        rintro _ w_ ⟨rfl, rfl⟩
        rw [H1.out]
        go_wp2_with fail
        exact HP.out _ _ ⟨rfl, Hw0.out⟩
  | false =>
    have H1 := Sep.hid h1
    cases h2 : isSt T.l n 2 with
    | true =>
      have hc : T.can n live = true := by rw [hcl, h1, h2]; rfl
      have H2 := Sep.hid h2
      obtain ⟨k, t, rfl, ht, hs⟩ := isSt_get H2.out
      have Ht := Sep.hid ht
      obtain ⟨b, off, hab, _⟩ := task_at (i := 2) hw rfl hlen.out ht
      subst hab
      have hk : k < len := by have := (List.getElem?_eq_some_iff.1 ht).1; rw [hlen.out] at this; exact this
      have Hj : Hid (k * 17 + 17 ≤ (T.l.flatMap encT).length) := Sep.hid (by rw [flat_len (f := encT) encT_length, hlen.out]; omega)
      clear ht
      by_cases hr : 0 ≤ reg ∧ reg < 6
      · obtain ⟨r, rfl⟩ : ∃ r : Nat, reg = (r : Int) := ⟨reg.toNat, by omega⟩
        have hr6 : r < 6 := by omega
        have hro : regOk (r : Int) = true := by unfold regOk; simp; omega
        rw [hc, hro, change_at hc Ht.out]
        clear hc hs hr hro hcl h1 h2
        refine Sep.calls_post ?_
        intro Post_ hPost_
        have HP := Sep.hid hPost_
        clear hPost_
        go_enter Try.func12, Try.ntmps12
        go_wp2_with fail
        refine (rIs p len cap (some ⟨b, off, none⟩) T.l k 1 hlen _ (hc1 0) (Sep.hid (fun k t ht => task_at (i := 2) hw rfl hlen.out ht))).mono ?_
        rintro _ w_ ⟨rfl, rfl⟩
        rw [H1.out]
        go_wp2_with fail
        refine (rIs p len cap (some ⟨b, off, none⟩) T.l k 2 hlen _ (hc1 0) (Sep.hid (fun k t ht => task_at (i := 2) hw rfl hlen.out ht))).mono ?_
        rintro _ w_ ⟨rfl, rfl⟩
        rw [H2.out]
        go_wp2_with (refine wpList_on rfl (wp_storeSl' (i := 2) (j := k * 17 + (4 + r)) rfl (by show Value.pointer (some ⟨b, off + k * 17 + 4 + r, none⟩) = Value.pointer (some ⟨b, off + (k * 17 + (4 + r)), none⟩); rw [show off + k * 17 + 4 + r = off + (k * 17 + (4 + r)) by omega]) rfl hw rfl (by have := Hj.out; omega) rfl ?_); intro w_ hw_; clear hw; have hw := hw_; clear hw_; (try simp only [List.map_cons, List.map_nil, List.getD_cons_zero, List.getD_cons_succ, List.getD_nil, List.set_cons_zero, List.set_cons_succ, List.cons_append, List.nil_append, Act.eval, Array.getD_eq_getD_getElem?, List.getElem?_toArray, List.getElem?_cons_succ, List.getElem?_cons_zero, Option.getD_some, Value.cells] at hw); (try simp (disch := first | (simp; done) | (simp; omega)) only [Sep.mid_set, Sep.mid_set2, Sep.mid_set0, Sep.mid_splice, Sep.mid_splice0, List.set_cons_zero, List.set_cons_succ] at hw); (try simp only [Sep.splice, List.take_succ_cons, List.take_zero, List.drop_succ_cons, List.drop_zero, List.length_cons, List.length_nil, Nat.reduceAdd, List.cons_append, List.nil_append] at hw); (try replace hc0 := Sep.Holds.cells hw (i := 0) rfl); (try replace hc1 := Sep.Holds.cells hw (i := 1) rfl); (try replace hc2 := Sep.Holds.cells hw (i := 2) rfl); (try replace hc3 := Sep.Holds.cells hw (i := 3) rfl); (try replace hc4 := Sep.Holds.cells hw (i := 4) rfl); (try replace hc5 := Sep.Holds.cells hw (i := 5) rfl); (try replace hc6 := Sep.Holds.cells hw (i := 6) rfl))
        rw [flat_put (j := 4 + r) (b := setG (r : Int) x t) encT_length Ht.out (by omega) (encT_set_nat t x hr6)] at hw
        exact HP.out _ _ ⟨rfl, ref_close (T := { T with l := T.l.set k (setG (r : Int) x t) }) (by simp [hlen.out]) hw⟩
      · have hro : regOk reg = false := by unfold regOk; simp; omega
        rw [hc, hro, set_reg_out _ _ _ hro]
        have hr2 : reg < 0 ∨ (¬ reg < 0 ∧ 5 < reg) := by omega
        clear hc hs hr hro hcl h1 h2
        rcases hr2 with hr2 | ⟨hr2, hr3⟩
        all_goals
          refine Sep.calls_post ?_
          intro Post_ hPost_
          have HP := Sep.hid hPost_
          clear hPost_
          go_enter Try.func12, Try.ntmps12
          go_wp2_with fail
          refine (rIs p len cap (some ⟨b, off, none⟩) T.l k 1 hlen _ (hc1 0) (Sep.hid (fun k t ht => task_at (i := 2) hw rfl hlen.out ht))).mono ?_
          rintro _ w_ ⟨rfl, rfl⟩
          rw [H1.out]
          go_wp2_with fail
          refine (rIs p len cap (some ⟨b, off, none⟩) T.l k 2 hlen _ (hc1 0) (Sep.hid (fun k t ht => task_at (i := 2) hw rfl hlen.out ht))).mono ?_
          rintro _ w_ ⟨rfl, rfl⟩
          rw [H2.out]
          go_wp2_with fail
          exact HP.out _ _ ⟨rfl, Hw0.out⟩
    | false =>
      have hc : T.can n live = false := by rw [hcl, h1, h2]; rfl
      have H2 := Sep.hid h2
      rw [hc, Table.change_no hc]
      clear hc hcl h1 h2
      refine Sep.calls_post ?_
      intro Post_ hPost_
      have HP := Sep.hid hPost_
      clear hPost_
      go_enter Try.func12, Try.ntmps12
      go_wp2_with fail
      refine (rIs p len cap a T.l n 1 hlen _ (hc1 0) (Sep.hid (fun k t ht => task_at (i := 2) hw rfl hlen.out ht))).mono ?_
      rintro _ w_ ⟨rfl, rfl⟩
      rw [H1.out]
      go_wp2_with fail
      refine (rIs p len cap a T.l n 2 hlen _ (hc1 0) (Sep.hid (fun k t ht => task_at (i := 2) hw rfl hlen.out ht))).mono ?_
      rintro _ w_ ⟨rfl, rfl⟩
      rw [H2.out]
      go_wp2_with fail
      exact HP.out _ _ ⟨rfl, Hw0.out⟩
end Go.Proofs.Ytmoikkfhlnogbaa
