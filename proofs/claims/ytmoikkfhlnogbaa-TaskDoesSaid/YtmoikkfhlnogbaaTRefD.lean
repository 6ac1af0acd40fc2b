/-
  The document's own table: Wake, End.
-/
import Derived.Test.YtmoikkfhlnogbaaTRefC
namespace Go.Proofs.Ytmoikkfhlnogbaa
set_option linter.unusedSimpArgs false
set_option linter.unusedVariables false
open Go.RowKit Go.Sep Go.TaskM

/-- One task is told otherwise: the list's facts go on. -/
theorem set_facts {l : List Task} {k len : Nat} (t1 : Task) (hlen : l.length = len) (hk : k < len) : (l.set k t1).length = len ∧ (l.set k t1)[k]? = some t1 ∧ k * 17 + 17 ≤ ((l.set k t1).flatMap encT).length :=
  ⟨by rw [List.length_set, hlen], List.getElem?_set_self (by rw [hlen]; exact hk), by rw [flatT_len, List.length_set, hlen]; omega⟩
set_option maxHeartbeats 8000000 in
theorem rWake (p : Nat) (T : Table) (hT : St T) (n x : Int) (e w : World) (X : HProp) (hw : Holds e w [X, IsR p T]) :
    Calls Try.prog 14 #[.pointer (some ⟨p, 0, none⟩), .int .i64 n, .int .i64 x] w fun en w' => en = .returned (.bool (T.can n parked)) ∧ Holds e w' [X, IsR p (T.change n parked (wakeG x))] := by
  have Hw0 := Sep.hid hw
  have HT := Sep.hid hT
  have hcl := can_live hT n
  clear hT
  obtain ⟨⟨a, cap⟩, hw⟩ := exL.open_ hw
  have hw := hw.open_ 1 rfl
  (try simp only [List.map_cons, List.map_nil, List.getD_cons_zero, List.getD_cons_succ, List.getD_nil, List.set_cons_zero, List.set_cons_succ, List.cons_append, List.nil_append, Act.eval, Array.getD_eq_getD_getElem?, List.getElem?_toArray, List.getElem?_cons_succ, List.getElem?_cons_zero, Option.getD_some, Value.cells] at hw); (try simp (disch := first | (simp; done) | (simp; omega)) only [Sep.mid_set, Sep.mid_set2, Sep.mid_set0, Sep.mid_splice, Sep.mid_splice0, List.set_cons_zero, List.set_cons_succ] at hw); (try simp only [Sep.splice, List.take_succ_cons, List.take_zero, List.drop_succ_cons, List.drop_zero, List.length_cons, List.length_nil, Nat.reduceAdd, List.cons_append, List.nil_append] at hw)
  obtain ⟨len, hlen'⟩ : ∃ n, T.l.length = n := ⟨_, rfl⟩
  have hlen := Sep.hid hlen'
  rw [hlen'] at hw
  clear hlen'
  (try simp only [List.map_cons, List.map_nil, List.getD_cons_zero, List.getD_cons_succ, List.getD_nil, List.set_cons_zero, List.set_cons_succ, List.cons_append, List.nil_append, Act.eval, Array.getD_eq_getD_getElem?, List.getElem?_toArray, List.getElem?_cons_succ, List.getElem?_cons_zero, Option.getD_some, Value.cells] at hw); (try simp (disch := first | (simp; done) | (simp; omega)) only [Sep.mid_set, Sep.mid_set2, Sep.mid_set0, Sep.mid_splice, Sep.mid_splice0, List.set_cons_zero, List.set_cons_succ] at hw); (try simp only [Sep.splice, List.take_succ_cons, List.take_zero, List.drop_succ_cons, List.drop_zero, List.length_cons, List.length_nil, Nat.reduceAdd, List.cons_append, List.nil_append] at hw)
  (try replace hc0 := Sep.Holds.cells hw (i := 0) rfl); (try replace hc1 := Sep.Holds.cells hw (i := 1) rfl); (try replace hc2 := Sep.Holds.cells hw (i := 2) rfl); (try replace hc3 := Sep.Holds.cells hw (i := 3) rfl); (try replace hc4 := Sep.Holds.cells hw (i := 4) rfl); (try replace hc5 := Sep.Holds.cells hw (i := 5) rfl); (try replace hc6 := Sep.Holds.cells hw (i := 6) rfl)
  cases hc : T.can n parked with
  | false =>
    rw [Table.change_no hc]
    have Hs : Hid (isSt T.l n 2 = false) := Sep.hid (by rw [← can_parked]; exact hc)
    clear hc hcl
    refine Sep.calls_post ?_
    intro Post_ hPost_
    have HP := Sep.hid hPost_
    clear hPost_
    go_enter Try.func14, Try.ntmps14
    go_wp2_with fail
    refine (rIs p len cap a T.l n 2 hlen _ (hc1 0) (Sep.hid (fun k t ht => task_at (i := 2) hw rfl hlen.out ht))).mono ?_
    rintro _ w_ ⟨rfl, rfl⟩
    rw [Hs.out]
    go_wp2_with fail
    exact HP.out _ _ ⟨rfl, Hw0.out⟩
  | true =>
    have Hs : Hid (isSt T.l n 2 = true) := Sep.hid (by rw [← can_parked]; exact hc)
    have hlv : T.can n live = true := by rw [hcl, Hs.out, Bool.or_true]
    obtain ⟨k, t, rfl, ht, hs⟩ := isSt_get Hs.out
    have Ht := Sep.hid ht
    obtain ⟨b, off, hab, hcl_⟩ := task_at (i := 2) hw rfl hlen.out ht
    subst hab
    have hk : k < len := by have := (List.getElem?_eq_some_iff.1 ht).1; rw [hlen.out] at this; exact this
    have Hj : Hid (k * 17 + 17 ≤ (T.l.flatMap encT).length) := Sep.hid (by rw [flat_len (f := encT) encT_length, hlen.out]; omega)
    clear ht
    rw [change_at hc Ht.out]
    have h13 : w.cell? ⟨b, off + k * 17 + 10 + 3, none⟩ = some (.int .i64 t.wait.reg) := hcl_ 13 (by omega)
    have Hch := Sep.hid (change_at (g := setG t.wait.reg x) hlv Ht.out)
    clear hc hs hcl hlv hcl_
    refine Sep.calls_post ?_
    intro Post_ hPost_
    have HP := Sep.hid hPost_
    clear hPost_
    go_enter Try.func14, Try.ntmps14
    go_wp2_with fail
    refine (rIs p len cap (some ⟨b, off, none⟩) T.l k 2 hlen _ (hc1 0) (Sep.hid (fun k t ht => task_at (i := 2) hw rfl hlen.out ht))).mono ?_
    rintro _ w_ ⟨rfl, rfl⟩
    rw [Hs.out]
    go_wp2_with fail
    refine (rSet p T HT.out k t.wait.reg x e _ _ Hw0.out).mono ?_
    rintro _ w2 ⟨rfl, hw_⟩
    rw [Hch.out] at hw_
    clear hw h13; (try clear hc0); (try clear hc1); (try clear hc2); (try clear hc3); (try clear hc4); (try clear hc5); (try clear hc6)
    obtain ⟨⟨a, cap⟩, hw⟩ := exL.open_ hw_
    have hw := hw.open_ 1 rfl
    (try simp only [List.map_cons, List.map_nil, List.getD_cons_zero, List.getD_cons_succ, List.getD_nil, List.set_cons_zero, List.set_cons_succ, List.cons_append, List.nil_append, Act.eval, Array.getD_eq_getD_getElem?, List.getElem?_toArray, List.getElem?_cons_succ, List.getElem?_cons_zero, Option.getD_some, Value.cells] at hw); (try simp (disch := first | (simp; done) | (simp; omega)) only [Sep.mid_set, Sep.mid_set2, Sep.mid_set0, Sep.mid_splice, Sep.mid_splice0, List.set_cons_zero, List.set_cons_succ] at hw); (try simp only [Sep.splice, List.take_succ_cons, List.take_zero, List.drop_succ_cons, List.drop_zero, List.length_cons, List.length_nil, Nat.reduceAdd, List.cons_append, List.nil_append] at hw)
    obtain ⟨f1, f2, f3⟩ := set_facts (setG t.wait.reg x t) hlen.out hk
    have F2 := Sep.hid f2; have F3 := Sep.hid f3
    simp only [f1] at hw
    obtain ⟨b, off, hab, _⟩ := task_at (i := 2) hw rfl f1 f2
    subst hab
    clear f1 f2 f3 hw_
    (try replace hc0 := Sep.Holds.cells hw (i := 0) rfl); (try replace hc1 := Sep.Holds.cells hw (i := 1) rfl); (try replace hc2 := Sep.Holds.cells hw (i := 2) rfl); (try replace hc3 := Sep.Holds.cells hw (i := 3) rfl); (try replace hc4 := Sep.Holds.cells hw (i := 4) rfl); (try replace hc5 := Sep.Holds.cells hw (i := 5) rfl); (try replace hc6 := Sep.Holds.cells hw (i := 6) rfl)
    go_upto_region 5 with (refine wpList_on rfl (wp_storeSl' (i := 2) (j := k * 17 + 0) rfl rfl rfl hw rfl (by have := F3.out; omega) rfl ?_); intro w_ hw_; clear hw; have hw := hw_; clear hw_; (try simp only [List.map_cons, List.map_nil, List.getD_cons_zero, List.getD_cons_succ, List.getD_nil, List.set_cons_zero, List.set_cons_succ, List.cons_append, List.nil_append, Act.eval, Array.getD_eq_getD_getElem?, List.getElem?_toArray, List.getElem?_cons_succ, List.getElem?_cons_zero, Option.getD_some, Value.cells] at hw); (try simp (disch := first | (simp; done) | (simp; omega)) only [Sep.mid_set, Sep.mid_set2, Sep.mid_set0, Sep.mid_splice, Sep.mid_splice0, List.set_cons_zero, List.set_cons_succ] at hw); (try simp only [Sep.splice, List.take_succ_cons, List.take_zero, List.drop_succ_cons, List.drop_zero, List.length_cons, List.length_nil, Nat.reduceAdd, List.cons_append, List.nil_append] at hw); (try replace hc0 := Sep.Holds.cells hw (i := 0) rfl); (try replace hc1 := Sep.Holds.cells hw (i := 1) rfl); (try replace hc2 := Sep.Holds.cells hw (i := 2) rfl); (try replace hc3 := Sep.Holds.cells hw (i := 3) rfl); (try replace hc4 := Sep.Holds.cells hw (i := 4) rfl); (try replace hc5 := Sep.Holds.cells hw (i := 5) rfl); (try replace hc6 := Sep.Holds.cells hw (i := 6) rfl))
    rw [flat_put (j := 0) (b := { setG t.wait.reg x t with state := 1 }) encT_length F2.out (by omega) rfl, List.set_set] at hw
    obtain ⟨g1, g2, g3⟩ := set_facts { setG t.wait.reg x t with state := 1 } hlen.out hk
    have G2 := Sep.hid g2; have G3 := Sep.hid g3
    clear g1 g2 g3
    (try replace hc0 := Sep.Holds.cells hw (i := 0) rfl); (try replace hc1 := Sep.Holds.cells hw (i := 1) rfl); (try replace hc2 := Sep.Holds.cells hw (i := 2) rfl); (try replace hc3 := Sep.Holds.cells hw (i := 3) rfl); (try replace hc4 := Sep.Holds.cells hw (i := 4) rfl); (try replace hc5 := Sep.Holds.cells hw (i := 5) rfl); (try replace hc6 := Sep.Holds.cells hw (i := 6) rfl)
    go_wp2_with (refine wpList_on rfl (wp_storeSlN (vs := encP noPark) (i := 2) (j := k * 17 + 10) rfl rfl rfl hw rfl rfl (by rw [encP_length]; have := G3.out; omega) (encP_one _) ?_); intro w_ hw_; clear hw; have hw := hw_; clear hw_; (try simp only [List.set_cons_zero, List.set_cons_succ] at hw); (try replace hc0 := Sep.Holds.cells hw (i := 0) rfl); (try replace hc1 := Sep.Holds.cells hw (i := 1) rfl); (try replace hc2 := Sep.Holds.cells hw (i := 2) rfl); (try replace hc3 := Sep.Holds.cells hw (i := 3) rfl); (try replace hc4 := Sep.Holds.cells hw (i := 4) rfl); (try replace hc5 := Sep.Holds.cells hw (i := 5) rfl); (try replace hc6 := Sep.Holds.cells hw (i := 6) rfl))
    rw [flat_putN (vs := encP noPark) (j := 10) (b := wakeG x t) encT_length G2.out (by rw [encP_length]; omega) rfl, List.set_set] at hw
    exact HP.out _ _ ⟨rfl, ref_close (T := { T with l := T.l.set k (wakeG x t) }) (by simp [hlen.out]) hw⟩
set_option maxHeartbeats 8000000 in
theorem rEnd (p : Nat) (T : Table) (hT : St T) (n x : Int) (e w : World) (X : HProp) (hw : Holds e w [X, IsR p T]) :
    Calls Try.prog 15 #[.pointer (some ⟨p, 0, none⟩), .int .i64 n, .int .i64 x] w fun en w' => en = .returned (.bool (T.can n live)) ∧ Holds e w' [X, IsR p (T.change n live (endG x))] := by
  have Hw0 := Sep.hid hw
  have hcl := can_live hT n
  clear hT
  obtain ⟨⟨a, cap⟩, hw⟩ := exL.open_ hw
  have hw := hw.open_ 1 rfl
  (try simp only [List.map_cons, List.map_nil, List.getD_cons_zero, List.getD_cons_succ, List.getD_nil, List.set_cons_zero, List.set_cons_succ, List.cons_append, List.nil_append, Act.eval, Array.getD_eq_getD_getElem?, List.getElem?_toArray, List.getElem?_cons_succ, List.getElem?_cons_zero, Option.getD_some, Value.cells] at hw); (try simp (disch := first | (simp; done) | (simp; omega)) only [Sep.mid_set, Sep.mid_set2, Sep.mid_set0, Sep.mid_splice, Sep.mid_splice0, List.set_cons_zero, List.set_cons_succ] at hw); (try simp only [Sep.splice, List.take_succ_cons, List.take_zero, List.drop_succ_cons, List.drop_zero, List.length_cons, List.length_nil, Nat.reduceAdd, List.cons_append, List.nil_append] at hw)
  obtain ⟨len, hlen'⟩ : ∃ n, T.l.length = n := ⟨_, rfl⟩
  have hlen := Sep.hid hlen'
  rw [hlen'] at hw
  clear hlen'
  (try simp only [List.map_cons, List.map_nil, List.getD_cons_zero, List.getD_cons_succ, List.getD_nil, List.set_cons_zero, List.set_cons_succ, List.cons_append, List.nil_append, Act.eval, Array.getD_eq_getD_getElem?, List.getElem?_toArray, List.getElem?_cons_succ, List.getElem?_cons_zero, Option.getD_some, Value.cells] at hw); (try simp (disch := first | (simp; done) | (simp; omega)) only [Sep.mid_set, Sep.mid_set2, Sep.mid_set0, Sep.mid_splice, Sep.mid_splice0, List.set_cons_zero, List.set_cons_succ] at hw); (try simp only [Sep.splice, List.take_succ_cons, List.take_zero, List.drop_succ_cons, List.drop_zero, List.length_cons, List.length_nil, Nat.reduceAdd, List.cons_append, List.nil_append] at hw)
  (try replace hc0 := Sep.Holds.cells hw (i := 0) rfl); (try replace hc1 := Sep.Holds.cells hw (i := 1) rfl); (try replace hc2 := Sep.Holds.cells hw (i := 2) rfl); (try replace hc3 := Sep.Holds.cells hw (i := 3) rfl); (try replace hc4 := Sep.Holds.cells hw (i := 4) rfl); (try replace hc5 := Sep.Holds.cells hw (i := 5) rfl); (try replace hc6 := Sep.Holds.cells hw (i := 6) rfl)
  cases h1 : isSt T.l n 1 with
  | true =>
    have hc : T.can n live = true := by rw [hcl, h1]; rfl
    have H1 := Sep.hid h1
    obtain ⟨k, t, rfl, ht, hs⟩ := isSt_get H1.out
    have Ht := Sep.hid ht
    obtain ⟨b, off, hab, hcl_⟩ := task_at (i := 2) hw rfl hlen.out ht
    subst hab
    have hk : k < len := by have := (List.getElem?_eq_some_iff.1 ht).1; rw [hlen.out] at this; exact this
    have Hj : Hid (k * 17 + 17 ≤ (T.l.flatMap encT).length) := Sep.hid (by rw [flat_len (f := encT) encT_length, hlen.out]; omega)
    clear ht
    rw [hc, change_at hc Ht.out]
    clear hc hs hcl h1 hcl_
    refine Sep.calls_post ?_
    intro Post_ hPost_
    have HP := Sep.hid hPost_
    clear hPost_
    go_enter Try.func15, Try.ntmps15
    go_wp2_with fail
    refine (rIs p len cap (some ⟨b, off, none⟩) T.l k 1 hlen _ (hc1 0) (Sep.hid (fun k t ht => task_at (i := 2) hw rfl hlen.out ht))).mono ?_
    rintro _ w_ ⟨rfl, rfl⟩
    rw [H1.out]
    go_upto_region 4 with (refine wpList_on rfl (wp_storeSl' (i := 2) (j := k * 17 + 0) rfl rfl rfl hw rfl (by have := Hj.out; omega) rfl ?_); intro w_ hw_; clear hw; have hw := hw_; clear hw_; (try simp only [List.map_cons, List.map_nil, List.getD_cons_zero, List.getD_cons_succ, List.getD_nil, List.set_cons_zero, List.set_cons_succ, List.cons_append, List.nil_append, Act.eval, Array.getD_eq_getD_getElem?, List.getElem?_toArray, List.getElem?_cons_succ, List.getElem?_cons_zero, Option.getD_some, Value.cells] at hw); (try simp (disch := first | (simp; done) | (simp; omega)) only [Sep.mid_set, Sep.mid_set2, Sep.mid_set0, Sep.mid_splice, Sep.mid_splice0, List.set_cons_zero, List.set_cons_succ] at hw); (try simp only [Sep.splice, List.take_succ_cons, List.take_zero, List.drop_succ_cons, List.drop_zero, List.length_cons, List.length_nil, Nat.reduceAdd, List.cons_append, List.nil_append] at hw); (try replace hc0 := Sep.Holds.cells hw (i := 0) rfl); (try replace hc1 := Sep.Holds.cells hw (i := 1) rfl); (try replace hc2 := Sep.Holds.cells hw (i := 2) rfl); (try replace hc3 := Sep.Holds.cells hw (i := 3) rfl); (try replace hc4 := Sep.Holds.cells hw (i := 4) rfl); (try replace hc5 := Sep.Holds.cells hw (i := 5) rfl); (try replace hc6 := Sep.Holds.cells hw (i := 6) rfl))
    rw [flat_put (j := 0) (b := { t with state := 3 }) encT_length Ht.out (by omega) rfl] at hw
    obtain ⟨g1, g2, g3⟩ := set_facts { t with state := 3 } hlen.out hk
    have G2 := Sep.hid g2; have G3 := Sep.hid g3
    clear g1 g2 g3
    (try replace hc0 := Sep.Holds.cells hw (i := 0) rfl); (try replace hc1 := Sep.Holds.cells hw (i := 1) rfl); (try replace hc2 := Sep.Holds.cells hw (i := 2) rfl); (try replace hc3 := Sep.Holds.cells hw (i := 3) rfl); (try replace hc4 := Sep.Holds.cells hw (i := 4) rfl); (try replace hc5 := Sep.Holds.cells hw (i := 5) rfl); (try replace hc6 := Sep.Holds.cells hw (i := 6) rfl)
    go_upto_region 5 with (refine wpList_on rfl (wp_storeSlN (vs := encP noPark) (i := 2) (j := k * 17 + 10) rfl rfl rfl hw rfl rfl (by rw [encP_length]; have := G3.out; omega) (encP_one _) ?_); intro w_ hw_; clear hw; have hw := hw_; clear hw_; (try simp only [List.set_cons_zero, List.set_cons_succ] at hw); (try replace hc0 := Sep.Holds.cells hw (i := 0) rfl); (try replace hc1 := Sep.Holds.cells hw (i := 1) rfl); (try replace hc2 := Sep.Holds.cells hw (i := 2) rfl); (try replace hc3 := Sep.Holds.cells hw (i := 3) rfl); (try replace hc4 := Sep.Holds.cells hw (i := 4) rfl); (try replace hc5 := Sep.Holds.cells hw (i := 5) rfl); (try replace hc6 := Sep.Holds.cells hw (i := 6) rfl))
    rw [flat_putN (vs := encP noPark) (j := 10) (b := { t with state := 3, wait := noPark }) encT_length G2.out (by rw [encP_length]; omega) rfl, List.set_set] at hw
    obtain ⟨g1, g2, g3⟩ := set_facts { t with state := 3, wait := noPark } hlen.out hk
    have E2 := Sep.hid g2; have E3 := Sep.hid g3
    clear g1 g2 g3
    (try replace hc0 := Sep.Holds.cells hw (i := 0) rfl); (try replace hc1 := Sep.Holds.cells hw (i := 1) rfl); (try replace hc2 := Sep.Holds.cells hw (i := 2) rfl); (try replace hc3 := Sep.Holds.cells hw (i := 3) rfl); (try replace hc4 := Sep.Holds.cells hw (i := 4) rfl); (try replace hc5 := Sep.Holds.cells hw (i := 5) rfl); (try replace hc6 := Sep.Holds.cells hw (i := 6) rfl)
    go_wp2_with (refine wpList_on rfl (wp_storeSl' (i := 2) (j := k * 17 + 16) rfl rfl rfl hw rfl (by have := E3.out; omega) rfl ?_); intro w_ hw_; clear hw; have hw := hw_; clear hw_; (try simp only [List.map_cons, List.map_nil, List.getD_cons_zero, List.getD_cons_succ, List.getD_nil, List.set_cons_zero, List.set_cons_succ, List.cons_append, List.nil_append, Act.eval, Array.getD_eq_getD_getElem?, List.getElem?_toArray, List.getElem?_cons_succ, List.getElem?_cons_zero, Option.getD_some, Value.cells] at hw); (try simp (disch := first | (simp; done) | (simp; omega)) only [Sep.mid_set, Sep.mid_set2, Sep.mid_set0, Sep.mid_splice, Sep.mid_splice0, List.set_cons_zero, List.set_cons_succ] at hw); (try simp only [Sep.splice, List.take_succ_cons, List.take_zero, List.drop_succ_cons, List.drop_zero, List.length_cons, List.length_nil, Nat.reduceAdd, List.cons_append, List.nil_append] at hw); (try replace hc0 := Sep.Holds.cells hw (i := 0) rfl); (try replace hc1 := Sep.Holds.cells hw (i := 1) rfl); (try replace hc2 := Sep.Holds.cells hw (i := 2) rfl); (try replace hc3 := Sep.Holds.cells hw (i := 3) rfl); (try replace hc4 := Sep.Holds.cells hw (i := 4) rfl); (try replace hc5 := Sep.Holds.cells hw (i := 5) rfl); (try replace hc6 := Sep.Holds.cells hw (i := 6) rfl))
    rw [flat_put (v := .int .i64 x) (j := 16) (b := endG x t) encT_length E2.out (by omega) rfl, List.set_set] at hw
    exact HP.out _ _ ⟨rfl, ref_close (T := { T with l := T.l.set k (endG x t) }) (by simp [hlen.out]) hw⟩
  | false =>
    have H1 := Sep.hid h1
    cases h2 : isSt T.l n 2 with
    | true =>
      have hc : T.can n live = true := by rw [hcl, h1, h2]; rfl
      have H2 := Sep.hid h2
      obtain ⟨k, t, rfl, ht, hs⟩ := isSt_get H2.out
      have Ht := Sep.hid ht
      obtain ⟨b, off, hab, hcl_⟩ := task_at (i := 2) hw rfl hlen.out ht
      subst hab
      have hk : k < len := by have := (List.getElem?_eq_some_iff.1 ht).1; rw [hlen.out] at this; exact this
      have Hj : Hid (k * 17 + 17 ≤ (T.l.flatMap encT).length) := Sep.hid (by rw [flat_len (f := encT) encT_length, hlen.out]; omega)
      clear ht
      rw [hc, change_at hc Ht.out]
      clear hc hs hcl h1 h2 hcl_
      refine Sep.calls_post ?_
      intro Post_ hPost_
      have HP := Sep.hid hPost_
      clear hPost_
      go_enter Try.func15, Try.ntmps15
      go_wp2_with fail
      refine (rIs p len cap (some ⟨b, off, none⟩) T.l k 1 hlen _ (hc1 0) (Sep.hid (fun k t ht => task_at (i := 2) hw rfl hlen.out ht))).mono ?_
      rintro _ w_ ⟨rfl, rfl⟩
      rw [H1.out]
      go_wp2_with fail
      refine (rIs p len cap (some ⟨b, off, none⟩) T.l k 2 hlen _ (hc1 0) (Sep.hid (fun k t ht => task_at (i := 2) hw rfl hlen.out ht))).mono ?_
      rintro _ w_ ⟨rfl, rfl⟩
      rw [H2.out]
      go_upto_region 4 with (refine wpList_on rfl (wp_storeSl' (i := 2) (j := k * 17 + 0) rfl rfl rfl hw rfl (by have := Hj.out; omega) rfl ?_); intro w_ hw_; clear hw; have hw := hw_; clear hw_; (try simp only [List.map_cons, List.map_nil, List.getD_cons_zero, List.getD_cons_succ, List.getD_nil, List.set_cons_zero, List.set_cons_succ, List.cons_append, List.nil_append, Act.eval, Array.getD_eq_getD_getElem?, List.getElem?_toArray, List.getElem?_cons_succ, List.getElem?_cons_zero, Option.getD_some, Value.cells] at hw); (try simp (disch := first | (simp; done) | (simp; omega)) only [Sep.mid_set, Sep.mid_set2, Sep.mid_set0, Sep.mid_splice, Sep.mid_splice0, List.set_cons_zero, List.set_cons_succ] at hw); (try simp only [Sep.splice, List.take_succ_cons, List.take_zero, List.drop_succ_cons, List.drop_zero, List.length_cons, List.length_nil, Nat.reduceAdd, List.cons_append, List.nil_append] at hw); (try replace hc0 := Sep.Holds.cells hw (i := 0) rfl); (try replace hc1 := Sep.Holds.cells hw (i := 1) rfl); (try replace hc2 := Sep.Holds.cells hw (i := 2) rfl); (try replace hc3 := Sep.Holds.cells hw (i := 3) rfl); (try replace hc4 := Sep.Holds.cells hw (i := 4) rfl); (try replace hc5 := Sep.Holds.cells hw (i := 5) rfl); (try replace hc6 := Sep.Holds.cells hw (i := 6) rfl))
      rw [flat_put (j := 0) (b := { t with state := 3 }) encT_length Ht.out (by omega) rfl] at hw
      obtain ⟨g1, g2, g3⟩ := set_facts { t with state := 3 } hlen.out hk
      have G2 := Sep.hid g2; have G3 := Sep.hid g3
      clear g1 g2 g3
      (try replace hc0 := Sep.Holds.cells hw (i := 0) rfl); (try replace hc1 := Sep.Holds.cells hw (i := 1) rfl); (try replace hc2 := Sep.Holds.cells hw (i := 2) rfl); (try replace hc3 := Sep.Holds.cells hw (i := 3) rfl); (try replace hc4 := Sep.Holds.cells hw (i := 4) rfl); (try replace hc5 := Sep.Holds.cells hw (i := 5) rfl); (try replace hc6 := Sep.Holds.cells hw (i := 6) rfl)
      go_upto_region 5 with (refine wpList_on rfl (wp_storeSlN (vs := encP noPark) (i := 2) (j := k * 17 + 10) rfl rfl rfl hw rfl rfl (by rw [encP_length]; have := G3.out; omega) (encP_one _) ?_); intro w_ hw_; clear hw; have hw := hw_; clear hw_; (try simp only [List.set_cons_zero, List.set_cons_succ] at hw); (try replace hc0 := Sep.Holds.cells hw (i := 0) rfl); (try replace hc1 := Sep.Holds.cells hw (i := 1) rfl); (try replace hc2 := Sep.Holds.cells hw (i := 2) rfl); (try replace hc3 := Sep.Holds.cells hw (i := 3) rfl); (try replace hc4 := Sep.Holds.cells hw (i := 4) rfl); (try replace hc5 := Sep.Holds.cells hw (i := 5) rfl); (try replace hc6 := Sep.Holds.cells hw (i := 6) rfl))
      rw [flat_putN (vs := encP noPark) (j := 10) (b := { t with state := 3, wait := noPark }) encT_length G2.out (by rw [encP_length]; omega) rfl, List.set_set] at hw
      obtain ⟨g1, g2, g3⟩ := set_facts { t with state := 3, wait := noPark } hlen.out hk
      have E2 := Sep.hid g2; have E3 := Sep.hid g3
      clear g1 g2 g3
      (try replace hc0 := Sep.Holds.cells hw (i := 0) rfl); (try replace hc1 := Sep.Holds.cells hw (i := 1) rfl); (try replace hc2 := Sep.Holds.cells hw (i := 2) rfl); (try replace hc3 := Sep.Holds.cells hw (i := 3) rfl); (try replace hc4 := Sep.Holds.cells hw (i := 4) rfl); (try replace hc5 := Sep.Holds.cells hw (i := 5) rfl); (try replace hc6 := Sep.Holds.cells hw (i := 6) rfl)
      go_wp2_with (refine wpList_on rfl (wp_storeSl' (i := 2) (j := k * 17 + 16) rfl rfl rfl hw rfl (by have := E3.out; omega) rfl ?_); intro w_ hw_; clear hw; have hw := hw_; clear hw_; (try simp only [List.map_cons, List.map_nil, List.getD_cons_zero, List.getD_cons_succ, List.getD_nil, List.set_cons_zero, List.set_cons_succ, List.cons_append, List.nil_append, Act.eval, Array.getD_eq_getD_getElem?, List.getElem?_toArray, List.getElem?_cons_succ, List.getElem?_cons_zero, Option.getD_some, Value.cells] at hw); (try simp (disch := first | (simp; done) | (simp; omega)) only [Sep.mid_set, Sep.mid_set2, Sep.mid_set0, Sep.mid_splice, Sep.mid_splice0, List.set_cons_zero, List.set_cons_succ] at hw); (try simp only [Sep.splice, List.take_succ_cons, List.take_zero, List.drop_succ_cons, List.drop_zero, List.length_cons, List.length_nil, Nat.reduceAdd, List.cons_append, List.nil_append] at hw); (try replace hc0 := Sep.Holds.cells hw (i := 0) rfl); (try replace hc1 := Sep.Holds.cells hw (i := 1) rfl); (try replace hc2 := Sep.Holds.cells hw (i := 2) rfl); (try replace hc3 := Sep.Holds.cells hw (i := 3) rfl); (try replace hc4 := Sep.Holds.cells hw (i := 4) rfl); (try replace hc5 := Sep.Holds.cells hw (i := 5) rfl); (try replace hc6 := Sep.Holds.cells hw (i := 6) rfl))
      rw [flat_put (v := .int .i64 x) (j := 16) (b := endG x t) encT_length E2.out (by omega) rfl, List.set_set] at hw
      exact HP.out _ _ ⟨rfl, ref_close (T := { T with l := T.l.set k (endG x t) }) (by simp [hlen.out]) hw⟩
    | false =>
      have hc : T.can n live = false := by rw [hcl, h1, h2]; rfl
      have H2 := Sep.hid h2
      rw [hc, Table.change_no hc]
      clear hc hcl h1 h2
      refine Sep.calls_post ?_
      intro Post_ hPost_
      have HP := Sep.hid hPost_
      clear hPost_
      go_enter Try.func15, Try.ntmps15
      go_wp2_with fail
      refine (rIs p len cap a T.l n 1 hlen _ (hc1 0) (Sep.hid (fun k t ht => task_at (i := 2) hw rfl hlen.out ht))).mono ?_
      rintro _ w_ ⟨rfl, rfl⟩
      rw [H1.out]
      go_wp2_with fail
      refine (rIs p len cap a T.l n 2 hlen _ (hc1 0) (Sep.hid (fun k t ht => task_at (i := 2) hw rfl hlen.out ht))).mono ?_
      rintro _ w_ ⟨rfl, rfl⟩
      rw [H2.out]
      go_wp2_with fail
      exact HP.out _ _ ⟨rfl, Hw0.out⟩
end Go.Proofs.Ytmoikkfhlnogbaa
