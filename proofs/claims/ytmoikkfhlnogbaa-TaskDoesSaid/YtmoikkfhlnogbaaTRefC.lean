/-
  The document's own table: Park, Wake, End.
-/
import Derived.Test.YtmoikkfhlnogbaaTRefB
import Derived.Deep.CutBlock
import Derived.Deep.DeepCutAuto
namespace Go.Proofs.Ytmoikkfhlnogbaa
set_option linter.unusedSimpArgs false
set_option linter.unusedVariables false
open Go.RowKit Go.Sep Go.TaskM

theorem flatT_len (l : List Task) : (l.flatMap encT).length = l.length * 17 := flat_len (f := encT) encT_length l
def parkE (T : Table) (n : Int) (again : Bool) : Bool := if again then T.can n parked else T.can n ready
def parkT (T : Table) (n : Int) (q : Park) (again : Bool) : Table := if again then T.change n parked (againG q) else T.change n ready (parkG q)
set_option maxHeartbeats 8000000 in
theorem rPark (p : Nat) (T : Table) (n : Int) (q : Park) (again : Bool) (e w : World) (X : HProp) (hw : Holds e w [X, IsR p T]) :
    Calls Try.prog 13 #[.pointer (some ⟨p, 0, none⟩), .int .i64 n, .agg (encP q).toArray, .bool again] w fun en w' => en = .returned (.bool (parkOk q && parkE T n again)) ∧ Holds e w' [X, IsR p (if parkOk q then parkT T n q again else T)] := by
  have Hw0 := Sep.hid hw
  have hP : encP q = [.int .i64 q.kind, .int .i64 q.obj, .int .i64 q.ctx, .int .i64 q.reg, .int .i64 q.lock, .int .i64 q.n] := rfl
  rw [hP]; clear hP
  obtain ⟨⟨a, cap⟩, hw⟩ := exL.open_ hw
  have hw := hw.open_ 1 rfl
  (try simp only [List.map_cons, List.map_nil, List.getD_cons_zero, List.getD_cons_succ, List.getD_nil, List.set_cons_zero, List.set_cons_succ, List.cons_append, List.nil_append, Act.eval, Array.getD_eq_getD_getElem?, List.getElem?_toArray, List.getElem?_cons_succ, List.getElem?_cons_zero, Option.getD_some, Value.cells] at hw); (try simp (disch := first | (simp; done) | (simp; omega)) only [Sep.mid_set, Sep.mid_set2, Sep.mid_set0, Sep.mid_splice, Sep.mid_splice0, List.set_cons_zero, List.set_cons_succ] at hw); (try simp only [Sep.splice, List.take_succ_cons, List.take_zero, List.drop_succ_cons, List.drop_zero, List.length_cons, List.length_nil, Nat.reduceAdd, List.cons_append, List.nil_append] at hw)
  obtain ⟨len, hlen'⟩ : ∃ n, T.l.length = n := ⟨_, rfl⟩
  have hlen := Sep.hid hlen'
  rw [hlen'] at hw
  clear hlen'
  (try simp only [List.map_cons, List.map_nil, List.getD_cons_zero, List.getD_cons_succ, List.getD_nil, List.set_cons_zero, List.set_cons_succ, List.cons_append, List.nil_append, Act.eval, Array.getD_eq_getD_getElem?, List.getElem?_toArray, List.getElem?_cons_succ, List.getElem?_cons_zero, Option.getD_some, Value.cells] at hw); (try simp (disch := first | (simp; done) | (simp; omega)) only [Sep.mid_set, Sep.mid_set2, Sep.mid_set0, Sep.mid_splice, Sep.mid_splice0, List.set_cons_zero, List.set_cons_succ] at hw); (try simp only [Sep.splice, List.take_succ_cons, List.take_zero, List.drop_succ_cons, List.drop_zero, List.length_cons, List.length_nil, Nat.reduceAdd, List.cons_append, List.nil_append] at hw)
  (try replace hc0 := Sep.Holds.cells hw (i := 0) rfl); (try replace hc1 := Sep.Holds.cells hw (i := 1) rfl); (try replace hc2 := Sep.Holds.cells hw (i := 2) rfl); (try replace hc3 := Sep.Holds.cells hw (i := 3) rfl); (try replace hc4 := Sep.Holds.cells hw (i := 4) rfl); (try replace hc5 := Sep.Holds.cells hw (i := 5) rfl); (try replace hc6 := Sep.Holds.cells hw (i := 6) rfl)
  by_cases hkd : 1 ≤ q.kind
  · have hok : parkOk q = true := by unfold parkOk; simpa using hkd
    rw [hok, if_pos rfl, Bool.true_and]
    have hkd2 : ¬ q.kind < 1 := by omega
    clear hkd hok
    cases again with
    | true =>
      show Calls _ _ _ _ fun en w' => en = .returned (.bool (T.can n parked)) ∧ Holds e w' [X, IsR p (T.change n parked (againG q))]
      cases hc : T.can n parked with
      | false =>
        rw [Table.change_no hc]
        have Hs : Hid (isSt T.l n 2 = false) := Sep.hid (by rw [← can_parked]; exact hc)
        clear hc
        refine Sep.calls_post ?_
        intro Post_ hPost_
        have HP := Sep.hid hPost_
        clear hPost_
        go_enter Try.func13, Try.ntmps13
        go_wp2_with (refine wpList_on rfl (wp_box rfl hw ?_); intro b_ w_ hw_; clear hw; have hw := hw_; clear hw_; (try simp only [List.map_cons, List.map_nil, List.getD_cons_zero, List.getD_cons_succ, List.getD_nil, List.set_cons_zero, List.set_cons_succ, List.cons_append, List.nil_append, Act.eval, Array.getD_eq_getD_getElem?, List.getElem?_toArray, List.getElem?_cons_succ, List.getElem?_cons_zero, Option.getD_some, Value.cells] at hw); (try simp (disch := first | (simp; done) | (simp; omega)) only [Sep.mid_set, Sep.mid_set2, Sep.mid_set0, Sep.mid_splice, Sep.mid_splice0, List.set_cons_zero, List.set_cons_succ] at hw); (try simp only [Sep.splice, List.take_succ_cons, List.take_zero, List.drop_succ_cons, List.drop_zero, List.length_cons, List.length_nil, Nat.reduceAdd, List.cons_append, List.nil_append] at hw); (try replace hc0 := Sep.Holds.cells hw (i := 0) rfl); (try replace hc1 := Sep.Holds.cells hw (i := 1) rfl); (try replace hc2 := Sep.Holds.cells hw (i := 2) rfl); (try replace hc3 := Sep.Holds.cells hw (i := 3) rfl); (try replace hc4 := Sep.Holds.cells hw (i := 4) rfl); (try replace hc5 := Sep.Holds.cells hw (i := 5) rfl); (try replace hc6 := Sep.Holds.cells hw (i := 6) rfl))
        go_wp2_with fail
        refine (rIs p len cap a T.l n 2 hlen _ (hc1 0) (Sep.hid (fun k t ht => task_at (i := 2) hw rfl hlen.out ht))).mono ?_
        rintro _ w_ ⟨rfl, rfl⟩
        rw [Hs.out]
        go_wp2_with fail
        exact HP.out _ _ ⟨rfl, ref_close hlen.out (hw.sel [0, 1, 2] (by decide))⟩
      | true =>
        have Hs : Hid (isSt T.l n 2 = true) := Sep.hid (by rw [← can_parked]; exact hc)
        obtain ⟨k, t, rfl, ht, hs⟩ := isSt_get Hs.out
        have Ht := Sep.hid ht
        obtain ⟨b, off, hab, _⟩ := task_at (i := 2) hw rfl hlen.out ht
        subst hab
        have hk : k < len := by have := (List.getElem?_eq_some_iff.1 ht).1; rw [hlen.out] at this; exact this
        have Hj : Hid (k * 17 + 17 ≤ (T.l.flatMap encT).length) := Sep.hid (by rw [flat_len (f := encT) encT_length, hlen.out]; omega)
        clear ht
        rw [change_at hc Ht.out]
        have Hst := Sep.hid hs
        clear hc hs
        refine Sep.calls_post ?_
        intro Post_ hPost_
        have HP := Sep.hid hPost_
        clear hPost_
        go_enter Try.func13, Try.ntmps13
        go_wp2_with (refine wpList_on rfl (wp_box rfl hw ?_); intro b_ w_ hw_; clear hw; have hw := hw_; clear hw_; (try simp only [List.map_cons, List.map_nil, List.getD_cons_zero, List.getD_cons_succ, List.getD_nil, List.set_cons_zero, List.set_cons_succ, List.cons_append, List.nil_append, Act.eval, Array.getD_eq_getD_getElem?, List.getElem?_toArray, List.getElem?_cons_succ, List.getElem?_cons_zero, Option.getD_some, Value.cells] at hw); (try simp (disch := first | (simp; done) | (simp; omega)) only [Sep.mid_set, Sep.mid_set2, Sep.mid_set0, Sep.mid_splice, Sep.mid_splice0, List.set_cons_zero, List.set_cons_succ] at hw); (try simp only [Sep.splice, List.take_succ_cons, List.take_zero, List.drop_succ_cons, List.drop_zero, List.length_cons, List.length_nil, Nat.reduceAdd, List.cons_append, List.nil_append] at hw); (try replace hc0 := Sep.Holds.cells hw (i := 0) rfl); (try replace hc1 := Sep.Holds.cells hw (i := 1) rfl); (try replace hc2 := Sep.Holds.cells hw (i := 2) rfl); (try replace hc3 := Sep.Holds.cells hw (i := 3) rfl); (try replace hc4 := Sep.Holds.cells hw (i := 4) rfl); (try replace hc5 := Sep.Holds.cells hw (i := 5) rfl); (try replace hc6 := Sep.Holds.cells hw (i := 6) rfl))
        go_wp2_with fail
        refine (rIs p len cap (some ⟨b, off, none⟩) T.l k 2 hlen _ (hc1 0) (Sep.hid (fun k t ht => task_at (i := 2) hw rfl hlen.out ht))).mono ?_
        rintro _ w_ ⟨rfl, rfl⟩
        rw [Hs.out]
        go_upto_region 4 with (refine wpList_on rfl (wp_storeSl' (i := 2) (j := k * 17 + 0) rfl rfl rfl hw rfl (by have := Hj.out; omega) rfl ?_); intro w_ hw_; clear hw; have hw := hw_; clear hw_; (try simp only [List.map_cons, List.map_nil, List.getD_cons_zero, List.getD_cons_succ, List.getD_nil, List.set_cons_zero, List.set_cons_succ, List.cons_append, List.nil_append, Act.eval, Array.getD_eq_getD_getElem?, List.getElem?_toArray, List.getElem?_cons_succ, List.getElem?_cons_zero, Option.getD_some, Value.cells] at hw); (try simp (disch := first | (simp; done) | (simp; omega)) only [Sep.mid_set, Sep.mid_set2, Sep.mid_set0, Sep.mid_splice, Sep.mid_splice0, List.set_cons_zero, List.set_cons_succ] at hw); (try simp only [Sep.splice, List.take_succ_cons, List.take_zero, List.drop_succ_cons, List.drop_zero, List.length_cons, List.length_nil, Nat.reduceAdd, List.cons_append, List.nil_append] at hw); (try replace hc0 := Sep.Holds.cells hw (i := 0) rfl); (try replace hc1 := Sep.Holds.cells hw (i := 1) rfl); (try replace hc2 := Sep.Holds.cells hw (i := 2) rfl); (try replace hc3 := Sep.Holds.cells hw (i := 3) rfl); (try replace hc4 := Sep.Holds.cells hw (i := 4) rfl); (try replace hc5 := Sep.Holds.cells hw (i := 5) rfl); (try replace hc6 := Sep.Holds.cells hw (i := 6) rfl))
        rw [flat_put (j := 0) (b := { t with state := 2 }) encT_length Ht.out (by omega) rfl] at hw
        (try replace hc0 := Sep.Holds.cells hw (i := 0) rfl); (try replace hc1 := Sep.Holds.cells hw (i := 1) rfl); (try replace hc2 := Sep.Holds.cells hw (i := 2) rfl); (try replace hc3 := Sep.Holds.cells hw (i := 3) rfl); (try replace hc4 := Sep.Holds.cells hw (i := 4) rfl); (try replace hc5 := Sep.Holds.cells hw (i := 5) rfl); (try replace hc6 := Sep.Holds.cells hw (i := 6) rfl)
        have Ht2 : Hid ((T.l.set k { t with state := 2 })[k]? = some { t with state := 2 }) := Sep.hid (List.getElem?_set_self (by rw [hlen.out]; exact hk))
        have Hj2 : Hid (k * 17 + 17 ≤ ((T.l.set k { t with state := 2 }).flatMap encT).length) := Sep.hid (by rw [flatT_len, List.length_set, hlen.out]; omega)
        refine wp_region_L [8] [(3, (fun w' => w' = w_.drew)), (5, (fun w' => w' = w_.drew))] (n := 9) (listed := (marks 9 0)) (by kernel_rfl) rfl (by kernel_rfl) ?conds1 ?_
        case conds1 =>
         intro c hc
         simp only [List.mem_cons, List.not_mem_nil, or_false] at hc
         rcases hc with rfl | rfl
         · rfl
         · rfl
        replace hw := hw.drew
        (try replace hc0 := Sep.Holds.cells hw (i := 0) rfl); (try replace hc1 := Sep.Holds.cells hw (i := 1) rfl); (try replace hc2 := Sep.Holds.cells hw (i := 2) rfl); (try replace hc3 := Sep.Holds.cells hw (i := 3) rfl); (try replace hc4 := Sep.Holds.cells hw (i := 4) rfl); (try replace hc5 := Sep.Holds.cells hw (i := 5) rfl); (try replace hc6 := Sep.Holds.cells hw (i := 6) rfl)
        refine wpL_q 0 ?_ rfl (Or.inl ⟨by rfl, fun w_ hS_ => ?_⟩) (marks 9 1) ?_
        rotate_left
        next => (go_simp; try (first | rfl | exact (Bool.not_not _).symm))
        try simp only [Act.put, List.setIfInBounds_toArray, List.set_cons_zero, List.set_cons_succ]
        refine wpL_q 1 ?_ rfl (Or.inl ⟨by rfl, fun w_ hS_ => ?_⟩) (marks 9 3) ?_
        rotate_left
        next => (go_simp; try (first | rfl | exact (Bool.not_not _).symm))
        try simp only [Act.put, List.setIfInBounds_toArray, List.set_cons_zero, List.set_cons_succ]
        refine wpL_q 2 ?_ rfl (Or.inl ⟨by rfl, fun w_ hS_ => ?_⟩) (marks 9 7) ?_
        rotate_left
        next => (go_simp; try (first | rfl | exact (Bool.not_not _).symm))
        try simp only [Act.put, List.setIfInBounds_toArray, List.set_cons_zero, List.set_cons_succ]
        refine wpL_m 3 ?_ rfl (.head _) (Or.inl ⟨by rfl, fun w_ hS_ => ?_⟩) (marks 9 15) ?_
        rotate_left
        next => (subst hS_; first | (refine Eq.trans (run_loadN (vs := [.int .i64 q.kind, .int .i64 q.obj, .int .i64 q.ctx, .int .i64 q.reg, .int .i64 q.lock, .int .i64 q.n]) (off := 0) rfl rfl hw (i := 3) rfl rfl (by intro j v hj; simpa using hj)) ?_; rfl) | (go_simp; try (first | rfl | exact (Bool.not_not _).symm)))
        try simp only [Act.put, List.setIfInBounds_toArray, List.set_cons_zero, List.set_cons_succ]
        refine wpL_q 4 ?_ rfl (Or.inl ⟨by rfl, fun w_ hS_ => ?_⟩) (marks 9 31) ?_
        rotate_left
        next => (go_simp; try (first | rfl | exact (Bool.not_not _).symm))
        try simp only [Act.put, List.setIfInBounds_toArray, List.set_cons_zero, List.set_cons_succ]
        refine wpL_m 5 ?_ rfl (.tail _ (.head _)) (Or.inl ⟨by rfl, fun w_ hS_ => ?_⟩) (marks 9 63) ?_
        rotate_left
        next => (subst hS_; first | (refine Eq.trans (run_loadN (vs := [.int .i64 q.kind, .int .i64 q.obj, .int .i64 q.ctx, .int .i64 q.reg, .int .i64 q.lock, .int .i64 q.n]) (off := 0) rfl rfl hw (i := 3) rfl rfl (by intro j v hj; simpa using hj)) ?_; rfl) | (go_simp; try (first | rfl | exact (Bool.not_not _).symm)))
        try simp only [Act.put, List.setIfInBounds_toArray, List.set_cons_zero, List.set_cons_succ]
        refine wpL_q 6 ?_ rfl (Or.inl ⟨by rfl, fun w_ hS_ => ?_⟩) (marks 9 127) ?_
        rotate_left
        next => (go_simp; try (first | rfl | exact (Bool.not_not _).symm))
        try simp only [Act.put, List.setIfInBounds_toArray, List.set_cons_zero, List.set_cons_succ]
        refine wpL_q 7 ?_ rfl (Or.inl ⟨by rfl, fun w_ hS_ => ?_⟩) (marks 9 255) ?_
        rotate_left
        next => (go_simp; try (first | rfl | exact (Bool.not_not _).symm))
        try simp only [Act.put, List.setIfInBounds_toArray, List.set_cons_zero, List.set_cons_succ]
        refine wpL_o 8 rfl (by rfl) (marks 9 511) ?_
        (refine wp_storeSlN (vs := encP q) (i := 2) (j := k * 17 + 10) rfl rfl rfl hw rfl rfl (by rw [encP_length]; have := Hj2.out; omega) (encP_one q) ?_; intro w_ hw_; clear hw; have hw := hw_; clear hw_; (try simp only [List.set_cons_zero, List.set_cons_succ] at hw); (try replace hc0 := Sep.Holds.cells hw (i := 0) rfl); (try replace hc1 := Sep.Holds.cells hw (i := 1) rfl); (try replace hc2 := Sep.Holds.cells hw (i := 2) rfl); (try replace hc3 := Sep.Holds.cells hw (i := 3) rfl); (try replace hc4 := Sep.Holds.cells hw (i := 4) rfl); (try replace hc5 := Sep.Holds.cells hw (i := 5) rfl); (try replace hc6 := Sep.Holds.cells hw (i := 6) rfl))
        refine ⟨(SL.drop 8 (by kernel_rfl) (SL.drop 8 (by kernel_rfl) SL.nil)), ?_⟩
        try simp only [Act.put, List.setIfInBounds_toArray, List.set_cons_zero, List.set_cons_succ]
        all_goals refine wpL_done (by kernel_rfl) ?_ _
        go_wp2_with fail
        rw [flat_putN (vs := encP q) (j := 10) (b := { t with state := 2, wait := q }) encT_length Ht2.out (by rw [encP_length]; omega) rfl, List.set_set] at hw
        have e1 : againG q t = { t with state := 2, wait := q } := by unfold againG; rw [← Hst.out]
        rw [← e1] at hw
        exact HP.out _ _ ⟨rfl, ref_close (T := { T with l := T.l.set k (againG q t) }) (by simp [hlen.out]) (hw.sel [0, 1, 2] (by decide))⟩
    | false =>
      show Calls _ _ _ _ fun en w' => en = .returned (.bool (T.can n ready)) ∧ Holds e w' [X, IsR p (T.change n ready (parkG q))]
      cases hc : T.can n ready with
      | false =>
        rw [Table.change_no hc]
        have Hs : Hid (isSt T.l n 1 = false) := Sep.hid (by rw [← can_ready]; exact hc)
        clear hc
        refine Sep.calls_post ?_
        intro Post_ hPost_
        have HP := Sep.hid hPost_
        clear hPost_
        go_enter Try.func13, Try.ntmps13
        go_wp2_with (refine wpList_on rfl (wp_box rfl hw ?_); intro b_ w_ hw_; clear hw; have hw := hw_; clear hw_; (try simp only [List.map_cons, List.map_nil, List.getD_cons_zero, List.getD_cons_succ, List.getD_nil, List.set_cons_zero, List.set_cons_succ, List.cons_append, List.nil_append, Act.eval, Array.getD_eq_getD_getElem?, List.getElem?_toArray, List.getElem?_cons_succ, List.getElem?_cons_zero, Option.getD_some, Value.cells] at hw); (try simp (disch := first | (simp; done) | (simp; omega)) only [Sep.mid_set, Sep.mid_set2, Sep.mid_set0, Sep.mid_splice, Sep.mid_splice0, List.set_cons_zero, List.set_cons_succ] at hw); (try simp only [Sep.splice, List.take_succ_cons, List.take_zero, List.drop_succ_cons, List.drop_zero, List.length_cons, List.length_nil, Nat.reduceAdd, List.cons_append, List.nil_append] at hw); (try replace hc0 := Sep.Holds.cells hw (i := 0) rfl); (try replace hc1 := Sep.Holds.cells hw (i := 1) rfl); (try replace hc2 := Sep.Holds.cells hw (i := 2) rfl); (try replace hc3 := Sep.Holds.cells hw (i := 3) rfl); (try replace hc4 := Sep.Holds.cells hw (i := 4) rfl); (try replace hc5 := Sep.Holds.cells hw (i := 5) rfl); (try replace hc6 := Sep.Holds.cells hw (i := 6) rfl))
        go_wp2_with fail
        refine (rIs p len cap a T.l n 1 hlen _ (hc1 0) (Sep.hid (fun k t ht => task_at (i := 2) hw rfl hlen.out ht))).mono ?_
        rintro _ w_ ⟨rfl, rfl⟩
        rw [Hs.out]
        go_wp2_with fail
        exact HP.out _ _ ⟨rfl, ref_close hlen.out (hw.sel [0, 1, 2] (by decide))⟩
      | true =>
        have Hs : Hid (isSt T.l n 1 = true) := Sep.hid (by rw [← can_ready]; exact hc)
        obtain ⟨k, t, rfl, ht, hs⟩ := isSt_get Hs.out
        have Ht := Sep.hid ht
        obtain ⟨b, off, hab, _⟩ := task_at (i := 2) hw rfl hlen.out ht
        subst hab
        have hk : k < len := by have := (List.getElem?_eq_some_iff.1 ht).1; rw [hlen.out] at this; exact this
        have Hj : Hid (k * 17 + 17 ≤ (T.l.flatMap encT).length) := Sep.hid (by rw [flat_len (f := encT) encT_length, hlen.out]; omega)
        clear ht
        rw [change_at hc Ht.out]
        clear hc hs
        refine Sep.calls_post ?_
        intro Post_ hPost_
        have HP := Sep.hid hPost_
        clear hPost_
        go_enter Try.func13, Try.ntmps13
        go_wp2_with (refine wpList_on rfl (wp_box rfl hw ?_); intro b_ w_ hw_; clear hw; have hw := hw_; clear hw_; (try simp only [List.map_cons, List.map_nil, List.getD_cons_zero, List.getD_cons_succ, List.getD_nil, List.set_cons_zero, List.set_cons_succ, List.cons_append, List.nil_append, Act.eval, Array.getD_eq_getD_getElem?, List.getElem?_toArray, List.getElem?_cons_succ, List.getElem?_cons_zero, Option.getD_some, Value.cells] at hw); (try simp (disch := first | (simp; done) | (simp; omega)) only [Sep.mid_set, Sep.mid_set2, Sep.mid_set0, Sep.mid_splice, Sep.mid_splice0, List.set_cons_zero, List.set_cons_succ] at hw); (try simp only [Sep.splice, List.take_succ_cons, List.take_zero, List.drop_succ_cons, List.drop_zero, List.length_cons, List.length_nil, Nat.reduceAdd, List.cons_append, List.nil_append] at hw); (try replace hc0 := Sep.Holds.cells hw (i := 0) rfl); (try replace hc1 := Sep.Holds.cells hw (i := 1) rfl); (try replace hc2 := Sep.Holds.cells hw (i := 2) rfl); (try replace hc3 := Sep.Holds.cells hw (i := 3) rfl); (try replace hc4 := Sep.Holds.cells hw (i := 4) rfl); (try replace hc5 := Sep.Holds.cells hw (i := 5) rfl); (try replace hc6 := Sep.Holds.cells hw (i := 6) rfl))
        go_wp2_with fail
        refine (rIs p len cap (some ⟨b, off, none⟩) T.l k 1 hlen _ (hc1 0) (Sep.hid (fun k t ht => task_at (i := 2) hw rfl hlen.out ht))).mono ?_
        rintro _ w_ ⟨rfl, rfl⟩
        rw [Hs.out]
        go_upto_region 4 with (refine wpList_on rfl (wp_storeSl' (i := 2) (j := k * 17 + 0) rfl rfl rfl hw rfl (by have := Hj.out; omega) rfl ?_); intro w_ hw_; clear hw; have hw := hw_; clear hw_; (try simp only [List.map_cons, List.map_nil, List.getD_cons_zero, List.getD_cons_succ, List.getD_nil, List.set_cons_zero, List.set_cons_succ, List.cons_append, List.nil_append, Act.eval, Array.getD_eq_getD_getElem?, List.getElem?_toArray, List.getElem?_cons_succ, List.getElem?_cons_zero, Option.getD_some, Value.cells] at hw); (try simp (disch := first | (simp; done) | (simp; omega)) only [Sep.mid_set, Sep.mid_set2, Sep.mid_set0, Sep.mid_splice, Sep.mid_splice0, List.set_cons_zero, List.set_cons_succ] at hw); (try simp only [Sep.splice, List.take_succ_cons, List.take_zero, List.drop_succ_cons, List.drop_zero, List.length_cons, List.length_nil, Nat.reduceAdd, List.cons_append, List.nil_append] at hw); (try replace hc0 := Sep.Holds.cells hw (i := 0) rfl); (try replace hc1 := Sep.Holds.cells hw (i := 1) rfl); (try replace hc2 := Sep.Holds.cells hw (i := 2) rfl); (try replace hc3 := Sep.Holds.cells hw (i := 3) rfl); (try replace hc4 := Sep.Holds.cells hw (i := 4) rfl); (try replace hc5 := Sep.Holds.cells hw (i := 5) rfl); (try replace hc6 := Sep.Holds.cells hw (i := 6) rfl))
        rw [flat_put (j := 0) (b := { t with state := 2 }) encT_length Ht.out (by omega) rfl] at hw
        (try replace hc0 := Sep.Holds.cells hw (i := 0) rfl); (try replace hc1 := Sep.Holds.cells hw (i := 1) rfl); (try replace hc2 := Sep.Holds.cells hw (i := 2) rfl); (try replace hc3 := Sep.Holds.cells hw (i := 3) rfl); (try replace hc4 := Sep.Holds.cells hw (i := 4) rfl); (try replace hc5 := Sep.Holds.cells hw (i := 5) rfl); (try replace hc6 := Sep.Holds.cells hw (i := 6) rfl)
        have Ht2 : Hid ((T.l.set k { t with state := 2 })[k]? = some { t with state := 2 }) := Sep.hid (List.getElem?_set_self (by rw [hlen.out]; exact hk))
        have Hj2 : Hid (k * 17 + 17 ≤ ((T.l.set k { t with state := 2 }).flatMap encT).length) := Sep.hid (by rw [flatT_len, List.length_set, hlen.out]; omega)
        refine wp_region_L [8] [(3, (fun w' => w' = w_.drew)), (5, (fun w' => w' = w_.drew))] (n := 9) (listed := (marks 9 0)) (by kernel_rfl) rfl (by kernel_rfl) ?conds2 ?_
        case conds2 =>
         intro c hc
         simp only [List.mem_cons, List.not_mem_nil, or_false] at hc
         rcases hc with rfl | rfl
         · rfl
         · rfl
        replace hw := hw.drew
        (try replace hc0 := Sep.Holds.cells hw (i := 0) rfl); (try replace hc1 := Sep.Holds.cells hw (i := 1) rfl); (try replace hc2 := Sep.Holds.cells hw (i := 2) rfl); (try replace hc3 := Sep.Holds.cells hw (i := 3) rfl); (try replace hc4 := Sep.Holds.cells hw (i := 4) rfl); (try replace hc5 := Sep.Holds.cells hw (i := 5) rfl); (try replace hc6 := Sep.Holds.cells hw (i := 6) rfl)
        refine wpL_q 0 ?_ rfl (Or.inl ⟨by rfl, fun w_ hS_ => ?_⟩) (marks 9 1) ?_
        rotate_left
        next => (go_simp; try (first | rfl | exact (Bool.not_not _).symm))
        try simp only [Act.put, List.setIfInBounds_toArray, List.set_cons_zero, List.set_cons_succ]
        refine wpL_q 1 ?_ rfl (Or.inl ⟨by rfl, fun w_ hS_ => ?_⟩) (marks 9 3) ?_
        rotate_left
        next => (go_simp; try (first | rfl | exact (Bool.not_not _).symm))
        try simp only [Act.put, List.setIfInBounds_toArray, List.set_cons_zero, List.set_cons_succ]
        refine wpL_q 2 ?_ rfl (Or.inl ⟨by rfl, fun w_ hS_ => ?_⟩) (marks 9 7) ?_
        rotate_left
        next => (go_simp; try (first | rfl | exact (Bool.not_not _).symm))
        try simp only [Act.put, List.setIfInBounds_toArray, List.set_cons_zero, List.set_cons_succ]
        refine wpL_m 3 ?_ rfl (.head _) (Or.inl ⟨by rfl, fun w_ hS_ => ?_⟩) (marks 9 15) ?_
        rotate_left
        next => (subst hS_; first | (refine Eq.trans (run_loadN (vs := [.int .i64 q.kind, .int .i64 q.obj, .int .i64 q.ctx, .int .i64 q.reg, .int .i64 q.lock, .int .i64 q.n]) (off := 0) rfl rfl hw (i := 3) rfl rfl (by intro j v hj; simpa using hj)) ?_; rfl) | (go_simp; try (first | rfl | exact (Bool.not_not _).symm)))
        try simp only [Act.put, List.setIfInBounds_toArray, List.set_cons_zero, List.set_cons_succ]
        refine wpL_q 4 ?_ rfl (Or.inl ⟨by rfl, fun w_ hS_ => ?_⟩) (marks 9 31) ?_
        rotate_left
        next => (go_simp; try (first | rfl | exact (Bool.not_not _).symm))
        try simp only [Act.put, List.setIfInBounds_toArray, List.set_cons_zero, List.set_cons_succ]
        refine wpL_m 5 ?_ rfl (.tail _ (.head _)) (Or.inl ⟨by rfl, fun w_ hS_ => ?_⟩) (marks 9 63) ?_
        rotate_left
        next => (subst hS_; first | (refine Eq.trans (run_loadN (vs := [.int .i64 q.kind, .int .i64 q.obj, .int .i64 q.ctx, .int .i64 q.reg, .int .i64 q.lock, .int .i64 q.n]) (off := 0) rfl rfl hw (i := 3) rfl rfl (by intro j v hj; simpa using hj)) ?_; rfl) | (go_simp; try (first | rfl | exact (Bool.not_not _).symm)))
        try simp only [Act.put, List.setIfInBounds_toArray, List.set_cons_zero, List.set_cons_succ]
        refine wpL_q 6 ?_ rfl (Or.inl ⟨by rfl, fun w_ hS_ => ?_⟩) (marks 9 127) ?_
        rotate_left
        next => (go_simp; try (first | rfl | exact (Bool.not_not _).symm))
        try simp only [Act.put, List.setIfInBounds_toArray, List.set_cons_zero, List.set_cons_succ]
        refine wpL_q 7 ?_ rfl (Or.inl ⟨by rfl, fun w_ hS_ => ?_⟩) (marks 9 255) ?_
        rotate_left
        next => (go_simp; try (first | rfl | exact (Bool.not_not _).symm))
        try simp only [Act.put, List.setIfInBounds_toArray, List.set_cons_zero, List.set_cons_succ]
        refine wpL_o 8 rfl (by rfl) (marks 9 511) ?_
        (refine wp_storeSlN (vs := encP q) (i := 2) (j := k * 17 + 10) rfl rfl rfl hw rfl rfl (by rw [encP_length]; have := Hj2.out; omega) (encP_one q) ?_; intro w_ hw_; clear hw; have hw := hw_; clear hw_; (try simp only [List.set_cons_zero, List.set_cons_succ] at hw); (try replace hc0 := Sep.Holds.cells hw (i := 0) rfl); (try replace hc1 := Sep.Holds.cells hw (i := 1) rfl); (try replace hc2 := Sep.Holds.cells hw (i := 2) rfl); (try replace hc3 := Sep.Holds.cells hw (i := 3) rfl); (try replace hc4 := Sep.Holds.cells hw (i := 4) rfl); (try replace hc5 := Sep.Holds.cells hw (i := 5) rfl); (try replace hc6 := Sep.Holds.cells hw (i := 6) rfl))
        refine ⟨(SL.drop 8 (by kernel_rfl) (SL.drop 8 (by kernel_rfl) SL.nil)), ?_⟩
        try simp only [Act.put, List.setIfInBounds_toArray, List.set_cons_zero, List.set_cons_succ]
        all_goals refine wpL_done (by kernel_rfl) ?_ _
        go_wp2_with fail
        rw [flat_putN (vs := encP q) (j := 10) (b := { t with state := 2, wait := q }) encT_length Ht2.out (by rw [encP_length]; omega) rfl, List.set_set] at hw
        exact HP.out _ _ ⟨rfl, ref_close (T := { T with l := T.l.set k (parkG q t) }) (by simp [hlen.out]) (hw.sel [0, 1, 2] (by decide))⟩
  · have hok : parkOk q = false := by unfold parkOk; simp; omega
    rw [hok]
    have hkd2 : q.kind < 1 := by omega
    clear hkd hok
    refine Sep.calls_post ?_
    intro Post_ hPost_
    have HP := Sep.hid hPost_
    clear hPost_
    go_enter Try.func13, Try.ntmps13
    go_wp2_with (refine wpList_on rfl (wp_box rfl hw ?_); intro b_ w_ hw_; clear hw; have hw := hw_; clear hw_; (try simp only [List.map_cons, List.map_nil, List.getD_cons_zero, List.getD_cons_succ, List.getD_nil, List.set_cons_zero, List.set_cons_succ, List.cons_append, List.nil_append, Act.eval, Array.getD_eq_getD_getElem?, List.getElem?_toArray, List.getElem?_cons_succ, List.getElem?_cons_zero, Option.getD_some, Value.cells] at hw); (try simp (disch := first | (simp; done) | (simp; omega)) only [Sep.mid_set, Sep.mid_set2, Sep.mid_set0, Sep.mid_splice, Sep.mid_splice0, List.set_cons_zero, List.set_cons_succ] at hw); (try simp only [Sep.splice, List.take_succ_cons, List.take_zero, List.drop_succ_cons, List.drop_zero, List.length_cons, List.length_nil, Nat.reduceAdd, List.cons_append, List.nil_append] at hw); (try replace hc0 := Sep.Holds.cells hw (i := 0) rfl); (try replace hc1 := Sep.Holds.cells hw (i := 1) rfl); (try replace hc2 := Sep.Holds.cells hw (i := 2) rfl); (try replace hc3 := Sep.Holds.cells hw (i := 3) rfl); (try replace hc4 := Sep.Holds.cells hw (i := 4) rfl); (try replace hc5 := Sep.Holds.cells hw (i := 5) rfl); (try replace hc6 := Sep.Holds.cells hw (i := 6) rfl))
    exact HP.out _ _ ⟨rfl, ref_close hlen.out (hw.sel [0, 1, 2] (by decide))⟩
end Go.Proofs.Ytmoikkfhlnogbaa
