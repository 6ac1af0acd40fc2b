/-
  The walks of 'those', In, Under, Begin, and of Same.
-/
import Derived.Test.YtmoikkfhlnogbaaWalkD
namespace Go.Proofs.Ytmoikkfhlnogbaa
set_option linter.unusedSimpArgs false
set_option linter.unusedVariables false
open Go.RowKit Go.Sep Go.TaskM
attribute [local simp] Sep.mid_get Sep.mid_get0 Sep.mid_get2 encT_length

def encI (l : List Int) : List Value := l.map (Value.int .i64)
theorem encI_length (l : List Int) : (encI l).length = l.length := by simp [encI]
theorem encI_append (l m : List Int) : encI (l ++ m) = encI l ++ encI m := by simp [encI]
/-- A slice of whole numbers. -/
def IsInts (v : Value) (l : List Int) : HProp := Sl 3 1 v l.length (encI l)

/-- Those among the first k. -/
def thoseTo (l : List Task) (m : Task → Bool) (k : Nat) : List Int := (((l.take k).zipIdx).filter fun x => m x.1).map fun x => (x.2 : Int)
theorem thoseTo_zero (l : List Task) (m : Task → Bool) : thoseTo l m 0 = [] := rfl
theorem thoseTo_all (T : Table) (m : Task → Bool) : thoseTo T.l m T.l.length = T.those m := by simp [thoseTo, Table.those]
theorem thoseTo_succ {l : List Task} {m : Task → Bool} {k : Nat} {t : Task} (h : l[k]? = some t) : thoseTo l m (k + 1) = thoseTo l m k ++ (if m t then [(k : Int)] else []) := by
  have hk : k < l.length := (List.getElem?_eq_some_iff.1 h).1
  have e : l.take (k + 1) = l.take k ++ [t] := by
    rw [List.take_add_one, h]; rfl
  unfold thoseTo
  rw [e, List.zipIdx_append, List.filter_append, List.map_append]
  congr 1
  simp only [List.length_take, Nat.min_eq_left (Nat.le_of_lt hk), List.zipIdx_cons, List.zipIdx_nil, List.filter_cons, List.filter_nil]
  cases m t <;> simp
theorem thoseTo_length (l : List Task) (m : Task → Bool) (k : Nat) : (thoseTo l m k).length ≤ k := by
  unfold thoseTo
  rw [List.length_map]
  refine Nat.le_trans (List.length_filter_le _ _) ?_
  simp; omega

def SuchOk (fs : Nat) (cs : List Value) (m : Task → Bool) (C : HProp) : Prop := HasBody Try.prog fs ∧ ∀ (t : Task) (e w : World) (R : HProp), Holds e w [R, C] →
  Calls Try.prog fs (.agg (encT t).toArray :: cs).toArray w fun en w' => en = .returned (.bool (m t)) ∧ Holds e w' [R, C]

theorem mid_flat_get {l : List Task} {k : Nat} {t : Task} (hl : l[k]? = some t) (pre post : List Value) {off j : Nat} {v : Value} (ho : off = pre.length + k * 17) (hv : (encT t)[j]? = some v) :
    (mid pre (l.flatMap encT) post)[off + j]? = some v := by
  have hj : j < 17 := (List.getElem?_eq_some_iff.1 hv).1
  have hlt : k < l.length := (List.getElem?_eq_some_iff.1 hl).1
  have hlen : k * 17 + j < (l.flatMap encT).length := by
    rw [flat_len encT_length]
    have : (k + 1) * 17 ≤ l.length * 17 := Nat.mul_le_mul_right _ hlt
    omega
  subst ho
  rw [Nat.add_assoc, Sep.mid_get _ _ _ _ hlen, flat_get encT_length hl hj, hv]

set_option maxHeartbeats 1000000 in
theorem those_calls {fs : Nat} {cs : List Value} {m : Task → Bool} {C : HProp} (hs : Hid (SuchOk fs cs m C)) (p : Nat) (T : Table) (hT : T.l.length ≤ 1000) (e w : World) (R : HProp) (hw : Holds e w [R, IsTable p T, C]) :
    Calls Try.prog 33 #[.pointer (some ⟨p, 0, none⟩), .func (.func fs) #[] cs.toArray] w fun en w' =>
      ∃ v, en = .returned v ∧ Holds e w' [R, IsTable p T, C, IsInts v (T.those m)] := by
  obtain ⟨v, hw⟩ := IsTable.open_ (i := 1) rfl hw
  (try simp only [List.map_cons, List.map_nil, List.getD_cons_zero, List.getD_cons_succ, List.getD_nil, List.set_cons_zero, List.set_cons_succ, List.cons_append, List.nil_append, Act.eval, Array.getD_eq_getD_getElem?, List.getElem?_toArray, List.getElem?_cons_succ, List.getElem?_cons_zero, Option.getD_some, Value.cells] at hw); (try simp (disch := first | (simp; done) | (simp; omega)) only [Sep.mid_set, Sep.mid_set2, Sep.mid_set0, Sep.mid_splice, Sep.mid_splice0, List.set_cons_zero, List.set_cons_succ] at hw); (try simp only [Sep.splice, List.take_succ_cons, List.take_zero, List.drop_succ_cons, List.drop_zero, List.length_cons, List.length_nil, Nat.reduceAdd, List.cons_append, List.nil_append] at hw)
  have hback : ∀ (w' : World) (X : HProp), Holds e w' [R, pt p [v, .int .i64 T.most] 68, C, Sl 53 17 v T.l.length (T.l.flatMap encT), X] → Holds e w' [R, IsTable p T, C, X] := fun w' X h =>
    (IsTable.mk (h.sel [1, 3, 0, 2, 4] (by decide))).sel [1, 0, 2, 3] (by decide)
  obtain ⟨a, cap, rfl⟩ := Sl.value (i := 3) rfl hw
  have Hback := Sep.hid hback; clear hback
  have Hall := Sep.hid (thoseTo_all T m)
  have Hsome : Hid (∀ k, k < T.l.length → ∃ t, T.l[k]? = some t) := Sep.hid fun k hk => ⟨_, List.getElem?_eq_getElem hk⟩
  have Hfl : Hid ((T.l.flatMap encT).length = T.l.length * 17) := Sep.hid (flat_len encT_length _)
  (try replace hc0 := Sep.Holds.cells hw (i := 0) rfl); (try replace hc1 := Sep.Holds.cells hw (i := 1) rfl); (try replace hc2 := Sep.Holds.cells hw (i := 2) rfl); (try replace hc3 := Sep.Holds.cells hw (i := 3) rfl); (try replace hc4 := Sep.Holds.cells hw (i := 4) rfl); (try replace hc5 := Sep.Holds.cells hw (i := 5) rfl); (try replace hc6 := Sep.Holds.cells hw (i := 6) rfl)
  refine Sep.calls_post ?_
  intro Post_ hPost_
  have HP := Sep.hid hPost_
  clear hPost_
  go_enter Try.func33, Try.ntmps33
  go_wp2_with fail
  have hw0 := hw.addEmp (X := Sl 3 1 (.slice none 0 0) (thoseTo T.l m 0).length (encI (thoseTo T.l m 0))) (Sl.nil _ _ _)
  have Hw0 := Sep.hid hw0; clear hw0 hw; (try clear hc0); (try clear hc1); (try clear hc2); (try clear hc3); (try clear hc4); (try clear hc5); (try clear hc6)
  generalize hlen : T.l.length = len at *
  have Hlen := Sep.hid hlen; clear hlen
  go_loopw [5, 13] (fun l i wr => ∃ k : Nat, k ≤ len ∧ i = .int .i64 k ∧ Holds e wr [R, pt p [.slice a len cap, .int .i64 T.most] 68, C, Sl 53 17 (.slice a len cap) len (T.l.flatMap encT), Sl 3 1 l (thoseTo T.l m k).length (encI (thoseTo T.l m k))]) (fun _ i _ => len - (intOf i).toNat)
  case atStart => exact ⟨0, Nat.zero_le _, rfl, Hw0.out⟩
  case round =>
    clear Hw0
    obtain ⟨k, hk, rfl, hw⟩ := hrel
    (try simp only [List.map_cons, List.map_nil, List.getD_cons_zero, List.getD_cons_succ, List.getD_nil, List.set_cons_zero, List.set_cons_succ, List.cons_append, List.nil_append, Act.eval, Array.getD_eq_getD_getElem?, List.getElem?_toArray, List.getElem?_cons_succ, List.getElem?_cons_zero, Option.getD_some, Value.cells] at hw); (try simp (disch := first | (simp; done) | (simp; omega)) only [Sep.mid_set, Sep.mid_set2, Sep.mid_set0, Sep.mid_splice, Sep.mid_splice0, List.set_cons_zero, List.set_cons_succ] at hw); (try simp only [Sep.splice, List.take_succ_cons, List.take_zero, List.drop_succ_cons, List.drop_zero, List.length_cons, List.length_nil, Nat.reduceAdd, List.cons_append, List.nil_append] at hw)
    by_cases hlt : k < len
    · obtain ⟨t, ht⟩ := Hsome.out k hlt
      have Hsucc := Sep.hid (thoseTo_succ (m := m) ht)
      have Htl := Sep.hid (thoseTo_length T.l m k)
      rcases hw.openSl (i := 3) rfl with ⟨_, h2, _⟩ | ⟨b, cap', pre, post, hv, hnc, hcm, hpost, hw'⟩
      · omega
      cases hv
      clear hw; have hw := hw'; clear hw'
      (try simp only [List.map_cons, List.map_nil, List.getD_cons_zero, List.getD_cons_succ, List.getD_nil, List.set_cons_zero, List.set_cons_succ, List.cons_append, List.nil_append, Act.eval, Array.getD_eq_getD_getElem?, List.getElem?_toArray, List.getElem?_cons_succ, List.getElem?_cons_zero, Option.getD_some, Value.cells] at hw); (try simp (disch := first | (simp; done) | (simp; omega)) only [Sep.mid_set, Sep.mid_set2, Sep.mid_set0, Sep.mid_splice, Sep.mid_splice0, List.set_cons_zero, List.set_cons_succ] at hw); (try simp only [Sep.splice, List.take_succ_cons, List.take_zero, List.drop_succ_cons, List.drop_zero, List.length_cons, List.length_nil, Nat.reduceAdd, List.cons_append, List.nil_append] at hw)
      have Hget : Hid (∀ off j v, off = pre.length + k * 17 → (encT t)[j]? = some v → (mid pre (T.l.flatMap encT) post)[off + j]? = some v) :=
        Sep.hid fun off j v ho hv => mid_flat_get ht pre post ho hv
      have Hshut : Hid (∀ (w' : World) (X Y : HProp), Holds e w' [R, pt p [.slice (some ⟨b, pre.length, none⟩) len cap, .int .i64 T.most] 68, C, pt b (mid pre (T.l.flatMap encT) post) 53, X, Y] →
          Holds e w' [R, pt p [.slice (some ⟨b, pre.length, none⟩) len cap, .int .i64 T.most] 68, C, Sl 53 17 (.slice (some ⟨b, pre.length, none⟩) len cap) len (T.l.flatMap encT), X, Y]) :=
        Sep.hid fun w' X Y h => h.closeSl (i := 3) rfl (by rw [Hfl.out]) hnc hcm hpost
      clear ht hnc hcm hpost
      (try replace hc0 := Sep.Holds.cells hw (i := 0) rfl); (try replace hc1 := Sep.Holds.cells hw (i := 1) rfl); (try replace hc2 := Sep.Holds.cells hw (i := 2) rfl); (try replace hc3 := Sep.Holds.cells hw (i := 3) rfl); (try replace hc4 := Sep.Holds.cells hw (i := 4) rfl); (try replace hc5 := Sep.Holds.cells hw (i := 5) rfl); (try replace hc6 := Sep.Holds.cells hw (i := 6) rfl)
      cases hm : m t with
      | true =>
        go_wp2_with (first
          | (refine wpList_on rfl (wp_loadN (vs := encT t) rfl rfl hw (i := 3) rfl rfl (fun j v hj => Hget.out _ j v (by simp) hj) ?_))
          | (refine wpList_on rfl (wp_loadN (vs := encT t) rfl rfl hw (i := 5) rfl rfl (by intro j v hj; simpa using hj) ?_))
          | (refine wpList_on rfl (wp_alloc rfl hw ?_); intro b_ w_ hw_; clear hw; have hw := hw_; clear hw_; (try simp only [List.map_cons, List.map_nil, List.getD_cons_zero, List.getD_cons_succ, List.getD_nil, List.set_cons_zero, List.set_cons_succ, List.cons_append, List.nil_append, Act.eval, Array.getD_eq_getD_getElem?, List.getElem?_toArray, List.getElem?_cons_succ, List.getElem?_cons_zero, Option.getD_some, Value.cells] at hw); (try simp (disch := first | (simp; done) | (simp; omega)) only [Sep.mid_set, Sep.mid_set2, Sep.mid_set0, Sep.mid_splice, Sep.mid_splice0, List.set_cons_zero, List.set_cons_succ] at hw); (try simp only [Sep.splice, List.take_succ_cons, List.take_zero, List.drop_succ_cons, List.drop_zero, List.length_cons, List.length_nil, Nat.reduceAdd, List.cons_append, List.nil_append] at hw); (try replace hc0 := Sep.Holds.cells hw (i := 0) rfl); (try replace hc1 := Sep.Holds.cells hw (i := 1) rfl); (try replace hc2 := Sep.Holds.cells hw (i := 2) rfl); (try replace hc3 := Sep.Holds.cells hw (i := 3) rfl); (try replace hc4 := Sep.Holds.cells hw (i := 4) rfl); (try replace hc5 := Sep.Holds.cells hw (i := 5) rfl); (try replace hc6 := Sep.Holds.cells hw (i := 6) rfl))
          | (refine wpList_on rfl (wp_storeAll (vs := encT t) rfl rfl rfl hw (i := 5) rfl rfl rfl (encT_one t) ?_); intro w_ hw_; clear hw; have hw := hw_; clear hw_; (try simp only [List.map_cons, List.map_nil, List.getD_cons_zero, List.getD_cons_succ, List.getD_nil, List.set_cons_zero, List.set_cons_succ, List.cons_append, List.nil_append, Act.eval, Array.getD_eq_getD_getElem?, List.getElem?_toArray, List.getElem?_cons_succ, List.getElem?_cons_zero, Option.getD_some, Value.cells] at hw); (try simp (disch := first | (simp; done) | (simp; omega)) only [Sep.mid_set, Sep.mid_set2, Sep.mid_set0, Sep.mid_splice, Sep.mid_splice0, List.set_cons_zero, List.set_cons_succ] at hw); (try simp only [Sep.splice, List.take_succ_cons, List.take_zero, List.drop_succ_cons, List.drop_zero, List.length_cons, List.length_nil, Nat.reduceAdd, List.cons_append, List.nil_append] at hw); (try replace hc0 := Sep.Holds.cells hw (i := 0) rfl); (try replace hc1 := Sep.Holds.cells hw (i := 1) rfl); (try replace hc2 := Sep.Holds.cells hw (i := 2) rfl); (try replace hc3 := Sep.Holds.cells hw (i := 3) rfl); (try replace hc4 := Sep.Holds.cells hw (i := 4) rfl); (try replace hc5 := Sep.Holds.cells hw (i := 5) rfl); (try replace hc6 := Sep.Holds.cells hw (i := 6) rfl))
          | (refine wpList_on rfl (wp_callv (args' := .agg (encT t).toArray :: cs) (fm := fs) rfl rfl hs.out.1 rfl ?_); refine (hs.out.2 t e _ _ (hw.focus1 2 rfl |>.sel [0, 1] (by decide))).mono ?_; rintro _ w_ ⟨rfl, hw_⟩; refine ⟨_, rfl, ?_⟩; (try simp only [hm]); clear hw; have hw := Holds.unfocus1 (N := []) 2 (by simp) hw_; clear hw_; (try simp only [List.map_cons, List.map_nil, List.getD_cons_zero, List.getD_cons_succ, List.getD_nil, List.set_cons_zero, List.set_cons_succ, List.cons_append, List.nil_append, Act.eval, Array.getD_eq_getD_getElem?, List.getElem?_toArray, List.getElem?_cons_succ, List.getElem?_cons_zero, Option.getD_some, Value.cells] at hw); (try simp (disch := first | (simp; done) | (simp; omega)) only [Sep.mid_set, Sep.mid_set2, Sep.mid_set0, Sep.mid_splice, Sep.mid_splice0, List.set_cons_zero, List.set_cons_succ] at hw); (try simp only [Sep.splice, List.take_succ_cons, List.take_zero, List.drop_succ_cons, List.drop_zero, List.length_cons, List.length_nil, Nat.reduceAdd, List.cons_append, List.nil_append] at hw); (try replace hc0 := Sep.Holds.cells hw (i := 0) rfl); (try replace hc1 := Sep.Holds.cells hw (i := 1) rfl); (try replace hc2 := Sep.Holds.cells hw (i := 2) rfl); (try replace hc3 := Sep.Holds.cells hw (i := 3) rfl); (try replace hc4 := Sep.Holds.cells hw (i := 4) rfl); (try replace hc5 := Sep.Holds.cells hw (i := 5) rfl); (try replace hc6 := Sep.Holds.cells hw (i := 6) rfl))
          | (refine wpList_on rfl (wp_bsl1 rfl rfl (by rfl) (by rfl) (by decide) hw ?_); intro b_ w_ hw_; clear hw; have hw := hw_; clear hw_; (try simp only [List.map_cons, List.map_nil, List.getD_cons_zero, List.getD_cons_succ, List.getD_nil, List.set_cons_zero, List.set_cons_succ, List.cons_append, List.nil_append, Act.eval, Array.getD_eq_getD_getElem?, List.getElem?_toArray, List.getElem?_cons_succ, List.getElem?_cons_zero, Option.getD_some, Value.cells] at hw); (try simp (disch := first | (simp; done) | (simp; omega)) only [Sep.mid_set, Sep.mid_set2, Sep.mid_set0, Sep.mid_splice, Sep.mid_splice0, List.set_cons_zero, List.set_cons_succ] at hw); (try simp only [Sep.splice, List.take_succ_cons, List.take_zero, List.drop_succ_cons, List.drop_zero, List.length_cons, List.length_nil, Nat.reduceAdd, List.cons_append, List.nil_append] at hw); (try replace hc0 := Sep.Holds.cells hw (i := 0) rfl); (try replace hc1 := Sep.Holds.cells hw (i := 1) rfl); (try replace hc2 := Sep.Holds.cells hw (i := 2) rfl); (try replace hc3 := Sep.Holds.cells hw (i := 3) rfl); (try replace hc4 := Sep.Holds.cells hw (i := 4) rfl); (try replace hc5 := Sep.Holds.cells hw (i := 5) rfl); (try replace hc6 := Sep.Holds.cells hw (i := 6) rfl))
          | (at_builtin; refine wpList_on rfl (wp_appendPt (i := 4) (j := 6) rfl rfl hw rfl rfl rfl (by rfl) (by simp [Value.oneCell']) (by decide) (by rfl) (by have := Htl.out; (try unfold maxLen); omega) (by have := Htl.out; (try unfold maxLen); omega) ?_); intro b2_ cap2_ off2_ w_ hcap2_ hw_; clear hw; have hw := hw_; clear hw_; (try simp only [List.map_cons, List.map_nil, List.getD_cons_zero, List.getD_cons_succ, List.getD_nil, List.set_cons_zero, List.set_cons_succ, List.cons_append, List.nil_append, Act.eval, Array.getD_eq_getD_getElem?, List.getElem?_toArray, List.getElem?_cons_succ, List.getElem?_cons_zero, Option.getD_some, Value.cells] at hw); (try simp (disch := first | (simp; done) | (simp; omega)) only [Sep.mid_set, Sep.mid_set2, Sep.mid_set0, Sep.mid_splice, Sep.mid_splice0, List.set_cons_zero, List.set_cons_succ] at hw); (try simp only [Sep.splice, List.take_succ_cons, List.take_zero, List.drop_succ_cons, List.drop_zero, List.length_cons, List.length_nil, Nat.reduceAdd, List.cons_append, List.nil_append] at hw); (try replace hc0 := Sep.Holds.cells hw (i := 0) rfl); (try replace hc1 := Sep.Holds.cells hw (i := 1) rfl); (try replace hc2 := Sep.Holds.cells hw (i := 2) rfl); (try replace hc3 := Sep.Holds.cells hw (i := 3) rfl); (try replace hc4 := Sep.Holds.cells hw (i := 4) rfl); (try replace hc5 := Sep.Holds.cells hw (i := 5) rfl); (try replace hc6 := Sep.Holds.cells hw (i := 6) rfl)))
        go_roundw
        case rel => exact ⟨k + 1, by omega, by go_num, by rw [Hsucc.out, hm]; simp only [if_true, List.length_append, List.length_cons, List.length_nil, encI_append]; exact Hshut.out _ _ emp (hw.sel [0, 1, 2, 3, 4, 99] (by decide)) |>.sel [0, 1, 2, 3, 4] (by decide)⟩
        case measure => simp [intOf]; omega
      | false =>
        go_wp2_with (first
          | (refine wpList_on rfl (wp_loadN (vs := encT t) rfl rfl hw (i := 3) rfl rfl (fun j v hj => Hget.out _ j v (by simp) hj) ?_))
          | (refine wpList_on rfl (wp_loadN (vs := encT t) rfl rfl hw (i := 5) rfl rfl (by intro j v hj; simpa using hj) ?_))
          | (refine wpList_on rfl (wp_alloc rfl hw ?_); intro b_ w_ hw_; clear hw; have hw := hw_; clear hw_; (try simp only [List.map_cons, List.map_nil, List.getD_cons_zero, List.getD_cons_succ, List.getD_nil, List.set_cons_zero, List.set_cons_succ, List.cons_append, List.nil_append, Act.eval, Array.getD_eq_getD_getElem?, List.getElem?_toArray, List.getElem?_cons_succ, List.getElem?_cons_zero, Option.getD_some, Value.cells] at hw); (try simp (disch := first | (simp; done) | (simp; omega)) only [Sep.mid_set, Sep.mid_set2, Sep.mid_set0, Sep.mid_splice, Sep.mid_splice0, List.set_cons_zero, List.set_cons_succ] at hw); (try simp only [Sep.splice, List.take_succ_cons, List.take_zero, List.drop_succ_cons, List.drop_zero, List.length_cons, List.length_nil, Nat.reduceAdd, List.cons_append, List.nil_append] at hw); (try replace hc0 := Sep.Holds.cells hw (i := 0) rfl); (try replace hc1 := Sep.Holds.cells hw (i := 1) rfl); (try replace hc2 := Sep.Holds.cells hw (i := 2) rfl); (try replace hc3 := Sep.Holds.cells hw (i := 3) rfl); (try replace hc4 := Sep.Holds.cells hw (i := 4) rfl); (try replace hc5 := Sep.Holds.cells hw (i := 5) rfl); (try replace hc6 := Sep.Holds.cells hw (i := 6) rfl))
          | (refine wpList_on rfl (wp_storeAll (vs := encT t) rfl rfl rfl hw (i := 5) rfl rfl rfl (encT_one t) ?_); intro w_ hw_; clear hw; have hw := hw_; clear hw_; (try simp only [List.map_cons, List.map_nil, List.getD_cons_zero, List.getD_cons_succ, List.getD_nil, List.set_cons_zero, List.set_cons_succ, List.cons_append, List.nil_append, Act.eval, Array.getD_eq_getD_getElem?, List.getElem?_toArray, List.getElem?_cons_succ, List.getElem?_cons_zero, Option.getD_some, Value.cells] at hw); (try simp (disch := first | (simp; done) | (simp; omega)) only [Sep.mid_set, Sep.mid_set2, Sep.mid_set0, Sep.mid_splice, Sep.mid_splice0, List.set_cons_zero, List.set_cons_succ] at hw); (try simp only [Sep.splice, List.take_succ_cons, List.take_zero, List.drop_succ_cons, List.drop_zero, List.length_cons, List.length_nil, Nat.reduceAdd, List.cons_append, List.nil_append] at hw); (try replace hc0 := Sep.Holds.cells hw (i := 0) rfl); (try replace hc1 := Sep.Holds.cells hw (i := 1) rfl); (try replace hc2 := Sep.Holds.cells hw (i := 2) rfl); (try replace hc3 := Sep.Holds.cells hw (i := 3) rfl); (try replace hc4 := Sep.Holds.cells hw (i := 4) rfl); (try replace hc5 := Sep.Holds.cells hw (i := 5) rfl); (try replace hc6 := Sep.Holds.cells hw (i := 6) rfl))
          | (refine wpList_on rfl (wp_callv (args' := .agg (encT t).toArray :: cs) (fm := fs) rfl rfl hs.out.1 rfl ?_); refine (hs.out.2 t e _ _ (hw.focus1 2 rfl |>.sel [0, 1] (by decide))).mono ?_; rintro _ w_ ⟨rfl, hw_⟩; refine ⟨_, rfl, ?_⟩; (try simp only [hm]); clear hw; have hw := Holds.unfocus1 (N := []) 2 (by simp) hw_; clear hw_; (try simp only [List.map_cons, List.map_nil, List.getD_cons_zero, List.getD_cons_succ, List.getD_nil, List.set_cons_zero, List.set_cons_succ, List.cons_append, List.nil_append, Act.eval, Array.getD_eq_getD_getElem?, List.getElem?_toArray, List.getElem?_cons_succ, List.getElem?_cons_zero, Option.getD_some, Value.cells] at hw); (try simp (disch := first | (simp; done) | (simp; omega)) only [Sep.mid_set, Sep.mid_set2, Sep.mid_set0, Sep.mid_splice, Sep.mid_splice0, List.set_cons_zero, List.set_cons_succ] at hw); (try simp only [Sep.splice, List.take_succ_cons, List.take_zero, List.drop_succ_cons, List.drop_zero, List.length_cons, List.length_nil, Nat.reduceAdd, List.cons_append, List.nil_append] at hw); (try replace hc0 := Sep.Holds.cells hw (i := 0) rfl); (try replace hc1 := Sep.Holds.cells hw (i := 1) rfl); (try replace hc2 := Sep.Holds.cells hw (i := 2) rfl); (try replace hc3 := Sep.Holds.cells hw (i := 3) rfl); (try replace hc4 := Sep.Holds.cells hw (i := 4) rfl); (try replace hc5 := Sep.Holds.cells hw (i := 5) rfl); (try replace hc6 := Sep.Holds.cells hw (i := 6) rfl)))
        go_roundw
        case rel => exact ⟨k + 1, by omega, by go_num, by rw [Hsucc.out, hm]; simp only [Bool.false_eq_true, if_false, List.append_nil]; exact Hshut.out _ _ emp (hw.sel [0, 1, 2, 3, 4, 99] (by decide)) |>.sel [0, 1, 2, 3, 4] (by decide)⟩
        case measure => simp [intOf]; omega
    · have hke : k = len := by omega
      have Hke := Sep.hid hke; clear hke
      (try replace hc0 := Sep.Holds.cells hw (i := 0) rfl); (try replace hc1 := Sep.Holds.cells hw (i := 1) rfl); (try replace hc2 := Sep.Holds.cells hw (i := 2) rfl); (try replace hc3 := Sep.Holds.cells hw (i := 3) rfl); (try replace hc4 := Sep.Holds.cells hw (i := 4) rfl); (try replace hc5 := Sep.Holds.cells hw (i := 5) rfl); (try replace hc6 := Sep.Holds.cells hw (i := 6) rfl)
      go_wp2
      refine HP.out _ _ ⟨_, rfl, ?_⟩
      have h := Hback.out _ _ hw
      rw [Hke.out, Hall.out] at h
      exact h

set_option maxHeartbeats 400000 in
theorem in1_ok (c : Nat) (s : Int) : SuchOk 34 [.pointer (some ⟨c, 0, none⟩)] (inState s) (pt c [.int .i64 s] 3) := by
  refine ⟨⟨_, Try.func34, rfl, by decide⟩, fun t e w R hw => ?_⟩
  simp only [encT]
  (try replace hc0 := Sep.Holds.cells hw (i := 0) rfl); (try replace hc1 := Sep.Holds.cells hw (i := 1) rfl); (try replace hc2 := Sep.Holds.cells hw (i := 2) rfl); (try replace hc3 := Sep.Holds.cells hw (i := 3) rfl); (try replace hc4 := Sep.Holds.cells hw (i := 4) rfl); (try replace hc5 := Sep.Holds.cells hw (i := 5) rfl); (try replace hc6 := Sep.Holds.cells hw (i := 6) rfl)
  refine Sep.calls_post ?_
  intro Post_ hPost_
  have HP := Sep.hid hPost_
  clear hPost_
  go_enter Try.func34, Try.ntmps34
  go_wp2_with (refine wpList_on rfl (wp_box rfl hw ?_); intro b_ w_ hw_; clear hw; have hw := hw_; clear hw_; (try simp only [List.map_cons, List.map_nil, List.getD_cons_zero, List.getD_cons_succ, List.getD_nil, List.set_cons_zero, List.set_cons_succ, List.cons_append, List.nil_append, Act.eval, Array.getD_eq_getD_getElem?, List.getElem?_toArray, List.getElem?_cons_succ, List.getElem?_cons_zero, Option.getD_some, Value.cells] at hw); (try simp (disch := first | (simp; done) | (simp; omega)) only [Sep.mid_set, Sep.mid_set2, Sep.mid_set0, Sep.mid_splice, Sep.mid_splice0, List.set_cons_zero, List.set_cons_succ] at hw); (try simp only [Sep.splice, List.take_succ_cons, List.take_zero, List.drop_succ_cons, List.drop_zero, List.length_cons, List.length_nil, Nat.reduceAdd, List.cons_append, List.nil_append] at hw); (try replace hc0 := Sep.Holds.cells hw (i := 0) rfl); (try replace hc1 := Sep.Holds.cells hw (i := 1) rfl); (try replace hc2 := Sep.Holds.cells hw (i := 2) rfl); (try replace hc3 := Sep.Holds.cells hw (i := 3) rfl); (try replace hc4 := Sep.Holds.cells hw (i := 4) rfl); (try replace hc5 := Sep.Holds.cells hw (i := 5) rfl); (try replace hc6 := Sep.Holds.cells hw (i := 6) rfl))
  exact HP.out _ _ ⟨rfl, hw.sel [0, 1] (by decide)⟩
set_option maxHeartbeats 400000 in
theorem under1_ok (c : Nat) (s : Int) : SuchOk 35 [.pointer (some ⟨c, 0, none⟩)] (underCtx s) (pt c [.int .i64 s] 3) := by
  refine ⟨⟨_, Try.func35, rfl, by decide⟩, fun t e w R hw => ?_⟩
  simp only [encT]
  (try replace hc0 := Sep.Holds.cells hw (i := 0) rfl); (try replace hc1 := Sep.Holds.cells hw (i := 1) rfl); (try replace hc2 := Sep.Holds.cells hw (i := 2) rfl); (try replace hc3 := Sep.Holds.cells hw (i := 3) rfl); (try replace hc4 := Sep.Holds.cells hw (i := 4) rfl); (try replace hc5 := Sep.Holds.cells hw (i := 5) rfl); (try replace hc6 := Sep.Holds.cells hw (i := 6) rfl)
  refine Sep.calls_post ?_
  intro Post_ hPost_
  have HP := Sep.hid hPost_
  clear hPost_
  go_enter Try.func35, Try.ntmps35
  go_wp2_with (refine wpList_on rfl (wp_box rfl hw ?_); intro b_ w_ hw_; clear hw; have hw := hw_; clear hw_; (try simp only [List.map_cons, List.map_nil, List.getD_cons_zero, List.getD_cons_succ, List.getD_nil, List.set_cons_zero, List.set_cons_succ, List.cons_append, List.nil_append, Act.eval, Array.getD_eq_getD_getElem?, List.getElem?_toArray, List.getElem?_cons_succ, List.getElem?_cons_zero, Option.getD_some, Value.cells] at hw); (try simp (disch := first | (simp; done) | (simp; omega)) only [Sep.mid_set, Sep.mid_set2, Sep.mid_set0, Sep.mid_splice, Sep.mid_splice0, List.set_cons_zero, List.set_cons_succ] at hw); (try simp only [Sep.splice, List.take_succ_cons, List.take_zero, List.drop_succ_cons, List.drop_zero, List.length_cons, List.length_nil, Nat.reduceAdd, List.cons_append, List.nil_append] at hw); (try replace hc0 := Sep.Holds.cells hw (i := 0) rfl); (try replace hc1 := Sep.Holds.cells hw (i := 1) rfl); (try replace hc2 := Sep.Holds.cells hw (i := 2) rfl); (try replace hc3 := Sep.Holds.cells hw (i := 3) rfl); (try replace hc4 := Sep.Holds.cells hw (i := 4) rfl); (try replace hc5 := Sep.Holds.cells hw (i := 5) rfl); (try replace hc6 := Sep.Holds.cells hw (i := 6) rfl))
  all_goals refine HP.out _ _ ⟨?_, hw.sel [0, 1] (by decide)⟩
  all_goals first | (simp [underCtx, *]; done) | (simp [underCtx, *]; intros; omega)
end Go.Proofs.Ytmoikkfhlnogbaa
