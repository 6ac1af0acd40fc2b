/-
  The walks of Own, and of Same, the program's and the document's; of SameBytes.
-/
import Derived.Test.YtmokklkckecmdaaDoorCodeM
import Derived.Test.YtmokklkckecmdaaDoorInts
namespace Go.Proofs.YtmokklkckecmdaaDoor
set_option linter.unusedSimpArgs false
set_option linter.unusedVariables false
open Go.RowKit Go.Sep

def encAs (l : List Deed) : List Value := l.flatMap encA
theorem encA_len (x : Deed) : (encA x).length = 4 := rfl
theorem encAs_length (l : List Deed) : (encAs l).length = l.length * 4 := flat_len encA_len l
theorem encAs_append (l m : List Deed) : encAs (l ++ m) = encAs l ++ encAs m := by simp [encAs]
theorem encAs_one (l : List Deed) : ∀ v ∈ encAs l, v.oneCell' = true := by
  intro v hv
  obtain ⟨x, _, hx⟩ := List.mem_flatMap.1 hv
  exact encA_one x v hx
theorem encAs_snoc (l : List Deed) (x : Deed) : encAs (l ++ [x]) = encAs l ++ encA x := by rw [encAs_append]; simp [encAs]
/-- A slice of instructions. -/
def IsAs (T : TypeId) (v : Value) (l : List Deed) : HProp := Sl T 4 v l.length (encAs l)
theorem takeA {l : List Deed} {k : Nat} {x : Deed} (h : l[k]? = some x) : l.take (k + 1) = l.take k ++ [x] := by
  rw [List.take_add_one, h]; rfl
theorem readsA {T : TypeId} {e w : World} {L : List HProp} {i n ca : Nat} {a : Option Addr} {l : List Deed} (hw : Holds e w L) (hi : L[i]? = some (Sl T 4 (.slice a n ca) n (encAs l))) : ReadsA w a l := by
  intro k x hx
  have hk : k < l.length := (List.getElem?_eq_some_iff.1 hx).1
  have hln : (encAs l).length = n * 4 := hw.fact hi (fun _ h => h.1)
  have hln2 := encAs_length l
  rcases hw.openSl hi with ⟨_, h2, _⟩ | ⟨b, cap, pre, post, hv', _, _, _, hw'⟩
  · omega
  · cases hv'
    have hil : i < L.length := (List.getElem?_eq_some_iff.1 hi).1
    refine ⟨_, rfl, fun j c hj => ?_⟩
    have hj4 : j < 4 := (List.getElem?_eq_some_iff.1 hj).1
    have e1 : ((⟨b, pre.length, none⟩ : Addr).add (k * 4)).add j = ⟨b, pre.length + (k * 4 + j), none⟩ := by
      rw [Go.Deep.add_add]; unfold Addr.add; split <;> simp_all
    rw [e1, hw'.cells (List.getElem?_set_self hil), Sep.mid_get _ _ _ _ (by omega)]
    unfold encAs
    rw [flat_get encA_len hx hj4]; exact hj
theorem rdA {T : TypeId} {e : World} {n ca : Nat} {a : Option Addr} {l : List Deed} : RdA e (Sl T 4 (.slice a n ca) n (encAs l)) a l := fun _ _ _ hw hi => readsA hw hi
set_option maxHeartbeats 4000000 in
theorem own_calls (l : List Deed) (n ca : Nat) (a : Option Addr) (hn : Hid (l.length = n)) (hn2 : n ≤ 100000) (e w : World) (X : HProp) (hR : RdA e X a l) (hw : Holds e w [X]) :
    Calls Tryd.prog 9 #[.slice a n ca] w fun en w' => ∃ u, en = .returned u ∧ Holds e w' [X, IsAs 40 u l] := by
  have HR := Sep.hid hR; clear hR
  refine Sep.calls_post ?_
  intro Post_ hPost_
  have HP := Sep.hid hPost_
  clear hPost_
  go_enter Tryd.func9, Tryd.ntmps9
  go_wp2_with (refine wpList_on rfl (wp_bsl0 rfl hw ?_); intro b_ w_ hw_; replace hw_ := hw_.newSl (i := 1) rfl 4 0 rfl (by decide); clear hw; have hw := hw_; clear hw_; (try simp only [List.map_cons, List.map_nil, List.getD_cons_zero, List.getD_cons_succ, List.getD_nil, List.set_cons_zero, List.set_cons_succ, List.cons_append, List.nil_append, Act.eval, Array.getD_eq_getD_getElem?, List.getElem?_toArray, List.getElem?_cons_succ, List.getElem?_cons_zero, Option.getD_some, Value.cells] at hw); (try simp (disch := first | (simp; done) | (simp; omega)) only [Sep.mid_set, Sep.mid_set2, Sep.mid_set0, Sep.mid_splice, Sep.mid_splice0, List.set_cons_zero, List.set_cons_succ] at hw); (try simp only [Sep.splice, List.take_succ_cons, List.take_zero, List.drop_succ_cons, List.drop_zero, List.length_cons, List.length_nil, Nat.reduceAdd, List.cons_append, List.nil_append] at hw); (try replace hc0 := Sep.Holds.cells hw (i := 0) rfl); (try replace hc1 := Sep.Holds.cells hw (i := 1) rfl); (try replace hc2 := Sep.Holds.cells hw (i := 2) rfl); (try replace hc3 := Sep.Holds.cells hw (i := 3) rfl); (try replace hc4 := Sep.Holds.cells hw (i := 4) rfl); (try replace hc5 := Sep.Holds.cells hw (i := 5) rfl); (try replace hc6 := Sep.Holds.cells hw (i := 6) rfl))
  have Hw0 := Sep.hid hw; clear hw; (try clear hc0); (try clear hc1); (try clear hc2); (try clear hc3); (try clear hc4); (try clear hc5); (try clear hc6)
  go_loopw [9, 3] (fun i o wr => ∃ (k : Nat) (c : List Deed), k ≤ n ∧ i = .int .i64 k ∧ Hid (c = l.take k) ∧ Hid (c.length = k) ∧ Holds e wr [X, Sl 40 4 o k (encAs c)]) (fun i _ _ => n - (intOf i).toNat)
  case atStart => exact ⟨0, [], Nat.zero_le _, rfl, Sep.hid rfl, Sep.hid rfl, Hw0.out⟩
  case round =>
    clear Hw0
    obtain ⟨k, c, hk, rfl, Hc, Hck, hw⟩ := hrel
    obtain ⟨oa, oc, rfl⟩ := Sl.value (i := 1) rfl hw
    by_cases hlt : k < n
    · obtain ⟨x, hx⟩ : ∃ x, l[k]? = some x := ⟨_, List.getElem?_eq_getElem (by rw [hn.out]; exact hlt)⟩
      obtain ⟨p, rfl, hcc⟩ := HR.out _ _ 0 hw rfl k x hx
      have Hcc := Sep.hid hcc; clear hcc
      have Hx := Sep.hid hx; clear hx
      go_wp2_with (first | (refine wpList_on rfl (wp_of_run (run_loadAd (vs := encA x) rfl rfl rfl Hcc.out) ?_); (try simp only [Act.put, List.setIfInBounds_toArray, List.set_cons_zero, List.set_cons_succ])) | (refine wpList_on rfl (wp_alloc rfl hw ?_); intro b_ w_ hw_; clear hw; have hw := hw_; clear hw_; (try simp only [List.map_cons, List.map_nil, List.getD_cons_zero, List.getD_cons_succ, List.getD_nil, List.set_cons_zero, List.set_cons_succ, List.cons_append, List.nil_append, Act.eval, Array.getD_eq_getD_getElem?, List.getElem?_toArray, List.getElem?_cons_succ, List.getElem?_cons_zero, Option.getD_some, Value.cells] at hw); (try simp (disch := first | (simp; done) | (simp; omega)) only [Sep.mid_set, Sep.mid_set2, Sep.mid_set0, Sep.mid_splice, Sep.mid_splice0, List.set_cons_zero, List.set_cons_succ] at hw); (try simp only [Sep.splice, List.take_succ_cons, List.take_zero, List.drop_succ_cons, List.drop_zero, List.length_cons, List.length_nil, Nat.reduceAdd, List.cons_append, List.nil_append] at hw); (try replace hc0 := Sep.Holds.cells hw (i := 0) rfl); (try replace hc1 := Sep.Holds.cells hw (i := 1) rfl); (try replace hc2 := Sep.Holds.cells hw (i := 2) rfl); (try replace hc3 := Sep.Holds.cells hw (i := 3) rfl); (try replace hc4 := Sep.Holds.cells hw (i := 4) rfl); (try replace hc5 := Sep.Holds.cells hw (i := 5) rfl); (try replace hc6 := Sep.Holds.cells hw (i := 6) rfl)) | (refine wpList_on rfl (wp_storeAll (vs := encA x) rfl rfl (by rfl) hw (i := 2) rfl rfl rfl (encA_one x) ?_); intro w_ hw_; clear hw; have hw := hw_; clear hw_; (try simp only [List.map_cons, List.map_nil, List.getD_cons_zero, List.getD_cons_succ, List.getD_nil, List.set_cons_zero, List.set_cons_succ, List.cons_append, List.nil_append, Act.eval, Array.getD_eq_getD_getElem?, List.getElem?_toArray, List.getElem?_cons_succ, List.getElem?_cons_zero, Option.getD_some, Value.cells] at hw); (try simp (disch := first | (simp; done) | (simp; omega)) only [Sep.mid_set, Sep.mid_set2, Sep.mid_set0, Sep.mid_splice, Sep.mid_splice0, List.set_cons_zero, List.set_cons_succ] at hw); (try simp only [Sep.splice, List.take_succ_cons, List.take_zero, List.drop_succ_cons, List.drop_zero, List.length_cons, List.length_nil, Nat.reduceAdd, List.cons_append, List.nil_append] at hw); (try replace hc0 := Sep.Holds.cells hw (i := 0) rfl); (try replace hc1 := Sep.Holds.cells hw (i := 1) rfl); (try replace hc2 := Sep.Holds.cells hw (i := 2) rfl); (try replace hc3 := Sep.Holds.cells hw (i := 3) rfl); (try replace hc4 := Sep.Holds.cells hw (i := 4) rfl); (try replace hc5 := Sep.Holds.cells hw (i := 5) rfl); (try replace hc6 := Sep.Holds.cells hw (i := 6) rfl)) | (refine wpList_on rfl (wp_loadN (vs := encA x) rfl rfl hw (i := 2) rfl rfl (by intro j v hj; simpa using hj) ?_); (try simp only [Act.put, List.setIfInBounds_toArray, List.set_cons_zero, List.set_cons_succ])) | (refine wpList_on rfl (wp_bsl1 rfl rfl (by rfl) (by rfl) (by decide) hw ?_); intro b_ w_ hw_; clear hw; have hw := hw_; clear hw_; (try simp only [List.map_cons, List.map_nil, List.getD_cons_zero, List.getD_cons_succ, List.getD_nil, List.set_cons_zero, List.set_cons_succ, List.cons_append, List.nil_append, Act.eval, Array.getD_eq_getD_getElem?, List.getElem?_toArray, List.getElem?_cons_succ, List.getElem?_cons_zero, Option.getD_some, Value.cells] at hw); (try simp (disch := first | (simp; done) | (simp; omega)) only [Sep.mid_set, Sep.mid_set2, Sep.mid_set0, Sep.mid_splice, Sep.mid_splice0, List.set_cons_zero, List.set_cons_succ] at hw); (try simp only [Sep.splice, List.take_succ_cons, List.take_zero, List.drop_succ_cons, List.drop_zero, List.length_cons, List.length_nil, Nat.reduceAdd, List.cons_append, List.nil_append] at hw); (try replace hc0 := Sep.Holds.cells hw (i := 0) rfl); (try replace hc1 := Sep.Holds.cells hw (i := 1) rfl); (try replace hc2 := Sep.Holds.cells hw (i := 2) rfl); (try replace hc3 := Sep.Holds.cells hw (i := 3) rfl); (try replace hc4 := Sep.Holds.cells hw (i := 4) rfl); (try replace hc5 := Sep.Holds.cells hw (i := 5) rfl); (try replace hc6 := Sep.Holds.cells hw (i := 6) rfl)) | (at_builtin; refine wpList_on rfl (wp_appendPt (i := 1) (j := 3) rfl rfl hw rfl rfl rfl (by rfl) (encA_one x) (by decide) (by rfl) (by (try unfold maxLen); omega) (by (try unfold maxLen); omega) ?_); intro b2_ cap2_ off2_ w_ hcap2_ hw_; clear hw; have hw := hw_; clear hw_; (try simp only [List.map_cons, List.map_nil, List.getD_cons_zero, List.getD_cons_succ, List.getD_nil, List.set_cons_zero, List.set_cons_succ, List.cons_append, List.nil_append, Act.eval, Array.getD_eq_getD_getElem?, List.getElem?_toArray, List.getElem?_cons_succ, List.getElem?_cons_zero, Option.getD_some, Value.cells] at hw); (try simp (disch := first | (simp; done) | (simp; omega)) only [Sep.mid_set, Sep.mid_set2, Sep.mid_set0, Sep.mid_splice, Sep.mid_splice0, List.set_cons_zero, List.set_cons_succ] at hw); (try simp only [Sep.splice, List.take_succ_cons, List.take_zero, List.drop_succ_cons, List.drop_zero, List.length_cons, List.length_nil, Nat.reduceAdd, List.cons_append, List.nil_append] at hw); (try replace hc0 := Sep.Holds.cells hw (i := 0) rfl); (try replace hc1 := Sep.Holds.cells hw (i := 1) rfl); (try replace hc2 := Sep.Holds.cells hw (i := 2) rfl); (try replace hc3 := Sep.Holds.cells hw (i := 3) rfl); (try replace hc4 := Sep.Holds.cells hw (i := 4) rfl); (try replace hc5 := Sep.Holds.cells hw (i := 5) rfl); (try replace hc6 := Sep.Holds.cells hw (i := 6) rfl)))
      go_roundw
      case rel =>
        refine ⟨k + 1, c ++ [x], by omega, by go_num, Sep.hid (by rw [takeA Hx.out, ← Hc.out]), Sep.hid (by simp [Hck.out]), ?_⟩
        rw [encAs_snoc]
        exact (hw.sel [0, 1] (by decide))
      case measure => simp [intOf]; omega
    · have hke : n = k := by omega
      subst hke
      have Hd : Hid (c = l) := Sep.hid (by rw [Hc.out, List.take_of_length_le (by rw [hn.out]; omega)])
      go_wp2_with fail
      refine HP.out _ _ ⟨_, rfl, ?_⟩
      unfold IsAs
      rw [Hd.out] at hw
      rw [hn.out]
      exact hw
theorem noGuardA : Tryd.prog.eqGuardType Tryd.prog.depth 40 = false := by kernel_rfl
theorem noGuardB : Tryd.prog.eqGuardType Tryd.prog.depth 23 = false := by kernel_rfl
set_option maxHeartbeats 400000 in
theorem eqA (s t : Deed) (w : World) : (binOp .eql 40 (.agg (encA s).toArray) (.agg (encA t).toArray)).run Tryd.prog w = .ok (.bool (decide (s = t))) w := by
  have h : decide (s = t) = (decide (s.f0 = t.f0) && (decide (s.f1 = t.f1) && (decide (s.f2 = t.f2) && decide (s.f3 = t.f3)))) := by
    obtain ⟨s0, s1, s2, s3⟩ := s
    obtain ⟨t0, t1, t2, t3⟩ := t
    rw [Bool.eq_iff_iff]; simp [Deed.mk.injEq]
  rw [h]
  unfold encA
  go_simp
  exact ifokV (ifokV (ifokV ifokV1))
set_option maxHeartbeats 400000 in
theorem eqB (s t : Deed) (w : World) : (binOp .eql 23 (.agg (encA s).toArray) (.agg (encA t).toArray)).run Tryd.prog w = .ok (.bool (decide (s = t))) w := by
  have h : decide (s = t) = (decide (s.f0 = t.f0) && (decide (s.f1 = t.f1) && (decide (s.f2 = t.f2) && decide (s.f3 = t.f3)))) := by
    obtain ⟨s0, s1, s2, s3⟩ := s
    obtain ⟨t0, t1, t2, t3⟩ := t
    rw [Bool.eq_iff_iff]; simp [Deed.mk.injEq]
  rw [h]
  unfold encA
  go_simp
  exact ifokV (ifokV (ifokV ifokV1))
set_option maxHeartbeats 4000000 in
theorem sameA (a b : Option Addr) (l m : List Deed) (n1 n2 ca cb : Nat) (h1 : n1 = l.length) (h2 : n2 = m.length) (hL : n1 ≤ 1000000) (w : World) (ha : ReadsA w a l) (hb : ReadsA w b m) :
    Calls Tryd.prog 19 #[.slice a n1 ca, .slice b n2 cb] w fun en w' => en = .returned (.bool (decide (l = m))) ∧ Drew w w' := by
  have Ha := Sep.hid ha; have Hb := Sep.hid hb; clear ha hb
  by_cases hlen : n1 = n2
  · have hne : ((n1 : Int) != (n2 : Int)) = false := by simp [hlen]
    subst hlen
    have H1 := Sep.hid h1; have H2 := Sep.hid h2; clear h1 h2
    refine Sep.calls_post ?_
    intro Post_ hPost_
    have HP := Sep.hid hPost_
    clear hPost_
    go_enter Tryd.func19, Tryd.ntmps19
    go_wp2_with fail
    go_loopw [5] (fun i wr => ∃ k : Nat, k ≤ n1 ∧ i = .int .i64 k ∧ l.take k = m.take k ∧ Drew w wr) (fun i _ => n1 - (intOf i).toNat)
    case atStart => exact ⟨0, Nat.zero_le _, rfl, by simp, Drew.refl _⟩
    case round =>
      obtain ⟨k, hk, rfl, heq, hd⟩ := hrel
      have Heq := Sep.hid heq; clear heq
      have HD := Sep.hid hd; clear hd
      by_cases hlt : k < n1
      · obtain ⟨x, hx⟩ : ∃ x, l[k]? = some x := ⟨_, List.getElem?_eq_getElem (by rw [← H1.out]; exact hlt)⟩
        obtain ⟨y, hy⟩ : ∃ y, m[k]? = some y := ⟨_, List.getElem?_eq_getElem (by rw [← H2.out]; exact hlt)⟩
        obtain ⟨ba, rfl, gx⟩ := Ha.out k x hx
        obtain ⟨bb, rfl, gy⟩ := Hb.out k y hy
        have Hcx : Hid (∀ (j : Nat) (v : Value), (encA x)[j]? = some v → wr.drew.cell? ((ba.add (k * 4)).add j) = some v) := Sep.hid (fun j v hj => (HD.out.cell _).trans (gx j v hj))
        have Hcy : Hid (∀ (j : Nat) (v : Value), (encA y)[j]? = some v → wr.drew.cell? ((bb.add (k * 4)).add j) = some v) := Sep.hid (fun j v hj => (HD.out.cell _).trans (gy j v hj))
        clear gx gy
        have hw : Holds wr wr [] := ⟨Env.refl _, fun _ _ => none, by simp, by simp, by simp⟩
        have Hx := Sep.hid hx; clear hx
        have Hy := Sep.hid hy; clear hy
        by_cases hxy : x = y
        · have Hb : Hid ((!decide (x = y)) = false) := Sep.hid (by simp [hxy])
          have Hxy := Sep.hid hxy; clear hxy
          go_wp2_with fail
          refine wp_region_L [] [(3, (fun w' => w' = wr.drew)), (7, (fun w' => w' = wr.drew))] (n := 9) (listed := #[false, false, false, false, false, false, false, false, false]) (by kernel_rfl) rfl rfl ?conds1 ?_
          case conds1 =>
           intro c hc
           simp only [List.mem_cons, List.not_mem_nil, or_false] at hc
           rcases hc with rfl | rfl
           · rfl
           · rfl
          replace hw := hw.drew
          refine wpL_take 0 (C := fun _ => True) (v := ?v2) rfl (by kernel_rfl) (by kernel_rfl) (by kernel_rfl) (by kernel_rfl) (fun _ _ _ h => h) (.inl fun _ => trivial) (Or.inl ⟨by rfl, fun w_ hS_ => ?hy2⟩) (listed' := #[true, false, false, false, false, false, false, false, false]) (by kernel_rfl) ?rest2
          case hy2 => (go_simp; try rfl)
          case' rest2 => try simp only [Act.put, List.setIfInBounds_toArray, List.set_cons_zero, List.set_cons_succ]
          refine wpL_take 1 (C := fun _ => True) (v := ?v3) rfl (by kernel_rfl) (by kernel_rfl) (by kernel_rfl) (by kernel_rfl) (fun _ _ _ h => h) (.inl fun _ => trivial) (Or.inl ⟨by rfl, fun w_ hS_ => ?hy3⟩) (listed' := #[true, true, false, false, false, false, false, false, false]) (by kernel_rfl) ?rest3
          case hy3 => (go_simp; try rfl)
          case' rest3 => try simp only [Act.put, List.setIfInBounds_toArray, List.set_cons_zero, List.set_cons_succ]
          refine wpL_take 2 (C := fun _ => True) (v := ?v4) rfl (by kernel_rfl) (by kernel_rfl) (by kernel_rfl) (by kernel_rfl) (fun _ _ _ h => h) (.inl fun _ => trivial) (Or.inl ⟨by rfl, fun w_ hS_ => ?hy4⟩) (listed' := #[true, true, true, false, false, false, false, false, false]) (by kernel_rfl) ?rest4
          case hy4 => (go_simp; try rfl)
          case' rest4 => try simp only [Act.put, List.setIfInBounds_toArray, List.set_cons_zero, List.set_cons_succ]
          refine wpL_take 3 (C := (fun w' => w' = wr.drew)) (v := ?v5) rfl (by kernel_rfl) (by kernel_rfl) (by kernel_rfl) (by kernel_rfl) (fun _ _ _ h => h) (.inr (.head _)) (Or.inl ⟨by rfl, fun w_ hS_ => ?hy5⟩) (listed' := #[true, true, true, true, false, false, false, false, false]) (by kernel_rfl) ?rest5
          case hy5 => (subst hS_; first | (first | (refine Eq.trans (run_ne (cs := (encA x).toArray) (ds := (encA y).toArray) (b := decide (x = y)) rfl rfl rfl noGuardA (eqA x y _)) ?_; first | (rw [Hb.out]; done) | (rw [Hb.out]; rfl)) | (refine Eq.trans (run_loadAd (vs := encA x) (ad := ba.add (k * 4)) rfl rfl rfl Hcx.out) ?_; rfl) | (refine Eq.trans (run_loadAd (vs := encA y) (ad := bb.add (k * 4)) rfl rfl rfl Hcy.out) ?_; rfl)) | (go_simp; try rfl))
          case' rest5 => try simp only [Act.put, List.setIfInBounds_toArray, List.set_cons_zero, List.set_cons_succ]
          refine wpL_take 4 (C := fun _ => True) (v := ?v6) rfl (by kernel_rfl) (by kernel_rfl) (by kernel_rfl) (by kernel_rfl) (fun _ _ _ h => h) (.inl fun _ => trivial) (Or.inl ⟨by rfl, fun w_ hS_ => ?hy6⟩) (listed' := #[true, true, true, true, true, false, false, false, false]) (by kernel_rfl) ?rest6
          case hy6 => (go_simp; try rfl)
          case' rest6 => try simp only [Act.put, List.setIfInBounds_toArray, List.set_cons_zero, List.set_cons_succ]
          refine wpL_take 5 (C := fun _ => True) (v := ?v7) rfl (by kernel_rfl) (by kernel_rfl) (by kernel_rfl) (by kernel_rfl) (fun _ _ _ h => h) (.inl fun _ => trivial) (Or.inl ⟨by rfl, fun w_ hS_ => ?hy7⟩) (listed' := #[true, true, true, true, true, true, false, false, false]) (by kernel_rfl) ?rest7
          case hy7 => (go_simp; try rfl)
          case' rest7 => try simp only [Act.put, List.setIfInBounds_toArray, List.set_cons_zero, List.set_cons_succ]
          refine wpL_take 6 (C := fun _ => True) (v := ?v8) rfl (by kernel_rfl) (by kernel_rfl) (by kernel_rfl) (by kernel_rfl) (fun _ _ _ h => h) (.inl fun _ => trivial) (Or.inl ⟨by rfl, fun w_ hS_ => ?hy8⟩) (listed' := #[true, true, true, true, true, true, true, false, false]) (by kernel_rfl) ?rest8
          case hy8 => (go_simp; try rfl)
          case' rest8 => try simp only [Act.put, List.setIfInBounds_toArray, List.set_cons_zero, List.set_cons_succ]
          refine wpL_take 7 (C := (fun w' => w' = wr.drew)) (v := ?v9) rfl (by kernel_rfl) (by kernel_rfl) (by kernel_rfl) (by kernel_rfl) (fun _ _ _ h => h) (.inr (.tail _ (.head _))) (Or.inl ⟨by rfl, fun w_ hS_ => ?hy9⟩) (listed' := #[true, true, true, true, true, true, true, true, false]) (by kernel_rfl) ?rest9
          case hy9 => (subst hS_; first | (first | (refine Eq.trans (run_ne (cs := (encA x).toArray) (ds := (encA y).toArray) (b := decide (x = y)) rfl rfl rfl noGuardA (eqA x y _)) ?_; first | (rw [Hb.out]; done) | (rw [Hb.out]; rfl)) | (refine Eq.trans (run_loadAd (vs := encA x) (ad := ba.add (k * 4)) rfl rfl rfl Hcx.out) ?_; rfl) | (refine Eq.trans (run_loadAd (vs := encA y) (ad := bb.add (k * 4)) rfl rfl rfl Hcy.out) ?_; rfl)) | (go_simp; try rfl))
          case' rest9 => try simp only [Act.put, List.setIfInBounds_toArray, List.set_cons_zero, List.set_cons_succ]
          refine wpL_take 8 (C := fun _ => True) (v := ?v10) rfl (by kernel_rfl) (by kernel_rfl) (by kernel_rfl) (by kernel_rfl) (fun _ _ _ h => h) (.inl fun _ => trivial) (Or.inl ⟨by rfl, fun w_ hS_ => ?hy10⟩) (listed' := #[true, true, true, true, true, true, true, true, true]) (by kernel_rfl) ?rest10
          case hy10 => (first | (first | (refine Eq.trans (run_ne (cs := (encA x).toArray) (ds := (encA y).toArray) (b := decide (x = y)) rfl rfl rfl noGuardA (eqA x y _)) ?_; first | (rw [Hb.out]; done) | (rw [Hb.out]; rfl)) | (refine Eq.trans (run_loadAd (vs := encA x) (ad := ba.add (k * 4)) rfl rfl rfl Hcx.out) ?_; rfl) | (refine Eq.trans (run_loadAd (vs := encA y) (ad := bb.add (k * 4)) rfl rfl rfl Hcy.out) ?_; rfl)) | (go_simp; try rfl))
          case' rest10 => try simp only [Act.put, List.setIfInBounds_toArray, List.set_cons_zero, List.set_cons_succ]
          refine wpL_done (by kernel_rfl) ?_ _
          go_wp2
          go_roundw
          case rel => exact ⟨k + 1, by omega, by go_num, by rw [List.take_add_one, List.take_add_one, Heq.out, Hx.out, Hy.out, Hxy.out], HD.out.drew⟩
          case measure => simp [intOf]; omega
        · have Hb : Hid ((!decide (x = y)) = true) := Sep.hid (by simp [hxy])
          have hd : decide (l = m) = false := by
            simp only [decide_eq_false_iff_not]
            rintro rfl
            have := Hx.out.symm.trans Hy.out
            simp at this
            exact hxy this
          have Hd := Sep.hid hd; clear hd
          clear hxy
          go_wp2_with fail
          refine wp_region_L [] [(3, (fun w' => w' = wr.drew)), (7, (fun w' => w' = wr.drew))] (n := 9) (listed := #[false, false, false, false, false, false, false, false, false]) (by kernel_rfl) rfl rfl ?conds11 ?_
          case conds11 =>
           intro c hc
           simp only [List.mem_cons, List.not_mem_nil, or_false] at hc
           rcases hc with rfl | rfl
           · rfl
           · rfl
          replace hw := hw.drew
          refine wpL_take 0 (C := fun _ => True) (v := ?v12) rfl (by kernel_rfl) (by kernel_rfl) (by kernel_rfl) (by kernel_rfl) (fun _ _ _ h => h) (.inl fun _ => trivial) (Or.inl ⟨by rfl, fun w_ hS_ => ?hy12⟩) (listed' := #[true, false, false, false, false, false, false, false, false]) (by kernel_rfl) ?rest12
          case hy12 => (go_simp; try rfl)
          case' rest12 => try simp only [Act.put, List.setIfInBounds_toArray, List.set_cons_zero, List.set_cons_succ]
          refine wpL_take 1 (C := fun _ => True) (v := ?v13) rfl (by kernel_rfl) (by kernel_rfl) (by kernel_rfl) (by kernel_rfl) (fun _ _ _ h => h) (.inl fun _ => trivial) (Or.inl ⟨by rfl, fun w_ hS_ => ?hy13⟩) (listed' := #[true, true, false, false, false, false, false, false, false]) (by kernel_rfl) ?rest13
          case hy13 => (go_simp; try rfl)
          case' rest13 => try simp only [Act.put, List.setIfInBounds_toArray, List.set_cons_zero, List.set_cons_succ]
          refine wpL_take 2 (C := fun _ => True) (v := ?v14) rfl (by kernel_rfl) (by kernel_rfl) (by kernel_rfl) (by kernel_rfl) (fun _ _ _ h => h) (.inl fun _ => trivial) (Or.inl ⟨by rfl, fun w_ hS_ => ?hy14⟩) (listed' := #[true, true, true, false, false, false, false, false, false]) (by kernel_rfl) ?rest14
          case hy14 => (go_simp; try rfl)
          case' rest14 => try simp only [Act.put, List.setIfInBounds_toArray, List.set_cons_zero, List.set_cons_succ]
          refine wpL_take 3 (C := (fun w' => w' = wr.drew)) (v := ?v15) rfl (by kernel_rfl) (by kernel_rfl) (by kernel_rfl) (by kernel_rfl) (fun _ _ _ h => h) (.inr (.head _)) (Or.inl ⟨by rfl, fun w_ hS_ => ?hy15⟩) (listed' := #[true, true, true, true, false, false, false, false, false]) (by kernel_rfl) ?rest15
          case hy15 => (subst hS_; first | (first | (refine Eq.trans (run_ne (cs := (encA x).toArray) (ds := (encA y).toArray) (b := decide (x = y)) rfl rfl rfl noGuardA (eqA x y _)) ?_; first | (rw [Hb.out]; done) | (rw [Hb.out]; rfl)) | (refine Eq.trans (run_loadAd (vs := encA x) (ad := ba.add (k * 4)) rfl rfl rfl Hcx.out) ?_; rfl) | (refine Eq.trans (run_loadAd (vs := encA y) (ad := bb.add (k * 4)) rfl rfl rfl Hcy.out) ?_; rfl)) | (go_simp; try rfl))
          case' rest15 => try simp only [Act.put, List.setIfInBounds_toArray, List.set_cons_zero, List.set_cons_succ]
          refine wpL_take 4 (C := fun _ => True) (v := ?v16) rfl (by kernel_rfl) (by kernel_rfl) (by kernel_rfl) (by kernel_rfl) (fun _ _ _ h => h) (.inl fun _ => trivial) (Or.inl ⟨by rfl, fun w_ hS_ => ?hy16⟩) (listed' := #[true, true, true, true, true, false, false, false, false]) (by kernel_rfl) ?rest16
          case hy16 => (go_simp; try rfl)
          case' rest16 => try simp only [Act.put, List.setIfInBounds_toArray, List.set_cons_zero, List.set_cons_succ]
          refine wpL_take 5 (C := fun _ => True) (v := ?v17) rfl (by kernel_rfl) (by kernel_rfl) (by kernel_rfl) (by kernel_rfl) (fun _ _ _ h => h) (.inl fun _ => trivial) (Or.inl ⟨by rfl, fun w_ hS_ => ?hy17⟩) (listed' := #[true, true, true, true, true, true, false, false, false]) (by kernel_rfl) ?rest17
          case hy17 => (go_simp; try rfl)
          case' rest17 => try simp only [Act.put, List.setIfInBounds_toArray, List.set_cons_zero, List.set_cons_succ]
          refine wpL_take 6 (C := fun _ => True) (v := ?v18) rfl (by kernel_rfl) (by kernel_rfl) (by kernel_rfl) (by kernel_rfl) (fun _ _ _ h => h) (.inl fun _ => trivial) (Or.inl ⟨by rfl, fun w_ hS_ => ?hy18⟩) (listed' := #[true, true, true, true, true, true, true, false, false]) (by kernel_rfl) ?rest18
          case hy18 => (go_simp; try rfl)
          case' rest18 => try simp only [Act.put, List.setIfInBounds_toArray, List.set_cons_zero, List.set_cons_succ]
          refine wpL_take 7 (C := (fun w' => w' = wr.drew)) (v := ?v19) rfl (by kernel_rfl) (by kernel_rfl) (by kernel_rfl) (by kernel_rfl) (fun _ _ _ h => h) (.inr (.tail _ (.head _))) (Or.inl ⟨by rfl, fun w_ hS_ => ?hy19⟩) (listed' := #[true, true, true, true, true, true, true, true, false]) (by kernel_rfl) ?rest19
          case hy19 => (subst hS_; first | (first | (refine Eq.trans (run_ne (cs := (encA x).toArray) (ds := (encA y).toArray) (b := decide (x = y)) rfl rfl rfl noGuardA (eqA x y _)) ?_; first | (rw [Hb.out]; done) | (rw [Hb.out]; rfl)) | (refine Eq.trans (run_loadAd (vs := encA x) (ad := ba.add (k * 4)) rfl rfl rfl Hcx.out) ?_; rfl) | (refine Eq.trans (run_loadAd (vs := encA y) (ad := bb.add (k * 4)) rfl rfl rfl Hcy.out) ?_; rfl)) | (go_simp; try rfl))
          case' rest19 => try simp only [Act.put, List.setIfInBounds_toArray, List.set_cons_zero, List.set_cons_succ]
          refine wpL_take 8 (C := fun _ => True) (v := ?v20) rfl (by kernel_rfl) (by kernel_rfl) (by kernel_rfl) (by kernel_rfl) (fun _ _ _ h => h) (.inl fun _ => trivial) (Or.inl ⟨by rfl, fun w_ hS_ => ?hy20⟩) (listed' := #[true, true, true, true, true, true, true, true, true]) (by kernel_rfl) ?rest20
          case hy20 => (first | (first | (refine Eq.trans (run_ne (cs := (encA x).toArray) (ds := (encA y).toArray) (b := decide (x = y)) rfl rfl rfl noGuardA (eqA x y _)) ?_; first | (rw [Hb.out]; done) | (rw [Hb.out]; rfl)) | (refine Eq.trans (run_loadAd (vs := encA x) (ad := ba.add (k * 4)) rfl rfl rfl Hcx.out) ?_; rfl) | (refine Eq.trans (run_loadAd (vs := encA y) (ad := bb.add (k * 4)) rfl rfl rfl Hcy.out) ?_; rfl)) | (go_simp; try rfl))
          case' rest20 => try simp only [Act.put, List.setIfInBounds_toArray, List.set_cons_zero, List.set_cons_succ]
          refine wpL_done (by kernel_rfl) ?_ _
          go_wp2
          exact HP.out _ _ ⟨by rw [Hd.out]; rfl, HD.out.drew⟩
      · have hke : k = n1 := by omega
        have hd : decide (l = m) = true := by
          simp only [decide_eq_true_eq]
          have h := Heq.out
          rw [hke, List.take_of_length_le (by rw [← H1.out]; omega), List.take_of_length_le (by rw [← H2.out]; omega)] at h
          exact h
        have Hd := Sep.hid hd; clear hd hke
        go_wp2
        exact HP.out _ _ ⟨by rw [Hd.out]; rfl, HD.out⟩
  · have hne : ((n1 : Int) != (n2 : Int)) = true := by simp; omega
    have hd : decide (l = m) = false := by simp only [decide_eq_false_iff_not]; rintro rfl; exact hlen (h1.trans h2.symm)
    have Hd := Sep.hid hd; clear hd hlen h1 h2
    refine Sep.calls_post ?_
    intro Post_ hPost_
    have HP := Sep.hid hPost_
    clear hPost_
    go_enter Tryd.func19, Tryd.ntmps19
    go_wp2
    exact HP.out _ _ ⟨by rw [Hd.out]; rfl, Drew.refl _⟩
set_option maxHeartbeats 4000000 in
theorem equalA (a b : Option Addr) (l m : List Deed) (n1 n2 ca cb : Nat) (h1 : n1 = l.length) (h2 : n2 = m.length) (hL : n1 ≤ 1000000) (w : World) (ha : ReadsA w a l) (hb : ReadsA w b m) :
    Calls Tryd.prog 29 #[.slice a n1 ca, .slice b n2 cb] w fun en w' => en = .returned (.bool (decide (l = m))) ∧ Drew w w' := by
  have Ha := Sep.hid ha; have Hb := Sep.hid hb; clear ha hb
  by_cases hlen : n1 = n2
  · have hne : ((n1 : Int) != (n2 : Int)) = false := by simp [hlen]
    subst hlen
    have H1 := Sep.hid h1; have H2 := Sep.hid h2; clear h1 h2
    refine Sep.calls_post ?_
    intro Post_ hPost_
    have HP := Sep.hid hPost_
    clear hPost_
    go_enter Tryd.func29, Tryd.ntmps29
    go_wp2_with fail
    go_loopw [13] (fun i wr => ∃ k : Nat, k ≤ n1 ∧ i = .int .i64 k ∧ l.take k = m.take k ∧ Drew w wr) (fun i _ => n1 - (intOf i).toNat)
    case atStart => exact ⟨0, Nat.zero_le _, rfl, by simp, Drew.refl _⟩
    case round =>
      obtain ⟨k, hk, rfl, heq, hd⟩ := hrel
      have Heq := Sep.hid heq; clear heq
      have HD := Sep.hid hd; clear hd
      by_cases hlt : k < n1
      · obtain ⟨x, hx⟩ : ∃ x, l[k]? = some x := ⟨_, List.getElem?_eq_getElem (by rw [← H1.out]; exact hlt)⟩
        obtain ⟨y, hy⟩ : ∃ y, m[k]? = some y := ⟨_, List.getElem?_eq_getElem (by rw [← H2.out]; exact hlt)⟩
        obtain ⟨ba, rfl, gx⟩ := Ha.out k x hx
        obtain ⟨bb, rfl, gy⟩ := Hb.out k y hy
        have Hcx : Hid (∀ (j : Nat) (v : Value), (encA x)[j]? = some v → wr.drew.cell? ((ba.add (k * 4)).add j) = some v) := Sep.hid (fun j v hj => (HD.out.cell _).trans (gx j v hj))
        have Hcy : Hid (∀ (j : Nat) (v : Value), (encA y)[j]? = some v → wr.drew.cell? ((bb.add (k * 4)).add j) = some v) := Sep.hid (fun j v hj => (HD.out.cell _).trans (gy j v hj))
        clear gx gy
        have hw : Holds wr wr [] := ⟨Env.refl _, fun _ _ => none, by simp, by simp, by simp⟩
        have Hx := Sep.hid hx; clear hx
        have Hy := Sep.hid hy; clear hy
        by_cases hxy : x = y
        · have Hb : Hid ((!decide (x = y)) = false) := Sep.hid (by simp [hxy])
          have Hxy := Sep.hid hxy; clear hxy
          go_wp2_with fail
          refine wp_region_L [] [(3, (fun w' => w' = wr.drew)), (7, (fun w' => w' = wr.drew))] (n := 9) (listed := #[false, false, false, false, false, false, false, false, false]) (by kernel_rfl) rfl rfl ?conds21 ?_
          case conds21 =>
           intro c hc
           simp only [List.mem_cons, List.not_mem_nil, or_false] at hc
           rcases hc with rfl | rfl
           · rfl
           · rfl
          replace hw := hw.drew
          refine wpL_take 0 (C := fun _ => True) (v := ?v22) rfl (by kernel_rfl) (by kernel_rfl) (by kernel_rfl) (by kernel_rfl) (fun _ _ _ h => h) (.inl fun _ => trivial) (Or.inl ⟨by rfl, fun w_ hS_ => ?hy22⟩) (listed' := #[true, false, false, false, false, false, false, false, false]) (by kernel_rfl) ?rest22
          case hy22 => (go_simp; try rfl)
          case' rest22 => try simp only [Act.put, List.setIfInBounds_toArray, List.set_cons_zero, List.set_cons_succ]
          refine wpL_take 1 (C := fun _ => True) (v := ?v23) rfl (by kernel_rfl) (by kernel_rfl) (by kernel_rfl) (by kernel_rfl) (fun _ _ _ h => h) (.inl fun _ => trivial) (Or.inl ⟨by rfl, fun w_ hS_ => ?hy23⟩) (listed' := #[true, true, false, false, false, false, false, false, false]) (by kernel_rfl) ?rest23
          case hy23 => (go_simp; try rfl)
          case' rest23 => try simp only [Act.put, List.setIfInBounds_toArray, List.set_cons_zero, List.set_cons_succ]
          refine wpL_take 2 (C := fun _ => True) (v := ?v24) rfl (by kernel_rfl) (by kernel_rfl) (by kernel_rfl) (by kernel_rfl) (fun _ _ _ h => h) (.inl fun _ => trivial) (Or.inl ⟨by rfl, fun w_ hS_ => ?hy24⟩) (listed' := #[true, true, true, false, false, false, false, false, false]) (by kernel_rfl) ?rest24
          case hy24 => (go_simp; try rfl)
          case' rest24 => try simp only [Act.put, List.setIfInBounds_toArray, List.set_cons_zero, List.set_cons_succ]
          refine wpL_take 3 (C := (fun w' => w' = wr.drew)) (v := ?v25) rfl (by kernel_rfl) (by kernel_rfl) (by kernel_rfl) (by kernel_rfl) (fun _ _ _ h => h) (.inr (.head _)) (Or.inl ⟨by rfl, fun w_ hS_ => ?hy25⟩) (listed' := #[true, true, true, true, false, false, false, false, false]) (by kernel_rfl) ?rest25
          case hy25 => (subst hS_; first | (first | (refine Eq.trans (run_ne (cs := (encA x).toArray) (ds := (encA y).toArray) (b := decide (x = y)) rfl rfl rfl noGuardB (eqB x y _)) ?_; first | (rw [Hb.out]; done) | (rw [Hb.out]; rfl)) | (refine Eq.trans (run_loadAd (vs := encA x) (ad := ba.add (k * 4)) rfl rfl rfl Hcx.out) ?_; rfl) | (refine Eq.trans (run_loadAd (vs := encA y) (ad := bb.add (k * 4)) rfl rfl rfl Hcy.out) ?_; rfl)) | (go_simp; try rfl))
          case' rest25 => try simp only [Act.put, List.setIfInBounds_toArray, List.set_cons_zero, List.set_cons_succ]
          refine wpL_take 4 (C := fun _ => True) (v := ?v26) rfl (by kernel_rfl) (by kernel_rfl) (by kernel_rfl) (by kernel_rfl) (fun _ _ _ h => h) (.inl fun _ => trivial) (Or.inl ⟨by rfl, fun w_ hS_ => ?hy26⟩) (listed' := #[true, true, true, true, true, false, false, false, false]) (by kernel_rfl) ?rest26
          case hy26 => (go_simp; try rfl)
          case' rest26 => try simp only [Act.put, List.setIfInBounds_toArray, List.set_cons_zero, List.set_cons_succ]
          refine wpL_take 5 (C := fun _ => True) (v := ?v27) rfl (by kernel_rfl) (by kernel_rfl) (by kernel_rfl) (by kernel_rfl) (fun _ _ _ h => h) (.inl fun _ => trivial) (Or.inl ⟨by rfl, fun w_ hS_ => ?hy27⟩) (listed' := #[true, true, true, true, true, true, false, false, false]) (by kernel_rfl) ?rest27
          case hy27 => (go_simp; try rfl)
          case' rest27 => try simp only [Act.put, List.setIfInBounds_toArray, List.set_cons_zero, List.set_cons_succ]
          refine wpL_take 6 (C := fun _ => True) (v := ?v28) rfl (by kernel_rfl) (by kernel_rfl) (by kernel_rfl) (by kernel_rfl) (fun _ _ _ h => h) (.inl fun _ => trivial) (Or.inl ⟨by rfl, fun w_ hS_ => ?hy28⟩) (listed' := #[true, true, true, true, true, true, true, false, false]) (by kernel_rfl) ?rest28
          case hy28 => (go_simp; try rfl)
          case' rest28 => try simp only [Act.put, List.setIfInBounds_toArray, List.set_cons_zero, List.set_cons_succ]
          refine wpL_take 7 (C := (fun w' => w' = wr.drew)) (v := ?v29) rfl (by kernel_rfl) (by kernel_rfl) (by kernel_rfl) (by kernel_rfl) (fun _ _ _ h => h) (.inr (.tail _ (.head _))) (Or.inl ⟨by rfl, fun w_ hS_ => ?hy29⟩) (listed' := #[true, true, true, true, true, true, true, true, false]) (by kernel_rfl) ?rest29
          case hy29 => (subst hS_; first | (first | (refine Eq.trans (run_ne (cs := (encA x).toArray) (ds := (encA y).toArray) (b := decide (x = y)) rfl rfl rfl noGuardB (eqB x y _)) ?_; first | (rw [Hb.out]; done) | (rw [Hb.out]; rfl)) | (refine Eq.trans (run_loadAd (vs := encA x) (ad := ba.add (k * 4)) rfl rfl rfl Hcx.out) ?_; rfl) | (refine Eq.trans (run_loadAd (vs := encA y) (ad := bb.add (k * 4)) rfl rfl rfl Hcy.out) ?_; rfl)) | (go_simp; try rfl))
          case' rest29 => try simp only [Act.put, List.setIfInBounds_toArray, List.set_cons_zero, List.set_cons_succ]
          refine wpL_take 8 (C := fun _ => True) (v := ?v30) rfl (by kernel_rfl) (by kernel_rfl) (by kernel_rfl) (by kernel_rfl) (fun _ _ _ h => h) (.inl fun _ => trivial) (Or.inl ⟨by rfl, fun w_ hS_ => ?hy30⟩) (listed' := #[true, true, true, true, true, true, true, true, true]) (by kernel_rfl) ?rest30
          case hy30 => (first | (first | (refine Eq.trans (run_ne (cs := (encA x).toArray) (ds := (encA y).toArray) (b := decide (x = y)) rfl rfl rfl noGuardB (eqB x y _)) ?_; first | (rw [Hb.out]; done) | (rw [Hb.out]; rfl)) | (refine Eq.trans (run_loadAd (vs := encA x) (ad := ba.add (k * 4)) rfl rfl rfl Hcx.out) ?_; rfl) | (refine Eq.trans (run_loadAd (vs := encA y) (ad := bb.add (k * 4)) rfl rfl rfl Hcy.out) ?_; rfl)) | (go_simp; try rfl))
          case' rest30 => try simp only [Act.put, List.setIfInBounds_toArray, List.set_cons_zero, List.set_cons_succ]
          refine wpL_done (by kernel_rfl) ?_ _
          go_wp2
          go_roundw
          case rel => exact ⟨k + 1, by omega, by go_num, by rw [List.take_add_one, List.take_add_one, Heq.out, Hx.out, Hy.out, Hxy.out], HD.out.drew⟩
          case measure => simp [intOf]; omega
        · have Hb : Hid ((!decide (x = y)) = true) := Sep.hid (by simp [hxy])
          have hd : decide (l = m) = false := by
            simp only [decide_eq_false_iff_not]
            rintro rfl
            have := Hx.out.symm.trans Hy.out
            simp at this
            exact hxy this
          have Hd := Sep.hid hd; clear hd
          clear hxy
          go_wp2_with fail
          refine wp_region_L [] [(3, (fun w' => w' = wr.drew)), (7, (fun w' => w' = wr.drew))] (n := 9) (listed := #[false, false, false, false, false, false, false, false, false]) (by kernel_rfl) rfl rfl ?conds31 ?_
          case conds31 =>
           intro c hc
           simp only [List.mem_cons, List.not_mem_nil, or_false] at hc
           rcases hc with rfl | rfl
           · rfl
           · rfl
          replace hw := hw.drew
          refine wpL_take 0 (C := fun _ => True) (v := ?v32) rfl (by kernel_rfl) (by kernel_rfl) (by kernel_rfl) (by kernel_rfl) (fun _ _ _ h => h) (.inl fun _ => trivial) (Or.inl ⟨by rfl, fun w_ hS_ => ?hy32⟩) (listed' := #[true, false, false, false, false, false, false, false, false]) (by kernel_rfl) ?rest32
          case hy32 => (go_simp; try rfl)
          case' rest32 => try simp only [Act.put, List.setIfInBounds_toArray, List.set_cons_zero, List.set_cons_succ]
          refine wpL_take 1 (C := fun _ => True) (v := ?v33) rfl (by kernel_rfl) (by kernel_rfl) (by kernel_rfl) (by kernel_rfl) (fun _ _ _ h => h) (.inl fun _ => trivial) (Or.inl ⟨by rfl, fun w_ hS_ => ?hy33⟩) (listed' := #[true, true, false, false, false, false, false, false, false]) (by kernel_rfl) ?rest33
          case hy33 => (go_simp; try rfl)
          case' rest33 => try simp only [Act.put, List.setIfInBounds_toArray, List.set_cons_zero, List.set_cons_succ]
          refine wpL_take 2 (C := fun _ => True) (v := ?v34) rfl (by kernel_rfl) (by kernel_rfl) (by kernel_rfl) (by kernel_rfl) (fun _ _ _ h => h) (.inl fun _ => trivial) (Or.inl ⟨by rfl, fun w_ hS_ => ?hy34⟩) (listed' := #[true, true, true, false, false, false, false, false, false]) (by kernel_rfl) ?rest34
          case hy34 => (go_simp; try rfl)
          case' rest34 => try simp only [Act.put, List.setIfInBounds_toArray, List.set_cons_zero, List.set_cons_succ]
          refine wpL_take 3 (C := (fun w' => w' = wr.drew)) (v := ?v35) rfl (by kernel_rfl) (by kernel_rfl) (by kernel_rfl) (by kernel_rfl) (fun _ _ _ h => h) (.inr (.head _)) (Or.inl ⟨by rfl, fun w_ hS_ => ?hy35⟩) (listed' := #[true, true, true, true, false, false, false, false, false]) (by kernel_rfl) ?rest35
          case hy35 => (subst hS_; first | (first | (refine Eq.trans (run_ne (cs := (encA x).toArray) (ds := (encA y).toArray) (b := decide (x = y)) rfl rfl rfl noGuardB (eqB x y _)) ?_; first | (rw [Hb.out]; done) | (rw [Hb.out]; rfl)) | (refine Eq.trans (run_loadAd (vs := encA x) (ad := ba.add (k * 4)) rfl rfl rfl Hcx.out) ?_; rfl) | (refine Eq.trans (run_loadAd (vs := encA y) (ad := bb.add (k * 4)) rfl rfl rfl Hcy.out) ?_; rfl)) | (go_simp; try rfl))
          case' rest35 => try simp only [Act.put, List.setIfInBounds_toArray, List.set_cons_zero, List.set_cons_succ]
          refine wpL_take 4 (C := fun _ => True) (v := ?v36) rfl (by kernel_rfl) (by kernel_rfl) (by kernel_rfl) (by kernel_rfl) (fun _ _ _ h => h) (.inl fun _ => trivial) (Or.inl ⟨by rfl, fun w_ hS_ => ?hy36⟩) (listed' := #[true, true, true, true, true, false, false, false, false]) (by kernel_rfl) ?rest36
          case hy36 => (go_simp; try rfl)
          case' rest36 => try simp only [Act.put, List.setIfInBounds_toArray, List.set_cons_zero, List.set_cons_succ]
          refine wpL_take 5 (C := fun _ => True) (v := ?v37) rfl (by kernel_rfl) (by kernel_rfl) (by kernel_rfl) (by kernel_rfl) (fun _ _ _ h => h) (.inl fun _ => trivial) (Or.inl ⟨by rfl, fun w_ hS_ => ?hy37⟩) (listed' := #[true, true, true, true, true, true, false, false, false]) (by kernel_rfl) ?rest37
          case hy37 => (go_simp; try rfl)
          case' rest37 => try simp only [Act.put, List.setIfInBounds_toArray, List.set_cons_zero, List.set_cons_succ]
          refine wpL_take 6 (C := fun _ => True) (v := ?v38) rfl (by kernel_rfl) (by kernel_rfl) (by kernel_rfl) (by kernel_rfl) (fun _ _ _ h => h) (.inl fun _ => trivial) (Or.inl ⟨by rfl, fun w_ hS_ => ?hy38⟩) (listed' := #[true, true, true, true, true, true, true, false, false]) (by kernel_rfl) ?rest38
          case hy38 => (go_simp; try rfl)
          case' rest38 => try simp only [Act.put, List.setIfInBounds_toArray, List.set_cons_zero, List.set_cons_succ]
          refine wpL_take 7 (C := (fun w' => w' = wr.drew)) (v := ?v39) rfl (by kernel_rfl) (by kernel_rfl) (by kernel_rfl) (by kernel_rfl) (fun _ _ _ h => h) (.inr (.tail _ (.head _))) (Or.inl ⟨by rfl, fun w_ hS_ => ?hy39⟩) (listed' := #[true, true, true, true, true, true, true, true, false]) (by kernel_rfl) ?rest39
          case hy39 => (subst hS_; first | (first | (refine Eq.trans (run_ne (cs := (encA x).toArray) (ds := (encA y).toArray) (b := decide (x = y)) rfl rfl rfl noGuardB (eqB x y _)) ?_; first | (rw [Hb.out]; done) | (rw [Hb.out]; rfl)) | (refine Eq.trans (run_loadAd (vs := encA x) (ad := ba.add (k * 4)) rfl rfl rfl Hcx.out) ?_; rfl) | (refine Eq.trans (run_loadAd (vs := encA y) (ad := bb.add (k * 4)) rfl rfl rfl Hcy.out) ?_; rfl)) | (go_simp; try rfl))
          case' rest39 => try simp only [Act.put, List.setIfInBounds_toArray, List.set_cons_zero, List.set_cons_succ]
          refine wpL_take 8 (C := fun _ => True) (v := ?v40) rfl (by kernel_rfl) (by kernel_rfl) (by kernel_rfl) (by kernel_rfl) (fun _ _ _ h => h) (.inl fun _ => trivial) (Or.inl ⟨by rfl, fun w_ hS_ => ?hy40⟩) (listed' := #[true, true, true, true, true, true, true, true, true]) (by kernel_rfl) ?rest40
          case hy40 => (first | (first | (refine Eq.trans (run_ne (cs := (encA x).toArray) (ds := (encA y).toArray) (b := decide (x = y)) rfl rfl rfl noGuardB (eqB x y _)) ?_; first | (rw [Hb.out]; done) | (rw [Hb.out]; rfl)) | (refine Eq.trans (run_loadAd (vs := encA x) (ad := ba.add (k * 4)) rfl rfl rfl Hcx.out) ?_; rfl) | (refine Eq.trans (run_loadAd (vs := encA y) (ad := bb.add (k * 4)) rfl rfl rfl Hcy.out) ?_; rfl)) | (go_simp; try rfl))
          case' rest40 => try simp only [Act.put, List.setIfInBounds_toArray, List.set_cons_zero, List.set_cons_succ]
          refine wpL_done (by kernel_rfl) ?_ _
          go_wp2
          exact HP.out _ _ ⟨by rw [Hd.out]; rfl, HD.out.drew⟩
      · have hke : k = n1 := by omega
        have hd : decide (l = m) = true := by
          simp only [decide_eq_true_eq]
          have h := Heq.out
          rw [hke, List.take_of_length_le (by rw [← H1.out]; omega), List.take_of_length_le (by rw [← H2.out]; omega)] at h
          exact h
        have Hd := Sep.hid hd; clear hd hke
        go_wp2
        exact HP.out _ _ ⟨by rw [Hd.out]; rfl, HD.out⟩
  · have hne : ((n1 : Int) != (n2 : Int)) = true := by simp; omega
    have hd : decide (l = m) = false := by simp only [decide_eq_false_iff_not]; rintro rfl; exact hlen (h1.trans h2.symm)
    have Hd := Sep.hid hd; clear hd hlen h1 h2
    refine Sep.calls_post ?_
    intro Post_ hPost_
    have HP := Sep.hid hPost_
    clear hPost_
    go_enter Tryd.func29, Tryd.ntmps29
    go_wp2
    exact HP.out _ _ ⟨by rw [Hd.out]; rfl, Drew.refl _⟩
set_option maxHeartbeats 400000 in
theorem oSame (a b : Option Addr) (l m : List Deed) (n1 n2 ca cb : Nat) (h1 : n1 = l.length) (h2 : n2 = m.length) (hL : n1 ≤ 1000000) (w : World) (ha : ReadsA w a l) (hb : ReadsA w b m) :
    Calls Tryd.prog 20 #[.slice a n1 ca, .slice b n2 cb] w fun en w' => en = .returned (.bool (decide (l = m))) ∧ Drew w w' := by
  have H := Sep.hid (equalA a b l m n1 n2 ca cb h1 h2 hL w ha hb)
  clear h1 h2 ha hb
  refine Sep.calls_post ?_
  intro Post_ hPost_
  have HP := Sep.hid hPost_
  clear hPost_
  go_enter Tryd.func20, Tryd.ntmps20
  go_wp2_with fail
  refine H.out.mono ?_
  rintro _ w_ ⟨rfl, hd⟩
  go_wp2_with fail
  exact HP.out _ _ ⟨rfl, hd⟩
end Go.Proofs.YtmokklkckecmdaaDoor
