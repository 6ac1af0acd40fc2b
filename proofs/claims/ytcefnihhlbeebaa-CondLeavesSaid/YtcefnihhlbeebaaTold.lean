/-
  Slices of who is told: own, Same, Waiting.
-/
import Derived.Test.YtcefnihhlbeebaaCondW
import Derived.Test.YtcefnihhlbeebaaSepRead
import Derived.Test.YtcefnihhlbeebaaSepEq
import Derived.Test.YtcefnihhlbeebaaRegionS
namespace Go.Proofs.Ytcefnihhlbeebaa
set_option linter.unusedSimpArgs false
set_option linter.unusedVariables false
open Go.RowKit Go.Sep Go.RingM

theorem noGuardR : Try.prog.eqGuardType Try.prog.depth 40 = false := by kernel_rfl
set_option maxHeartbeats 400000 in
theorem eqR (s t : Told) (w : World) : (binOp .eql 40 (.agg (encX s).toArray) (.agg (encX t).toArray)).run Try.prog w = .ok (.bool (decide (s = t))) w := by
  have h : decide (s = t) = (decide (s.1 = t.1) && decide (s.2 = t.2)) := by
    rw [Bool.eq_iff_iff]; simp [Prod.ext_iff]
  rw [h]
  unfold encX
  go_simp
  exact ifokV ifokV1
theorem cells_of {w : World} {b off : Nat} {x : Told} (h0 : w.cell? ⟨b, off, none⟩ = some (.int .i64 x.1)) (h1 : w.cell? ⟨b, off + 1, none⟩ = some (.int .i64 x.2)) : ∀ (j : Nat) (v : Value), (encX x)[j]? = some v → w.cell? ⟨b, off + j, none⟩ = some v := by
  intro j v hj
  match j, hj with
  | 0, hj => simp [encX] at hj; subst hj; exact h0
  | 1, hj => simp [encX] at hj; subst hj; exact h1
  | j + 2, hj => simp [encX] at hj
set_option maxHeartbeats 1000000 in
theorem sameT (a b : Option Addr) (l m : List Told) (n1 n2 ca cb : Nat) (h1 : n1 = l.length) (h2 : n2 = m.length) (hL : n1 ≤ 1000000) (w : World) (ha : ReadsT w a l) (hb : ReadsT w b m) :
    Calls Try.prog 13 #[.slice a n1 ca, .slice b n2 cb] w fun en w' => en = .returned (.bool (decide (l = m))) ∧ Drew w w' := by
  have Ha := Sep.hid ha; have Hb := Sep.hid hb; clear ha hb
  by_cases hlen : n1 = n2
  · have hne : ((n1 : Int) != (n2 : Int)) = false := by simp [hlen]
    subst hlen
    have H1 := Sep.hid h1; have H2 := Sep.hid h2; clear h1 h2
    refine Sep.calls_post ?_
    intro Post_ hPost_
    have HP := Sep.hid hPost_
    clear hPost_
    go_enter Try.func13, Try.ntmps13
    go_wp2_with fail
    go_loopw [5] (fun i wr => ∃ k : Nat, k ≤ n1 ∧ i = .int .i64 k ∧ l.take k = m.take k ∧ Drew w wr) (fun i _ => n1 - (intOf i).toNat)
    case atStart => exact ⟨0, Nat.zero_le _, rfl, by simp, Drew.refl _⟩
    case round =>
      obtain ⟨k, hk, rfl, heq, hd⟩ := hrel
      have Heq := Sep.hid heq; clear heq
      have HD := Sep.hid hd; clear hd
      by_cases hlt : k < n1
      · obtain ⟨x, hx⟩ : ∃ x, l[k]? = some x := ⟨_, List.getElem?_eq_getElem (by rw [← H1.out]; exact hlt)⟩
        obtain ⟨y, hy⟩ : ∃ y, m[k]? = some y := ⟨_, List.getElem?_eq_getElem (by rw [← H2.out]; exact hlt)⟩
        obtain ⟨ba, off, rfl, gx, gx2⟩ := Ha.out k x hx
        obtain ⟨bb, off2, rfl, gy, gy2⟩ := Hb.out k y hy
        rw [← HD.out.cell] at gx gx2 gy gy2
        have Hcx : Hid (∀ (j : Nat) (v : Value), (encX x)[j]? = some v → wr.drew.cell? ⟨ba, off + k * 2 + j, none⟩ = some v) := Sep.hid (cells_of (w := wr.drew) gx gx2)
        have Hcy : Hid (∀ (j : Nat) (v : Value), (encX y)[j]? = some v → wr.drew.cell? ⟨bb, off2 + k * 2 + j, none⟩ = some v) := Sep.hid (cells_of (w := wr.drew) gy gy2)
        clear gx gx2 gy gy2
        have hw : Holds wr wr [] := ⟨Env.refl _, fun _ _ => none, by simp, by simp, by simp⟩
        have Hx := Sep.hid hx; clear hx
        have Hy := Sep.hid hy; clear hy
        by_cases hxy : x = y
        · have Hb : Hid ((!decide (x = y)) = false) := Sep.hid (by simp [hxy])
          have Hxy := Sep.hid hxy; clear hxy
          go_wp2_with fail
          refine wp_region_L [] [(3, (fun w' => w' = wr.drew)), (7, (fun w' => w' = wr.drew))] (n := 9) (listed := #[false, false, false, false, false, false, false, false, false]) (by kernel_rfl) rfl rfl ?conds1 ?_
          case conds1 =>
           intro c hc
           simp only [List.mem_cons, List.not_mem_nil, or_false] at hc
           rcases hc with rfl | rfl
           · rfl
           · rfl
          replace hw := hw.drew
          refine wpL_take 0 (C := fun _ => True) (v := ?v2) rfl (by kernel_rfl) (by kernel_rfl) (by kernel_rfl) (by kernel_rfl) (fun _ _ _ h => h) (.inl fun _ => trivial) (Or.inl ⟨by rfl, fun w_ hS_ => ?hy2⟩) (listed' := #[true, false, false, false, false, false, false, false, false]) (by kernel_rfl) ?rest2
          case hy2 => (go_simp; try rfl)
          case' rest2 => try simp only [Act.put, List.setIfInBounds_toArray, List.set_cons_zero, List.set_cons_succ]
          refine wpL_take 1 (C := fun _ => True) (v := ?v3) rfl (by kernel_rfl) (by kernel_rfl) (by kernel_rfl) (by kernel_rfl) (fun _ _ _ h => h) (.inl fun _ => trivial) (Or.inl ⟨by rfl, fun w_ hS_ => ?hy3⟩) (listed' := #[true, true, false, false, false, false, false, false, false]) (by kernel_rfl) ?rest3
          case hy3 => (go_simp; try rfl)
          case' rest3 => try simp only [Act.put, List.setIfInBounds_toArray, List.set_cons_zero, List.set_cons_succ]
          refine wpL_take 2 (C := fun _ => True) (v := ?v4) rfl (by kernel_rfl) (by kernel_rfl) (by kernel_rfl) (by kernel_rfl) (fun _ _ _ h => h) (.inl fun _ => trivial) (Or.inl ⟨by rfl, fun w_ hS_ => ?hy4⟩) (listed' := #[true, true, true, false, false, false, false, false, false]) (by kernel_rfl) ?rest4
          case hy4 => (go_simp; try rfl)
          case' rest4 => try simp only [Act.put, List.setIfInBounds_toArray, List.set_cons_zero, List.set_cons_succ]
          refine wpL_take 3 (C := (fun w' => w' = wr.drew)) (v := ?v5) rfl (by kernel_rfl) (by kernel_rfl) (by kernel_rfl) (by kernel_rfl) (fun _ _ _ h => h) (.inr (.head _)) (Or.inl ⟨by rfl, fun w_ hS_ => ?hy5⟩) (listed' := #[true, true, true, true, false, false, false, false, false]) (by kernel_rfl) ?rest5
          case hy5 => (subst hS_; first | (first | (refine Eq.trans (run_ne (cs := (encX x).toArray) (ds := (encX y).toArray) (b := decide (x = y)) rfl rfl rfl noGuardR (eqR x y _)) ?_; first | (rw [Hb.out]; done) | (rw [Hb.out]; rfl)) | (refine Eq.trans (run_loadRd (vs := encX x) (b := ba) rfl rfl rfl Hcx.out) ?_; rfl) | (refine Eq.trans (run_loadRd (vs := encX y) (b := bb) rfl rfl rfl Hcy.out) ?_; rfl)) | (go_simp; try rfl))
          case' rest5 => try simp only [Act.put, List.setIfInBounds_toArray, List.set_cons_zero, List.set_cons_succ]
          refine wpL_take 4 (C := fun _ => True) (v := ?v6) rfl (by kernel_rfl) (by kernel_rfl) (by kernel_rfl) (by kernel_rfl) (fun _ _ _ h => h) (.inl fun _ => trivial) (Or.inl ⟨by rfl, fun w_ hS_ => ?hy6⟩) (listed' := #[true, true, true, true, true, false, false, false, false]) (by kernel_rfl) ?rest6
          case hy6 => (go_simp; try rfl)
          case' rest6 => try simp only [Act.put, List.setIfInBounds_toArray, List.set_cons_zero, List.set_cons_succ]
          refine wpL_take 5 (C := fun _ => True) (v := ?v7) rfl (by kernel_rfl) (by kernel_rfl) (by kernel_rfl) (by kernel_rfl) (fun _ _ _ h => h) (.inl fun _ => trivial) (Or.inl ⟨by rfl, fun w_ hS_ => ?hy7⟩) (listed' := #[true, true, true, true, true, true, false, false, false]) (by kernel_rfl) ?rest7
          case hy7 => (go_simp; try rfl)
          case' rest7 => try simp only [Act.put, List.setIfInBounds_toArray, List.set_cons_zero, List.set_cons_succ]
          refine wpL_take 6 (C := fun _ => True) (v := ?v8) rfl (by kernel_rfl) (by kernel_rfl) (by kernel_rfl) (by kernel_rfl) (fun _ _ _ h => h) (.inl fun _ => trivial) (Or.inl ⟨by rfl, fun w_ hS_ => ?hy8⟩) (listed' := #[true, true, true, true, true, true, true, false, false]) (by kernel_rfl) ?rest8
          case hy8 => (go_simp; try rfl)
          case' rest8 => try simp only [Act.put, List.setIfInBounds_toArray, List.set_cons_zero, List.set_cons_succ]
          refine wpL_take 7 (C := (fun w' => w' = wr.drew)) (v := ?v9) rfl (by kernel_rfl) (by kernel_rfl) (by kernel_rfl) (by kernel_rfl) (fun _ _ _ h => h) (.inr (.tail _ (.head _))) (Or.inl ⟨by rfl, fun w_ hS_ => ?hy9⟩) (listed' := #[true, true, true, true, true, true, true, true, false]) (by kernel_rfl) ?rest9
          case hy9 => (subst hS_; first | (first | (refine Eq.trans (run_ne (cs := (encX x).toArray) (ds := (encX y).toArray) (b := decide (x = y)) rfl rfl rfl noGuardR (eqR x y _)) ?_; first | (rw [Hb.out]; done) | (rw [Hb.out]; rfl)) | (refine Eq.trans (run_loadRd (vs := encX x) (b := ba) rfl rfl rfl Hcx.out) ?_; rfl) | (refine Eq.trans (run_loadRd (vs := encX y) (b := bb) rfl rfl rfl Hcy.out) ?_; rfl)) | (go_simp; try rfl))
          case' rest9 => try simp only [Act.put, List.setIfInBounds_toArray, List.set_cons_zero, List.set_cons_succ]
          refine wpL_take 8 (C := fun _ => True) (v := ?v10) rfl (by kernel_rfl) (by kernel_rfl) (by kernel_rfl) (by kernel_rfl) (fun _ _ _ h => h) (.inl fun _ => trivial) (Or.inl ⟨by rfl, fun w_ hS_ => ?hy10⟩) (listed' := #[true, true, true, true, true, true, true, true, true]) (by kernel_rfl) ?rest10
          case hy10 => (first | (first | (refine Eq.trans (run_ne (cs := (encX x).toArray) (ds := (encX y).toArray) (b := decide (x = y)) rfl rfl rfl noGuardR (eqR x y _)) ?_; first | (rw [Hb.out]; done) | (rw [Hb.out]; rfl)) | (refine Eq.trans (run_loadRd (vs := encX x) (b := ba) rfl rfl rfl Hcx.out) ?_; rfl) | (refine Eq.trans (run_loadRd (vs := encX y) (b := bb) rfl rfl rfl Hcy.out) ?_; rfl)) | (go_simp; try rfl))
          case' rest10 => try simp only [Act.put, List.setIfInBounds_toArray, List.set_cons_zero, List.set_cons_succ]
          refine wpL_done (by kernel_rfl) ?_ _
          go_wp2
          go_roundw
          case rel => exact ⟨k + 1, by omega, by go_num, by rw [List.take_add_one, List.take_add_one, Heq.out, Hx.out, Hy.out, Hxy.out], HD.out.drew⟩
          case measure => simp [intOf]; omega
        · have Hb : Hid ((!decide (x = y)) = true) := Sep.hid (by simp [hxy])
          have hd : decide (l = m) = false := by
            simp only [decide_eq_false_iff_not]
            rintro rfl
            have := Hx.out.symm.trans Hy.out
            simp at this
            exact hxy this
          have Hd := Sep.hid hd; clear hd
          clear hxy
          go_wp2_with fail
          refine wp_region_L [] [(3, (fun w' => w' = wr.drew)), (7, (fun w' => w' = wr.drew))] (n := 9) (listed := #[false, false, false, false, false, false, false, false, false]) (by kernel_rfl) rfl rfl ?conds11 ?_
          case conds11 =>
           intro c hc
           simp only [List.mem_cons, List.not_mem_nil, or_false] at hc
           rcases hc with rfl | rfl
           · rfl
           · rfl
          replace hw := hw.drew
          refine wpL_take 0 (C := fun _ => True) (v := ?v12) rfl (by kernel_rfl) (by kernel_rfl) (by kernel_rfl) (by kernel_rfl) (fun _ _ _ h => h) (.inl fun _ => trivial) (Or.inl ⟨by rfl, fun w_ hS_ => ?hy12⟩) (listed' := #[true, false, false, false, false, false, false, false, false]) (by kernel_rfl) ?rest12
          case hy12 => (go_simp; try rfl)
          case' rest12 => try simp only [Act.put, List.setIfInBounds_toArray, List.set_cons_zero, List.set_cons_succ]
          refine wpL_take 1 (C := fun _ => True) (v := ?v13) rfl (by kernel_rfl) (by kernel_rfl) (by kernel_rfl) (by kernel_rfl) (fun _ _ _ h => h) (.inl fun _ => trivial) (Or.inl ⟨by rfl, fun w_ hS_ => ?hy13⟩) (listed' := #[true, true, false, false, false, false, false, false, false]) (by kernel_rfl) ?rest13
          case hy13 => (go_simp; try rfl)
          case' rest13 => try simp only [Act.put, List.setIfInBounds_toArray, List.set_cons_zero, List.set_cons_succ]
          refine wpL_take 2 (C := fun _ => True) (v := ?v14) rfl (by kernel_rfl) (by kernel_rfl) (by kernel_rfl) (by kernel_rfl) (fun _ _ _ h => h) (.inl fun _ => trivial) (Or.inl ⟨by rfl, fun w_ hS_ => ?hy14⟩) (listed' := #[true, true, true, false, false, false, false, false, false]) (by kernel_rfl) ?rest14
          case hy14 => (go_simp; try rfl)
          case' rest14 => try simp only [Act.put, List.setIfInBounds_toArray, List.set_cons_zero, List.set_cons_succ]
          refine wpL_take 3 (C := (fun w' => w' = wr.drew)) (v := ?v15) rfl (by kernel_rfl) (by kernel_rfl) (by kernel_rfl) (by kernel_rfl) (fun _ _ _ h => h) (.inr (.head _)) (Or.inl ⟨by rfl, fun w_ hS_ => ?hy15⟩) (listed' := #[true, true, true, true, false, false, false, false, false]) (by kernel_rfl) ?rest15
          case hy15 => (subst hS_; first | (first | (refine Eq.trans (run_ne (cs := (encX x).toArray) (ds := (encX y).toArray) (b := decide (x = y)) rfl rfl rfl noGuardR (eqR x y _)) ?_; first | (rw [Hb.out]; done) | (rw [Hb.out]; rfl)) | (refine Eq.trans (run_loadRd (vs := encX x) (b := ba) rfl rfl rfl Hcx.out) ?_; rfl) | (refine Eq.trans (run_loadRd (vs := encX y) (b := bb) rfl rfl rfl Hcy.out) ?_; rfl)) | (go_simp; try rfl))
          case' rest15 => try simp only [Act.put, List.setIfInBounds_toArray, List.set_cons_zero, List.set_cons_succ]
          refine wpL_take 4 (C := fun _ => True) (v := ?v16) rfl (by kernel_rfl) (by kernel_rfl) (by kernel_rfl) (by kernel_rfl) (fun _ _ _ h => h) (.inl fun _ => trivial) (Or.inl ⟨by rfl, fun w_ hS_ => ?hy16⟩) (listed' := #[true, true, true, true, true, false, false, false, false]) (by kernel_rfl) ?rest16
          case hy16 => (go_simp; try rfl)
          case' rest16 => try simp only [Act.put, List.setIfInBounds_toArray, List.set_cons_zero, List.set_cons_succ]
          refine wpL_take 5 (C := fun _ => True) (v := ?v17) rfl (by kernel_rfl) (by kernel_rfl) (by kernel_rfl) (by kernel_rfl) (fun _ _ _ h => h) (.inl fun _ => trivial) (Or.inl ⟨by rfl, fun w_ hS_ => ?hy17⟩) (listed' := #[true, true, true, true, true, true, false, false, false]) (by kernel_rfl) ?rest17
          case hy17 => (go_simp; try rfl)
          case' rest17 => try simp only [Act.put, List.setIfInBounds_toArray, List.set_cons_zero, List.set_cons_succ]
          refine wpL_take 6 (C := fun _ => True) (v := ?v18) rfl (by kernel_rfl) (by kernel_rfl) (by kernel_rfl) (by kernel_rfl) (fun _ _ _ h => h) (.inl fun _ => trivial) (Or.inl ⟨by rfl, fun w_ hS_ => ?hy18⟩) (listed' := #[true, true, true, true, true, true, true, false, false]) (by kernel_rfl) ?rest18
          case hy18 => (go_simp; try rfl)
          case' rest18 => try simp only [Act.put, List.setIfInBounds_toArray, List.set_cons_zero, List.set_cons_succ]
          refine wpL_take 7 (C := (fun w' => w' = wr.drew)) (v := ?v19) rfl (by kernel_rfl) (by kernel_rfl) (by kernel_rfl) (by kernel_rfl) (fun _ _ _ h => h) (.inr (.tail _ (.head _))) (Or.inl ⟨by rfl, fun w_ hS_ => ?hy19⟩) (listed' := #[true, true, true, true, true, true, true, true, false]) (by kernel_rfl) ?rest19
          case hy19 => (subst hS_; first | (first | (refine Eq.trans (run_ne (cs := (encX x).toArray) (ds := (encX y).toArray) (b := decide (x = y)) rfl rfl rfl noGuardR (eqR x y _)) ?_; first | (rw [Hb.out]; done) | (rw [Hb.out]; rfl)) | (refine Eq.trans (run_loadRd (vs := encX x) (b := ba) rfl rfl rfl Hcx.out) ?_; rfl) | (refine Eq.trans (run_loadRd (vs := encX y) (b := bb) rfl rfl rfl Hcy.out) ?_; rfl)) | (go_simp; try rfl))
          case' rest19 => try simp only [Act.put, List.setIfInBounds_toArray, List.set_cons_zero, List.set_cons_succ]
          refine wpL_take 8 (C := fun _ => True) (v := ?v20) rfl (by kernel_rfl) (by kernel_rfl) (by kernel_rfl) (by kernel_rfl) (fun _ _ _ h => h) (.inl fun _ => trivial) (Or.inl ⟨by rfl, fun w_ hS_ => ?hy20⟩) (listed' := #[true, true, true, true, true, true, true, true, true]) (by kernel_rfl) ?rest20
          case hy20 => (first | (first | (refine Eq.trans (run_ne (cs := (encX x).toArray) (ds := (encX y).toArray) (b := decide (x = y)) rfl rfl rfl noGuardR (eqR x y _)) ?_; first | (rw [Hb.out]; done) | (rw [Hb.out]; rfl)) | (refine Eq.trans (run_loadRd (vs := encX x) (b := ba) rfl rfl rfl Hcx.out) ?_; rfl) | (refine Eq.trans (run_loadRd (vs := encX y) (b := bb) rfl rfl rfl Hcy.out) ?_; rfl)) | (go_simp; try rfl))
          case' rest20 => try simp only [Act.put, List.setIfInBounds_toArray, List.set_cons_zero, List.set_cons_succ]
          refine wpL_done (by kernel_rfl) ?_ _
          go_wp2
          exact HP.out _ _ ⟨by rw [Hd.out]; rfl, HD.out.drew⟩
      · have hke : k = n1 := by omega
        have hd : decide (l = m) = true := by
          simp only [decide_eq_true_eq]
          have h := Heq.out
          rw [hke, List.take_of_length_le (by rw [← H1.out]; omega), List.take_of_length_le (by rw [← H2.out]; omega)] at h
          exact h
        have Hd := Sep.hid hd; clear hd hke
        go_wp2
        exact HP.out _ _ ⟨by rw [Hd.out]; rfl, HD.out⟩
  · have hne : ((n1 : Int) != (n2 : Int)) = true := by simp; omega
    have hd : decide (l = m) = false := by simp only [decide_eq_false_iff_not]; rintro rfl; exact hlen (h1.trans h2.symm)
    have Hd := Sep.hid hd; clear hd hlen h1 h2
    refine Sep.calls_post ?_
    intro Post_ hPost_
    have HP := Sep.hid hPost_
    clear hPost_
    go_enter Try.func13, Try.ntmps13
    go_wp2
    exact HP.out _ _ ⟨by rw [Hd.out]; rfl, Drew.refl _⟩
/-- Same, over slices that are held. -/
theorem same_tolds (u v : Value) (l m : List Told) (hL : l.length ≤ 1000000) (e w : World) (R : HProp) (hw : Holds e w [R, IsTolds 40 u l, IsTolds 40 v m]) :
    Calls Try.prog 13 #[u, v] w fun en w' => en = .returned (.bool (decide (l = m))) ∧ Holds e w' [R, IsTolds 40 u l, IsTolds 40 v m] := by
  have hw1 : Holds e w [R, Sl 40 2 u l.length (encT l), Sl 40 2 v m.length (encT m)] := hw
  obtain ⟨a, ca, rfl⟩ := Sl.value (i := 1) rfl hw1
  obtain ⟨b, cb, rfl⟩ := Sl.value (i := 2) rfl hw1
  refine (sameT a b l m _ _ ca cb rfl rfl hL w (readsT (i := 1) hw1 rfl) (readsT (i := 2) hw1 rfl)).mono ?_
  rintro en w' ⟨rfl, hd⟩
  exact ⟨rfl, hw.drewTo hd⟩

set_option maxHeartbeats 2000000 in
theorem own_calls (v : Value) (l : List Told) (hL : l.length ≤ 100000) (e w : World) (R : HProp) (hw : Holds e w [R, IsTolds 50 v l]) :
    Calls Try.prog 14 #[v] w fun en w' => ∃ u, en = .returned u ∧ Holds e w' [R, IsTolds 50 v l, IsTolds 40 u l] := by
  have hw : Holds e w [R, Sl 50 2 v l.length (encT l)] := hw
  obtain ⟨a, ca, rfl⟩ := Sl.value (i := 1) rfl hw
  generalize hn' : l.length = n' at *
  have Hn' := Sep.hid hn'; clear hn'
  refine Sep.calls_post ?_
  intro Post_ hPost_
  have HP := Sep.hid hPost_
  clear hPost_
  go_enter Try.func14, Try.ntmps14
  go_wp2_with (refine wpList_on rfl (wp_bsl0 rfl hw ?_); intro b_ w_ hw_; replace hw_ := hw_.newSl (i := 2) rfl 2 0 rfl (by decide); clear hw; have hw := hw_; clear hw_; (try simp only [List.map_cons, List.map_nil, List.getD_cons_zero, List.getD_cons_succ, List.getD_nil, List.set_cons_zero, List.set_cons_succ, List.cons_append, List.nil_append, Act.eval, Array.getD_eq_getD_getElem?, List.getElem?_toArray, List.getElem?_cons_succ, List.getElem?_cons_zero, Option.getD_some, Value.cells] at hw); (try simp (disch := first | (simp; done) | (simp; omega)) only [Sep.mid_set, Sep.mid_set2, Sep.mid_set0, Sep.mid_splice, Sep.mid_splice0, List.set_cons_zero, List.set_cons_succ] at hw); (try simp only [Sep.splice, List.take_succ_cons, List.take_zero, List.drop_succ_cons, List.drop_zero, List.length_cons, List.length_nil, Nat.reduceAdd, List.cons_append, List.nil_append] at hw); (try replace hc0 := Sep.Holds.cells hw (i := 0) rfl); (try replace hc1 := Sep.Holds.cells hw (i := 1) rfl); (try replace hc2 := Sep.Holds.cells hw (i := 2) rfl); (try replace hc3 := Sep.Holds.cells hw (i := 3) rfl); (try replace hc4 := Sep.Holds.cells hw (i := 4) rfl); (try replace hc5 := Sep.Holds.cells hw (i := 5) rfl); (try replace hc6 := Sep.Holds.cells hw (i := 6) rfl))
  have Hw0 := Sep.hid hw; clear hw; (try clear hc0); (try clear hc1); (try clear hc2); (try clear hc3); (try clear hc4); (try clear hc5); (try clear hc6)
  go_loopw [9, 3] (fun i o wr => ∃ (k : Nat) (c : List Told), k ≤ n' ∧ i = .int .i64 k ∧ c = l.take k ∧ c.length = k ∧ Holds e wr [R, Sl 50 2 (.slice a n' ca) n' (encT l), Sl 40 2 o k (encT c)]) (fun i _ _ => n' - (intOf i).toNat)
  case atStart => exact ⟨0, [], Nat.zero_le _, rfl, rfl, rfl, Hw0.out⟩
  case round =>
    clear Hw0
    obtain ⟨k, c, hk, rfl, hc, hck, hw⟩ := hrel
    have Hc := Sep.hid hc; clear hc
    have Hck := Sep.hid hck; clear hck
    obtain ⟨oa, oc, rfl⟩ := Sl.value (i := 2) rfl hw
    by_cases hlt : k < n'
    · obtain ⟨x, hx⟩ : ∃ x, l[k]? = some x := ⟨_, List.getElem?_eq_getElem (by rw [Hn'.out]; exact hlt)⟩
      obtain ⟨ba, off, rfl, gx, gy⟩ := told_at (i := 1) hw rfl hx
      have Hx := Sep.hid hx; clear hx
      go_wp2_with (first | (refine wpList_on rfl (wp_alloc rfl hw ?_); intro b_ w_ hw_; clear hw; have hw := hw_; clear hw_; (try simp only [List.map_cons, List.map_nil, List.getD_cons_zero, List.getD_cons_succ, List.getD_nil, List.set_cons_zero, List.set_cons_succ, List.cons_append, List.nil_append, Act.eval, Array.getD_eq_getD_getElem?, List.getElem?_toArray, List.getElem?_cons_succ, List.getElem?_cons_zero, Option.getD_some, Value.cells] at hw); (try simp (disch := first | (simp; done) | (simp; omega)) only [Sep.mid_set, Sep.mid_set2, Sep.mid_set0, Sep.mid_splice, Sep.mid_splice0, List.set_cons_zero, List.set_cons_succ] at hw); (try simp only [Sep.splice, List.take_succ_cons, List.take_zero, List.drop_succ_cons, List.drop_zero, List.length_cons, List.length_nil, Nat.reduceAdd, List.cons_append, List.nil_append] at hw); (try replace hc0 := Sep.Holds.cells hw (i := 0) rfl); (try replace hc1 := Sep.Holds.cells hw (i := 1) rfl); (try replace hc2 := Sep.Holds.cells hw (i := 2) rfl); (try replace hc3 := Sep.Holds.cells hw (i := 3) rfl); (try replace hc4 := Sep.Holds.cells hw (i := 4) rfl); (try replace hc5 := Sep.Holds.cells hw (i := 5) rfl); (try replace hc6 := Sep.Holds.cells hw (i := 6) rfl)) | (refine wpList_on rfl (wp_storeAll (vs := [.int .i64 x.1, .int .i64 x.2]) rfl rfl (by rfl) hw (i := 3) rfl rfl rfl (by simp [Value.oneCell']) ?_); intro w_ hw_; clear hw; have hw := hw_; clear hw_; (try simp only [List.map_cons, List.map_nil, List.getD_cons_zero, List.getD_cons_succ, List.getD_nil, List.set_cons_zero, List.set_cons_succ, List.cons_append, List.nil_append, Act.eval, Array.getD_eq_getD_getElem?, List.getElem?_toArray, List.getElem?_cons_succ, List.getElem?_cons_zero, Option.getD_some, Value.cells] at hw); (try simp (disch := first | (simp; done) | (simp; omega)) only [Sep.mid_set, Sep.mid_set2, Sep.mid_set0, Sep.mid_splice, Sep.mid_splice0, List.set_cons_zero, List.set_cons_succ] at hw); (try simp only [Sep.splice, List.take_succ_cons, List.take_zero, List.drop_succ_cons, List.drop_zero, List.length_cons, List.length_nil, Nat.reduceAdd, List.cons_append, List.nil_append] at hw); (try replace hc0 := Sep.Holds.cells hw (i := 0) rfl); (try replace hc1 := Sep.Holds.cells hw (i := 1) rfl); (try replace hc2 := Sep.Holds.cells hw (i := 2) rfl); (try replace hc3 := Sep.Holds.cells hw (i := 3) rfl); (try replace hc4 := Sep.Holds.cells hw (i := 4) rfl); (try replace hc5 := Sep.Holds.cells hw (i := 5) rfl); (try replace hc6 := Sep.Holds.cells hw (i := 6) rfl)) | (refine wpList_on rfl (wp_bsl1 rfl rfl (by rfl) (by rfl) (by decide) hw ?_); intro b_ w_ hw_; clear hw; have hw := hw_; clear hw_; (try simp only [List.map_cons, List.map_nil, List.getD_cons_zero, List.getD_cons_succ, List.getD_nil, List.set_cons_zero, List.set_cons_succ, List.cons_append, List.nil_append, Act.eval, Array.getD_eq_getD_getElem?, List.getElem?_toArray, List.getElem?_cons_succ, List.getElem?_cons_zero, Option.getD_some, Value.cells] at hw); (try simp (disch := first | (simp; done) | (simp; omega)) only [Sep.mid_set, Sep.mid_set2, Sep.mid_set0, Sep.mid_splice, Sep.mid_splice0, List.set_cons_zero, List.set_cons_succ] at hw); (try simp only [Sep.splice, List.take_succ_cons, List.take_zero, List.drop_succ_cons, List.drop_zero, List.length_cons, List.length_nil, Nat.reduceAdd, List.cons_append, List.nil_append] at hw); (try replace hc0 := Sep.Holds.cells hw (i := 0) rfl); (try replace hc1 := Sep.Holds.cells hw (i := 1) rfl); (try replace hc2 := Sep.Holds.cells hw (i := 2) rfl); (try replace hc3 := Sep.Holds.cells hw (i := 3) rfl); (try replace hc4 := Sep.Holds.cells hw (i := 4) rfl); (try replace hc5 := Sep.Holds.cells hw (i := 5) rfl); (try replace hc6 := Sep.Holds.cells hw (i := 6) rfl)) | (at_builtin; refine wpList_on rfl (wp_appendPt (i := 2) (j := 4) rfl rfl hw rfl rfl rfl (by rfl) (by simp [Value.oneCell']) (by decide) (by rfl) (by (try unfold maxLen); omega) (by (try unfold maxLen); omega) ?_); intro b2_ cap2_ off2_ w_ hcap2_ hw_; clear hw; have hw := hw_; clear hw_; (try simp only [List.map_cons, List.map_nil, List.getD_cons_zero, List.getD_cons_succ, List.getD_nil, List.set_cons_zero, List.set_cons_succ, List.cons_append, List.nil_append, Act.eval, Array.getD_eq_getD_getElem?, List.getElem?_toArray, List.getElem?_cons_succ, List.getElem?_cons_zero, Option.getD_some, Value.cells] at hw); (try simp (disch := first | (simp; done) | (simp; omega)) only [Sep.mid_set, Sep.mid_set2, Sep.mid_set0, Sep.mid_splice, Sep.mid_splice0, List.set_cons_zero, List.set_cons_succ] at hw); (try simp only [Sep.splice, List.take_succ_cons, List.take_zero, List.drop_succ_cons, List.drop_zero, List.length_cons, List.length_nil, Nat.reduceAdd, List.cons_append, List.nil_append] at hw); (try replace hc0 := Sep.Holds.cells hw (i := 0) rfl); (try replace hc1 := Sep.Holds.cells hw (i := 1) rfl); (try replace hc2 := Sep.Holds.cells hw (i := 2) rfl); (try replace hc3 := Sep.Holds.cells hw (i := 3) rfl); (try replace hc4 := Sep.Holds.cells hw (i := 4) rfl); (try replace hc5 := Sep.Holds.cells hw (i := 5) rfl); (try replace hc6 := Sep.Holds.cells hw (i := 6) rfl)))
      go_roundw
      case rel =>
        refine ⟨k + 1, c ++ [x], by omega, by go_num, by rw [takeT Hx.out, ← Hc.out], by simp [Hck.out], ?_⟩
        rw [encT_append]
        exact (hw.sel [0, 1, 2] (by decide))
      case measure => simp [intOf]; omega
    · have hke : n' = k := by omega
      subst hke
      have hd : c = l := by rw [Hc.out, List.take_of_length_le (by rw [Hn'.out]; omega)]
      have Hd := Sep.hid hd; clear hd
      go_wp2_with fail
      refine HP.out _ _ ⟨_, rfl, ?_⟩
      unfold IsTolds
      rw [Hd.out] at hw
      rw [Hn'.out]
      exact hw
end Go.Proofs.Ytcefnihhlbeebaa
