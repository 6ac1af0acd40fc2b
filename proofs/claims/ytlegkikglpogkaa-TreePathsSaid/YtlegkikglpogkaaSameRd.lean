/-
  Slices of whole numbers that are read: are two the same? No part of memory is owned here. (For seats without the ring; never beside Reads.)
-/
import Derived.Test.YtlegkikglpogkaaNums
namespace Go.Proofs.Ytlegkikglpogkaa
set_option linter.unusedSimpArgs false
set_option linter.unusedVariables false
open Go.RowKit Go.Sep

/-- The numbers that stand from a place on. -/
def ReadsI (w : World) (a : Option Addr) (l : List Int) : Prop := ∀ (k : Nat) (x : Int), l[k]? = some x → ∃ b off, a = some ⟨b, off, none⟩ ∧ w.cell? ⟨b, off + k, none⟩ = some (.int .i64 x)
theorem reads_of {T : TypeId} {e w : World} {L : List HProp} {i n ca : Nat} {a : Option Addr} {l : List Int} (hw : Holds e w L) (hi : L[i]? = some (Sl T 1 (.slice a n ca) n (encI l))) : ReadsI w a l := fun k x hx => num_at hw hi hx
theorem ReadsI.take {w : World} {a : Option Addr} {l : List Int} (h : ReadsI w a l) (n : Nat) : ReadsI w a (l.take n) := fun k x hx => h k x (by
  rw [List.getElem?_take] at hx
  split at hx
  · exact hx
  · cases hx)
set_option maxHeartbeats 1000000 in
theorem same_reads (a b : Option Addr) (l m : List Int) (n1 n2 ca cb : Nat) (h1 : n1 = l.length) (h2 : n2 = m.length) (hL : n1 ≤ 1000000) (w : World) (ha : ReadsI w a l) (hb : ReadsI w b m) :
    Calls Try.prog 17 #[.slice a n1 ca, .slice b n2 cb] w fun en w' => en = .returned (.bool (decide (l = m))) ∧ Drew w w' := by
  have Ha := Sep.hid ha; have Hb := Sep.hid hb; clear ha hb
  by_cases hlen : n1 = n2
  · have hne : ((n1 : Int) != (n2 : Int)) = false := by simp [hlen]
    subst hlen
    have H1 := Sep.hid h1; have H2 := Sep.hid h2; clear h1 h2
    refine Sep.calls_post ?_
    intro Post_ hPost_
    have HP := Sep.hid hPost_
    clear hPost_
    go_enter Try.func17, Try.ntmps17
    go_wp2_with fail
    go_loopw [5] (fun i wr => ∃ k : Nat, k ≤ n1 ∧ i = .int .i64 k ∧ l.take k = m.take k ∧ Drew w wr) (fun i _ => n1 - (intOf i).toNat)
    case atStart => exact ⟨0, Nat.zero_le _, rfl, by simp, Drew.refl _⟩
    case round =>
      obtain ⟨k, hk, rfl, heq, hd⟩ := hrel
      have Heq := Sep.hid heq; clear heq
      have HD := Sep.hid hd; clear hd
      by_cases hlt : k < n1
      · obtain ⟨x, hx⟩ : ∃ x, l[k]? = some x := ⟨_, List.getElem?_eq_getElem (by rw [← H1.out]; exact hlt)⟩
        obtain ⟨y, hy⟩ : ∃ y, m[k]? = some y := ⟨_, List.getElem?_eq_getElem (by rw [← H2.out]; exact hlt)⟩
        obtain ⟨ba, off, rfl, gx⟩ := Ha.out k x hx
        obtain ⟨bb, off2, rfl, gy⟩ := Hb.out k y hy
        rw [← HD.out.cell] at gx gy
        replace gx : wr.drew.cell? ⟨ba, off + k, none⟩ = some (.int .i64 x) := gx
        replace gy : wr.drew.cell? ⟨bb, off2 + k, none⟩ = some (.int .i64 y) := gy
        have hw : Holds wr wr [] := ⟨Env.refl _, fun _ _ => none, by simp, by simp, by simp⟩
        have Hx := Sep.hid hx; clear hx
        have Hy := Sep.hid hy; clear hy
        by_cases hxy : x = y
        · have h0 : (x != y) = false := by simp [hxy]
          have Hxy := Sep.hid hxy; clear hxy
          go_wp2_with fail
          refine wp_region_L [] [(3, (fun w' => w' = wr.drew)), (7, (fun w' => w' = wr.drew))] (n := 9) (listed := #[false, false, false, false, false, false, false, false, false]) (by kernel_rfl) rfl rfl ?conds1 ?_
          case conds1 =>
           intro c hc
           simp only [List.mem_cons, List.not_mem_nil, or_false] at hc
           rcases hc with rfl | rfl
           · rfl
           · rfl
          replace hw := hw.drew
          refine wpL_take 0 (C := fun _ => True) (v := ?v2) rfl (by kernel_rfl) (by kernel_rfl) (by kernel_rfl) (by kernel_rfl) (fun _ _ _ h => h) (.inl fun _ => trivial) (Or.inl ⟨by rfl, fun w_ hS_ => ?hy2⟩) (listed' := #[true, false, false, false, false, false, false, false, false]) (by kernel_rfl) ?rest2
          case hy2 => (go_simp; try rfl)
          case' rest2 => try simp only [Act.put, List.setIfInBounds_toArray, List.set_cons_zero, List.set_cons_succ]
          refine wpL_take 1 (C := fun _ => True) (v := ?v3) rfl (by kernel_rfl) (by kernel_rfl) (by kernel_rfl) (by kernel_rfl) (fun _ _ _ h => h) (.inl fun _ => trivial) (Or.inl ⟨by rfl, fun w_ hS_ => ?hy3⟩) (listed' := #[true, true, false, false, false, false, false, false, false]) (by kernel_rfl) ?rest3
          case hy3 => (go_simp; try rfl)
          case' rest3 => try simp only [Act.put, List.setIfInBounds_toArray, List.set_cons_zero, List.set_cons_succ]
          refine wpL_take 2 (C := fun _ => True) (v := ?v4) rfl (by kernel_rfl) (by kernel_rfl) (by kernel_rfl) (by kernel_rfl) (fun _ _ _ h => h) (.inl fun _ => trivial) (Or.inl ⟨by rfl, fun w_ hS_ => ?hy4⟩) (listed' := #[true, true, true, false, false, false, false, false, false]) (by kernel_rfl) ?rest4
          case hy4 => (go_simp; try rfl)
          case' rest4 => try simp only [Act.put, List.setIfInBounds_toArray, List.set_cons_zero, List.set_cons_succ]
          refine wpL_take 3 (C := (fun w' => w' = wr.drew)) (v := ?v5) rfl (by kernel_rfl) (by kernel_rfl) (by kernel_rfl) (by kernel_rfl) (fun _ _ _ h => h) (.inr (.head _)) (Or.inl ⟨by rfl, fun w_ hS_ => ?hy5⟩) (listed' := #[true, true, true, true, false, false, false, false, false]) (by kernel_rfl) ?rest5
          case hy5 => (subst hS_; go_simp; try rfl)
          case' rest5 => try simp only [Act.put, List.setIfInBounds_toArray, List.set_cons_zero, List.set_cons_succ]
          refine wpL_take 4 (C := fun _ => True) (v := ?v6) rfl (by kernel_rfl) (by kernel_rfl) (by kernel_rfl) (by kernel_rfl) (fun _ _ _ h => h) (.inl fun _ => trivial) (Or.inl ⟨by rfl, fun w_ hS_ => ?hy6⟩) (listed' := #[true, true, true, true, true, false, false, false, false]) (by kernel_rfl) ?rest6
          case hy6 => (go_simp; try rfl)
          case' rest6 => try simp only [Act.put, List.setIfInBounds_toArray, List.set_cons_zero, List.set_cons_succ]
          refine wpL_take 5 (C := fun _ => True) (v := ?v7) rfl (by kernel_rfl) (by kernel_rfl) (by kernel_rfl) (by kernel_rfl) (fun _ _ _ h => h) (.inl fun _ => trivial) (Or.inl ⟨by rfl, fun w_ hS_ => ?hy7⟩) (listed' := #[true, true, true, true, true, true, false, false, false]) (by kernel_rfl) ?rest7
          case hy7 => (go_simp; try rfl)
          case' rest7 => try simp only [Act.put, List.setIfInBounds_toArray, List.set_cons_zero, List.set_cons_succ]
          refine wpL_take 6 (C := fun _ => True) (v := ?v8) rfl (by kernel_rfl) (by kernel_rfl) (by kernel_rfl) (by kernel_rfl) (fun _ _ _ h => h) (.inl fun _ => trivial) (Or.inl ⟨by rfl, fun w_ hS_ => ?hy8⟩) (listed' := #[true, true, true, true, true, true, true, false, false]) (by kernel_rfl) ?rest8
          case hy8 => (go_simp; try rfl)
          case' rest8 => try simp only [Act.put, List.setIfInBounds_toArray, List.set_cons_zero, List.set_cons_succ]
          refine wpL_take 7 (C := (fun w' => w' = wr.drew)) (v := ?v9) rfl (by kernel_rfl) (by kernel_rfl) (by kernel_rfl) (by kernel_rfl) (fun _ _ _ h => h) (.inr (.tail _ (.head _))) (Or.inl ⟨by rfl, fun w_ hS_ => ?hy9⟩) (listed' := #[true, true, true, true, true, true, true, true, false]) (by kernel_rfl) ?rest9
          case hy9 => (subst hS_; go_simp; try rfl)
          case' rest9 => try simp only [Act.put, List.setIfInBounds_toArray, List.set_cons_zero, List.set_cons_succ]
          refine wpL_take 8 (C := fun _ => True) (v := ?v10) rfl (by kernel_rfl) (by kernel_rfl) (by kernel_rfl) (by kernel_rfl) (fun _ _ _ h => h) (.inl fun _ => trivial) (Or.inl ⟨by rfl, fun w_ hS_ => ?hy10⟩) (listed' := #[true, true, true, true, true, true, true, true, true]) (by kernel_rfl) ?rest10
          case hy10 => (go_simp; try rfl)
          case' rest10 => try simp only [Act.put, List.setIfInBounds_toArray, List.set_cons_zero, List.set_cons_succ]
          refine wpL_done (by kernel_rfl) ?_ _
          go_wp2
          go_roundw
          case rel => exact ⟨k + 1, by omega, by go_num, by rw [List.take_add_one, List.take_add_one, Heq.out, Hx.out, Hy.out, Hxy.out], HD.out.drew⟩
          case measure => simp [intOf]; omega
        · have h0 : (x != y) = true := by simp [hxy]
          have hd : decide (l = m) = false := by
            simp only [decide_eq_false_iff_not]
            rintro rfl
            have := Hx.out.symm.trans Hy.out
            simp at this
            exact hxy this
          have Hd := Sep.hid hd; clear hd
          clear hxy
          go_wp2_with fail
          refine wp_region_L [] [(3, (fun w' => w' = wr.drew)), (7, (fun w' => w' = wr.drew))] (n := 9) (listed := #[false, false, false, false, false, false, false, false, false]) (by kernel_rfl) rfl rfl ?conds11 ?_
          case conds11 =>
           intro c hc
           simp only [List.mem_cons, List.not_mem_nil, or_false] at hc
           rcases hc with rfl | rfl
           · rfl
           · rfl
          replace hw := hw.drew
          refine wpL_take 0 (C := fun _ => True) (v := ?v12) rfl (by kernel_rfl) (by kernel_rfl) (by kernel_rfl) (by kernel_rfl) (fun _ _ _ h => h) (.inl fun _ => trivial) (Or.inl ⟨by rfl, fun w_ hS_ => ?hy12⟩) (listed' := #[true, false, false, false, false, false, false, false, false]) (by kernel_rfl) ?rest12
          case hy12 => (go_simp; try rfl)
          case' rest12 => try simp only [Act.put, List.setIfInBounds_toArray, List.set_cons_zero, List.set_cons_succ]
          refine wpL_take 1 (C := fun _ => True) (v := ?v13) rfl (by kernel_rfl) (by kernel_rfl) (by kernel_rfl) (by kernel_rfl) (fun _ _ _ h => h) (.inl fun _ => trivial) (Or.inl ⟨by rfl, fun w_ hS_ => ?hy13⟩) (listed' := #[true, true, false, false, false, false, false, false, false]) (by kernel_rfl) ?rest13
          case hy13 => (go_simp; try rfl)
          case' rest13 => try simp only [Act.put, List.setIfInBounds_toArray, List.set_cons_zero, List.set_cons_succ]
          refine wpL_take 2 (C := fun _ => True) (v := ?v14) rfl (by kernel_rfl) (by kernel_rfl) (by kernel_rfl) (by kernel_rfl) (fun _ _ _ h => h) (.inl fun _ => trivial) (Or.inl ⟨by rfl, fun w_ hS_ => ?hy14⟩) (listed' := #[true, true, true, false, false, false, false, false, false]) (by kernel_rfl) ?rest14
          case hy14 => (go_simp; try rfl)
          case' rest14 => try simp only [Act.put, List.setIfInBounds_toArray, List.set_cons_zero, List.set_cons_succ]
          refine wpL_take 3 (C := (fun w' => w' = wr.drew)) (v := ?v15) rfl (by kernel_rfl) (by kernel_rfl) (by kernel_rfl) (by kernel_rfl) (fun _ _ _ h => h) (.inr (.head _)) (Or.inl ⟨by rfl, fun w_ hS_ => ?hy15⟩) (listed' := #[true, true, true, true, false, false, false, false, false]) (by kernel_rfl) ?rest15
          case hy15 => (subst hS_; go_simp; try rfl)
          case' rest15 => try simp only [Act.put, List.setIfInBounds_toArray, List.set_cons_zero, List.set_cons_succ]
          refine wpL_take 4 (C := fun _ => True) (v := ?v16) rfl (by kernel_rfl) (by kernel_rfl) (by kernel_rfl) (by kernel_rfl) (fun _ _ _ h => h) (.inl fun _ => trivial) (Or.inl ⟨by rfl, fun w_ hS_ => ?hy16⟩) (listed' := #[true, true, true, true, true, false, false, false, false]) (by kernel_rfl) ?rest16
          case hy16 => (go_simp; try rfl)
          case' rest16 => try simp only [Act.put, List.setIfInBounds_toArray, List.set_cons_zero, List.set_cons_succ]
          refine wpL_take 5 (C := fun _ => True) (v := ?v17) rfl (by kernel_rfl) (by kernel_rfl) (by kernel_rfl) (by kernel_rfl) (fun _ _ _ h => h) (.inl fun _ => trivial) (Or.inl ⟨by rfl, fun w_ hS_ => ?hy17⟩) (listed' := #[true, true, true, true, true, true, false, false, false]) (by kernel_rfl) ?rest17
          case hy17 => (go_simp; try rfl)
          case' rest17 => try simp only [Act.put, List.setIfInBounds_toArray, List.set_cons_zero, List.set_cons_succ]
          refine wpL_take 6 (C := fun _ => True) (v := ?v18) rfl (by kernel_rfl) (by kernel_rfl) (by kernel_rfl) (by kernel_rfl) (fun _ _ _ h => h) (.inl fun _ => trivial) (Or.inl ⟨by rfl, fun w_ hS_ => ?hy18⟩) (listed' := #[true, true, true, true, true, true, true, false, false]) (by kernel_rfl) ?rest18
          case hy18 => (go_simp; try rfl)
          case' rest18 => try simp only [Act.put, List.setIfInBounds_toArray, List.set_cons_zero, List.set_cons_succ]
          refine wpL_take 7 (C := (fun w' => w' = wr.drew)) (v := ?v19) rfl (by kernel_rfl) (by kernel_rfl) (by kernel_rfl) (by kernel_rfl) (fun _ _ _ h => h) (.inr (.tail _ (.head _))) (Or.inl ⟨by rfl, fun w_ hS_ => ?hy19⟩) (listed' := #[true, true, true, true, true, true, true, true, false]) (by kernel_rfl) ?rest19
          case hy19 => (subst hS_; go_simp; try rfl)
          case' rest19 => try simp only [Act.put, List.setIfInBounds_toArray, List.set_cons_zero, List.set_cons_succ]
          refine wpL_take 8 (C := fun _ => True) (v := ?v20) rfl (by kernel_rfl) (by kernel_rfl) (by kernel_rfl) (by kernel_rfl) (fun _ _ _ h => h) (.inl fun _ => trivial) (Or.inl ⟨by rfl, fun w_ hS_ => ?hy20⟩) (listed' := #[true, true, true, true, true, true, true, true, true]) (by kernel_rfl) ?rest20
          case hy20 => (go_simp; try rfl)
          case' rest20 => try simp only [Act.put, List.setIfInBounds_toArray, List.set_cons_zero, List.set_cons_succ]
          refine wpL_done (by kernel_rfl) ?_ _
          go_wp2
          exact HP.out _ _ ⟨by rw [Hd.out]; rfl, HD.out.drew⟩
      · have hke : k = n1 := by omega
        have hd : decide (l = m) = true := by
          simp only [decide_eq_true_eq]
          have h := Heq.out
          rw [hke, List.take_of_length_le (by rw [← H1.out]; omega), List.take_of_length_le (by rw [← H2.out]; omega)] at h
          exact h
        have Hd := Sep.hid hd; clear hd hke
        go_wp2
        exact HP.out _ _ ⟨by rw [Hd.out]; rfl, HD.out⟩
  · have hne : ((n1 : Int) != (n2 : Int)) = true := by simp; omega
    have hd : decide (l = m) = false := by simp only [decide_eq_false_iff_not]; rintro rfl; exact hlen (h1.trans h2.symm)
    have Hd := Sep.hid hd; clear hd hlen h1 h2
    refine Sep.calls_post ?_
    intro Post_ hPost_
    have HP := Sep.hid hPost_
    clear hPost_
    go_enter Try.func17, Try.ntmps17
    go_wp2
    exact HP.out _ _ ⟨by rw [Hd.out]; rfl, Drew.refl _⟩
end Go.Proofs.Ytlegkikglpogkaa
