/-
  The walks of SameBytes, of the document's Num, and of instr.
-/
import Derived.Test.YtmokklkckecmdaaDoorCodeC
namespace Go.Proofs.YtmokklkckecmdaaDoor
set_option linter.unusedSimpArgs false
set_option linter.unusedVariables false
open Go.RowKit Go.Sep

set_option maxHeartbeats 4000000 in
theorem sameB (a b : Option Addr) (l m : List Int) (n1 n2 ca cb : Nat) (h1 : n1 = l.length) (h2 : n2 = m.length) (hL : n1 ≤ 1000000) (w : World) (ha : ReadsB w a l) (hb : ReadsB w b m) :
    Calls Tryd.prog 18 #[.slice a n1 ca, .slice b n2 cb] w fun en w' => en = .returned (.bool (decide (l = m))) ∧ Drew w w' := by
  have Ha := Sep.hid ha; have Hb := Sep.hid hb; clear ha hb
  by_cases hlen : n1 = n2
  · have hne : ((n1 : Int) != (n2 : Int)) = false := by simp [hlen]
    subst hlen
    have H1 := Sep.hid h1; have H2 := Sep.hid h2; clear h1 h2
    refine Sep.calls_post ?_
    intro Post_ hPost_
    have HP := Sep.hid hPost_
    clear hPost_
    go_enter Tryd.func18, Tryd.ntmps18
    go_wp2_with fail
    go_loopw [5] (fun i wr => ∃ k : Nat, k ≤ n1 ∧ i = .int .i64 k ∧ l.take k = m.take k ∧ Drew w wr) (fun i _ => n1 - (intOf i).toNat)
    case atStart => exact ⟨0, Nat.zero_le _, rfl, by simp, Drew.refl _⟩
    case round =>
      obtain ⟨k, hk, rfl, heq, hd⟩ := hrel
      have Heq := Sep.hid heq; clear heq
      have HD := Sep.hid hd; clear hd
      by_cases hlt : k < n1
      · obtain ⟨x, hx⟩ : ∃ x, l[k]? = some x := ⟨_, List.getElem?_eq_getElem (by rw [← H1.out]; exact hlt)⟩
        obtain ⟨y, hy⟩ : ∃ y, m[k]? = some y := ⟨_, List.getElem?_eq_getElem (by rw [← H2.out]; exact hlt)⟩
        obtain ⟨pa, rfl, gx⟩ := Ha.out k x hx
        obtain ⟨pb, rfl, gy⟩ := Hb.out k y hy
        rw [← HD.out.cell] at gx gy
        have hw : Holds wr wr [] := ⟨Env.refl _, fun _ _ => none, by simp, by simp, by simp⟩
        have Hx := Sep.hid hx; clear hx
        have Hy := Sep.hid hy; clear hy
        by_cases hxy : x = y
        · have h0 : (x != y) = false := by simp [hxy]
          have Hxy := Sep.hid hxy; clear hxy
          go_wp2_with fail
          refine wp_region_L [] [(3, (fun w' => w' = wr.drew)), (7, (fun w' => w' = wr.drew))] (n := 9) (listed := #[false, false, false, false, false, false, false, false, false]) (by kernel_rfl) rfl rfl ?conds1 ?_
          case conds1 =>
           intro c hc
           simp only [List.mem_cons, List.not_mem_nil, or_false] at hc
           rcases hc with rfl | rfl
           · rfl
           · rfl
          replace hw := hw.drew
          refine wpL_take 0 (C := fun _ => True) (v := ?v2) rfl (by kernel_rfl) (by kernel_rfl) (by kernel_rfl) (by kernel_rfl) (fun _ _ _ h => h) (.inl fun _ => trivial) (Or.inl ⟨by rfl, fun w_ hS_ => ?hy2⟩) (listed' := #[true, false, false, false, false, false, false, false, false]) (by kernel_rfl) ?rest2
          case hy2 => (go_simp; try rfl)
          case' rest2 => try simp only [Act.put, List.setIfInBounds_toArray, List.set_cons_zero, List.set_cons_succ]
          refine wpL_take 1 (C := fun _ => True) (v := ?v3) rfl (by kernel_rfl) (by kernel_rfl) (by kernel_rfl) (by kernel_rfl) (fun _ _ _ h => h) (.inl fun _ => trivial) (Or.inl ⟨by rfl, fun w_ hS_ => ?hy3⟩) (listed' := #[true, true, false, false, false, false, false, false, false]) (by kernel_rfl) ?rest3
          case hy3 => (go_simp; try rfl)
          case' rest3 => try simp only [Act.put, List.setIfInBounds_toArray, List.set_cons_zero, List.set_cons_succ]
          refine wpL_take 2 (C := fun _ => True) (v := ?v4) rfl (by kernel_rfl) (by kernel_rfl) (by kernel_rfl) (by kernel_rfl) (fun _ _ _ h => h) (.inl fun _ => trivial) (Or.inl ⟨by rfl, fun w_ hS_ => ?hy4⟩) (listed' := #[true, true, true, false, false, false, false, false, false]) (by kernel_rfl) ?rest4
          case hy4 => (go_simp; try rfl)
          case' rest4 => try simp only [Act.put, List.setIfInBounds_toArray, List.set_cons_zero, List.set_cons_succ]
          refine wpL_take 3 (C := (fun w' => w' = wr.drew)) (v := ?v5) rfl (by kernel_rfl) (by kernel_rfl) (by kernel_rfl) (by kernel_rfl) (fun _ _ _ h => h) (.inr (.head _)) (Or.inl ⟨by rfl, fun w_ hS_ => ?hy5⟩) (listed' := #[true, true, true, true, false, false, false, false, false]) (by kernel_rfl) ?rest5
          case hy5 => (subst hS_; go_simp; try rfl)
          case' rest5 => try simp only [Act.put, List.setIfInBounds_toArray, List.set_cons_zero, List.set_cons_succ]
          refine wpL_take 4 (C := fun _ => True) (v := ?v6) rfl (by kernel_rfl) (by kernel_rfl) (by kernel_rfl) (by kernel_rfl) (fun _ _ _ h => h) (.inl fun _ => trivial) (Or.inl ⟨by rfl, fun w_ hS_ => ?hy6⟩) (listed' := #[true, true, true, true, true, false, false, false, false]) (by kernel_rfl) ?rest6
          case hy6 => (go_simp; try rfl)
          case' rest6 => try simp only [Act.put, List.setIfInBounds_toArray, List.set_cons_zero, List.set_cons_succ]
          refine wpL_take 5 (C := fun _ => True) (v := ?v7) rfl (by kernel_rfl) (by kernel_rfl) (by kernel_rfl) (by kernel_rfl) (fun _ _ _ h => h) (.inl fun _ => trivial) (Or.inl ⟨by rfl, fun w_ hS_ => ?hy7⟩) (listed' := #[true, true, true, true, true, true, false, false, false]) (by kernel_rfl) ?rest7
          case hy7 => (go_simp; try rfl)
          case' rest7 => try simp only [Act.put, List.setIfInBounds_toArray, List.set_cons_zero, List.set_cons_succ]
          refine wpL_take 6 (C := fun _ => True) (v := ?v8) rfl (by kernel_rfl) (by kernel_rfl) (by kernel_rfl) (by kernel_rfl) (fun _ _ _ h => h) (.inl fun _ => trivial) (Or.inl ⟨by rfl, fun w_ hS_ => ?hy8⟩) (listed' := #[true, true, true, true, true, true, true, false, false]) (by kernel_rfl) ?rest8
          case hy8 => (go_simp; try rfl)
          case' rest8 => try simp only [Act.put, List.setIfInBounds_toArray, List.set_cons_zero, List.set_cons_succ]
          refine wpL_take 7 (C := (fun w' => w' = wr.drew)) (v := ?v9) rfl (by kernel_rfl) (by kernel_rfl) (by kernel_rfl) (by kernel_rfl) (fun _ _ _ h => h) (.inr (.tail _ (.head _))) (Or.inl ⟨by rfl, fun w_ hS_ => ?hy9⟩) (listed' := #[true, true, true, true, true, true, true, true, false]) (by kernel_rfl) ?rest9
          case hy9 => (subst hS_; go_simp; try rfl)
          case' rest9 => try simp only [Act.put, List.setIfInBounds_toArray, List.set_cons_zero, List.set_cons_succ]
          refine wpL_take 8 (C := fun _ => True) (v := ?v10) rfl (by kernel_rfl) (by kernel_rfl) (by kernel_rfl) (by kernel_rfl) (fun _ _ _ h => h) (.inl fun _ => trivial) (Or.inl ⟨by rfl, fun w_ hS_ => ?hy10⟩) (listed' := #[true, true, true, true, true, true, true, true, true]) (by kernel_rfl) ?rest10
          case hy10 => (go_simp; try rfl)
          case' rest10 => try simp only [Act.put, List.setIfInBounds_toArray, List.set_cons_zero, List.set_cons_succ]
          refine wpL_done (by kernel_rfl) ?_ _
          go_wp2
          go_roundw
          case rel => exact ⟨k + 1, by omega, by go_num, by rw [List.take_add_one, List.take_add_one, Heq.out, Hx.out, Hy.out, Hxy.out], HD.out.drew⟩
          case measure => simp [intOf]; omega
        · have h0 : (x != y) = true := by simp [hxy]
          have hd : decide (l = m) = false := by
            simp only [decide_eq_false_iff_not]
            rintro rfl
            have := Hx.out.symm.trans Hy.out
            simp at this
            exact hxy this
          have Hd := Sep.hid hd; clear hd
          clear hxy
          go_wp2_with fail
          refine wp_region_L [] [(3, (fun w' => w' = wr.drew)), (7, (fun w' => w' = wr.drew))] (n := 9) (listed := #[false, false, false, false, false, false, false, false, false]) (by kernel_rfl) rfl rfl ?conds11 ?_
          case conds11 =>
           intro c hc
           simp only [List.mem_cons, List.not_mem_nil, or_false] at hc
           rcases hc with rfl | rfl
           · rfl
           · rfl
          replace hw := hw.drew
          refine wpL_take 0 (C := fun _ => True) (v := ?v12) rfl (by kernel_rfl) (by kernel_rfl) (by kernel_rfl) (by kernel_rfl) (fun _ _ _ h => h) (.inl fun _ => trivial) (Or.inl ⟨by rfl, fun w_ hS_ => ?hy12⟩) (listed' := #[true, false, false, false, false, false, false, false, false]) (by kernel_rfl) ?rest12
          case hy12 => (go_simp; try rfl)
          case' rest12 => try simp only [Act.put, List.setIfInBounds_toArray, List.set_cons_zero, List.set_cons_succ]
          refine wpL_take 1 (C := fun _ => True) (v := ?v13) rfl (by kernel_rfl) (by kernel_rfl) (by kernel_rfl) (by kernel_rfl) (fun _ _ _ h => h) (.inl fun _ => trivial) (Or.inl ⟨by rfl, fun w_ hS_ => ?hy13⟩) (listed' := #[true, true, false, false, false, false, false, false, false]) (by kernel_rfl) ?rest13
          case hy13 => (go_simp; try rfl)
          case' rest13 => try simp only [Act.put, List.setIfInBounds_toArray, List.set_cons_zero, List.set_cons_succ]
          refine wpL_take 2 (C := fun _ => True) (v := ?v14) rfl (by kernel_rfl) (by kernel_rfl) (by kernel_rfl) (by kernel_rfl) (fun _ _ _ h => h) (.inl fun _ => trivial) (Or.inl ⟨by rfl, fun w_ hS_ => ?hy14⟩) (listed' := #[true, true, true, false, false, false, false, false, false]) (by kernel_rfl) ?rest14
          case hy14 => (go_simp; try rfl)
          case' rest14 => try simp only [Act.put, List.setIfInBounds_toArray, List.set_cons_zero, List.set_cons_succ]
          refine wpL_take 3 (C := (fun w' => w' = wr.drew)) (v := ?v15) rfl (by kernel_rfl) (by kernel_rfl) (by kernel_rfl) (by kernel_rfl) (fun _ _ _ h => h) (.inr (.head _)) (Or.inl ⟨by rfl, fun w_ hS_ => ?hy15⟩) (listed' := #[true, true, true, true, false, false, false, false, false]) (by kernel_rfl) ?rest15
          case hy15 => (subst hS_; go_simp; try rfl)
          case' rest15 => try simp only [Act.put, List.setIfInBounds_toArray, List.set_cons_zero, List.set_cons_succ]
          refine wpL_take 4 (C := fun _ => True) (v := ?v16) rfl (by kernel_rfl) (by kernel_rfl) (by kernel_rfl) (by kernel_rfl) (fun _ _ _ h => h) (.inl fun _ => trivial) (Or.inl ⟨by rfl, fun w_ hS_ => ?hy16⟩) (listed' := #[true, true, true, true, true, false, false, false, false]) (by kernel_rfl) ?rest16
          case hy16 => (go_simp; try rfl)
          case' rest16 => try simp only [Act.put, List.setIfInBounds_toArray, List.set_cons_zero, List.set_cons_succ]
          refine wpL_take 5 (C := fun _ => True) (v := ?v17) rfl (by kernel_rfl) (by kernel_rfl) (by kernel_rfl) (by kernel_rfl) (fun _ _ _ h => h) (.inl fun _ => trivial) (Or.inl ⟨by rfl, fun w_ hS_ => ?hy17⟩) (listed' := #[true, true, true, true, true, true, false, false, false]) (by kernel_rfl) ?rest17
          case hy17 => (go_simp; try rfl)
          case' rest17 => try simp only [Act.put, List.setIfInBounds_toArray, List.set_cons_zero, List.set_cons_succ]
          refine wpL_take 6 (C := fun _ => True) (v := ?v18) rfl (by kernel_rfl) (by kernel_rfl) (by kernel_rfl) (by kernel_rfl) (fun _ _ _ h => h) (.inl fun _ => trivial) (Or.inl ⟨by rfl, fun w_ hS_ => ?hy18⟩) (listed' := #[true, true, true, true, true, true, true, false, false]) (by kernel_rfl) ?rest18
          case hy18 => (go_simp; try rfl)
          case' rest18 => try simp only [Act.put, List.setIfInBounds_toArray, List.set_cons_zero, List.set_cons_succ]
          refine wpL_take 7 (C := (fun w' => w' = wr.drew)) (v := ?v19) rfl (by kernel_rfl) (by kernel_rfl) (by kernel_rfl) (by kernel_rfl) (fun _ _ _ h => h) (.inr (.tail _ (.head _))) (Or.inl ⟨by rfl, fun w_ hS_ => ?hy19⟩) (listed' := #[true, true, true, true, true, true, true, true, false]) (by kernel_rfl) ?rest19
          case hy19 => (subst hS_; go_simp; try rfl)
          case' rest19 => try simp only [Act.put, List.setIfInBounds_toArray, List.set_cons_zero, List.set_cons_succ]
          refine wpL_take 8 (C := fun _ => True) (v := ?v20) rfl (by kernel_rfl) (by kernel_rfl) (by kernel_rfl) (by kernel_rfl) (fun _ _ _ h => h) (.inl fun _ => trivial) (Or.inl ⟨by rfl, fun w_ hS_ => ?hy20⟩) (listed' := #[true, true, true, true, true, true, true, true, true]) (by kernel_rfl) ?rest20
          case hy20 => (go_simp; try rfl)
          case' rest20 => try simp only [Act.put, List.setIfInBounds_toArray, List.set_cons_zero, List.set_cons_succ]
          refine wpL_done (by kernel_rfl) ?_ _
          go_wp2
          exact HP.out _ _ ⟨by rw [Hd.out]; rfl, HD.out.drew⟩
      · have hke : k = n1 := by omega
        have hd : decide (l = m) = true := by
          simp only [decide_eq_true_eq]
          have h := Heq.out
          rw [hke, List.take_of_length_le (by rw [← H1.out]; omega), List.take_of_length_le (by rw [← H2.out]; omega)] at h
          exact h
        have Hd := Sep.hid hd; clear hd hke
        go_wp2
        exact HP.out _ _ ⟨by rw [Hd.out]; rfl, HD.out⟩
  · have hne : ((n1 : Int) != (n2 : Int)) = true := by simp; omega
    have hd : decide (l = m) = false := by simp only [decide_eq_false_iff_not]; rintro rfl; exact hlen (h1.trans h2.symm)
    have Hd := Sep.hid hd; clear hd hlen h1 h2
    refine Sep.calls_post ?_
    intro Post_ hPost_
    have HP := Sep.hid hPost_
    clear hPost_
    go_enter Tryd.func18, Tryd.ntmps18
    go_wp2
    exact HP.out _ _ ⟨by rw [Hd.out]; rfl, Drew.refl _⟩

/-- Bytes that are ones. -/
def Bys (l : List Int) : Prop := ∀ x ∈ l, 0 ≤ x ∧ x ≤ 255
def numU (l : List Int) : Int := l.foldl (fun u c => 256 * u + c) 0
theorem numU_snoc (l : List Int) (c : Int) : numU (l ++ [c]) = 256 * numU l + c := by simp [numU]
theorem fold_in : ∀ (l : List Int) (u : Int), 0 ≤ u → Bys l → 0 ≤ l.foldl (fun u c => 256 * u + c) u ∧ l.foldl (fun u c => 256 * u + c) u + 1 ≤ (u + 1) * 256 ^ l.length
  | [], u, hu, _ => by simp; exact hu
  | c :: l, u, hu, hb => by
    have h2 := hb c (by simp)
    have h1 := fold_in l (256 * u + c) (by omega) (fun x hx => hb x (List.mem_cons_of_mem _ hx))
    rw [List.foldl_cons, List.length_cons, Int.pow_succ]
    refine ⟨h1.1, Int.le_trans h1.2 ?_⟩
    have h3 : (256 * u + c + 1) * 256 ^ l.length ≤ ((u + 1) * 256) * 256 ^ l.length := Int.mul_le_mul_of_nonneg_right (by omega) (Int.le_of_lt (Int.pow_pos (by decide)))
    rw [Int.mul_comm (256 ^ l.length) 256, ← Int.mul_assoc]
    exact h3
theorem numU_in {l : List Int} (h : Bys l) : 0 ≤ numU l ∧ numU l < 256 ^ l.length := by
  have h1 := fold_in l 0 (Int.le_refl _) h
  unfold numU
  refine ⟨h1.1, ?_⟩
  have h2 := h1.2
  rw [Int.zero_add, Int.one_mul] at h2
  omega
def numP (l : List Int) : Int := wrap64 (numU l)
def insP (l : List Int) : Deed := ⟨l[0]?.getD 0, l[1]?.getD 0, l[2]?.getD 0, numP ((l.drop 3).take 8)⟩
set_option maxHeartbeats 4000000 in
theorem rNum (a : Option Addr) (l : List Int) (n ca : Nat) (h8 : 8 ≤ n) (hn : Hid (l.length = n)) (hb : Bys l) (w : World) (ha : ReadsB w a l) :
    Calls Tryd.prog 24 #[.slice a n ca] w fun en w' => en = .returned (.int .i64 (numP (l.take 8))) ∧ w' = w := by
  have Ha := Sep.hid ha; clear ha
  have Hb := Sep.hid hb; clear hb
  refine Sep.calls_post ?_
  intro Post_ hPost_
  have HP := Sep.hid hPost_
  clear hPost_
  go_enter Tryd.func24, Tryd.ntmps24
  go_wp2_with fail
  go_loopw [4, 3] (fun i u wr => ∃ k : Nat, k ≤ 8 ∧ i = .int .i64 k ∧ u = .int .u64 (numU (l.take k)) ∧ wr = w) (fun i _ _ => 8 - (intOf i).toNat)
  case atStart => exact ⟨0, Nat.zero_le _, rfl, rfl, rfl⟩
  case round =>
    obtain ⟨k, hk, rfl, rfl, rfl⟩ := hrel
    by_cases hlt : k < 8
    · obtain ⟨x, hx⟩ : ∃ x, l[k]? = some x := ⟨_, List.getElem?_eq_getElem (by rw [hn.out]; omega)⟩
      obtain ⟨p, rfl, gx⟩ := Ha.out k x hx
      have Hx := Sep.hid hx; clear hx
      have Hbk : Hid (0 ≤ 256 * numU (l.take k) ∧ 0 ≤ 256 * numU (l.take k) + x ∧ 256 * numU (l.take k) + x ≤ 18446744073709551615 ∧ 0 ≤ x ∧ x ≤ 255) := Sep.hid (by
        have h1 := numU_in (l := l.take k) (fun y hy => Hb.out y (List.mem_of_mem_take hy))
        have h2 := Hb.out x (List.mem_of_getElem? Hx.out)
        have h3 : (256 : Int) ^ (l.take k).length ≤ 72057594037927936 := by
          have h4 : (l.take k).length ≤ 7 := by rw [List.length_take]; omega
          have h5 : (256 : Nat) ^ (l.take k).length ≤ 256 ^ 7 := Nat.pow_le_pow_right (by decide) h4
          have h6 : ((256 ^ (l.take k).length : Nat) : Int) ≤ ((256 ^ 7 : Nat) : Int) := Int.ofNat_le.2 h5
          simpa using h6
        omega)
      go_wp2_with fail
      go_roundw
      case rel =>
        refine ⟨k + 1, by omega, by go_num, ?_, by trivial⟩
        rw [takeB Hx.out, numU_snoc, IntWalk.u64_in _ ⟨Hbk.out.1, by have := Hbk.out; omega⟩, IntWalk.u64_in x ⟨Hbk.out.2.2.2.1, by have := Hbk.out; omega⟩, IntWalk.u64_in _ ⟨Hbk.out.2.1, Hbk.out.2.2.1⟩]
      case measure => simp [intOf]; omega
    · have hke : k = 8 := by omega
      subst hke
      go_wp2_with fail
      exact HP.out _ _ ⟨rfl, by trivial⟩
end Go.Proofs.YtmokklkckecmdaaDoor
