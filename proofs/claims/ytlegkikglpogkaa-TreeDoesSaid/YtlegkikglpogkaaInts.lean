/-
  Slices of whole numbers, and the walk of Same.
-/
import Derived.Test.YtlegkikglpogkaaTypes
import Derived.Test.YtlegkikglpogkaaSepList
import Derived.Test.YtlegkikglpogkaaSepMore
import Derived.Test.YtlegkikglpogkaaRegionS
namespace Go.Proofs.Ytlegkikglpogkaa
set_option linter.unusedSimpArgs false
set_option linter.unusedVariables false
open Go.RowKit Go.Sep

theorem Sl.value {e w : World} {L : List HProp} {i n sz : Nat} {v : Value} {cs : List Value} {T : TypeId} (hi : L[i]? = some (Sl T sz v n cs)) (hw : Holds e w L) : ∃ a cap, v = .slice a n cap := by
  refine hw.fact hi (fun h hh => ?_)
  rcases hh.2 with ⟨h1, h2⟩ | ⟨b, cap, pre, post, h1, _⟩
  · exact ⟨none, 0, by rw [h1, h2]⟩
  · exact ⟨_, _, h1⟩


def encI (l : List Int) : List Value := l.map (Value.int .i64)
theorem encI_length (l : List Int) : (encI l).length = l.length := by simp [encI]
theorem encI_append (l m : List Int) : encI (l ++ m) = encI l ++ encI m := by simp [encI]
theorem encI_one (l : List Int) : ∀ v ∈ encI l, v.oneCell' = true := by simp [encI, Value.oneCell']
/-- A slice of whole numbers. -/
def IsInts (v : Value) (l : List Int) : HProp := Sl 3 1 v l.length (encI l)
theorem sl_snoc (v : Value) (l : List Int) (t : Int) : Sl 3 1 v (l.length + 1) (encI l ++ [.int .i64 t]) = IsInts v (l ++ [t]) := by
  unfold IsInts
  rw [encI_append, List.length_append]
  rfl
def slLen : Value → Nat
  | .slice _ n _ => n
  | _ => 0
theorem encI_get {l : List Int} {k : Nat} {x : Int} (h : l[k]? = some x) : (encI l)[k]? = some (.int .i64 x) := by simp [encI, h]

set_option maxHeartbeats 1000000 in
theorem same_calls (u v : Value) (l m : List Int) (hL : l.length ≤ 1000000) (e w : World) (R : HProp) (hw : Holds e w [R, IsInts u l, IsInts v m]) :
    Calls Try.prog 17 #[u, v] w fun en w' => en = .returned (.bool (decide (l = m))) ∧ Holds e w' [R, IsInts u l, IsInts v m] := by
  have hw : Holds e w [R, Sl 3 1 u l.length (encI l), Sl 3 1 v m.length (encI m)] := hw
  obtain ⟨a, ca, rfl⟩ := Sl.value (i := 1) rfl hw
  obtain ⟨b, cb, rfl⟩ := Sl.value (i := 2) rfl hw
  by_cases hlen : l.length = m.length
  · have Hlm := Sep.hid hlen
    have hne : ((l.length : Int) != (m.length : Int)) = false := by simp [hlen]
    generalize hn : m.length = n at *
    generalize hn' : l.length = n' at *
    subst hlen
    have Hn := Sep.hid hn; clear hn
    have Hn' := Sep.hid hn'; clear hn'
    refine Sep.calls_post ?_
    intro Post_ hPost_
    have HP := Sep.hid hPost_
    clear hPost_
    go_enter Try.func17, Try.ntmps17
    go_wp2_with fail
    have Hw0 := Sep.hid hw; clear hw
    go_loopw [5] (fun i wr => ∃ k : Nat, k ≤ n' ∧ i = .int .i64 k ∧ l.take k = m.take k ∧ Holds e wr [R, Sl 3 1 (.slice a n' ca) n' (encI l), Sl 3 1 (.slice b n' cb) n' (encI m)]) (fun i _ => n' - (intOf i).toNat)
    case atStart => exact ⟨0, Nat.zero_le _, rfl, by simp, Hw0.out⟩
    case round =>
      clear Hw0
      obtain ⟨k, hk, rfl, heq, hw⟩ := hrel
      have Heq := Sep.hid heq; clear heq
      by_cases hlt : k < n'
      · obtain ⟨x, hx⟩ : ∃ x, l[k]? = some x := ⟨_, List.getElem?_eq_getElem (by rw [Hn'.out]; exact hlt)⟩
        obtain ⟨y, hy⟩ : ∃ y, m[k]? = some y := ⟨_, List.getElem?_eq_getElem (by rw [Hn.out]; exact hlt)⟩
        have Gx := Sep.hid (encI_get hx)
        have Gy := Sep.hid (encI_get hy)
        have Hx := Sep.hid hx; clear hx
        have Hy := Sep.hid hy; clear hy
        rcases hw.openSl (i := 1) rfl with ⟨_, h2, _⟩ | ⟨ba, ca', pre, post, hv, hnc, hcm, hpost, hw'⟩
        · omega
        cases hv
        clear hw; have hw := hw'; clear hw'
        (try simp only [List.map_cons, List.map_nil, List.getD_cons_zero, List.getD_cons_succ, List.getD_nil, List.set_cons_zero, List.set_cons_succ, List.cons_append, List.nil_append, Act.eval, Array.getD_eq_getD_getElem?, List.getElem?_toArray, List.getElem?_cons_succ, List.getElem?_cons_zero, Option.getD_some, Value.cells] at hw); (try simp (disch := first | (simp; done) | (simp; omega)) only [Sep.mid_set, Sep.mid_set2, Sep.mid_set0, Sep.mid_splice, Sep.mid_splice0, List.set_cons_zero, List.set_cons_succ] at hw); (try simp only [Sep.splice, List.take_succ_cons, List.take_zero, List.drop_succ_cons, List.drop_zero, List.length_cons, List.length_nil, Nat.reduceAdd, List.cons_append, List.nil_append] at hw)
        rcases hw.openSl (i := 2) rfl with ⟨_, h2, _⟩ | ⟨bb, cb', pre2, post2, hv, hnc2, hcm2, hpost2, hw'⟩
        · omega
        cases hv
        clear hw; have hw := hw'; clear hw'
        (try simp only [List.map_cons, List.map_nil, List.getD_cons_zero, List.getD_cons_succ, List.getD_nil, List.set_cons_zero, List.set_cons_succ, List.cons_append, List.nil_append, Act.eval, Array.getD_eq_getD_getElem?, List.getElem?_toArray, List.getElem?_cons_succ, List.getElem?_cons_zero, Option.getD_some, Value.cells] at hw); (try simp (disch := first | (simp; done) | (simp; omega)) only [Sep.mid_set, Sep.mid_set2, Sep.mid_set0, Sep.mid_splice, Sep.mid_splice0, List.set_cons_zero, List.set_cons_succ] at hw); (try simp only [Sep.splice, List.take_succ_cons, List.take_zero, List.drop_succ_cons, List.drop_zero, List.length_cons, List.length_nil, Nat.reduceAdd, List.cons_append, List.nil_append] at hw)
        have Hshut : Hid (∀ (w' : World), Holds e w' [R, pt ba (mid pre (encI l) post) 3, pt bb (mid pre2 (encI m) post2) 3] →
            Holds e w' [R, Sl 3 1 (.slice (some ⟨ba, pre.length, none⟩) n' ca) n' (encI l), Sl 3 1 (.slice (some ⟨bb, pre2.length, none⟩) n' cb) n' (encI m)]) :=
          Sep.hid fun w' h => (h.closeSl (i := 1) rfl (by rw [encI_length, Hn'.out]; omega) hnc hcm hpost).closeSl (i := 2) rfl (by rw [encI_length, Hn.out]; omega) hnc2 hcm2 hpost2
        clear hnc hcm hpost hnc2 hcm2 hpost2
        have gx : (mid pre (encI l) post)[pre.length + k]? = some (.int .i64 x) := by rw [Sep.mid_get _ _ _ _ (by rw [encI_length, Hn'.out]; exact hlt)]; exact Gx.out
        have gy : (mid pre2 (encI m) post2)[pre2.length + k]? = some (.int .i64 y) := by rw [Sep.mid_get _ _ _ _ (by rw [encI_length, Hn.out]; exact hlt)]; exact Gy.out
        (try replace hc0 := Sep.Holds.cells hw (i := 0) rfl); (try replace hc1 := Sep.Holds.cells hw (i := 1) rfl); (try replace hc2 := Sep.Holds.cells hw (i := 2) rfl); (try replace hc3 := Sep.Holds.cells hw (i := 3) rfl); (try replace hc4 := Sep.Holds.cells hw (i := 4) rfl); (try replace hc5 := Sep.Holds.cells hw (i := 5) rfl); (try replace hc6 := Sep.Holds.cells hw (i := 6) rfl)
        by_cases hxy : x = y
        · have h0 : (x != y) = false := by simp [hxy]
          have Hxy := Sep.hid hxy; clear hxy
          go_wp2_with fail
          refine wp_region_L [] [(3, (fun w' => w' = wr.drew)), (7, (fun w' => w' = wr.drew))] (n := 9) (listed := #[false, false, false, false, false, false, false, false, false]) (by kernel_rfl) rfl rfl ?conds1 ?_
          case conds1 =>
           intro c hc
           simp only [List.mem_cons, List.not_mem_nil, or_false] at hc
           rcases hc with rfl | rfl
           · rfl
           · rfl
          replace hw := hw.drew
          refine wpL_take 0 (C := fun _ => True) (v := ?v2) rfl (by kernel_rfl) (by kernel_rfl) (by kernel_rfl) (by kernel_rfl) (fun _ _ _ h => h) (.inl fun _ => trivial) (Or.inl ⟨by rfl, fun w_ hS_ => ?hy2⟩) (listed' := #[true, false, false, false, false, false, false, false, false]) (by kernel_rfl) ?rest2
          case hy2 => (go_simp; try rfl)
          case' rest2 => try simp only [Act.put, List.setIfInBounds_toArray, List.set_cons_zero, List.set_cons_succ]
          refine wpL_take 1 (C := fun _ => True) (v := ?v3) rfl (by kernel_rfl) (by kernel_rfl) (by kernel_rfl) (by kernel_rfl) (fun _ _ _ h => h) (.inl fun _ => trivial) (Or.inl ⟨by rfl, fun w_ hS_ => ?hy3⟩) (listed' := #[true, true, false, false, false, false, false, false, false]) (by kernel_rfl) ?rest3
          case hy3 => (go_simp; try rfl)
          case' rest3 => try simp only [Act.put, List.setIfInBounds_toArray, List.set_cons_zero, List.set_cons_succ]
          refine wpL_take 2 (C := fun _ => True) (v := ?v4) rfl (by kernel_rfl) (by kernel_rfl) (by kernel_rfl) (by kernel_rfl) (fun _ _ _ h => h) (.inl fun _ => trivial) (Or.inl ⟨by rfl, fun w_ hS_ => ?hy4⟩) (listed' := #[true, true, true, false, false, false, false, false, false]) (by kernel_rfl) ?rest4
          case hy4 => (go_simp; try rfl)
          case' rest4 => try simp only [Act.put, List.setIfInBounds_toArray, List.set_cons_zero, List.set_cons_succ]
          refine wpL_take 3 (C := (fun w' => w' = wr.drew)) (v := ?v5) rfl (by kernel_rfl) (by kernel_rfl) (by kernel_rfl) (by kernel_rfl) (fun _ _ _ h => h) (.inr (.head _)) (Or.inl ⟨by rfl, fun w_ hS_ => ?hy5⟩) (listed' := #[true, true, true, true, false, false, false, false, false]) (by kernel_rfl) ?rest5
          case hy5 => (subst hS_; go_simp; try rfl)
          case' rest5 => try simp only [Act.put, List.setIfInBounds_toArray, List.set_cons_zero, List.set_cons_succ]
          refine wpL_take 4 (C := fun _ => True) (v := ?v6) rfl (by kernel_rfl) (by kernel_rfl) (by kernel_rfl) (by kernel_rfl) (fun _ _ _ h => h) (.inl fun _ => trivial) (Or.inl ⟨by rfl, fun w_ hS_ => ?hy6⟩) (listed' := #[true, true, true, true, true, false, false, false, false]) (by kernel_rfl) ?rest6
          case hy6 => (go_simp; try rfl)
          case' rest6 => try simp only [Act.put, List.setIfInBounds_toArray, List.set_cons_zero, List.set_cons_succ]
          refine wpL_take 5 (C := fun _ => True) (v := ?v7) rfl (by kernel_rfl) (by kernel_rfl) (by kernel_rfl) (by kernel_rfl) (fun _ _ _ h => h) (.inl fun _ => trivial) (Or.inl ⟨by rfl, fun w_ hS_ => ?hy7⟩) (listed' := #[true, true, true, true, true, true, false, false, false]) (by kernel_rfl) ?rest7
          case hy7 => (go_simp; try rfl)
          case' rest7 => try simp only [Act.put, List.setIfInBounds_toArray, List.set_cons_zero, List.set_cons_succ]
          refine wpL_take 6 (C := fun _ => True) (v := ?v8) rfl (by kernel_rfl) (by kernel_rfl) (by kernel_rfl) (by kernel_rfl) (fun _ _ _ h => h) (.inl fun _ => trivial) (Or.inl ⟨by rfl, fun w_ hS_ => ?hy8⟩) (listed' := #[true, true, true, true, true, true, true, false, false]) (by kernel_rfl) ?rest8
          case hy8 => (go_simp; try rfl)
          case' rest8 => try simp only [Act.put, List.setIfInBounds_toArray, List.set_cons_zero, List.set_cons_succ]
          refine wpL_take 7 (C := (fun w' => w' = wr.drew)) (v := ?v9) rfl (by kernel_rfl) (by kernel_rfl) (by kernel_rfl) (by kernel_rfl) (fun _ _ _ h => h) (.inr (.tail _ (.head _))) (Or.inl ⟨by rfl, fun w_ hS_ => ?hy9⟩) (listed' := #[true, true, true, true, true, true, true, true, false]) (by kernel_rfl) ?rest9
          case hy9 => (subst hS_; go_simp; try rfl)
          case' rest9 => try simp only [Act.put, List.setIfInBounds_toArray, List.set_cons_zero, List.set_cons_succ]
          refine wpL_take 8 (C := fun _ => True) (v := ?v10) rfl (by kernel_rfl) (by kernel_rfl) (by kernel_rfl) (by kernel_rfl) (fun _ _ _ h => h) (.inl fun _ => trivial) (Or.inl ⟨by rfl, fun w_ hS_ => ?hy10⟩) (listed' := #[true, true, true, true, true, true, true, true, true]) (by kernel_rfl) ?rest10
          case hy10 => (go_simp; try rfl)
          case' rest10 => try simp only [Act.put, List.setIfInBounds_toArray, List.set_cons_zero, List.set_cons_succ]
          refine wpL_done (by kernel_rfl) ?_ _
          go_wp2
          go_roundw
          case rel => exact ⟨k + 1, by omega, by go_num, by rw [List.take_add_one, List.take_add_one, Heq.out, Hx.out, Hy.out, Hxy.out], Hshut.out _ hw⟩
          case measure => simp [intOf]; omega
        · have h0 : (x != y) = true := by simp [hxy]
          have hd : decide (l = m) = false := by
            simp only [decide_eq_false_iff_not]
            rintro rfl
            have := Hx.out.symm.trans Hy.out
            simp at this
            exact hxy this
          have Hd := Sep.hid hd; clear hd
          clear hxy
          go_wp2_with fail
          refine wp_region_L [] [(3, (fun w' => w' = wr.drew)), (7, (fun w' => w' = wr.drew))] (n := 9) (listed := #[false, false, false, false, false, false, false, false, false]) (by kernel_rfl) rfl rfl ?conds11 ?_
          case conds11 =>
           intro c hc
           simp only [List.mem_cons, List.not_mem_nil, or_false] at hc
           rcases hc with rfl | rfl
           · rfl
           · rfl
          replace hw := hw.drew
          refine wpL_take 0 (C := fun _ => True) (v := ?v12) rfl (by kernel_rfl) (by kernel_rfl) (by kernel_rfl) (by kernel_rfl) (fun _ _ _ h => h) (.inl fun _ => trivial) (Or.inl ⟨by rfl, fun w_ hS_ => ?hy12⟩) (listed' := #[true, false, false, false, false, false, false, false, false]) (by kernel_rfl) ?rest12
          case hy12 => (go_simp; try rfl)
          case' rest12 => try simp only [Act.put, List.setIfInBounds_toArray, List.set_cons_zero, List.set_cons_succ]
          refine wpL_take 1 (C := fun _ => True) (v := ?v13) rfl (by kernel_rfl) (by kernel_rfl) (by kernel_rfl) (by kernel_rfl) (fun _ _ _ h => h) (.inl fun _ => trivial) (Or.inl ⟨by rfl, fun w_ hS_ => ?hy13⟩) (listed' := #[true, true, false, false, false, false, false, false, false]) (by kernel_rfl) ?rest13
          case hy13 => (go_simp; try rfl)
          case' rest13 => try simp only [Act.put, List.setIfInBounds_toArray, List.set_cons_zero, List.set_cons_succ]
          refine wpL_take 2 (C := fun _ => True) (v := ?v14) rfl (by kernel_rfl) (by kernel_rfl) (by kernel_rfl) (by kernel_rfl) (fun _ _ _ h => h) (.inl fun _ => trivial) (Or.inl ⟨by rfl, fun w_ hS_ => ?hy14⟩) (listed' := #[true, true, true, false, false, false, false, false, false]) (by kernel_rfl) ?rest14
          case hy14 => (go_simp; try rfl)
          case' rest14 => try simp only [Act.put, List.setIfInBounds_toArray, List.set_cons_zero, List.set_cons_succ]
          refine wpL_take 3 (C := (fun w' => w' = wr.drew)) (v := ?v15) rfl (by kernel_rfl) (by kernel_rfl) (by kernel_rfl) (by kernel_rfl) (fun _ _ _ h => h) (.inr (.head _)) (Or.inl ⟨by rfl, fun w_ hS_ => ?hy15⟩) (listed' := #[true, true, true, true, false, false, false, false, false]) (by kernel_rfl) ?rest15
          case hy15 => (subst hS_; go_simp; try rfl)
          case' rest15 => try simp only [Act.put, List.setIfInBounds_toArray, List.set_cons_zero, List.set_cons_succ]
          refine wpL_take 4 (C := fun _ => True) (v := ?v16) rfl (by kernel_rfl) (by kernel_rfl) (by kernel_rfl) (by kernel_rfl) (fun _ _ _ h => h) (.inl fun _ => trivial) (Or.inl ⟨by rfl, fun w_ hS_ => ?hy16⟩) (listed' := #[true, true, true, true, true, false, false, false, false]) (by kernel_rfl) ?rest16
          case hy16 => (go_simp; try rfl)
          case' rest16 => try simp only [Act.put, List.setIfInBounds_toArray, List.set_cons_zero, List.set_cons_succ]
          refine wpL_take 5 (C := fun _ => True) (v := ?v17) rfl (by kernel_rfl) (by kernel_rfl) (by kernel_rfl) (by kernel_rfl) (fun _ _ _ h => h) (.inl fun _ => trivial) (Or.inl ⟨by rfl, fun w_ hS_ => ?hy17⟩) (listed' := #[true, true, true, true, true, true, false, false, false]) (by kernel_rfl) ?rest17
          case hy17 => (go_simp; try rfl)
          case' rest17 => try simp only [Act.put, List.setIfInBounds_toArray, List.set_cons_zero, List.set_cons_succ]
          refine wpL_take 6 (C := fun _ => True) (v := ?v18) rfl (by kernel_rfl) (by kernel_rfl) (by kernel_rfl) (by kernel_rfl) (fun _ _ _ h => h) (.inl fun _ => trivial) (Or.inl ⟨by rfl, fun w_ hS_ => ?hy18⟩) (listed' := #[true, true, true, true, true, true, true, false, false]) (by kernel_rfl) ?rest18
          case hy18 => (go_simp; try rfl)
          case' rest18 => try simp only [Act.put, List.setIfInBounds_toArray, List.set_cons_zero, List.set_cons_succ]
          refine wpL_take 7 (C := (fun w' => w' = wr.drew)) (v := ?v19) rfl (by kernel_rfl) (by kernel_rfl) (by kernel_rfl) (by kernel_rfl) (fun _ _ _ h => h) (.inr (.tail _ (.head _))) (Or.inl ⟨by rfl, fun w_ hS_ => ?hy19⟩) (listed' := #[true, true, true, true, true, true, true, true, false]) (by kernel_rfl) ?rest19
          case hy19 => (subst hS_; go_simp; try rfl)
          case' rest19 => try simp only [Act.put, List.setIfInBounds_toArray, List.set_cons_zero, List.set_cons_succ]
          refine wpL_take 8 (C := fun _ => True) (v := ?v20) rfl (by kernel_rfl) (by kernel_rfl) (by kernel_rfl) (by kernel_rfl) (fun _ _ _ h => h) (.inl fun _ => trivial) (Or.inl ⟨by rfl, fun w_ hS_ => ?hy20⟩) (listed' := #[true, true, true, true, true, true, true, true, true]) (by kernel_rfl) ?rest20
          case hy20 => (go_simp; try rfl)
          case' rest20 => try simp only [Act.put, List.setIfInBounds_toArray, List.set_cons_zero, List.set_cons_succ]
          refine wpL_done (by kernel_rfl) ?_ _
          go_wp2
          exact HP.out _ _ ⟨by rw [Hd.out]; rfl, by unfold IsInts; rw [Hn.out, Hn'.out]; exact Hshut.out _ hw⟩
      · have hke : k = n' := by omega
        have hd : decide (l = m) = true := by
          simp only [decide_eq_true_eq]
          have h := Heq.out
          rw [hke, List.take_of_length_le (by rw [Hn'.out]; omega), List.take_of_length_le (by rw [Hn.out]; omega)] at h
          exact h
        have Hd := Sep.hid hd; clear hd hke
        go_wp2
        exact HP.out _ _ ⟨by rw [Hd.out]; rfl, by unfold IsInts; rw [Hn.out, Hn'.out]; exact hw⟩
  · have hne : ((l.length : Int) != (m.length : Int)) = true := by simp; omega
    have hd : decide (l = m) = false := by simp only [decide_eq_false_iff_not]; rintro rfl; exact hlen rfl
    have Hd := Sep.hid hd; clear hd hlen
    refine Sep.calls_post ?_
    intro Post_ hPost_
    have HP := Sep.hid hPost_
    clear hPost_
    go_enter Try.func17, Try.ntmps17
    go_wp2
    exact HP.out _ _ ⟨by rw [Hd.out]; rfl, hw⟩
end Go.Proofs.Ytlegkikglpogkaa
