/-
  RingFirst: the walk.
-/
import Derived.Test.YtmjpppemdjknoaaRingAwake
import Derived.Test.YtmjpppemdjknoaaFirstM
import Derived.Test.YtmjpppemdjknoaaLawFrame
import Derived.IntWalk
namespace Go.Proofs.Ytmjpppemdjknoaa
set_option linter.unusedSimpArgs false
set_option linter.unusedVariables false
open Go.RowKit Go.Sep Go.RingM

/-- Whole numbers that came in: as they lie in the world in which the law began. -/
def IntsAt (e : World) (a : Option Addr) (l : List Int) : Prop := ∀ (i : Nat) (n : Int), l[i]? = some n → ∃ p : Addr, a = some p ∧ e.cell? (p.add i) = some (.int .i64 n)
def BoolsAt (e : World) (a : Option Addr) (l : List Bool) : Prop := ∀ (i : Nat) (n : Bool), l[i]? = some n → ∃ p : Addr, a = some p ∧ e.cell? (p.add i) = some (.bool n)
theorem old_cell {e w : World} {L : List HProp} {i : Nat} (hw : Holds e w L) (hi : L[i]? = some (Old e)) {p : Addr} {v : Value} (h : e.cell? p = some v) : w.cell? p = some v := by
  rw [(hw.below hi).cell (World.block_lt_of_cell? e _ h)]; exact h
theorem one_len {p : Nat} {c : List Nat} {e w : World} {X : HProp} (hw : Holds e w [X, IsRing p (one c)]) : c.length ≤ 20 := by
  have hW := ring_wf hw
  exact nodup_le (hW.one 0 _ (one_row c)).1 (hW.one 0 _ (one_row c)).2

set_option maxRecDepth 20000 in
set_option maxHeartbeats 40000000 in
theorem first_walk (a : Option Addr) (cap : Nat) (l : List Int) (b : Option Addr) (capb : Nat) (d : List Bool) (e : World) (hl : Hid (IntsAt e a l)) (hd : Hid (BoolsAt e b d)) (hlen : l.length ≤ 9223372036854775807) (hlend : d.length ≤ 9223372036854775807) :
    Calls Try.prog 4 #[.slice a l.length cap, .slice b d.length capb] e fun en w' => en = .returned (.bool true) ∧ Holds e w' [Old e] := by
  have hw := Holds.start e
  by_cases hlong : l.length ≤ 20
  · refine Sep.calls_post ?_
    intro Post_ hPost_
    have HP := Sep.hid hPost_
    clear hPost_
    go_enter Try.func4, Try.ntmps4
    go_wp2_with fail
    refine (awake_calls e _ _ hw).mono ?_
    rintro en_ w_ ⟨rfl, hw_⟩
    clear hw; have hw := hw_; clear hw_
    go_wp2_with fail
    refine (rNew_ok 1 20 (by decide) (by decide) (by decide) (by decide) e _ _ hw).mono ?_
    rintro en_ w_ ⟨p, rfl, hw_⟩
    clear hw
    have hw : Holds e w_ [Old e, IsRing p (one [])] := hw_
    clear hw_
    go_wp2_with (refine wpList_on rfl (wp_bsl0 rfl hw ?_); intro b_ w_ hw_; clear hw; have hw := hw_; clear hw_; (try simp only [List.map_cons, List.map_nil, List.getD_cons_zero, List.getD_cons_succ, List.getD_nil, List.set_cons_zero, List.set_cons_succ, List.cons_append, List.nil_append, Act.eval, Array.getD_eq_getD_getElem?, List.getElem?_toArray, List.getElem?_cons_succ, List.getElem?_cons_zero, Option.getD_some, Value.cells] at hw); (try simp (disch := first | (simp; done) | (simp; omega)) only [Sep.mid_set, Sep.mid_set2, Sep.mid_set0, Sep.mid_splice, Sep.mid_splice0, List.set_cons_zero, List.set_cons_succ] at hw); (try simp only [Sep.splice, List.take_succ_cons, List.take_zero, List.drop_succ_cons, List.drop_zero, List.length_cons, List.length_nil, Nat.reduceAdd, List.cons_append, List.nil_append] at hw); (try replace hc0 := Sep.Holds.cells hw (i := 0) rfl); (try replace hc1 := Sep.Holds.cells hw (i := 1) rfl); (try replace hc2 := Sep.Holds.cells hw (i := 2) rfl); (try replace hc3 := Sep.Holds.cells hw (i := 3) rfl); (try replace hc4 := Sep.Holds.cells hw (i := 4) rfl); (try replace hc5 := Sep.Holds.cells hw (i := 5) rfl); (try replace hc6 := Sep.Holds.cells hw (i := 6) rfl))
    have hw := hw.newSl (i := 2) rfl 1 0 rfl (by decide)
    have Hw0 := Sep.hid hw; clear hw; (try clear hc0); (try clear hc1); (try clear hc2); (try clear hc3); (try clear hc4); (try clear hc5); (try clear hc6)
    generalize hlen' : l.length = len at *
    have Hlen := Sep.hid hlen'; clear hlen'
    generalize hdlen' : d.length = dlen at *
    have Hdlen := Sep.hid hdlen'; clear hdlen'
    go_loopw [7, 33] (fun o i wr => ∃ (q : Nat) (c : List Nat), q ≤ len ∧ i = .int .i64 q ∧ Holds e wr [Old e, IsRing p (one c), Sl 3 1 o c.length (encI (ints c))]) (fun _ i _ => len - (intOf i).toNat)
    case atStart => exact ⟨0, [], Nat.zero_le _, rfl, Hw0.out⟩
    case round =>
      clear Hw0
      obtain ⟨q, c, hq, rfl, hw⟩ := hrel
      obtain ⟨oa, oc, rfl⟩ := Sl.value (i := 2) rfl hw
      by_cases hlt : q < len
      · obtain ⟨n, hn⟩ : ∃ n, l[q]? = some n := ⟨_, List.getElem?_eq_getElem (by rw [Hlen.out]; exact hlt)⟩
        obtain ⟨ad, rfl, hcell⟩ := hl.out q n hn
        have hcl := old_cell (i := 0) hw rfl hcell
        have hring := hw.focus1 1 rfl
        have hW := ring_wf hring
        have hcl20 := one_len hring
        clear hring hcell hn
        have Hadd := Sep.hid (one_add hW n)
        have Hmay := Sep.hid (one_may hW n)
        have Hcl20 := Sep.hid hcl20
        clear hW hcl20
        have hcn : comes c n = true → ∃ m : Nat, n = (m : Int) := fun h => by
          unfold comes at h; simp only [decide_eq_true_eq] at h
          exact ⟨n.toNat, by omega⟩
        cases hcm : comes c n with
        | true =>
          obtain ⟨m, rfl⟩ := hcn hcm
          have h0 : (one c).mayE 0 (m : Int) = 0 := by have := Hmay.out; rw [hcm] at this; simpa using this
          have Hadd2 : Hid ((one c).add false 0 (m : Int) = one (c ++ [m])) := Sep.hid (by rw [Hadd.out, hcm]; simp)
          clear hcn Hadd Hmay hcm
          go_wp2_with fail
          refine (rPut_calls p (one c) 0 m e _ _ (hw.focus1 1 rfl)).mono ?_
          rintro en_ w_ ⟨rfl, hw_⟩
          clear hw; have hw := Holds.unfocus1 (N := []) 1 (by simp) hw_; clear hw_
          rw [Hadd2.out] at hw
          rw [h0]
          (try simp only [List.map_cons, List.map_nil, List.getD_cons_zero, List.getD_cons_succ, List.getD_nil, List.set_cons_zero, List.set_cons_succ, List.cons_append, List.nil_append, Act.eval, Array.getD_eq_getD_getElem?, List.getElem?_toArray, List.getElem?_cons_succ, List.getElem?_cons_zero, Option.getD_some, Value.cells] at hw); (try simp (disch := first | (simp; done) | (simp; omega)) only [Sep.mid_set, Sep.mid_set2, Sep.mid_set0, Sep.mid_splice, Sep.mid_splice0, List.set_cons_zero, List.set_cons_succ] at hw); (try simp only [Sep.splice, List.take_succ_cons, List.take_zero, List.drop_succ_cons, List.drop_zero, List.length_cons, List.length_nil, Nat.reduceAdd, List.cons_append, List.nil_append] at hw)
          clear h0
          go_wp2_with (first | (refine wpList_on rfl (wp_bsl1 rfl rfl (by rfl) (by rfl) (by decide) hw ?_); intro b_ w_ hw_; clear hw; have hw := hw_; clear hw_; (try simp only [List.map_cons, List.map_nil, List.getD_cons_zero, List.getD_cons_succ, List.getD_nil, List.set_cons_zero, List.set_cons_succ, List.cons_append, List.nil_append, Act.eval, Array.getD_eq_getD_getElem?, List.getElem?_toArray, List.getElem?_cons_succ, List.getElem?_cons_zero, Option.getD_some, Value.cells] at hw); (try simp (disch := first | (simp; done) | (simp; omega)) only [Sep.mid_set, Sep.mid_set2, Sep.mid_set0, Sep.mid_splice, Sep.mid_splice0, List.set_cons_zero, List.set_cons_succ] at hw); (try simp only [Sep.splice, List.take_succ_cons, List.take_zero, List.drop_succ_cons, List.drop_zero, List.length_cons, List.length_nil, Nat.reduceAdd, List.cons_append, List.nil_append] at hw); (try replace hc0 := Sep.Holds.cells hw (i := 0) rfl); (try replace hc1 := Sep.Holds.cells hw (i := 1) rfl); (try replace hc2 := Sep.Holds.cells hw (i := 2) rfl); (try replace hc3 := Sep.Holds.cells hw (i := 3) rfl); (try replace hc4 := Sep.Holds.cells hw (i := 4) rfl); (try replace hc5 := Sep.Holds.cells hw (i := 5) rfl); (try replace hc6 := Sep.Holds.cells hw (i := 6) rfl)) | (at_builtin; refine wpList_on rfl (wp_appendPt (i := 2) (j := 3) rfl rfl hw rfl rfl rfl (by rfl) (by simp [Value.oneCell']) (by decide) (by rfl) (by have := Hcl20.out; (try unfold maxLen); omega) (by have := Hcl20.out; (try unfold maxLen); omega) ?_); intro b2_ cap2_ off2_ w_ hcap2_ hw_; clear hw; have hw := hw_; clear hw_; (try simp only [List.map_cons, List.map_nil, List.getD_cons_zero, List.getD_cons_succ, List.getD_nil, List.set_cons_zero, List.set_cons_succ, List.cons_append, List.nil_append, Act.eval, Array.getD_eq_getD_getElem?, List.getElem?_toArray, List.getElem?_cons_succ, List.getElem?_cons_zero, Option.getD_some, Value.cells] at hw); (try simp (disch := first | (simp; done) | (simp; omega)) only [Sep.mid_set, Sep.mid_set2, Sep.mid_set0, Sep.mid_splice, Sep.mid_splice0, List.set_cons_zero, List.set_cons_succ] at hw); (try simp only [Sep.splice, List.take_succ_cons, List.take_zero, List.drop_succ_cons, List.drop_zero, List.length_cons, List.length_nil, Nat.reduceAdd, List.cons_append, List.nil_append] at hw); (try replace hc0 := Sep.Holds.cells hw (i := 0) rfl); (try replace hc1 := Sep.Holds.cells hw (i := 1) rfl); (try replace hc2 := Sep.Holds.cells hw (i := 2) rfl); (try replace hc3 := Sep.Holds.cells hw (i := 3) rfl); (try replace hc4 := Sep.Holds.cells hw (i := 4) rfl); (try replace hc5 := Sep.Holds.cells hw (i := 5) rfl); (try replace hc6 := Sep.Holds.cells hw (i := 6) rfl)))
          go_roundw
          case rel =>
            refine ⟨q + 1, c ++ [m], by omega, by go_num, ?_⟩
            rw [ints_snoc, List.length_append]
            exact hw.sel [0, 1, 2] (by decide)
          case measure => simp [intOf]; omega
        | false =>
          have h0 : ¬ (one c).mayE 0 n = 0 := by have := Hmay.out; rw [hcm] at this; simpa using this
          have Hadd2 : Hid ((one c).add false 0 n = one c) := Sep.hid (by rw [Hadd.out, hcm]; simp)
          clear hcn Hadd Hmay hcm
          go_wp2_with fail
          refine (rPut_calls p (one c) 0 n e _ _ (hw.focus1 1 rfl)).mono ?_
          rintro en_ w_ ⟨rfl, hw_⟩
          clear hw; have hw := Holds.unfocus1 (N := []) 1 (by simp) hw_; clear hw_
          rw [Hadd2.out] at hw
          (try simp only [List.map_cons, List.map_nil, List.getD_cons_zero, List.getD_cons_succ, List.getD_nil, List.set_cons_zero, List.set_cons_succ, List.cons_append, List.nil_append, Act.eval, Array.getD_eq_getD_getElem?, List.getElem?_toArray, List.getElem?_cons_succ, List.getElem?_cons_zero, Option.getD_some, Value.cells] at hw); (try simp (disch := first | (simp; done) | (simp; omega)) only [Sep.mid_set, Sep.mid_set2, Sep.mid_set0, Sep.mid_splice, Sep.mid_splice0, List.set_cons_zero, List.set_cons_succ] at hw); (try simp only [Sep.splice, List.take_succ_cons, List.take_zero, List.drop_succ_cons, List.drop_zero, List.length_cons, List.length_nil, Nat.reduceAdd, List.cons_append, List.nil_append] at hw)
          go_wp2_with fail
          go_roundw
          case rel => exact ⟨q + 1, c, by omega, by go_num, hw⟩
          case measure => simp [intOf]; omega
      · clear hq
        have hge : len ≤ q := by omega
        clear hlt
        have Hcl20 : Hid (c.length ≤ 20) := Sep.hid (one_len (hw.focus1 1 rfl))
        go_wp2_with (refine wpList_on rfl (wp_bsl0 rfl hw ?_); intro b_ w_ hw_; clear hw; have hw := hw_; clear hw_; (try simp only [List.map_cons, List.map_nil, List.getD_cons_zero, List.getD_cons_succ, List.getD_nil, List.set_cons_zero, List.set_cons_succ, List.cons_append, List.nil_append, Act.eval, Array.getD_eq_getD_getElem?, List.getElem?_toArray, List.getElem?_cons_succ, List.getElem?_cons_zero, Option.getD_some, Value.cells] at hw); (try simp (disch := first | (simp; done) | (simp; omega)) only [Sep.mid_set, Sep.mid_set2, Sep.mid_set0, Sep.mid_splice, Sep.mid_splice0, List.set_cons_zero, List.set_cons_succ] at hw); (try simp only [Sep.splice, List.take_succ_cons, List.take_zero, List.drop_succ_cons, List.drop_zero, List.length_cons, List.length_nil, Nat.reduceAdd, List.cons_append, List.nil_append] at hw); (try replace hc0 := Sep.Holds.cells hw (i := 0) rfl); (try replace hc1 := Sep.Holds.cells hw (i := 1) rfl); (try replace hc2 := Sep.Holds.cells hw (i := 2) rfl); (try replace hc3 := Sep.Holds.cells hw (i := 3) rfl); (try replace hc4 := Sep.Holds.cells hw (i := 4) rfl); (try replace hc5 := Sep.Holds.cells hw (i := 5) rfl); (try replace hc6 := Sep.Holds.cells hw (i := 6) rfl))
        have hw := hw.newSl (i := 3) rfl 1 0 rfl (by decide)
        have Hw0 := Sep.hid hw; clear hw; (try clear hc0); (try clear hc1); (try clear hc2); (try clear hc3); (try clear hc4); (try clear hc5); (try clear hc6)
        go_loopw [10, 49] (fun o i wr => ∃ (k : Nat) (lf : List Nat), k ≤ c.length ∧ i = .int .i64 k ∧ lf.length ≤ k ∧ Holds e wr [Old e, IsRing p (one (lf ++ c.drop k)), Sl 3 1 (.slice oa c.length oc) c.length (encI (ints c)), Sl 3 1 o lf.length (encI (ints lf))]) (fun _ i _ => c.length - (intOf i).toNat)
        case atStart => exact ⟨0, [], Nat.zero_le _, rfl, Nat.le_refl _, Hw0.out⟩
        case round =>
          clear Hw0
          obtain ⟨k, lf, hk, rfl, hlf, hw⟩ := hrel
          obtain ⟨ob, ocb, rfl⟩ := Sl.value (i := 3) rfl hw
          have hc20 : c.length ≤ 20 := Hcl20.out
          by_cases hkl : k < c.length
          · obtain ⟨m, hm⟩ : ∃ m, c[k]? = some m := ⟨_, List.getElem?_eq_getElem hkl⟩
            have hdrop : c.drop k = m :: c.drop (k + 1) := by
              obtain ⟨h1, rfl⟩ := List.getElem?_eq_some_iff.1 hm
              exact List.drop_eq_getElem_cons h1
            rw [hdrop] at hw
            have Hm := Sep.hid hm; clear hm hdrop
            rcases hw.openSl (i := 2) rfl with ⟨_, h2, _⟩ | ⟨ba, ca', pre, post, hv, hnc, hcm, hpost, hw'⟩
            · omega
            cases hv
            clear hw; have hw := hw'; clear hw'
            (try simp only [List.map_cons, List.map_nil, List.getD_cons_zero, List.getD_cons_succ, List.getD_nil, List.set_cons_zero, List.set_cons_succ, List.cons_append, List.nil_append, Act.eval, Array.getD_eq_getD_getElem?, List.getElem?_toArray, List.getElem?_cons_succ, List.getElem?_cons_zero, Option.getD_some, Value.cells] at hw); (try simp (disch := first | (simp; done) | (simp; omega)) only [Sep.mid_set, Sep.mid_set2, Sep.mid_set0, Sep.mid_splice, Sep.mid_splice0, List.set_cons_zero, List.set_cons_succ] at hw); (try simp only [Sep.splice, List.take_succ_cons, List.take_zero, List.drop_succ_cons, List.drop_zero, List.length_cons, List.length_nil, Nat.reduceAdd, List.cons_append, List.nil_append] at hw)
            have Hshut : Hid (∀ (w' : World) (X Y : HProp), Holds e w' [Old e, X, pt ba (mid pre (encI (ints c)) post) 3, Y] → Holds e w' [Old e, X, Sl 3 1 (.slice (some ⟨ba, pre.length, none⟩) c.length oc) c.length (encI (ints c)), Y]) :=
              Sep.hid fun w' X Y h => h.closeSl (i := 2) rfl (by rw [encI_length, ints_length]; omega) hnc hcm hpost
            clear hnc hcm hpost
            have gx : (mid pre (encI (ints c)) post)[pre.length + k]? = some (.int .i64 (m : Int)) := by
              rw [Sep.mid_get _ _ _ _ (by rw [encI_length, ints_length]; exact hkl)]
              exact encI_get (by simp [ints, Hm.out])
            (try replace hc0 := Sep.Holds.cells hw (i := 0) rfl); (try replace hc1 := Sep.Holds.cells hw (i := 1) rfl); (try replace hc2 := Sep.Holds.cells hw (i := 2) rfl); (try replace hc3 := Sep.Holds.cells hw (i := 3) rfl); (try replace hc4 := Sep.Holds.cells hw (i := 4) rfl); (try replace hc5 := Sep.Holds.cells hw (i := 5) rfl); (try replace hc6 := Sep.Holds.cells hw (i := 6) rfl)
            by_cases hkd : k < dlen
            · obtain ⟨y, hy⟩ : ∃ y, d[k]? = some y := ⟨_, List.getElem?_eq_getElem (by rw [Hdlen.out]; exact hkd)⟩
              obtain ⟨bd, rfl, hcell⟩ := hd.out k y hy
              have hcl := old_cell (i := 0) hw rfl hcell
              clear hcell hy
              cases y with
              | true =>
                have hring := hw.focus1 1 rfl
                have hW := ring_wf hring
                have hd1 := one_drop hW
                have Hd1 := Sep.hid hd1
                clear hring hd1
                have HW := Sep.hid hW; clear hW
                go_wp2_with fail
                refine (rDrop_calls p _ m e _ _ (hw.focus1 1 rfl)).mono ?_
                rintro en_ w_ ⟨he_, hw_⟩
                rw [Hd1.out.1] at he_
                obtain rfl : en_ = .returned (.bool true) := he_
                clear hw; have hw := Holds.unfocus1 (N := []) 1 (by simp) hw_; clear hw_
                rw [Hd1.out.2] at hw
                (try simp only [List.map_cons, List.map_nil, List.getD_cons_zero, List.getD_cons_succ, List.getD_nil, List.set_cons_zero, List.set_cons_succ, List.cons_append, List.nil_append, Act.eval, Array.getD_eq_getD_getElem?, List.getElem?_toArray, List.getElem?_cons_succ, List.getElem?_cons_zero, Option.getD_some, Value.cells] at hw); (try simp (disch := first | (simp; done) | (simp; omega)) only [Sep.mid_set, Sep.mid_set2, Sep.mid_set0, Sep.mid_splice, Sep.mid_splice0, List.set_cons_zero, List.set_cons_succ] at hw); (try simp only [Sep.splice, List.take_succ_cons, List.take_zero, List.drop_succ_cons, List.drop_zero, List.length_cons, List.length_nil, Nat.reduceAdd, List.cons_append, List.nil_append] at hw)
                have hgone := one_gone HW.out (ring_wf (hw.focus1 1 rfl))
                have Hgone := Sep.hid hgone; clear hgone
                go_wp2_with fail
                refine (rDrop_calls p _ m e _ _ (hw.focus1 1 rfl)).mono ?_
                rintro en_ w_ ⟨he_, hw_⟩
                rw [Hgone.out] at he_
                obtain rfl : en_ = .returned (.bool false) := he_
                clear hw; have hw := Holds.unfocus1 (N := []) 1 (by simp) hw_; clear hw_
                rw [Ring.drop_no Hgone.out] at hw
                (try simp only [List.map_cons, List.map_nil, List.getD_cons_zero, List.getD_cons_succ, List.getD_nil, List.set_cons_zero, List.set_cons_succ, List.cons_append, List.nil_append, Act.eval, Array.getD_eq_getD_getElem?, List.getElem?_toArray, List.getElem?_cons_succ, List.getElem?_cons_zero, Option.getD_some, Value.cells] at hw); (try simp (disch := first | (simp; done) | (simp; omega)) only [Sep.mid_set, Sep.mid_set2, Sep.mid_set0, Sep.mid_splice, Sep.mid_splice0, List.set_cons_zero, List.set_cons_succ] at hw); (try simp only [Sep.splice, List.take_succ_cons, List.take_zero, List.drop_succ_cons, List.drop_zero, List.length_cons, List.length_nil, Nat.reduceAdd, List.cons_append, List.nil_append] at hw)
                go_wp2_with fail
                go_roundw
                case rel => exact ⟨k + 1, lf, by omega, by go_num, by omega, Hshut.out _ _ _ hw⟩
                case measure => simp [intOf]; omega
              | false =>
                go_wp2_with (first | (refine wpList_on rfl (wp_bsl1 rfl rfl (by rfl) (by rfl) (by decide) hw ?_); intro b_ w_ hw_; clear hw; have hw := hw_; clear hw_; (try simp only [List.map_cons, List.map_nil, List.getD_cons_zero, List.getD_cons_succ, List.getD_nil, List.set_cons_zero, List.set_cons_succ, List.cons_append, List.nil_append, Act.eval, Array.getD_eq_getD_getElem?, List.getElem?_toArray, List.getElem?_cons_succ, List.getElem?_cons_zero, Option.getD_some, Value.cells] at hw); (try simp (disch := first | (simp; done) | (simp; omega)) only [Sep.mid_set, Sep.mid_set2, Sep.mid_set0, Sep.mid_splice, Sep.mid_splice0, List.set_cons_zero, List.set_cons_succ] at hw); (try simp only [Sep.splice, List.take_succ_cons, List.take_zero, List.drop_succ_cons, List.drop_zero, List.length_cons, List.length_nil, Nat.reduceAdd, List.cons_append, List.nil_append] at hw); (try replace hc0 := Sep.Holds.cells hw (i := 0) rfl); (try replace hc1 := Sep.Holds.cells hw (i := 1) rfl); (try replace hc2 := Sep.Holds.cells hw (i := 2) rfl); (try replace hc3 := Sep.Holds.cells hw (i := 3) rfl); (try replace hc4 := Sep.Holds.cells hw (i := 4) rfl); (try replace hc5 := Sep.Holds.cells hw (i := 5) rfl); (try replace hc6 := Sep.Holds.cells hw (i := 6) rfl)) | (at_builtin; refine wpList_on rfl (wp_appendPt (i := 3) (j := 4) rfl rfl hw rfl rfl rfl (by rfl) (by simp [Value.oneCell']) (by decide) (by rfl) (by have := Hcl20.out; (try unfold maxLen); omega) (by have := Hcl20.out; (try unfold maxLen); omega) ?_); intro b2_ cap2_ off2_ w_ hcap2_ hw_; clear hw; have hw := hw_; clear hw_; (try simp only [List.map_cons, List.map_nil, List.getD_cons_zero, List.getD_cons_succ, List.getD_nil, List.set_cons_zero, List.set_cons_succ, List.cons_append, List.nil_append, Act.eval, Array.getD_eq_getD_getElem?, List.getElem?_toArray, List.getElem?_cons_succ, List.getElem?_cons_zero, Option.getD_some, Value.cells] at hw); (try simp (disch := first | (simp; done) | (simp; omega)) only [Sep.mid_set, Sep.mid_set2, Sep.mid_set0, Sep.mid_splice, Sep.mid_splice0, List.set_cons_zero, List.set_cons_succ] at hw); (try simp only [Sep.splice, List.take_succ_cons, List.take_zero, List.drop_succ_cons, List.drop_zero, List.length_cons, List.length_nil, Nat.reduceAdd, List.cons_append, List.nil_append] at hw); (try replace hc0 := Sep.Holds.cells hw (i := 0) rfl); (try replace hc1 := Sep.Holds.cells hw (i := 1) rfl); (try replace hc2 := Sep.Holds.cells hw (i := 2) rfl); (try replace hc3 := Sep.Holds.cells hw (i := 3) rfl); (try replace hc4 := Sep.Holds.cells hw (i := 4) rfl); (try replace hc5 := Sep.Holds.cells hw (i := 5) rfl); (try replace hc6 := Sep.Holds.cells hw (i := 6) rfl)))
                go_roundw
                case rel =>
                  refine ⟨k + 1, lf ++ [m], by omega, by go_num, by simp; omega, ?_⟩
                  rw [ints_snoc, List.length_append, List.append_assoc]
                  exact Hshut.out _ _ _ (hw.sel [0, 1, 2, 3] (by decide))
                case measure => simp [intOf]; omega
            · go_wp2_with (first | (refine wpList_on rfl (wp_bsl1 rfl rfl (by rfl) (by rfl) (by decide) hw ?_); intro b_ w_ hw_; clear hw; have hw := hw_; clear hw_; (try simp only [List.map_cons, List.map_nil, List.getD_cons_zero, List.getD_cons_succ, List.getD_nil, List.set_cons_zero, List.set_cons_succ, List.cons_append, List.nil_append, Act.eval, Array.getD_eq_getD_getElem?, List.getElem?_toArray, List.getElem?_cons_succ, List.getElem?_cons_zero, Option.getD_some, Value.cells] at hw); (try simp (disch := first | (simp; done) | (simp; omega)) only [Sep.mid_set, Sep.mid_set2, Sep.mid_set0, Sep.mid_splice, Sep.mid_splice0, List.set_cons_zero, List.set_cons_succ] at hw); (try simp only [Sep.splice, List.take_succ_cons, List.take_zero, List.drop_succ_cons, List.drop_zero, List.length_cons, List.length_nil, Nat.reduceAdd, List.cons_append, List.nil_append] at hw); (try replace hc0 := Sep.Holds.cells hw (i := 0) rfl); (try replace hc1 := Sep.Holds.cells hw (i := 1) rfl); (try replace hc2 := Sep.Holds.cells hw (i := 2) rfl); (try replace hc3 := Sep.Holds.cells hw (i := 3) rfl); (try replace hc4 := Sep.Holds.cells hw (i := 4) rfl); (try replace hc5 := Sep.Holds.cells hw (i := 5) rfl); (try replace hc6 := Sep.Holds.cells hw (i := 6) rfl)) | (at_builtin; refine wpList_on rfl (wp_appendPt (i := 3) (j := 4) rfl rfl hw rfl rfl rfl (by rfl) (by simp [Value.oneCell']) (by decide) (by rfl) (by have := Hcl20.out; (try unfold maxLen); omega) (by have := Hcl20.out; (try unfold maxLen); omega) ?_); intro b2_ cap2_ off2_ w_ hcap2_ hw_; clear hw; have hw := hw_; clear hw_; (try simp only [List.map_cons, List.map_nil, List.getD_cons_zero, List.getD_cons_succ, List.getD_nil, List.set_cons_zero, List.set_cons_succ, List.cons_append, List.nil_append, Act.eval, Array.getD_eq_getD_getElem?, List.getElem?_toArray, List.getElem?_cons_succ, List.getElem?_cons_zero, Option.getD_some, Value.cells] at hw); (try simp (disch := first | (simp; done) | (simp; omega)) only [Sep.mid_set, Sep.mid_set2, Sep.mid_set0, Sep.mid_splice, Sep.mid_splice0, List.set_cons_zero, List.set_cons_succ] at hw); (try simp only [Sep.splice, List.take_succ_cons, List.take_zero, List.drop_succ_cons, List.drop_zero, List.length_cons, List.length_nil, Nat.reduceAdd, List.cons_append, List.nil_append] at hw); (try replace hc0 := Sep.Holds.cells hw (i := 0) rfl); (try replace hc1 := Sep.Holds.cells hw (i := 1) rfl); (try replace hc2 := Sep.Holds.cells hw (i := 2) rfl); (try replace hc3 := Sep.Holds.cells hw (i := 3) rfl); (try replace hc4 := Sep.Holds.cells hw (i := 4) rfl); (try replace hc5 := Sep.Holds.cells hw (i := 5) rfl); (try replace hc6 := Sep.Holds.cells hw (i := 6) rfl)))
              go_roundw
              case rel =>
                refine ⟨k + 1, lf ++ [m], by omega, by go_num, by simp; omega, ?_⟩
                rw [ints_snoc, List.length_append, List.append_assoc]
                exact Hshut.out _ _ _ (hw.sel [0, 1, 2, 3] (by decide))
              case measure => simp [intOf]; omega
          · have hck : c.drop k = [] := List.drop_eq_nil_of_le (by omega)
            rw [hck, List.append_nil] at hw
            clear hck
            have Hlf20 : Hid (lf.length ≤ 20) := Sep.hid (one_len (hw.focus1 1 rfl))
            have hgk : c.length ≤ k := by omega
            clear hkl hk hlf
            go_wp2_with fail
            have hdk : decide (k < c.length) = false := by simp only [decide_eq_false_iff_not]; omega
            (try simp only [hdk])
            clear hdk hgk
            have Hw0 := Sep.hid hw; clear hw; (try clear hc0); (try clear hc1); (try clear hc2); (try clear hc3); (try clear hc4); (try clear hc5); (try clear hc6)
            go_loopw [80] (fun i wr => ∃ (j : Nat), j ≤ lf.length ∧ i = .int .i64 j ∧ Holds e wr [Old e, IsRing p (one (lf.drop j)), Sl 3 1 (.slice ob lf.length ocb) lf.length (encI (ints lf))]) (fun i _ => lf.length - (intOf i).toNat)
            case atStart => exact ⟨0, Nat.zero_le _, rfl, Hw0.out.sel [0, 1, 3] (by decide)⟩
            case round =>
              clear Hw0
              obtain ⟨j, hj, rfl, hw⟩ := hrel
              have hf20 : lf.length ≤ 20 := Hlf20.out
              by_cases hjl : j < lf.length
              · obtain ⟨m, hm⟩ : ∃ m, lf[j]? = some m := ⟨_, List.getElem?_eq_getElem hjl⟩
                have hdrop : lf.drop j = m :: lf.drop (j + 1) := by
                  obtain ⟨h1, rfl⟩ := List.getElem?_eq_some_iff.1 hm
                  exact List.drop_eq_getElem_cons h1
                rw [hdrop] at hw
                have Hm := Sep.hid hm; clear hm hdrop
                rcases hw.openSl (i := 2) rfl with ⟨_, h2, _⟩ | ⟨ba, ca', pre, post, hv, hnc, hcm, hpost, hw'⟩
                · omega
                cases hv
                clear hw; have hw := hw'; clear hw'
                (try simp only [List.map_cons, List.map_nil, List.getD_cons_zero, List.getD_cons_succ, List.getD_nil, List.set_cons_zero, List.set_cons_succ, List.cons_append, List.nil_append, Act.eval, Array.getD_eq_getD_getElem?, List.getElem?_toArray, List.getElem?_cons_succ, List.getElem?_cons_zero, Option.getD_some, Value.cells] at hw); (try simp (disch := first | (simp; done) | (simp; omega)) only [Sep.mid_set, Sep.mid_set2, Sep.mid_set0, Sep.mid_splice, Sep.mid_splice0, List.set_cons_zero, List.set_cons_succ] at hw); (try simp only [Sep.splice, List.take_succ_cons, List.take_zero, List.drop_succ_cons, List.drop_zero, List.length_cons, List.length_nil, Nat.reduceAdd, List.cons_append, List.nil_append] at hw)
                have Hshut : Hid (∀ (w' : World) (X : HProp), Holds e w' [Old e, X, pt ba (mid pre (encI (ints lf)) post) 3] → Holds e w' [Old e, X, Sl 3 1 (.slice (some ⟨ba, pre.length, none⟩) lf.length ocb) lf.length (encI (ints lf))]) :=
                  Sep.hid fun w' X h => h.closeSl (i := 2) rfl (by rw [encI_length, ints_length]; omega) hnc hcm hpost
                clear hnc hcm hpost
                have gx : (mid pre (encI (ints lf)) post)[pre.length + j]? = some (.int .i64 (m : Int)) := by
                  rw [Sep.mid_get _ _ _ _ (by rw [encI_length, ints_length]; exact hjl)]
                  exact encI_get (by simp [ints, Hm.out])
                have Hd1 := Sep.hid (one_drop (l1 := []) (l2 := lf.drop (j + 1)) (n := m) (ring_wf (hw.focus1 1 rfl)))
                have Hf1 := Sep.hid (first_cons (f := 0) (y := m) (one_row (m :: lf.drop (j + 1))))
                (try replace hc0 := Sep.Holds.cells hw (i := 0) rfl); (try replace hc1 := Sep.Holds.cells hw (i := 1) rfl); (try replace hc2 := Sep.Holds.cells hw (i := 2) rfl); (try replace hc3 := Sep.Holds.cells hw (i := 3) rfl); (try replace hc4 := Sep.Holds.cells hw (i := 4) rfl); (try replace hc5 := Sep.Holds.cells hw (i := 5) rfl); (try replace hc6 := Sep.Holds.cells hw (i := 6) rfl)
                go_wp2_with fail
                refine (rTake_calls p _ 0 e _ _ (hw.focus1 1 rfl)).mono ?_
                rintro en_ w_ ⟨he_, hw_⟩
                have e1 : (one (m :: lf.drop (j + 1))).first 0 = (m : Int) := Hf1.out
                have e2 : (one (m :: lf.drop (j + 1))).in_ m = 0 := Hd1.out.1
                have e3 : (one (m :: lf.drop (j + 1))).drop m = one (lf.drop (j + 1)) := Hd1.out.2
                rw [e1, e2] at he_
                rw [e1, e3] at hw_
                clear e1 e2 e3
                obtain rfl : en_ = .returned (.tuple #[.int .i64 (m : Int), .bool true]) := he_
                clear hw; have hw := Holds.unfocus1 (N := []) 1 (by simp) hw_; clear hw_
                (try simp only [List.map_cons, List.map_nil, List.getD_cons_zero, List.getD_cons_succ, List.getD_nil, List.set_cons_zero, List.set_cons_succ, List.cons_append, List.nil_append, Act.eval, Array.getD_eq_getD_getElem?, List.getElem?_toArray, List.getElem?_cons_succ, List.getElem?_cons_zero, Option.getD_some, Value.cells] at hw); (try simp (disch := first | (simp; done) | (simp; omega)) only [Sep.mid_set, Sep.mid_set2, Sep.mid_set0, Sep.mid_splice, Sep.mid_splice0, List.set_cons_zero, List.set_cons_succ] at hw); (try simp only [Sep.splice, List.take_succ_cons, List.take_zero, List.drop_succ_cons, List.drop_zero, List.length_cons, List.length_nil, Nat.reduceAdd, List.cons_append, List.nil_append] at hw)
                go_wp2_with fail
                have hnum : IntKind.i64.wrap ((j : Int) + 1) = ((j + 1 : Nat) : Int) := by rw [IntWalk.i64_in _ (by omega)]; omega
                first
                  | (go_roundw
                     case rel => exact ⟨j + 1, by omega, by go_num, Hshut.out _ _ hw⟩
                     case measure => simp [intOf]; omega)
                  | (refine ⟨⟨_, _, _, _, _, _, _, _, _, _, _, _, _, _, _, _, _, _, _, _, _, ⟨j + 1, by omega, ?_, Hshut.out _ _ hw⟩, rfl⟩, ?_⟩
                     · go_num
                     · simp [intOf]; omega)
              · have hck : lf.drop j = [] := List.drop_eq_nil_of_le (by omega)
                rw [hck] at hw
                have hgj : lf.length ≤ j := by omega
                clear hck hj hjl
                go_wp2_with fail
                refine (rTake_calls p _ 0 e _ _ (hw.focus1 1 rfl)).mono ?_
                rintro en_ w_ ⟨he_, hw_⟩
                obtain rfl : en_ = .returned (.tuple #[.int .i64 (-1), .bool false]) := he_
                clear hw; have hw := Holds.unfocus1 (N := []) 1 (by simp) hw_; clear hw_
                have hw : Holds e w_ [Old e, IsRing p (one []), _] := hw
                go_wp2_with fail
                refine (rLen_calls p (one []) 0 e _ _ (hw.focus1 1 rfl)).mono ?_
                rintro en_ w_ ⟨he_, rfl⟩
                obtain rfl : en_ = .returned (.int .i64 0) := he_
                go_wp2_with fail
                exact HP.out _ _ ⟨rfl, hw.sel [0] (by decide)⟩
  · refine Sep.calls_post ?_
    intro Post_ hPost_
    have HP := Sep.hid hPost_
    clear hPost_
    go_enter Try.func4, Try.ntmps4
    have hlong2 : (20 : Int) < (l.length : Int) := by omega
    go_wp2_with fail
    refine (awake_calls e _ _ hw).mono ?_
    rintro en_ w_ ⟨rfl, hw_⟩
    clear hw; have hw := hw_; clear hw_
    go_wp2_with fail
    exact HP.out _ _ ⟨rfl, hw⟩
end Go.Proofs.Ytmjpppemdjknoaa
