/-
  The program's tree: Reach: the closure that calls itself.
-/
import Derived.Test.YtlegkikglpogkaaTreeW4
import Derived.Deep.CutBlock
import Derived.Deep.DeepCutAuto
namespace Go.Proofs.Ytlegkikglpogkaa
set_option linter.unusedSimpArgs false
set_option linter.unusedVariables false
open Go.RowKit Go.Sep Go.TreeM

def visV (bo bt bv : Nat) : Value := .func (.func 31) #[] #[.pointer (some ⟨bo, 0, none⟩), .pointer (some ⟨bt, 0, none⟩), .pointer (some ⟨bv, 0, none⟩)]
def visL (X : HProp) (bo bt bv p len cap : Nat) (a : Option Addr) (most : Int) (l : List Nd) (vs : List Value) (ov : Value) (n : Nat) (out : List Int) : List HProp :=
  [X, pt bo [ov] 45, pt bt [.pointer (some ⟨p, 0, none⟩)] 24, pt bv [visV bo bt bv] 58, pt p [.slice a len cap, .int .i64 most] 54, Sl 56 3 (.slice a len cap) len (tabC encN (tns l) vs), sepL (tabR rowN (tns l) vs), Sl 3 1 ov n (encI out)]
theorem visL_app {e w : World} {X : HProp} {bo bt bv p len cap : Nat} {a : Option Addr} {most : Int} {l : List Nd} {vs : List Value} {ov : Value} {n n' : Nat} {out : List Int} (h : n = n') (hw : Holds e w (visL X bo bt bv p len cap a most l vs ov n out)) : Holds e w (visL X bo bt bv p len cap a most l vs ov n' out) := h ▸ hw
theorem kid_at {e w : World} {L : List HProp} {i k kn kc q : Nat} {ka : Option Addr} {l : List Nd} {vs : List Value} {x : Nd} {j : Int} (hw : Holds e w L) (hi : L[i]? = some (sepL (tabR rowN (tns l) vs))) (hvl : vs.length = l.length) (hx : l[k]? = some x) (hv : vs[k]? = some (.slice ka kn kc)) (hkn : (kidsRow l k).length = kn) (hj : (kidsRow l k)[q]? = some j) :
    ∃ b off, ka = some ⟨b, off, none⟩ ∧ w.cell? ⟨b, off + q, none⟩ = some (.int .i64 j) := by
  subst hkn
  obtain ⟨v, hv2, hr⟩ := tab_get (R := rowN) (by rw [hvl, tns_length]) (tns_get hx)
  rw [hv] at hv2
  cases hv2
  have h := hw.pick i k hi hr
  exact num_at (i := L.length) (n := (kidsRow l k).length) (T := 3) h (by rw [List.getElem?_append_right (by simp)]; simp; rfl) hj
set_option maxRecDepth 20000 in
set_option maxHeartbeats 8000000 in
theorem visit_calls (p len cap bo bt bv : Nat) (a : Option Addr) (most : Int) (l : List Nd) (vs : List Value) (hok : Hid (TreeM.Ok l)) (hlen : Hid (l.length = len)) (hvl : Hid (vs.length = l.length)) (hl2 : len ≤ 1000) :
    ∀ (f k : Nat), Hid (l.length - k = f) → Hid (there l (k : Int) = true) → ∀ (ov : Value) (on : Nat) (out : List Int), Hid (out.length = on) → Hid (on + (reach l k).length ≤ 100000) → ∀ (e w : World) (X : HProp), Holds e w (visL X bo bt bv p len cap a most l vs ov on out) →
    Calls Try.prog 31 #[.int .i64 (k : Int), .pointer (some ⟨bo, 0, none⟩), .pointer (some ⟨bt, 0, none⟩), .pointer (some ⟨bv, 0, none⟩)] w fun en w' => (∃ r, en = .returned r) ∧ ∃ ov', Holds e w' (visL X bo bt bv p len cap a most l vs ov' (on + (reach l k).length) (out ++ reach l k)) := by
  intro f
  induction f using Nat.strongRecOn with
  | _ f ih =>
    intro k hf hth ov on out hon hbig e w X hw
    have IH := Sep.hid ih; clear ih
    obtain ⟨k', x, hkk, hk, hx, _⟩ := there_get hth.out
    obtain rfl : k' = k := by omega
    rw [hlen.out] at hk
    have Hx := Sep.hid hx; clear hx hkk
    have Htx := Sep.hid (tns_get Hx.out)
    obtain ⟨v, hv, hr⟩ := tab_get (R := rowN) (by rw [hvl.out, tns_length]) Htx.out
    have Hv := Sep.hid hv; have Hr := Sep.hid hr
    clear hv hr
    obtain ⟨kn, hkn⟩ : ∃ kn, (kidsRow l k').length = kn := ⟨_, rfl⟩
    have Hkn := Sep.hid hkn
    have hkn2 : kn ≤ 1000 := by have := kidsRow_length l k'; rw [hkn, hlen.out] at this; omega
    have hob : on ≤ 100000 := by have := hbig.out; omega
    unfold visL visV at hw
    have hcell : ∃ ka kc, v = .slice ka kn kc := by
      have h := hw.pick 6 k' rfl Hr.out
      have h : Holds e w (_ ++ [IsInts v (kidsRow l k')]) := h
      obtain ⟨q1, q2, h2⟩ := Sl.value (i := 8) rfl h
      exact ⟨q1, q2, by rw [h2, hkn]⟩
    obtain ⟨ka, kc, rfl⟩ := hcell
    clear hkn
    (try replace hc0 := Sep.Holds.cells hw (i := 0) rfl); (try replace hc1 := Sep.Holds.cells hw (i := 1) rfl); (try replace hc2 := Sep.Holds.cells hw (i := 2) rfl); (try replace hc3 := Sep.Holds.cells hw (i := 3) rfl); (try replace hc4 := Sep.Holds.cells hw (i := 4) rfl); (try replace hc5 := Sep.Holds.cells hw (i := 5) rfl); (try replace hc6 := Sep.Holds.cells hw (i := 6) rfl)
    refine Sep.calls_post ?_
    intro Post_ hPost_
    have HP := Sep.hid hPost_
    clear hPost_
    go_enter Try.func31, Try.ntmps31
    go_upto_region 1 with (first | (refine wpList_on rfl (wp_bsl1 rfl rfl (by rfl) (by rfl) (by decide) hw ?_); intro b_ w_ hw_; clear hw; have hw := hw_; clear hw_; (try simp only [List.map_cons, List.map_nil, List.getD_cons_zero, List.getD_cons_succ, List.getD_nil, List.set_cons_zero, List.set_cons_succ, List.cons_append, List.nil_append, Act.eval, Array.getD_eq_getD_getElem?, List.getElem?_toArray, List.getElem?_cons_succ, List.getElem?_cons_zero, Option.getD_some, Value.cells] at hw); (try simp (disch := first | (simp; done) | (simp; omega)) only [Sep.mid_set, Sep.mid_set2, Sep.mid_set0, Sep.mid_splice, Sep.mid_splice0, List.set_cons_zero, List.set_cons_succ] at hw); (try simp only [Sep.splice, List.take_succ_cons, List.take_zero, List.drop_succ_cons, List.drop_zero, List.length_cons, List.length_nil, Nat.reduceAdd, List.cons_append, List.nil_append] at hw); (try replace hc0 := Sep.Holds.cells hw (i := 0) rfl); (try replace hc1 := Sep.Holds.cells hw (i := 1) rfl); (try replace hc2 := Sep.Holds.cells hw (i := 2) rfl); (try replace hc3 := Sep.Holds.cells hw (i := 3) rfl); (try replace hc4 := Sep.Holds.cells hw (i := 4) rfl); (try replace hc5 := Sep.Holds.cells hw (i := 5) rfl); (try replace hc6 := Sep.Holds.cells hw (i := 6) rfl)) | (at_builtin; refine wpList_on rfl (wp_appendPt (i := 7) (j := 8) rfl rfl hw rfl rfl rfl (by rfl) (by simp [Value.oneCell']) (by decide) (by rfl) (by (try unfold maxLen); omega) (by (try unfold maxLen); omega) ?_); intro b2_ cap2_ off2_ w_ hcap2_ hw_; clear hw; have hw := hw_; clear hw_; (try simp only [List.map_cons, List.map_nil, List.getD_cons_zero, List.getD_cons_succ, List.getD_nil, List.set_cons_zero, List.set_cons_succ, List.cons_append, List.nil_append, Act.eval, Array.getD_eq_getD_getElem?, List.getElem?_toArray, List.getElem?_cons_succ, List.getElem?_cons_zero, Option.getD_some, Value.cells] at hw); (try simp (disch := first | (simp; done) | (simp; omega)) only [Sep.mid_set, Sep.mid_set2, Sep.mid_set0, Sep.mid_splice, Sep.mid_splice0, List.set_cons_zero, List.set_cons_succ] at hw); (try simp only [Sep.splice, List.take_succ_cons, List.take_zero, List.drop_succ_cons, List.drop_zero, List.length_cons, List.length_nil, Nat.reduceAdd, List.cons_append, List.nil_append] at hw); (try replace hc0 := Sep.Holds.cells hw (i := 0) rfl); (try replace hc1 := Sep.Holds.cells hw (i := 1) rfl); (try replace hc2 := Sep.Holds.cells hw (i := 2) rfl); (try replace hc3 := Sep.Holds.cells hw (i := 3) rfl); (try replace hc4 := Sep.Holds.cells hw (i := 4) rfl); (try replace hc5 := Sep.Holds.cells hw (i := 5) rfl); (try replace hc6 := Sep.Holds.cells hw (i := 6) rfl)) | ((first | refine wpList_on rfl (wp_store1 (v := _) rfl rfl rfl hw (i := 0) rfl (by simp [Sep.mid_length, Act.eval, Value.cells]; try omega) rfl ?_) | refine wpList_on rfl (wp_store1 (v := _) rfl rfl rfl hw (i := 1) rfl (by simp [Sep.mid_length, Act.eval, Value.cells]; try omega) rfl ?_) | refine wpList_on rfl (wp_store1 (v := _) rfl rfl rfl hw (i := 2) rfl (by simp [Sep.mid_length, Act.eval, Value.cells]; try omega) rfl ?_) | refine wpList_on rfl (wp_store1 (v := _) rfl rfl rfl hw (i := 3) rfl (by simp [Sep.mid_length, Act.eval, Value.cells]; try omega) rfl ?_) | refine wpList_on rfl (wp_store1 (v := _) rfl rfl rfl hw (i := 4) rfl (by simp [Sep.mid_length, Act.eval, Value.cells]; try omega) rfl ?_)); intro w_ hw_; clear hw; have hw := hw_; clear hw_; (try simp only [List.map_cons, List.map_nil, List.getD_cons_zero, List.getD_cons_succ, List.getD_nil, List.set_cons_zero, List.set_cons_succ, List.cons_append, List.nil_append, Act.eval, Array.getD_eq_getD_getElem?, List.getElem?_toArray, List.getElem?_cons_succ, List.getElem?_cons_zero, Option.getD_some, Value.cells] at hw); (try simp (disch := first | (simp; done) | (simp; omega)) only [Sep.mid_set, Sep.mid_set2, Sep.mid_set0, Sep.mid_splice, Sep.mid_splice0, List.set_cons_zero, List.set_cons_succ] at hw); (try simp only [Sep.splice, List.take_succ_cons, List.take_zero, List.drop_succ_cons, List.drop_zero, List.length_cons, List.length_nil, Nat.reduceAdd, List.cons_append, List.nil_append] at hw); (try replace hc0 := Sep.Holds.cells hw (i := 0) rfl); (try replace hc1 := Sep.Holds.cells hw (i := 1) rfl); (try replace hc2 := Sep.Holds.cells hw (i := 2) rfl); (try replace hc3 := Sep.Holds.cells hw (i := 3) rfl); (try replace hc4 := Sep.Holds.cells hw (i := 4) rfl); (try replace hc5 := Sep.Holds.cells hw (i := 5) rfl); (try replace hc6 := Sep.Holds.cells hw (i := 6) rfl)))
    have hw : Holds e w_ (visL X bo bt bv p len cap a most l vs (.slice (some ⟨b2_, off2_, none⟩) (on + 1) cap2_) (on + 1) (out ++ [(k' : Int)])) := by
      have h := hw.sel [0, 1, 2, 3, 4, 5, 6, 7] (by decide)
      unfold visL; rw [encI_append]; exact h
    unfold visL visV at hw
    (try clear hc0); (try clear hc1); (try clear hc2); (try clear hc3); (try clear hc4); (try clear hc5); (try clear hc6)
    (try replace hc0 := Sep.Holds.cells hw (i := 0) rfl); (try replace hc1 := Sep.Holds.cells hw (i := 1) rfl); (try replace hc2 := Sep.Holds.cells hw (i := 2) rfl); (try replace hc3 := Sep.Holds.cells hw (i := 3) rfl); (try replace hc4 := Sep.Holds.cells hw (i := 4) rfl); (try replace hc5 := Sep.Holds.cells hw (i := 5) rfl); (try replace hc6 := Sep.Holds.cells hw (i := 6) rfl)
    obtain ⟨b, off, rfl, g0, g1, g2⟩ := node_at (i := 5) hw rfl hlen.out hvl.out Hx.out Hv.out
    go_wp2_with fail
    have Hw0 := Sep.hid hw; clear hw g0 g1 g2; (try clear hc0); (try clear hc1); (try clear hc2); (try clear hc3); (try clear hc4); (try clear hc5); (try clear hc6)
    go_loopw [20] (fun i wr => ∃ (q : Nat) (ov : Value), q ≤ kn ∧ i = .int .i64 q ∧ Holds e wr (visL X bo bt bv p len cap (some ⟨b, off, none⟩) most l vs ov (on + 1 + (kidsReach l k' q).length) (out ++ [(k' : Int)] ++ kidsReach l k' q))) (fun i _ => kn - (intOf i).toNat)
    case atStart => exact ⟨0, _, Nat.zero_le _, rfl, by rw [kidsReach_zero, List.append_nil]; exact Hw0.out⟩
    case round =>
      clear Hw0
      obtain ⟨q, ov, hq, rfl, hw⟩ := hrel
      by_cases hlt : q < kn
      · obtain ⟨j, hj⟩ : ∃ j, (kidsRow l k')[q]? = some j := ⟨_, List.getElem?_eq_getElem (by rw [Hkn.out]; exact hlt)⟩
        have hjm := mem_kidsRow.1 (List.mem_of_getElem? hj)
        have hjlt := hok.out.over_lt hjm.1
        rw [hjm.2] at hjlt
        obtain ⟨j', y, rfl, hjk, hy, _⟩ := there_get hjm.1
        rw [hlen.out] at hjk
        have Hy := Sep.hid hy
        have Hcy := Sep.hid ((get_there hy).2.2.2)
        have Hth := Sep.hid hjm.1
        have Hsu := Sep.hid (kidsReach_succ hj)
        have Hj := Sep.hid hj
        have hle := kidsReach_le l k' (q + 1)
        have hre := reach_yes hok.out hth.out
        have hrl : (kidsReach l k' (kidsRow l k').length).length + 1 = (reach l k').length := by rw [← kidsReach_end hok.out hth.out (Nat.le_refl _)]; simp
        have Hbq : Hid (on + 1 + (kidsReach l k' (q + 1)).length ≤ 100000) := Sep.hid (by have := hbig.out; omega)
        have hjk2 : k' < j' := by omega
        unfold visL visV at hw
        obtain ⟨v2, hv2, hr2⟩ := tab_get (R := rowN) (by rw [hvl.out, tns_length]) (tns_get hy)
        obtain ⟨b2, off2, hb2, g0, g1, g2⟩ := node_at (i := 5) hw rfl hlen.out hvl.out hy hv2
        cases hb2
        obtain ⟨kb, koff, rfl, g3⟩ := kid_at (i := 6) hw rfl hvl.out Hx.out Hv.out Hkn.out hj
        clear hjm hjlt hy hv2 hr2 hj hle hre hrl
        (try replace hc0 := Sep.Holds.cells hw (i := 0) rfl); (try replace hc1 := Sep.Holds.cells hw (i := 1) rfl); (try replace hc2 := Sep.Holds.cells hw (i := 2) rfl); (try replace hc3 := Sep.Holds.cells hw (i := 3) rfl); (try replace hc4 := Sep.Holds.cells hw (i := 4) rfl); (try replace hc5 := Sep.Holds.cells hw (i := 5) rfl); (try replace hc6 := Sep.Holds.cells hw (i := 6) rfl)
        cases hc : y.cut with
        | true =>
          rw [hc] at g1 Hcy
          have e1 : kidsReach l k' (q + 1) = kidsReach l k' q := by rw [Hsu.out, Hcy.out]; simp
          have E1 := Sep.hid e1
          clear e1 hc
          go_wp2_with fail
          go_roundw
          case rel => exact ⟨q + 1, ov, by omega, by go_num, by rw [E1.out]; exact hw⟩
          case measure => simp [intOf]; omega
        | false =>
          rw [hc] at g1 Hcy
          have e1 : kidsReach l k' (q + 1) = kidsReach l k' q ++ reach l j' := by rw [Hsu.out, Hcy.out]; simp
          have E1 := Sep.hid e1
          have Hl2 : Hid ((out ++ [(k' : Int)] ++ kidsReach l k' q).length = on + 1 + (kidsReach l k' q).length) := Sep.hid (by simp [hon.out]; omega)
          have Hb2 : Hid (on + 1 + (kidsReach l k' q).length + (reach l j').length ≤ 100000) := Sep.hid (by have := Hbq.out; rw [e1, List.length_append] at this; omega)
          clear e1 hc
          go_wp2_with fail
          refine (IH.out (l.length - j') (by have := hf.out; rw [hlen.out] at this ⊢; omega) j' (Sep.hid rfl) Hth ov _ _ Hl2 Hb2 e _ X hw).mono ?_
          rintro _ w_ ⟨⟨r, rfl⟩, ov2, hw_⟩
          clear hw g0 g1 g2 g3; (try clear hc0); (try clear hc1); (try clear hc2); (try clear hc3); (try clear hc4); (try clear hc5); (try clear hc6)
          go_wp2_with fail
          go_roundw
          case rel => exact ⟨q + 1, ov2, by omega, by go_num, by rw [E1.out, List.length_append, ← List.append_assoc, ← Nat.add_assoc]; exact hw_⟩
          case measure => simp [intOf]; omega
      · have e1 : (k' : Int) :: kidsReach l k' q = reach l k' := kidsReach_end hok.out hth.out (by rw [Hkn.out]; omega)
        have E1 := Sep.hid e1; clear e1
        unfold visL visV at hw
        (try replace hc0 := Sep.Holds.cells hw (i := 0) rfl); (try replace hc1 := Sep.Holds.cells hw (i := 1) rfl); (try replace hc2 := Sep.Holds.cells hw (i := 2) rfl); (try replace hc3 := Sep.Holds.cells hw (i := 3) rfl); (try replace hc4 := Sep.Holds.cells hw (i := 4) rfl); (try replace hc5 := Sep.Holds.cells hw (i := 5) rfl); (try replace hc6 := Sep.Holds.cells hw (i := 6) rfl)
        go_wp2_with fail
        go_end0
        refine HP.out _ _ ⟨⟨_, rfl⟩, ov, ?_⟩
        rw [← E1.out]
        rw [List.append_assoc] at hw
        exact visL_app (by simp; omega) hw
end Go.Proofs.Ytlegkikglpogkaa
