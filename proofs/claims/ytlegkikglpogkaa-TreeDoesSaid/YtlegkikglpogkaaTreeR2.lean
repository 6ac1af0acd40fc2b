/-
  The document's own tree: Kids, Reach, Chain, Path.
-/
import Derived.Test.YtlegkikglpogkaaTreeR
namespace Go.Proofs.Ytlegkikglpogkaa
set_option linter.unusedSimpArgs false
set_option linter.unusedVariables false
open Go.RowKit Go.Sep Go.TreeM

/-- Of the first k nodes, those that stand below n. -/
def kidsUpto (l : List Nd) (n : Int) (k : Nat) : List Int := ((List.range k).filter fun i => decide ((l.getD i noNd).over = n)).map fun i : Nat => (i : Int)
theorem kidsUpto_end (l : List Nd) (n : Int) : kidsUpto l n l.length = kidsRow l n := rfl
theorem kidsUpto_succ {l : List Nd} {k : Nat} {x : Nd} (n : Int) (h : l[k]? = some x) : kidsUpto l n (k + 1) = kidsUpto l n k ++ (if x.over = n then [(k : Int)] else []) := by
  unfold kidsUpto
  rw [List.range_succ, List.filter_append, List.map_append]
  congr 1
  rw [List.filter_cons, List.filter_nil, List.getD_eq_getElem?_getD, h]
  by_cases hx : x.over = n <;> simp [hx]
theorem kidsUpto_len (l : List Nd) (n : Int) (k : Nat) : (kidsUpto l n k).length ≤ k := by
  unfold kidsUpto
  rw [List.length_map]
  exact Nat.le_trans (List.length_filter_le _ _) (by simp)
def rL (X : HProp) (p len cap : Nat) (a : Option Addr) (most : Int) (l : List Nd) : List HProp :=
  [X, pt p [.slice a len cap, .int .i64 most] 39, Sl 43 2 (.slice a len cap) len (l.flatMap encR)]
set_option maxHeartbeats 4000000 in
theorem rKids (p len cap : Nat) (a : Option Addr) (most : Int) (l : List Nd) (n : Int) (hlen : Hid (l.length = len)) (hl2 : len ≤ 200) (e w : World) (X : HProp) (hw : Holds e w (rL X p len cap a most l)) :
    Calls Try.prog 19 #[.pointer (some ⟨p, 0, none⟩), .int .i64 n] w fun en w' => ∃ v, en = .returned v ∧ Holds e w' (rL X p len cap a most l ++ [IsInts v (kids l n)]) := by
  unfold rL at hw
  (try replace hc0 := Sep.Holds.cells hw (i := 0) rfl); (try replace hc1 := Sep.Holds.cells hw (i := 1) rfl); (try replace hc2 := Sep.Holds.cells hw (i := 2) rfl); (try replace hc3 := Sep.Holds.cells hw (i := 3) rfl); (try replace hc4 := Sep.Holds.cells hw (i := 4) rfl); (try replace hc5 := Sep.Holds.cells hw (i := 5) rfl); (try replace hc6 := Sep.Holds.cells hw (i := 6) rfl)
  refine Sep.calls_post ?_
  intro Post_ hPost_
  have HP := Sep.hid hPost_
  clear hPost_
  go_enter Try.func19, Try.ntmps19
  go_wp2_with (refine wpList_on rfl (wp_bsl0 rfl hw ?_); intro b_ w_ hw_; replace hw_ := hw_.newSl (i := 3) rfl 1 0 rfl (by decide); clear hw; have hw := hw_; clear hw_; (try simp only [List.map_cons, List.map_nil, List.getD_cons_zero, List.getD_cons_succ, List.getD_nil, List.set_cons_zero, List.set_cons_succ, List.cons_append, List.nil_append, Act.eval, Array.getD_eq_getD_getElem?, List.getElem?_toArray, List.getElem?_cons_succ, List.getElem?_cons_zero, Option.getD_some, Value.cells] at hw); (try simp (disch := first | (simp; done) | (simp; omega)) only [Sep.mid_set, Sep.mid_set2, Sep.mid_set0, Sep.mid_splice, Sep.mid_splice0, List.set_cons_zero, List.set_cons_succ] at hw); (try simp only [Sep.splice, List.take_succ_cons, List.take_zero, List.drop_succ_cons, List.drop_zero, List.length_cons, List.length_nil, Nat.reduceAdd, List.cons_append, List.nil_append] at hw); (try replace hc0 := Sep.Holds.cells hw (i := 0) rfl); (try replace hc1 := Sep.Holds.cells hw (i := 1) rfl); (try replace hc2 := Sep.Holds.cells hw (i := 2) rfl); (try replace hc3 := Sep.Holds.cells hw (i := 3) rfl); (try replace hc4 := Sep.Holds.cells hw (i := 4) rfl); (try replace hc5 := Sep.Holds.cells hw (i := 5) rfl); (try replace hc6 := Sep.Holds.cells hw (i := 6) rfl))
  have Hw0 := Sep.hid hw; clear hw; (try clear hc0); (try clear hc1); (try clear hc2); (try clear hc3); (try clear hc4); (try clear hc5); (try clear hc6)
  cases hb : there l n with
  | false =>
    have Hk : Hid (kids l n = []) := Sep.hid (by unfold kids; rw [hb]; rfl)
    have Hb := Sep.hid hb; clear hb
    go_loopw [5, 6] (fun ov i wr => ov = .slice (some ⟨b_, 0, none⟩) 0 0 ∧ i = .int .i64 0 ∧ Holds e wr [X, pt p [.slice a len cap, .int .i64 most] 39, Sl 43 2 (.slice a len cap) len (l.flatMap encR), Sl 3 1 (.slice (some ⟨b_, 0, none⟩) 0 0) 0 []]) (fun _ _ _ => 0)
    case atStart => exact ⟨rfl, rfl, Hw0.out⟩
    case round =>
      clear Hw0
      obtain ⟨rfl, rfl, hw⟩ := hrel
      (try replace hc0 := Sep.Holds.cells hw (i := 0) rfl); (try replace hc1 := Sep.Holds.cells hw (i := 1) rfl); (try replace hc2 := Sep.Holds.cells hw (i := 2) rfl); (try replace hc3 := Sep.Holds.cells hw (i := 3) rfl); (try replace hc4 := Sep.Holds.cells hw (i := 4) rfl); (try replace hc5 := Sep.Holds.cells hw (i := 5) rfl); (try replace hc6 := Sep.Holds.cells hw (i := 6) rfl)
      by_cases h0 : len = 0
      · have hz : ¬ (0 : Int) < (len : Int) := by omega
        clear h0
        go_wp2_with fail
        refine HP.out _ _ ⟨_, rfl, ?_⟩
        rw [Hk.out]
        exact hw
      · have hz : (0 : Int) < (len : Int) := by omega
        clear h0
        go_wp2_with fail
        refine (rThere p len cap a l n hlen _ (hc1 0)).mono ?_
        rintro _ w_ ⟨rfl, rfl⟩
        rw [Hb.out]
        go_wp2_with fail
        refine HP.out _ _ ⟨_, rfl, ?_⟩
        rw [Hk.out]
        exact hw
  | true =>
    have Hk : Hid (kids l n = kidsRow l n) := Sep.hid (by unfold kids; rw [hb]; rfl)
    have Hb := Sep.hid hb; clear hb
    go_loopw [5, 6] (fun ov i wr => ∃ (k on oc : Nat) (oa : Option Addr), k ≤ len ∧ i = .int .i64 k ∧ ov = .slice oa on oc ∧ Hid ((kidsUpto l n k).length = on) ∧ Holds e wr [X, pt p [.slice a len cap, .int .i64 most] 39, Sl 43 2 (.slice a len cap) len (l.flatMap encR), Sl 3 1 ov on (encI (kidsUpto l n k))]) (fun _ i _ => len - (intOf i).toNat)
    case atStart => exact ⟨0, 0, 0, _, Nat.zero_le _, rfl, rfl, Sep.hid rfl, Hw0.out⟩
    case round =>
      clear Hw0
      obtain ⟨k, on, oc, oa, hk, rfl, rfl, Hon, hw⟩ := hrel
      have hon : on ≤ 200 := by have := kidsUpto_len l n k; rw [Hon.out] at this; omega
      (try replace hc0 := Sep.Holds.cells hw (i := 0) rfl); (try replace hc1 := Sep.Holds.cells hw (i := 1) rfl); (try replace hc2 := Sep.Holds.cells hw (i := 2) rfl); (try replace hc3 := Sep.Holds.cells hw (i := 3) rfl); (try replace hc4 := Sep.Holds.cells hw (i := 4) rfl); (try replace hc5 := Sep.Holds.cells hw (i := 5) rfl); (try replace hc6 := Sep.Holds.cells hw (i := 6) rfl)
      by_cases hlt : k < len
      · obtain ⟨x, hx⟩ : ∃ x, l[k]? = some x := ⟨_, List.getElem?_eq_getElem (by rw [hlen.out]; exact hlt)⟩
        have Hsu := Sep.hid (kidsUpto_succ n hx)
        obtain ⟨b, off, rfl, g0, g1⟩ := rnodes_at (i := 2) hw rfl hlen.out k x hx
        clear hx
        go_wp2_with fail
        refine (rThere p len cap _ l n hlen _ (hc1 0)).mono ?_
        rintro _ w_ ⟨rfl, rfl⟩
        rw [Hb.out]
        by_cases hxn : x.over = n
        · have E1 : Hid (kidsUpto l n (k + 1) = kidsUpto l n k ++ [(k : Int)]) := Sep.hid (by rw [Hsu.out, if_pos hxn])
          have hxb : (x.over == n) = true := by simpa using hxn
          clear hxn
          go_wp2_with (first | (refine wpList_on rfl (wp_bsl1 rfl rfl (by rfl) (by rfl) (by decide) hw ?_); intro b_ w_ hw_; clear hw; have hw := hw_; clear hw_; (try simp only [List.map_cons, List.map_nil, List.getD_cons_zero, List.getD_cons_succ, List.getD_nil, List.set_cons_zero, List.set_cons_succ, List.cons_append, List.nil_append, Act.eval, Array.getD_eq_getD_getElem?, List.getElem?_toArray, List.getElem?_cons_succ, List.getElem?_cons_zero, Option.getD_some, Value.cells] at hw); (try simp (disch := first | (simp; done) | (simp; omega)) only [Sep.mid_set, Sep.mid_set2, Sep.mid_set0, Sep.mid_splice, Sep.mid_splice0, List.set_cons_zero, List.set_cons_succ] at hw); (try simp only [Sep.splice, List.take_succ_cons, List.take_zero, List.drop_succ_cons, List.drop_zero, List.length_cons, List.length_nil, Nat.reduceAdd, List.cons_append, List.nil_append] at hw); (try replace hc0 := Sep.Holds.cells hw (i := 0) rfl); (try replace hc1 := Sep.Holds.cells hw (i := 1) rfl); (try replace hc2 := Sep.Holds.cells hw (i := 2) rfl); (try replace hc3 := Sep.Holds.cells hw (i := 3) rfl); (try replace hc4 := Sep.Holds.cells hw (i := 4) rfl); (try replace hc5 := Sep.Holds.cells hw (i := 5) rfl); (try replace hc6 := Sep.Holds.cells hw (i := 6) rfl)) | (at_builtin; refine wpList_on rfl (wp_appendPt (i := 3) (j := 4) rfl rfl hw rfl rfl rfl (by rfl) (by simp [Value.oneCell']) (by decide) (by rfl) (by (try unfold maxLen); omega) (by (try unfold maxLen); omega) ?_); intro b2_ cap2_ off2_ w_ hcap2_ hw_; clear hw; have hw := hw_; clear hw_; (try simp only [List.map_cons, List.map_nil, List.getD_cons_zero, List.getD_cons_succ, List.getD_nil, List.set_cons_zero, List.set_cons_succ, List.cons_append, List.nil_append, Act.eval, Array.getD_eq_getD_getElem?, List.getElem?_toArray, List.getElem?_cons_succ, List.getElem?_cons_zero, Option.getD_some, Value.cells] at hw); (try simp (disch := first | (simp; done) | (simp; omega)) only [Sep.mid_set, Sep.mid_set2, Sep.mid_set0, Sep.mid_splice, Sep.mid_splice0, List.set_cons_zero, List.set_cons_succ] at hw); (try simp only [Sep.splice, List.take_succ_cons, List.take_zero, List.drop_succ_cons, List.drop_zero, List.length_cons, List.length_nil, Nat.reduceAdd, List.cons_append, List.nil_append] at hw); (try replace hc0 := Sep.Holds.cells hw (i := 0) rfl); (try replace hc1 := Sep.Holds.cells hw (i := 1) rfl); (try replace hc2 := Sep.Holds.cells hw (i := 2) rfl); (try replace hc3 := Sep.Holds.cells hw (i := 3) rfl); (try replace hc4 := Sep.Holds.cells hw (i := 4) rfl); (try replace hc5 := Sep.Holds.cells hw (i := 5) rfl); (try replace hc6 := Sep.Holds.cells hw (i := 6) rfl)))
          go_roundw
          case rel => exact ⟨k + 1, on + 1, _, _, by omega, by go_num, rfl, Sep.hid (by rw [E1.out, List.length_append, Hon.out]; rfl), by rw [E1.out, encI_append]; exact hw.sel [0, 1, 2, 3] (by decide)⟩
          case measure => simp [intOf]; omega
        · have E1 : Hid (kidsUpto l n (k + 1) = kidsUpto l n k) := Sep.hid (by rw [Hsu.out, if_neg hxn, List.append_nil])
          have hxb : (x.over == n) = false := by simpa using hxn
          clear hxn
          go_wp2_with fail
          go_roundw
          case rel => exact ⟨k + 1, on, _, _, by omega, by go_num, rfl, Sep.hid (by rw [E1.out, Hon.out]), by rw [E1.out]; exact hw⟩
          case measure => simp [intOf]; omega
      · have hkl : k = len := by omega
        have E1 : Hid (kidsUpto l n k = kidsRow l n) := Sep.hid (by rw [hkl, ← hlen.out]; exact kidsUpto_end l n)
        clear hkl
        go_wp2_with fail
        refine HP.out _ _ ⟨_, rfl, ?_⟩
        rw [Hk.out, ← E1.out]
        have h1 := Hon.out
        subst h1
        exact hw
theorem isInts_at {l : List Int} {n : Nat} {v : Value} (h : l.length = n) : IsInts v l = Sl 3 1 v n (encI l) := by unfold IsInts; rw [h]
set_option maxHeartbeats 8000000 in
theorem rReachN (p len cap : Nat) (a : Option Addr) (most : Int) (l : List Nd) (hok : Hid (TreeM.Ok l)) (hlen : Hid (l.length = len)) (hl2 : len ≤ 200) :
    ∀ (f k : Nat), Hid (l.length - k = f) → Hid (there l (k : Int) = true) → ∀ (e w : World) (X : HProp), Holds e w (rL X p len cap a most l) →
    Calls Try.prog 21 #[.pointer (some ⟨p, 0, none⟩), .int .i64 (k : Int)] w fun en w' => ∃ v, en = .returned v ∧ Holds e w' (rL X p len cap a most l ++ [IsInts v (reach l k)]) := by
  intro f
  induction f using Nat.strongRecOn with
  | _ f ih =>
    intro k hf hth e w X hw
    have IH := Sep.hid ih; clear ih
    have Hk : Hid (kids l (k : Int) = kidsRow l k) := Sep.hid (by unfold kids; rw [hth.out]; rfl)
    obtain ⟨kn, hkn⟩ : ∃ kn, (kidsRow l k).length = kn := ⟨_, rfl⟩
    have Hkn := Sep.hid hkn
    have hkn2 : kn ≤ 200 := by have := kidsRow_length l k; rw [hkn, hlen.out] at this; omega
    have Hrl := Sep.hid (reach_len hok.out hth.out)
    clear hkn
    unfold rL at hw
    (try replace hc0 := Sep.Holds.cells hw (i := 0) rfl); (try replace hc1 := Sep.Holds.cells hw (i := 1) rfl); (try replace hc2 := Sep.Holds.cells hw (i := 2) rfl); (try replace hc3 := Sep.Holds.cells hw (i := 3) rfl); (try replace hc4 := Sep.Holds.cells hw (i := 4) rfl); (try replace hc5 := Sep.Holds.cells hw (i := 5) rfl); (try replace hc6 := Sep.Holds.cells hw (i := 6) rfl)
    refine Sep.calls_post ?_
    intro Post_ hPost_
    have HP := Sep.hid hPost_
    clear hPost_
    go_enter Try.func21, Try.ntmps21
    go_wp2_with (refine wpList_on rfl (wp_bsl0 rfl hw ?_); intro b_ w_ hw_; replace hw_ := hw_.newSl (i := 3) rfl 1 0 rfl (by decide); clear hw; have hw := hw_; clear hw_; (try simp only [List.map_cons, List.map_nil, List.getD_cons_zero, List.getD_cons_succ, List.getD_nil, List.set_cons_zero, List.set_cons_succ, List.cons_append, List.nil_append, Act.eval, Array.getD_eq_getD_getElem?, List.getElem?_toArray, List.getElem?_cons_succ, List.getElem?_cons_zero, Option.getD_some, Value.cells] at hw); (try simp (disch := first | (simp; done) | (simp; omega)) only [Sep.mid_set, Sep.mid_set2, Sep.mid_set0, Sep.mid_splice, Sep.mid_splice0, List.set_cons_zero, List.set_cons_succ] at hw); (try simp only [Sep.splice, List.take_succ_cons, List.take_zero, List.drop_succ_cons, List.drop_zero, List.length_cons, List.length_nil, Nat.reduceAdd, List.cons_append, List.nil_append] at hw); (try replace hc0 := Sep.Holds.cells hw (i := 0) rfl); (try replace hc1 := Sep.Holds.cells hw (i := 1) rfl); (try replace hc2 := Sep.Holds.cells hw (i := 2) rfl); (try replace hc3 := Sep.Holds.cells hw (i := 3) rfl); (try replace hc4 := Sep.Holds.cells hw (i := 4) rfl); (try replace hc5 := Sep.Holds.cells hw (i := 5) rfl); (try replace hc6 := Sep.Holds.cells hw (i := 6) rfl))
    refine (rThere p len cap a l k hlen _ (hc1 0)).mono ?_
    rintro _ w_ ⟨rfl, rfl⟩
    rw [hth.out]
    go_wp2_with (first | (refine wpList_on rfl (wp_bsl1 rfl rfl (by rfl) (by rfl) (by decide) hw ?_); intro b_ w_ hw_; clear hw; have hw := hw_; clear hw_; (try simp only [List.map_cons, List.map_nil, List.getD_cons_zero, List.getD_cons_succ, List.getD_nil, List.set_cons_zero, List.set_cons_succ, List.cons_append, List.nil_append, Act.eval, Array.getD_eq_getD_getElem?, List.getElem?_toArray, List.getElem?_cons_succ, List.getElem?_cons_zero, Option.getD_some, Value.cells] at hw); (try simp (disch := first | (simp; done) | (simp; omega)) only [Sep.mid_set, Sep.mid_set2, Sep.mid_set0, Sep.mid_splice, Sep.mid_splice0, List.set_cons_zero, List.set_cons_succ] at hw); (try simp only [Sep.splice, List.take_succ_cons, List.take_zero, List.drop_succ_cons, List.drop_zero, List.length_cons, List.length_nil, Nat.reduceAdd, List.cons_append, List.nil_append] at hw); (try replace hc0 := Sep.Holds.cells hw (i := 0) rfl); (try replace hc1 := Sep.Holds.cells hw (i := 1) rfl); (try replace hc2 := Sep.Holds.cells hw (i := 2) rfl); (try replace hc3 := Sep.Holds.cells hw (i := 3) rfl); (try replace hc4 := Sep.Holds.cells hw (i := 4) rfl); (try replace hc5 := Sep.Holds.cells hw (i := 5) rfl); (try replace hc6 := Sep.Holds.cells hw (i := 6) rfl)) | (at_builtin; refine wpList_on rfl (wp_appendPt (i := 3) (j := 4) rfl rfl hw rfl rfl rfl (by rfl) (by simp [Value.oneCell']) (by decide) (by rfl) (by (try unfold maxLen); omega) (by (try unfold maxLen); omega) ?_); intro b2_ cap2_ off2_ w_ hcap2_ hw_; clear hw; have hw := hw_; clear hw_; (try simp only [List.map_cons, List.map_nil, List.getD_cons_zero, List.getD_cons_succ, List.getD_nil, List.set_cons_zero, List.set_cons_succ, List.cons_append, List.nil_append, Act.eval, Array.getD_eq_getD_getElem?, List.getElem?_toArray, List.getElem?_cons_succ, List.getElem?_cons_zero, Option.getD_some, Value.cells] at hw); (try simp (disch := first | (simp; done) | (simp; omega)) only [Sep.mid_set, Sep.mid_set2, Sep.mid_set0, Sep.mid_splice, Sep.mid_splice0, List.set_cons_zero, List.set_cons_succ] at hw); (try simp only [Sep.splice, List.take_succ_cons, List.take_zero, List.drop_succ_cons, List.drop_zero, List.length_cons, List.length_nil, Nat.reduceAdd, List.cons_append, List.nil_append] at hw); (try replace hc0 := Sep.Holds.cells hw (i := 0) rfl); (try replace hc1 := Sep.Holds.cells hw (i := 1) rfl); (try replace hc2 := Sep.Holds.cells hw (i := 2) rfl); (try replace hc3 := Sep.Holds.cells hw (i := 3) rfl); (try replace hc4 := Sep.Holds.cells hw (i := 4) rfl); (try replace hc5 := Sep.Holds.cells hw (i := 5) rfl); (try replace hc6 := Sep.Holds.cells hw (i := 6) rfl)))
    refine (rKids p len cap a most l k hlen hl2 e _ (sepL [X, _]) (Holds.group [X, _] _ (hw.sel [0, 3, 1, 2] (by decide)))).mono ?_
    rintro _ w_ ⟨v6, rfl, hw_⟩
    rw [Hk.out, isInts_at Hkn.out] at hw_
    clear hw; (try clear hc0); (try clear hc1); (try clear hc2); (try clear hc3); (try clear hc4); (try clear hc5); (try clear hc6)
    have hw := (Holds.ungroup _ _ hw_).sel [0, 2, 3, 4, 1] (by decide)
    clear hw_
    (try simp only [List.map_cons, List.map_nil, List.getD_cons_zero, List.getD_cons_succ, List.getD_nil, List.set_cons_zero, List.set_cons_succ, List.cons_append, List.nil_append, Act.eval, Array.getD_eq_getD_getElem?, List.getElem?_toArray, List.getElem?_cons_succ, List.getElem?_cons_zero, Option.getD_some, Value.cells] at hw); (try simp (disch := first | (simp; done) | (simp; omega)) only [Sep.mid_set, Sep.mid_set2, Sep.mid_set0, Sep.mid_splice, Sep.mid_splice0, List.set_cons_zero, List.set_cons_succ] at hw); (try simp only [Sep.splice, List.take_succ_cons, List.take_zero, List.drop_succ_cons, List.drop_zero, List.length_cons, List.length_nil, Nat.reduceAdd, List.cons_append, List.nil_append] at hw)
    obtain ⟨ka, kc, rfl⟩ := Sl.value (i := 3) rfl hw
    go_wp2_with fail
    have Hw0 := Sep.hid hw; clear hw; (try clear hc0); (try clear hc1); (try clear hc2); (try clear hc3); (try clear hc4); (try clear hc5); (try clear hc6)
    go_loopw [5, 7] (fun ov i wr => ∃ (q on oc : Nat) (oa : Option Addr), q ≤ kn ∧ i = .int .i64 q ∧ ov = .slice oa on oc ∧ Hid (1 + (kidsReach l k q).length = on) ∧ Holds e wr [X, pt p [.slice a len cap, .int .i64 most] 39, Sl 43 2 (.slice a len cap) len (l.flatMap encR), Sl 3 1 (.slice ka kn kc) kn (encI (kidsRow l k)), Sl 3 1 ov on (encI ([(k : Int)] ++ kidsReach l k q))]) (fun _ i _ => kn - (intOf i).toNat)
    case atStart => exact ⟨0, 1, _, _, Nat.zero_le _, rfl, rfl, Sep.hid rfl, Hw0.out⟩
    case round =>
      clear Hw0
      obtain ⟨q, on, oc, oa, hq, rfl, rfl, Hon, hw⟩ := hrel
      by_cases hlt : q < kn
      · obtain ⟨j, hj⟩ : ∃ j, (kidsRow l k)[q]? = some j := ⟨_, List.getElem?_eq_getElem (by rw [Hkn.out]; exact hlt)⟩
        have hjm := mem_kidsRow.1 (List.mem_of_getElem? hj)
        have hjlt := hok.out.over_lt hjm.1
        rw [hjm.2] at hjlt
        obtain ⟨j', y, rfl, hjk, hy, _⟩ := there_get hjm.1
        rw [hlen.out] at hjk
        have Hcy := Sep.hid ((get_there hy).2.2.2)
        have Hth := Sep.hid hjm.1
        have Hsu := Sep.hid (kidsReach_succ hj)
        have hle := kidsReach_le l k (q + 1)
        have hrl : (kidsReach l k (kidsRow l k).length).length + 1 = (reach l k).length := by rw [← kidsReach_end hok.out hth.out (Nat.le_refl _)]; simp
        have Hbq : Hid (1 + (kidsReach l k (q + 1)).length ≤ 200) := Sep.hid (by have := Hrl.out; rw [hlen.out] at this; omega)
        have hjk2 : k < j' := by omega
        obtain ⟨b, off, rfl, g0, g1⟩ := rnodes_at (i := 2) hw rfl hlen.out j' y hy
        obtain ⟨kb, koff, rfl, g3⟩ := num_at (i := 3) hw rfl hj
        clear hjm hjlt hj hle hrl
        (try replace hc0 := Sep.Holds.cells hw (i := 0) rfl); (try replace hc1 := Sep.Holds.cells hw (i := 1) rfl); (try replace hc2 := Sep.Holds.cells hw (i := 2) rfl); (try replace hc3 := Sep.Holds.cells hw (i := 3) rfl); (try replace hc4 := Sep.Holds.cells hw (i := 4) rfl); (try replace hc5 := Sep.Holds.cells hw (i := 5) rfl); (try replace hc6 := Sep.Holds.cells hw (i := 6) rfl)
        cases hc : y.cut with
        | true =>
          rw [hc] at g1 Hcy
          have E1 : Hid (kidsReach l k (q + 1) = kidsReach l k q) := Sep.hid (by rw [Hsu.out, Hcy.out]; simp)
          clear hc hy
          go_wp2_with fail
          refine wp_region_L [] [(3, (fun w' => w' = wr.drew)), (7, (fun w' => w' = wr.drew)), (10, (fun w' => w' = wr.drew))] (n := 12) (listed := (marks 12 0)) (by kernel_rfl) rfl (by kernel_rfl) ?conds1 ?_
          case conds1 =>
           intro c hc
           simp only [List.mem_cons, List.not_mem_nil, or_false] at hc
           rcases hc with rfl | rfl | rfl
           · rfl
           · rfl
           · rfl
          replace hw := hw.drew
          (try replace hc0 := Sep.Holds.cells hw (i := 0) rfl); (try replace hc1 := Sep.Holds.cells hw (i := 1) rfl); (try replace hc2 := Sep.Holds.cells hw (i := 2) rfl); (try replace hc3 := Sep.Holds.cells hw (i := 3) rfl); (try replace hc4 := Sep.Holds.cells hw (i := 4) rfl); (try replace hc5 := Sep.Holds.cells hw (i := 5) rfl); (try replace hc6 := Sep.Holds.cells hw (i := 6) rfl)
          refine wpL_q 0 ?_ rfl (Or.inl ⟨by rfl, fun w_ hS_ => ?_⟩) (marks 12 1) ?_
          rotate_left
          next => (go_simp; try (first | rfl | exact (Bool.not_not _).symm))
          try simp only [Act.put, List.setIfInBounds_toArray, List.set_cons_zero, List.set_cons_succ]
          refine wpL_q 1 ?_ rfl (Or.inl ⟨by rfl, fun w_ hS_ => ?_⟩) (marks 12 3) ?_
          rotate_left
          next => (go_simp; try (first | rfl | exact (Bool.not_not _).symm))
          try simp only [Act.put, List.setIfInBounds_toArray, List.set_cons_zero, List.set_cons_succ]
          refine wpL_q 2 ?_ rfl (Or.inl ⟨by rfl, fun w_ hS_ => ?_⟩) (marks 12 7) ?_
          rotate_left
          next => (go_simp; try (first | rfl | exact (Bool.not_not _).symm))
          try simp only [Act.put, List.setIfInBounds_toArray, List.set_cons_zero, List.set_cons_succ]
          refine wpL_m 3 ?_ rfl (.head _) (Or.inl ⟨by rfl, fun w_ hS_ => ?_⟩) (marks 12 15) ?_
          rotate_left
          next => (subst hS_; go_simp; try (first | rfl | exact (Bool.not_not _).symm))
          try simp only [Act.put, List.setIfInBounds_toArray, List.set_cons_zero, List.set_cons_succ]
          refine wpL_q 4 ?_ rfl (Or.inl ⟨by rfl, fun w_ hS_ => ?_⟩) (marks 12 31) ?_
          rotate_left
          next => (go_simp; try (first | rfl | exact (Bool.not_not _).symm))
          try simp only [Act.put, List.setIfInBounds_toArray, List.set_cons_zero, List.set_cons_succ]
          refine wpL_q 5 ?_ rfl (Or.inl ⟨by rfl, fun w_ hS_ => ?_⟩) (marks 12 63) ?_
          rotate_left
          next => (go_simp; try (first | rfl | exact (Bool.not_not _).symm))
          try simp only [Act.put, List.setIfInBounds_toArray, List.set_cons_zero, List.set_cons_succ]
          refine wpL_q 6 ?_ rfl (Or.inl ⟨by rfl, fun w_ hS_ => ?_⟩) (marks 12 127) ?_
          rotate_left
          next => (go_simp; try (first | rfl | exact (Bool.not_not _).symm))
          try simp only [Act.put, List.setIfInBounds_toArray, List.set_cons_zero, List.set_cons_succ]
          refine wpL_m 7 ?_ rfl (.tail _ (.head _)) (Or.inl ⟨by rfl, fun w_ hS_ => ?_⟩) (marks 12 255) ?_
          rotate_left
          next => (subst hS_; go_simp; try (first | rfl | exact (Bool.not_not _).symm))
          try simp only [Act.put, List.setIfInBounds_toArray, List.set_cons_zero, List.set_cons_succ]
          refine wpL_q 8 ?_ rfl (Or.inl ⟨by rfl, fun w_ hS_ => ?_⟩) (marks 12 511) ?_
          rotate_left
          next => (go_simp; try (first | rfl | exact (Bool.not_not _).symm))
          try simp only [Act.put, List.setIfInBounds_toArray, List.set_cons_zero, List.set_cons_succ]
          refine wpL_q 9 ?_ rfl (Or.inl ⟨by rfl, fun w_ hS_ => ?_⟩) (marks 12 1023) ?_
          rotate_left
          next => (go_simp; try (first | rfl | exact (Bool.not_not _).symm))
          try simp only [Act.put, List.setIfInBounds_toArray, List.set_cons_zero, List.set_cons_succ]
          refine wpL_m 10 ?_ rfl (.tail _ (.tail _ (.head _))) (Or.inl ⟨by rfl, fun w_ hS_ => ?_⟩) (marks 12 2047) ?_
          rotate_left
          next => (subst hS_; go_simp; try (first | rfl | exact (Bool.not_not _).symm))
          try simp only [Act.put, List.setIfInBounds_toArray, List.set_cons_zero, List.set_cons_succ]
          refine wpL_q 11 ?_ rfl (Or.inl ⟨by rfl, fun w_ hS_ => ?_⟩) (marks 12 4095) ?_
          rotate_left
          next => (go_simp; try (first | rfl | exact (Bool.not_not _).symm))
          try simp only [Act.put, List.setIfInBounds_toArray, List.set_cons_zero, List.set_cons_succ]
          all_goals refine wpL_done (by kernel_rfl) ?_ _
          go_wp2_with fail
          go_roundw
          case rel => exact ⟨q + 1, on, _, _, by omega, by go_num, rfl, Sep.hid (by rw [E1.out]; exact Hon.out), by rw [E1.out]; exact hw⟩
          case measure => simp [intOf]; omega
        | false =>
          rw [hc] at g1 Hcy
          have E1 : Hid (kidsReach l k (q + 1) = kidsReach l k q ++ reach l j') := Sep.hid (by rw [Hsu.out, Hcy.out]; simp)
          obtain ⟨rn, hrn⟩ : ∃ rn, (reach l j').length = rn := ⟨_, rfl⟩
          have Hrn := Sep.hid hrn
          have hbn : on + rn ≤ 200 := by have := Hbq.out; rw [E1.out, List.length_append, hrn] at this; have := Hon.out; omega
          clear hc hy hrn
          go_wp2_with fail
          refine wp_region_L [] [(3, (fun w' => w' = wr.drew)), (7, (fun w' => w' = wr.drew)), (10, (fun w' => w' = wr.drew))] (n := 12) (listed := (marks 12 0)) (by kernel_rfl) rfl (by kernel_rfl) ?conds2 ?_
          case conds2 =>
           intro c hc
           simp only [List.mem_cons, List.not_mem_nil, or_false] at hc
           rcases hc with rfl | rfl | rfl
           · rfl
           · rfl
           · rfl
          replace hw := hw.drew
          (try replace hc0 := Sep.Holds.cells hw (i := 0) rfl); (try replace hc1 := Sep.Holds.cells hw (i := 1) rfl); (try replace hc2 := Sep.Holds.cells hw (i := 2) rfl); (try replace hc3 := Sep.Holds.cells hw (i := 3) rfl); (try replace hc4 := Sep.Holds.cells hw (i := 4) rfl); (try replace hc5 := Sep.Holds.cells hw (i := 5) rfl); (try replace hc6 := Sep.Holds.cells hw (i := 6) rfl)
          refine wpL_q 0 ?_ rfl (Or.inl ⟨by rfl, fun w_ hS_ => ?_⟩) (marks 12 1) ?_
          rotate_left
          next => (go_simp; try (first | rfl | exact (Bool.not_not _).symm))
          try simp only [Act.put, List.setIfInBounds_toArray, List.set_cons_zero, List.set_cons_succ]
          refine wpL_q 1 ?_ rfl (Or.inl ⟨by rfl, fun w_ hS_ => ?_⟩) (marks 12 3) ?_
          rotate_left
          next => (go_simp; try (first | rfl | exact (Bool.not_not _).symm))
          try simp only [Act.put, List.setIfInBounds_toArray, List.set_cons_zero, List.set_cons_succ]
          refine wpL_q 2 ?_ rfl (Or.inl ⟨by rfl, fun w_ hS_ => ?_⟩) (marks 12 7) ?_
          rotate_left
          next => (go_simp; try (first | rfl | exact (Bool.not_not _).symm))
          try simp only [Act.put, List.setIfInBounds_toArray, List.set_cons_zero, List.set_cons_succ]
          refine wpL_m 3 ?_ rfl (.head _) (Or.inl ⟨by rfl, fun w_ hS_ => ?_⟩) (marks 12 15) ?_
          rotate_left
          next => (subst hS_; go_simp; try (first | rfl | exact (Bool.not_not _).symm))
          try simp only [Act.put, List.setIfInBounds_toArray, List.set_cons_zero, List.set_cons_succ]
          refine wpL_q 4 ?_ rfl (Or.inl ⟨by rfl, fun w_ hS_ => ?_⟩) (marks 12 31) ?_
          rotate_left
          next => (go_simp; try (first | rfl | exact (Bool.not_not _).symm))
          try simp only [Act.put, List.setIfInBounds_toArray, List.set_cons_zero, List.set_cons_succ]
          refine wpL_q 5 ?_ rfl (Or.inl ⟨by rfl, fun w_ hS_ => ?_⟩) (marks 12 63) ?_
          rotate_left
          next => (go_simp; try (first | rfl | exact (Bool.not_not _).symm))
          try simp only [Act.put, List.setIfInBounds_toArray, List.set_cons_zero, List.set_cons_succ]
          refine wpL_q 6 ?_ rfl (Or.inl ⟨by rfl, fun w_ hS_ => ?_⟩) (marks 12 127) ?_
          rotate_left
          next => (go_simp; try (first | rfl | exact (Bool.not_not _).symm))
          try simp only [Act.put, List.setIfInBounds_toArray, List.set_cons_zero, List.set_cons_succ]
          refine wpL_m 7 ?_ rfl (.tail _ (.head _)) (Or.inl ⟨by rfl, fun w_ hS_ => ?_⟩) (marks 12 255) ?_
          rotate_left
          next => (subst hS_; go_simp; try (first | rfl | exact (Bool.not_not _).symm))
          try simp only [Act.put, List.setIfInBounds_toArray, List.set_cons_zero, List.set_cons_succ]
          refine wpL_q 8 ?_ rfl (Or.inl ⟨by rfl, fun w_ hS_ => ?_⟩) (marks 12 511) ?_
          rotate_left
          next => (go_simp; try (first | rfl | exact (Bool.not_not _).symm))
          try simp only [Act.put, List.setIfInBounds_toArray, List.set_cons_zero, List.set_cons_succ]
          refine wpL_q 9 ?_ rfl (Or.inl ⟨by rfl, fun w_ hS_ => ?_⟩) (marks 12 1023) ?_
          rotate_left
          next => (go_simp; try (first | rfl | exact (Bool.not_not _).symm))
          try simp only [Act.put, List.setIfInBounds_toArray, List.set_cons_zero, List.set_cons_succ]
          refine wpL_m 10 ?_ rfl (.tail _ (.tail _ (.head _))) (Or.inl ⟨by rfl, fun w_ hS_ => ?_⟩) (marks 12 2047) ?_
          rotate_left
          next => (subst hS_; go_simp; try (first | rfl | exact (Bool.not_not _).symm))
          try simp only [Act.put, List.setIfInBounds_toArray, List.set_cons_zero, List.set_cons_succ]
          refine wpL_q 11 ?_ rfl (Or.inl ⟨by rfl, fun w_ hS_ => ?_⟩) (marks 12 4095) ?_
          rotate_left
          next => (go_simp; try (first | rfl | exact (Bool.not_not _).symm))
          try simp only [Act.put, List.setIfInBounds_toArray, List.set_cons_zero, List.set_cons_succ]
          all_goals refine wpL_done (by kernel_rfl) ?_ _
          go_wp2_with fail
          refine (IH.out (l.length - j') (by have := hf.out; rw [hlen.out] at this ⊢; omega) j' (Sep.hid rfl) Hth e _ (sepL [X, _, _]) (Holds.group [X, _, _] _ (hw.sel [0, 3, 4, 1, 2] (by decide)))).mono ?_
          rintro _ w_ ⟨v, rfl, hw_⟩
          rw [isInts_at Hrn.out] at hw_
          clear hw g0 g1 g3; (try clear hc0); (try clear hc1); (try clear hc2); (try clear hc3); (try clear hc4); (try clear hc5); (try clear hc6)
          have hw := (Holds.ungroup _ _ hw_).sel [0, 3, 4, 1, 2, 5] (by decide)
          clear hw_
          (try simp only [List.map_cons, List.map_nil, List.getD_cons_zero, List.getD_cons_succ, List.getD_nil, List.set_cons_zero, List.set_cons_succ, List.cons_append, List.nil_append, Act.eval, Array.getD_eq_getD_getElem?, List.getElem?_toArray, List.getElem?_cons_succ, List.getElem?_cons_zero, Option.getD_some, Value.cells] at hw); (try simp (disch := first | (simp; done) | (simp; omega)) only [Sep.mid_set, Sep.mid_set2, Sep.mid_set0, Sep.mid_splice, Sep.mid_splice0, List.set_cons_zero, List.set_cons_succ] at hw); (try simp only [Sep.splice, List.take_succ_cons, List.take_zero, List.drop_succ_cons, List.drop_zero, List.length_cons, List.length_nil, Nat.reduceAdd, List.cons_append, List.nil_append] at hw)
          obtain ⟨va, vc, rfl⟩ := Sl.value (i := 5) rfl hw
          go_wp2_with (at_builtin; refine wpList_on rfl (wp_appendSl (i := 4) (j := 5) (u := .slice va rn vc) rfl rfl hw rfl rfl rfl (by first | exact encI_one _ | simp [Value.oneCell']) (by rfl) (by (try unfold maxLen); omega) (by (try unfold maxLen); omega) ?_); intro a2_ cap2_ w_ hw_; (try simp only [Nat.zero_add, List.nil_append] at hw_); clear hw; have hw := hw_; clear hw_; (try simp only [List.map_cons, List.map_nil, List.getD_cons_zero, List.getD_cons_succ, List.getD_nil, List.set_cons_zero, List.set_cons_succ, List.cons_append, List.nil_append, Act.eval, Array.getD_eq_getD_getElem?, List.getElem?_toArray, List.getElem?_cons_succ, List.getElem?_cons_zero, Option.getD_some, Value.cells] at hw); (try simp (disch := first | (simp; done) | (simp; omega)) only [Sep.mid_set, Sep.mid_set2, Sep.mid_set0, Sep.mid_splice, Sep.mid_splice0, List.set_cons_zero, List.set_cons_succ] at hw); (try simp only [Sep.splice, List.take_succ_cons, List.take_zero, List.drop_succ_cons, List.drop_zero, List.length_cons, List.length_nil, Nat.reduceAdd, List.cons_append, List.nil_append] at hw); (try replace hc0 := Sep.Holds.cells hw (i := 0) rfl); (try replace hc1 := Sep.Holds.cells hw (i := 1) rfl); (try replace hc2 := Sep.Holds.cells hw (i := 2) rfl); (try replace hc3 := Sep.Holds.cells hw (i := 3) rfl); (try replace hc4 := Sep.Holds.cells hw (i := 4) rfl); (try replace hc5 := Sep.Holds.cells hw (i := 5) rfl); (try replace hc6 := Sep.Holds.cells hw (i := 6) rfl))
          go_roundw
          case rel => exact ⟨q + 1, on + rn, _, _, by omega, by go_num, rfl, Sep.hid (by rw [E1.out, List.length_append, Hrn.out]; have := Hon.out; omega), by rw [E1.out, ← List.append_assoc, encI_append ([(k : Int)] ++ _)]; exact hw.sel [0, 1, 2, 3, 4] (by decide)⟩
          case measure => simp [intOf]; omega
      · have E1 : Hid ((k : Int) :: kidsReach l k q = reach l k) := Sep.hid (kidsReach_end hok.out hth.out (by rw [Hkn.out]; omega))
        (try replace hc0 := Sep.Holds.cells hw (i := 0) rfl); (try replace hc1 := Sep.Holds.cells hw (i := 1) rfl); (try replace hc2 := Sep.Holds.cells hw (i := 2) rfl); (try replace hc3 := Sep.Holds.cells hw (i := 3) rfl); (try replace hc4 := Sep.Holds.cells hw (i := 4) rfl); (try replace hc5 := Sep.Holds.cells hw (i := 5) rfl); (try replace hc6 := Sep.Holds.cells hw (i := 6) rfl)
        go_wp2_with fail
        refine HP.out _ _ ⟨_, rfl, ?_⟩
        rw [← E1.out, isInts_at (n := on) (by rw [List.length_cons]; have := Hon.out; omega)]
        exact hw.sel [0, 1, 2, 4] (by decide)
end Go.Proofs.Ytlegkikglpogkaa
