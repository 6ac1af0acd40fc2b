/-
  The document's own table: In, Under, Get.
-/
import Derived.Test.YtmoikkfhlnogbaaTRefD
namespace Go.Proofs.Ytmoikkfhlnogbaa
set_option linter.unusedSimpArgs false
set_option linter.unusedVariables false
open Go.RowKit Go.Sep Go.TaskM

def thoseUpto (l : List Task) (such : Task → Bool) (k : Nat) : List Int := (((l.take k).zipIdx).filter fun x => such x.1).map fun x => (x.2 : Int)
theorem thoseUpto_end {T : Table} (such : Task → Bool) {k : Nat} (h : T.l.length ≤ k) : thoseUpto T.l such k = T.those such := by unfold thoseUpto Table.those; rw [List.take_of_length_le h]
theorem thoseUpto_succ {l : List Task} {k : Nat} {t : Task} (such : Task → Bool) (h : l[k]? = some t) : thoseUpto l such (k + 1) = thoseUpto l such k ++ (if such t then [(k : Int)] else []) := by
  unfold thoseUpto
  have hk := (List.getElem?_eq_some_iff.1 h).1
  rw [List.take_add_one, h]
  have e1 : (l.take k ++ (some t).toList).zipIdx = (l.take k).zipIdx ++ [(t, k)] := by
    rw [List.zipIdx_append]
    simp [List.length_take, Nat.min_eq_left (Nat.le_of_lt hk)]
  rw [e1, List.filter_append, List.map_append]
  congr 1
  rw [List.filter_cons, List.filter_nil]
  by_cases hs : such t = true <;> simp [hs]
theorem thoseUpto_len (l : List Task) (such : Task → Bool) (k : Nat) : (thoseUpto l such k).length ≤ k := by
  unfold thoseUpto
  rw [List.length_map]
  refine Nat.le_trans (List.length_filter_le _ _) ?_
  rw [List.length_zipIdx, List.length_take]
  omega
theorem isInts_at {l : List Int} {n : Nat} {v : Value} (h : l.length = n) : IsInts v l = Sl 3 1 v n (encI l) := by unfold IsInts; rw [h]
def rL (X : HProp) (p len cap : Nat) (a : Option Addr) (T : Table) : List HProp := [X, pt p [.slice a len cap, .int .i64 T.most] 47, Sl 57 17 (.slice a len cap) len (T.l.flatMap encT)]
set_option maxHeartbeats 4000000 in
theorem rIn (p len cap : Nat) (a : Option Addr) (T : Table) (st : Int) (hlen : Hid (T.l.length = len)) (hl2 : len ≤ 200) (e w : World) (X : HProp) (hw : Holds e w (rL X p len cap a T)) :
    Calls Try.prog 19 #[.pointer (some ⟨p, 0, none⟩), .int .i64 st] w fun en w' => ∃ v, en = .returned v ∧ Holds e w' (rL X p len cap a T ++ [IsInts v (T.those (inState st))]) := by
  unfold rL at hw
  (try replace hc0 := Sep.Holds.cells hw (i := 0) rfl); (try replace hc1 := Sep.Holds.cells hw (i := 1) rfl); (try replace hc2 := Sep.Holds.cells hw (i := 2) rfl); (try replace hc3 := Sep.Holds.cells hw (i := 3) rfl); (try replace hc4 := Sep.Holds.cells hw (i := 4) rfl); (try replace hc5 := Sep.Holds.cells hw (i := 5) rfl); (try replace hc6 := Sep.Holds.cells hw (i := 6) rfl)
  refine Sep.calls_post ?_
  intro Post_ hPost_
  have HP := Sep.hid hPost_
  clear hPost_
  go_enter Try.func19, Try.ntmps19
  go_wp2_with (refine wpList_on rfl (wp_bsl0 rfl hw ?_); intro b_ w_ hw_; replace hw_ := hw_.newSl (i := 3) rfl 1 0 rfl (by decide); clear hw; have hw := hw_; clear hw_; (try simp only [List.map_cons, List.map_nil, List.getD_cons_zero, List.getD_cons_succ, List.getD_nil, List.set_cons_zero, List.set_cons_succ, List.cons_append, List.nil_append, Act.eval, Array.getD_eq_getD_getElem?, List.getElem?_toArray, List.getElem?_cons_succ, List.getElem?_cons_zero, Option.getD_some, Value.cells] at hw); (try simp (disch := first | (simp; done) | (simp; omega)) only [Sep.mid_set, Sep.mid_set2, Sep.mid_set0, Sep.mid_splice, Sep.mid_splice0, List.set_cons_zero, List.set_cons_succ] at hw); (try simp only [Sep.splice, List.take_succ_cons, List.take_zero, List.drop_succ_cons, List.drop_zero, List.length_cons, List.length_nil, Nat.reduceAdd, List.cons_append, List.nil_append] at hw); (try replace hc0 := Sep.Holds.cells hw (i := 0) rfl); (try replace hc1 := Sep.Holds.cells hw (i := 1) rfl); (try replace hc2 := Sep.Holds.cells hw (i := 2) rfl); (try replace hc3 := Sep.Holds.cells hw (i := 3) rfl); (try replace hc4 := Sep.Holds.cells hw (i := 4) rfl); (try replace hc5 := Sep.Holds.cells hw (i := 5) rfl); (try replace hc6 := Sep.Holds.cells hw (i := 6) rfl))
  have Hw0 := Sep.hid hw; clear hw; (try clear hc0); (try clear hc1); (try clear hc2); (try clear hc3); (try clear hc4); (try clear hc5); (try clear hc6)
  go_loopw [5, 6] (fun ov i wr => ∃ (k on oc : Nat) (oa : Option Addr), k ≤ len ∧ i = .int .i64 k ∧ ov = .slice oa on oc ∧ Hid ((thoseUpto T.l (inState st) k).length = on) ∧ Holds e wr [X, pt p [.slice a len cap, .int .i64 T.most] 47, Sl 57 17 (.slice a len cap) len (T.l.flatMap encT), Sl 3 1 ov on (encI (thoseUpto T.l (inState st) k))]) (fun _ i _ => len - (intOf i).toNat)
  case atStart => exact ⟨0, 0, 0, _, Nat.zero_le _, rfl, rfl, Sep.hid rfl, Hw0.out⟩
  case round =>
    clear Hw0
    obtain ⟨k, on, oc, oa, hk, rfl, rfl, Hon, hw⟩ := hrel
    have hon : on ≤ 200 := by have := thoseUpto_len T.l (inState st) k; rw [Hon.out] at this; omega
    (try replace hc0 := Sep.Holds.cells hw (i := 0) rfl); (try replace hc1 := Sep.Holds.cells hw (i := 1) rfl); (try replace hc2 := Sep.Holds.cells hw (i := 2) rfl); (try replace hc3 := Sep.Holds.cells hw (i := 3) rfl); (try replace hc4 := Sep.Holds.cells hw (i := 4) rfl); (try replace hc5 := Sep.Holds.cells hw (i := 5) rfl); (try replace hc6 := Sep.Holds.cells hw (i := 6) rfl)
    by_cases hlt : k < len
    · obtain ⟨t, ht⟩ : ∃ t, T.l[k]? = some t := ⟨_, List.getElem?_eq_getElem (by rw [hlen.out]; exact hlt)⟩
      have Hsu := Sep.hid (thoseUpto_succ (inState st) ht)
      obtain ⟨b, off, rfl, hcl_⟩ := task_at (i := 2) hw rfl hlen.out ht
      have g0 : wr.cell? ⟨b, off + k * 17, none⟩ = some (.int .i64 t.state) := hcl_ 0 (by omega)
      have g12 : wr.cell? ⟨b, off + k * 17 + 10 + 2, none⟩ = some (.int .i64 t.wait.ctx) := hcl_ 12 (by omega)
      clear ht hcl_
      by_cases hs : t.state = st
      · have E1 : Hid (thoseUpto T.l (inState st) (k + 1) = thoseUpto T.l (inState st) k ++ [(k : Int)]) := Sep.hid (by rw [Hsu.out, if_pos (by simp [inState, hs])])
        have hb : (t.state == st) = true := by simpa using hs
        clear hs
        go_wp2_with (first | (refine wpList_on rfl (wp_bsl1 rfl rfl (by rfl) (by rfl) (by decide) hw ?_); intro b_ w_ hw_; clear hw; have hw := hw_; clear hw_; (try simp only [List.map_cons, List.map_nil, List.getD_cons_zero, List.getD_cons_succ, List.getD_nil, List.set_cons_zero, List.set_cons_succ, List.cons_append, List.nil_append, Act.eval, Array.getD_eq_getD_getElem?, List.getElem?_toArray, List.getElem?_cons_succ, List.getElem?_cons_zero, Option.getD_some, Value.cells] at hw); (try simp (disch := first | (simp; done) | (simp; omega)) only [Sep.mid_set, Sep.mid_set2, Sep.mid_set0, Sep.mid_splice, Sep.mid_splice0, List.set_cons_zero, List.set_cons_succ] at hw); (try simp only [Sep.splice, List.take_succ_cons, List.take_zero, List.drop_succ_cons, List.drop_zero, List.length_cons, List.length_nil, Nat.reduceAdd, List.cons_append, List.nil_append] at hw); (try replace hc0 := Sep.Holds.cells hw (i := 0) rfl); (try replace hc1 := Sep.Holds.cells hw (i := 1) rfl); (try replace hc2 := Sep.Holds.cells hw (i := 2) rfl); (try replace hc3 := Sep.Holds.cells hw (i := 3) rfl); (try replace hc4 := Sep.Holds.cells hw (i := 4) rfl); (try replace hc5 := Sep.Holds.cells hw (i := 5) rfl); (try replace hc6 := Sep.Holds.cells hw (i := 6) rfl)) | (at_builtin; refine wpList_on rfl (wp_appendPt (i := 3) (j := 4) rfl rfl hw rfl rfl rfl (by rfl) (by simp [Value.oneCell']) (by decide) (by rfl) (by (try unfold maxLen); omega) (by (try unfold maxLen); omega) ?_); intro b2_ cap2_ off2_ w_ hcap2_ hw_; clear hw; have hw := hw_; clear hw_; (try simp only [List.map_cons, List.map_nil, List.getD_cons_zero, List.getD_cons_succ, List.getD_nil, List.set_cons_zero, List.set_cons_succ, List.cons_append, List.nil_append, Act.eval, Array.getD_eq_getD_getElem?, List.getElem?_toArray, List.getElem?_cons_succ, List.getElem?_cons_zero, Option.getD_some, Value.cells] at hw); (try simp (disch := first | (simp; done) | (simp; omega)) only [Sep.mid_set, Sep.mid_set2, Sep.mid_set0, Sep.mid_splice, Sep.mid_splice0, List.set_cons_zero, List.set_cons_succ] at hw); (try simp only [Sep.splice, List.take_succ_cons, List.take_zero, List.drop_succ_cons, List.drop_zero, List.length_cons, List.length_nil, Nat.reduceAdd, List.cons_append, List.nil_append] at hw); (try replace hc0 := Sep.Holds.cells hw (i := 0) rfl); (try replace hc1 := Sep.Holds.cells hw (i := 1) rfl); (try replace hc2 := Sep.Holds.cells hw (i := 2) rfl); (try replace hc3 := Sep.Holds.cells hw (i := 3) rfl); (try replace hc4 := Sep.Holds.cells hw (i := 4) rfl); (try replace hc5 := Sep.Holds.cells hw (i := 5) rfl); (try replace hc6 := Sep.Holds.cells hw (i := 6) rfl)))
        go_roundw
        case rel => exact ⟨k + 1, on + 1, _, _, by omega, by go_num, rfl, Sep.hid (by rw [E1.out, List.length_append, Hon.out]; rfl), by rw [E1.out, encI_append]; exact hw.sel [0, 1, 2, 3] (by decide)⟩
        case measure => simp [intOf]; omega
      · have E1 : Hid (thoseUpto T.l (inState st) (k + 1) = thoseUpto T.l (inState st) k) := Sep.hid (by rw [Hsu.out, if_neg (by simp [inState, hs]), List.append_nil])
        have hb : (t.state == st) = false := by simpa using hs
        clear hs
        go_wp2_with fail
        go_roundw
        case rel => exact ⟨k + 1, on, _, _, by omega, by go_num, rfl, Sep.hid (by rw [E1.out, Hon.out]), by rw [E1.out]; exact hw⟩
        case measure => simp [intOf]; omega
    · skip
      have E1 : Hid (thoseUpto T.l (inState st) k = T.those (inState st)) := Sep.hid (thoseUpto_end _ (by rw [hlen.out]; omega))
      go_wp2_with fail
      refine HP.out _ _ ⟨_, rfl, ?_⟩
      rw [← E1.out, isInts_at Hon.out]
      exact hw
set_option maxHeartbeats 4000000 in
theorem rUnder (p len cap : Nat) (a : Option Addr) (T : Table) (ctx : Int) (hlen : Hid (T.l.length = len)) (hl2 : len ≤ 200) (e w : World) (X : HProp) (hw : Holds e w (rL X p len cap a T)) :
    Calls Try.prog 21 #[.pointer (some ⟨p, 0, none⟩), .int .i64 ctx] w fun en w' => ∃ v, en = .returned v ∧ Holds e w' (rL X p len cap a T ++ [IsInts v (T.those (underCtx ctx))]) := by
  by_cases h0 : 0 ≤ ctx
  · skip
    unfold rL at hw
    (try replace hc0 := Sep.Holds.cells hw (i := 0) rfl); (try replace hc1 := Sep.Holds.cells hw (i := 1) rfl); (try replace hc2 := Sep.Holds.cells hw (i := 2) rfl); (try replace hc3 := Sep.Holds.cells hw (i := 3) rfl); (try replace hc4 := Sep.Holds.cells hw (i := 4) rfl); (try replace hc5 := Sep.Holds.cells hw (i := 5) rfl); (try replace hc6 := Sep.Holds.cells hw (i := 6) rfl)
    refine Sep.calls_post ?_
    intro Post_ hPost_
    have HP := Sep.hid hPost_
    clear hPost_
    go_enter Try.func21, Try.ntmps21
    go_wp2_with (refine wpList_on rfl (wp_bsl0 rfl hw ?_); intro b_ w_ hw_; replace hw_ := hw_.newSl (i := 3) rfl 1 0 rfl (by decide); clear hw; have hw := hw_; clear hw_; (try simp only [List.map_cons, List.map_nil, List.getD_cons_zero, List.getD_cons_succ, List.getD_nil, List.set_cons_zero, List.set_cons_succ, List.cons_append, List.nil_append, Act.eval, Array.getD_eq_getD_getElem?, List.getElem?_toArray, List.getElem?_cons_succ, List.getElem?_cons_zero, Option.getD_some, Value.cells] at hw); (try simp (disch := first | (simp; done) | (simp; omega)) only [Sep.mid_set, Sep.mid_set2, Sep.mid_set0, Sep.mid_splice, Sep.mid_splice0, List.set_cons_zero, List.set_cons_succ] at hw); (try simp only [Sep.splice, List.take_succ_cons, List.take_zero, List.drop_succ_cons, List.drop_zero, List.length_cons, List.length_nil, Nat.reduceAdd, List.cons_append, List.nil_append] at hw); (try replace hc0 := Sep.Holds.cells hw (i := 0) rfl); (try replace hc1 := Sep.Holds.cells hw (i := 1) rfl); (try replace hc2 := Sep.Holds.cells hw (i := 2) rfl); (try replace hc3 := Sep.Holds.cells hw (i := 3) rfl); (try replace hc4 := Sep.Holds.cells hw (i := 4) rfl); (try replace hc5 := Sep.Holds.cells hw (i := 5) rfl); (try replace hc6 := Sep.Holds.cells hw (i := 6) rfl))
    have Hw0 := Sep.hid hw; clear hw; (try clear hc0); (try clear hc1); (try clear hc2); (try clear hc3); (try clear hc4); (try clear hc5); (try clear hc6)
    go_loopw [5, 6] (fun ov i wr => ∃ (k on oc : Nat) (oa : Option Addr), k ≤ len ∧ i = .int .i64 k ∧ ov = .slice oa on oc ∧ Hid ((thoseUpto T.l (underCtx ctx) k).length = on) ∧ Holds e wr [X, pt p [.slice a len cap, .int .i64 T.most] 47, Sl 57 17 (.slice a len cap) len (T.l.flatMap encT), Sl 3 1 ov on (encI (thoseUpto T.l (underCtx ctx) k))]) (fun _ i _ => len - (intOf i).toNat)
    case atStart => exact ⟨0, 0, 0, _, Nat.zero_le _, rfl, rfl, Sep.hid rfl, Hw0.out⟩
    case round =>
      clear Hw0
      obtain ⟨k, on, oc, oa, hk, rfl, rfl, Hon, hw⟩ := hrel
      have hon : on ≤ 200 := by have := thoseUpto_len T.l (underCtx ctx) k; rw [Hon.out] at this; omega
      (try replace hc0 := Sep.Holds.cells hw (i := 0) rfl); (try replace hc1 := Sep.Holds.cells hw (i := 1) rfl); (try replace hc2 := Sep.Holds.cells hw (i := 2) rfl); (try replace hc3 := Sep.Holds.cells hw (i := 3) rfl); (try replace hc4 := Sep.Holds.cells hw (i := 4) rfl); (try replace hc5 := Sep.Holds.cells hw (i := 5) rfl); (try replace hc6 := Sep.Holds.cells hw (i := 6) rfl)
      by_cases hlt : k < len
      · obtain ⟨t, ht⟩ : ∃ t, T.l[k]? = some t := ⟨_, List.getElem?_eq_getElem (by rw [hlen.out]; exact hlt)⟩
        have Hsu := Sep.hid (thoseUpto_succ (underCtx ctx) ht)
        obtain ⟨b, off, rfl, hcl_⟩ := task_at (i := 2) hw rfl hlen.out ht
        have g0 : wr.cell? ⟨b, off + k * 17, none⟩ = some (.int .i64 t.state) := hcl_ 0 (by omega)
        have g12 : wr.cell? ⟨b, off + k * 17 + 10 + 2, none⟩ = some (.int .i64 t.wait.ctx) := hcl_ 12 (by omega)
        clear ht hcl_
        by_cases hs : t.state = 2
        · by_cases hx : t.wait.ctx = ctx
          · have E1 : Hid (thoseUpto T.l (underCtx ctx) (k + 1) = thoseUpto T.l (underCtx ctx) k ++ [(k : Int)]) := Sep.hid (by rw [Hsu.out, if_pos (by simp [underCtx, hs, hx, h0])])
            have hb : (t.state == 2) = true := by simpa using hs
            have hb2 : (t.wait.ctx == ctx) = true := by simpa using hx
            clear hs hx
            go_wp2_with (first | (refine wpList_on rfl (wp_bsl1 rfl rfl (by rfl) (by rfl) (by decide) hw ?_); intro b_ w_ hw_; clear hw; have hw := hw_; clear hw_; (try simp only [List.map_cons, List.map_nil, List.getD_cons_zero, List.getD_cons_succ, List.getD_nil, List.set_cons_zero, List.set_cons_succ, List.cons_append, List.nil_append, Act.eval, Array.getD_eq_getD_getElem?, List.getElem?_toArray, List.getElem?_cons_succ, List.getElem?_cons_zero, Option.getD_some, Value.cells] at hw); (try simp (disch := first | (simp; done) | (simp; omega)) only [Sep.mid_set, Sep.mid_set2, Sep.mid_set0, Sep.mid_splice, Sep.mid_splice0, List.set_cons_zero, List.set_cons_succ] at hw); (try simp only [Sep.splice, List.take_succ_cons, List.take_zero, List.drop_succ_cons, List.drop_zero, List.length_cons, List.length_nil, Nat.reduceAdd, List.cons_append, List.nil_append] at hw); (try replace hc0 := Sep.Holds.cells hw (i := 0) rfl); (try replace hc1 := Sep.Holds.cells hw (i := 1) rfl); (try replace hc2 := Sep.Holds.cells hw (i := 2) rfl); (try replace hc3 := Sep.Holds.cells hw (i := 3) rfl); (try replace hc4 := Sep.Holds.cells hw (i := 4) rfl); (try replace hc5 := Sep.Holds.cells hw (i := 5) rfl); (try replace hc6 := Sep.Holds.cells hw (i := 6) rfl)) | (at_builtin; refine wpList_on rfl (wp_appendPt (i := 3) (j := 4) rfl rfl hw rfl rfl rfl (by rfl) (by simp [Value.oneCell']) (by decide) (by rfl) (by (try unfold maxLen); omega) (by (try unfold maxLen); omega) ?_); intro b2_ cap2_ off2_ w_ hcap2_ hw_; clear hw; have hw := hw_; clear hw_; (try simp only [List.map_cons, List.map_nil, List.getD_cons_zero, List.getD_cons_succ, List.getD_nil, List.set_cons_zero, List.set_cons_succ, List.cons_append, List.nil_append, Act.eval, Array.getD_eq_getD_getElem?, List.getElem?_toArray, List.getElem?_cons_succ, List.getElem?_cons_zero, Option.getD_some, Value.cells] at hw); (try simp (disch := first | (simp; done) | (simp; omega)) only [Sep.mid_set, Sep.mid_set2, Sep.mid_set0, Sep.mid_splice, Sep.mid_splice0, List.set_cons_zero, List.set_cons_succ] at hw); (try simp only [Sep.splice, List.take_succ_cons, List.take_zero, List.drop_succ_cons, List.drop_zero, List.length_cons, List.length_nil, Nat.reduceAdd, List.cons_append, List.nil_append] at hw); (try replace hc0 := Sep.Holds.cells hw (i := 0) rfl); (try replace hc1 := Sep.Holds.cells hw (i := 1) rfl); (try replace hc2 := Sep.Holds.cells hw (i := 2) rfl); (try replace hc3 := Sep.Holds.cells hw (i := 3) rfl); (try replace hc4 := Sep.Holds.cells hw (i := 4) rfl); (try replace hc5 := Sep.Holds.cells hw (i := 5) rfl); (try replace hc6 := Sep.Holds.cells hw (i := 6) rfl)))
            go_roundw
            case rel => exact ⟨k + 1, on + 1, _, _, by omega, by go_num, rfl, Sep.hid (by rw [E1.out, List.length_append, Hon.out]; rfl), by rw [E1.out, encI_append]; exact hw.sel [0, 1, 2, 3] (by decide)⟩
            case measure => simp [intOf]; omega
          · have E1 : Hid (thoseUpto T.l (underCtx ctx) (k + 1) = thoseUpto T.l (underCtx ctx) k) := Sep.hid (by rw [Hsu.out, if_neg (by simp [underCtx, hs, hx]), List.append_nil])
            have hb : (t.state == 2) = true := by simpa using hs
            have hb2 : (t.wait.ctx == ctx) = false := by simpa using hx
            clear hs hx
            go_wp2_with fail
            go_roundw
            case rel => exact ⟨k + 1, on, _, _, by omega, by go_num, rfl, Sep.hid (by rw [E1.out, Hon.out]), by rw [E1.out]; exact hw⟩
            case measure => simp [intOf]; omega
        · have E1 : Hid (thoseUpto T.l (underCtx ctx) (k + 1) = thoseUpto T.l (underCtx ctx) k) := Sep.hid (by rw [Hsu.out, if_neg (by simp [underCtx, hs]), List.append_nil])
          have hb : (t.state == 2) = false := by simpa using hs
          clear hs
          go_wp2_with fail
          go_roundw
          case rel => exact ⟨k + 1, on, _, _, by omega, by go_num, rfl, Sep.hid (by rw [E1.out, Hon.out]), by rw [E1.out]; exact hw⟩
          case measure => simp [intOf]; omega
      · skip
        have E1 : Hid (thoseUpto T.l (underCtx ctx) k = T.those (underCtx ctx)) := Sep.hid (thoseUpto_end _ (by rw [hlen.out]; omega))
        go_wp2_with fail
        refine HP.out _ _ ⟨_, rfl, ?_⟩
        rw [← E1.out, isInts_at Hon.out]
        exact hw
  · have H0 := Sep.hid h0
    unfold rL at hw
    (try replace hc0 := Sep.Holds.cells hw (i := 0) rfl); (try replace hc1 := Sep.Holds.cells hw (i := 1) rfl); (try replace hc2 := Sep.Holds.cells hw (i := 2) rfl); (try replace hc3 := Sep.Holds.cells hw (i := 3) rfl); (try replace hc4 := Sep.Holds.cells hw (i := 4) rfl); (try replace hc5 := Sep.Holds.cells hw (i := 5) rfl); (try replace hc6 := Sep.Holds.cells hw (i := 6) rfl)
    refine Sep.calls_post ?_
    intro Post_ hPost_
    have HP := Sep.hid hPost_
    clear hPost_
    go_enter Try.func21, Try.ntmps21
    go_wp2_with (refine wpList_on rfl (wp_bsl0 rfl hw ?_); intro b_ w_ hw_; replace hw_ := hw_.newSl (i := 3) rfl 1 0 rfl (by decide); clear hw; have hw := hw_; clear hw_; (try simp only [List.map_cons, List.map_nil, List.getD_cons_zero, List.getD_cons_succ, List.getD_nil, List.set_cons_zero, List.set_cons_succ, List.cons_append, List.nil_append, Act.eval, Array.getD_eq_getD_getElem?, List.getElem?_toArray, List.getElem?_cons_succ, List.getElem?_cons_zero, Option.getD_some, Value.cells] at hw); (try simp (disch := first | (simp; done) | (simp; omega)) only [Sep.mid_set, Sep.mid_set2, Sep.mid_set0, Sep.mid_splice, Sep.mid_splice0, List.set_cons_zero, List.set_cons_succ] at hw); (try simp only [Sep.splice, List.take_succ_cons, List.take_zero, List.drop_succ_cons, List.drop_zero, List.length_cons, List.length_nil, Nat.reduceAdd, List.cons_append, List.nil_append] at hw); (try replace hc0 := Sep.Holds.cells hw (i := 0) rfl); (try replace hc1 := Sep.Holds.cells hw (i := 1) rfl); (try replace hc2 := Sep.Holds.cells hw (i := 2) rfl); (try replace hc3 := Sep.Holds.cells hw (i := 3) rfl); (try replace hc4 := Sep.Holds.cells hw (i := 4) rfl); (try replace hc5 := Sep.Holds.cells hw (i := 5) rfl); (try replace hc6 := Sep.Holds.cells hw (i := 6) rfl))
    have Hw0 := Sep.hid hw; clear hw; (try clear hc0); (try clear hc1); (try clear hc2); (try clear hc3); (try clear hc4); (try clear hc5); (try clear hc6)
    go_loopw [5, 6] (fun ov i wr => ∃ (k on oc : Nat) (oa : Option Addr), k ≤ len ∧ i = .int .i64 k ∧ ov = .slice oa on oc ∧ Hid ((thoseUpto T.l (underCtx ctx) k).length = on) ∧ Holds e wr [X, pt p [.slice a len cap, .int .i64 T.most] 47, Sl 57 17 (.slice a len cap) len (T.l.flatMap encT), Sl 3 1 ov on (encI (thoseUpto T.l (underCtx ctx) k))]) (fun _ i _ => len - (intOf i).toNat)
    case atStart => exact ⟨0, 0, 0, _, Nat.zero_le _, rfl, rfl, Sep.hid rfl, Hw0.out⟩
    case round =>
      clear Hw0
      obtain ⟨k, on, oc, oa, hk, rfl, rfl, Hon, hw⟩ := hrel
      have hon : on ≤ 200 := by have := thoseUpto_len T.l (underCtx ctx) k; rw [Hon.out] at this; omega
      (try replace hc0 := Sep.Holds.cells hw (i := 0) rfl); (try replace hc1 := Sep.Holds.cells hw (i := 1) rfl); (try replace hc2 := Sep.Holds.cells hw (i := 2) rfl); (try replace hc3 := Sep.Holds.cells hw (i := 3) rfl); (try replace hc4 := Sep.Holds.cells hw (i := 4) rfl); (try replace hc5 := Sep.Holds.cells hw (i := 5) rfl); (try replace hc6 := Sep.Holds.cells hw (i := 6) rfl)
      by_cases hlt : k < len
      · obtain ⟨t, ht⟩ : ∃ t, T.l[k]? = some t := ⟨_, List.getElem?_eq_getElem (by rw [hlen.out]; exact hlt)⟩
        have Hsu := Sep.hid (thoseUpto_succ (underCtx ctx) ht)
        obtain ⟨b, off, rfl, hcl_⟩ := task_at (i := 2) hw rfl hlen.out ht
        have g0 : wr.cell? ⟨b, off + k * 17, none⟩ = some (.int .i64 t.state) := hcl_ 0 (by omega)
        have g12 : wr.cell? ⟨b, off + k * 17 + 10 + 2, none⟩ = some (.int .i64 t.wait.ctx) := hcl_ 12 (by omega)
        clear ht hcl_
        have E1 : Hid (thoseUpto T.l (underCtx ctx) (k + 1) = thoseUpto T.l (underCtx ctx) k) := Sep.hid (by rw [Hsu.out, if_neg (by have := H0.out; simp [underCtx]; omega), List.append_nil])
        go_wp2_with fail
        go_roundw
        case rel => exact ⟨k + 1, on, _, _, by omega, by go_num, rfl, Sep.hid (by rw [E1.out, Hon.out]), by rw [E1.out]; exact hw⟩
        case measure => simp [intOf]; omega
      · skip
        have E1 : Hid (thoseUpto T.l (underCtx ctx) k = T.those (underCtx ctx)) := Sep.hid (thoseUpto_end _ (by rw [hlen.out]; omega))
        go_wp2_with fail
        refine HP.out _ _ ⟨_, rfl, ?_⟩
        rw [← E1.out, isInts_at Hon.out]
        exact hw
end Go.Proofs.Ytmoikkfhlnogbaa
