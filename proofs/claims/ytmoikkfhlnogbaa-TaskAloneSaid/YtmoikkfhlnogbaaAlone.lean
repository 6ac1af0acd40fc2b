/-
  TaskAlone: the walk.
-/
import Derived.Test.YtmoikkfhlnogbaaActs
import Derived.Test.YtmoikkfhlnogbaaAwake
import Derived.Test.YtmoikkfhlnogbaaAloneM
import Derived.Test.YtmoikkfhlnogbaaNeq
import Derived.Test.YtmoikkfhlnogbaaRegionS
import Derived.IntWalk
namespace Go.Proofs.Ytmoikkfhlnogbaa
set_option linter.unusedSimpArgs false
set_option linter.unusedVariables false
open Go.RowKit Go.Sep Go.TaskM

theorem wpList_newArr {P : Program} {ops : Array Oper} {Q : Exit → Act → World → Prop} {a : Act} {e w : World} {L : List HProp} {o1 o2 o3 : Oper} {x y : Operand} {T E : TypeId} {m : Nat} {vs : List Value} {z2 : Value} {n k n2 k2 : Nat}
    (ti : TI P T (.agg vs.toArray) n k) (te : TI P E z2 n2 k2) (hu : P.underlying T = some (.array m E)) (hlen : vs.length = n) (hone : ∀ v ∈ vs, v.oneCell' = true) (hw : Holds e w L)
    (h1 : o1.op = .build T #[]) (g1 : Region.wanted o1 (yielded ops a.tmps) = true)
    (h2 : o2.op = .alloc T) (g2 : Region.wanted o2 (yielded ops (a.put o1.dst (.agg vs.toArray)).tmps) = true)
    (h3 : o3.op = .store T x y) (g3 : ∀ b, Region.wanted o3 (yielded ops ((a.put o1.dst (.agg vs.toArray)).put o2.dst (.pointer (some ⟨b, 0, none⟩))).tmps) = true)
    (hx : ∀ b, ((a.put o1.dst (.agg vs.toArray)).put o2.dst (.pointer (some ⟨b, 0, none⟩))).eval x = .pointer (some ⟨b, 0, none⟩))
    (hy : ∀ b, ((a.put o1.dst (.agg vs.toArray)).put o2.dst (.pointer (some ⟨b, 0, none⟩))).eval y = .agg vs.toArray)
    (h : ∀ b w', Holds e w' (L ++ [pt b vs T]) → Q .normal (((a.put o1.dst (.agg vs.toArray)).put o2.dst (.pointer (some ⟨b, 0, none⟩))).put o3.dst undef) w') :
    wpList P ops Q [o1, o2, o3] a w := by
  refine wpList_on g1 (wp_build0 hu h1 ?_)
  refine wpList_on g2 (wp_alloc h2 hw ?_)
  intro b w1 hw1
  have hv : (Value.agg vs.toArray).cells.toList = vs := rfl
  rw [hv] at hw1
  refine wpList_on (g3 b) (wp_storeAll (vs := vs) (cs := vs) (t := T) (ti := ti) h3 (hx b) (by rw [hy b]; rfl) hw1 (i := L.length) (by simp) hlen hlen hone ?_)
  intro w2 hw2
  unfold wpList
  refine h b w2 ?_
  simpa using hw2

theorem act_most (T : Table) (d : Deed) : (actT T d).most = T.most := by
  unfold actT
  repeat' split
  all_goals first | rfl | exact Table.change_most _ _ _ _ | (unfold Table.begin_; split <;> rfl)

theorem flat_splice (ws : List Task) (k : Nat) (t : Task) (hk : k < ws.length) : splice (ws.flatMap encT) (k * 17) (encT t) = (ws.set k t).flatMap encT := by
  have h1 : ws[k]? = some ws[k] := List.getElem?_eq_getElem hk
  rw [flat_set encT t hk, flat_split encT h1]
  have e1 := flat_take_len (f := encT) encT_length (l := ws) (i := k) (by omega)
  unfold splice
  rw [encT_length]
  have e2 : ((ws.take k).flatMap encT ++ encT ws[k]).length = k * 17 + 17 := by simp [e1, encT_length]
  congr 1
  · congr 1
    rw [List.append_assoc, ← e1, List.take_left]
  · rw [← e2, List.drop_left]


set_option maxRecDepth 20000 in
set_option maxHeartbeats 40000000 in
theorem alone_walk (a : Option Addr) (cap : Nat) (l : List Deed) (e : World) (hl : Hid (ActsAt e a l)) (hlen : l.length ≤ 9223372036854775807) :
    Calls Try.prog 4 #[.slice a l.length cap] e fun en w' => en = .returned (.bool true) ∧ Holds e w' [Old e] := by
  have hw := Holds.start e
  obtain ⟨z0, Hz0, Tz0⟩ : ∃ z0 : List Value, Hid (z0 = zeros30) ∧ Sep.TI Try.prog 62 (.agg z0.toArray) 510 4080 := ⟨_, Sep.hid rfl, ti62z⟩
  have Hz1 : Hid (z0.length = 510) := Sep.hid (by rw [Hz0.out]; exact zeros30_length)
  have Hz2 : Hid (∀ v ∈ z0, v.oneCell' = true) := Sep.hid (by rw [Hz0.out]; exact zeros30_one)
  by_cases hlong : l.length ≤ 100
  · refine Sep.calls_post ?_
    intro Post_ hPost_
    have HP := Sep.hid hPost_
    clear hPost_
    go_enter Try.func4, Try.ntmps4
    go_wp2_with fail
    refine (awake_calls e _ _ hw.focus0).mono ?_
    rintro en_ w_ ⟨rfl, hw_⟩
    clear hw; (try clear hc0); (try clear hc1); (try clear hc2); (try clear hc3); (try clear hc4); (try clear hc5); (try clear hc6); have hw := Holds.unfocus0 (N := []) hw_; clear hw_
    (try simp only [List.map_cons, List.map_nil, List.getD_cons_zero, List.getD_cons_succ, List.getD_nil, List.set_cons_zero, List.set_cons_succ, List.cons_append, List.nil_append, Act.eval, Array.getD_eq_getD_getElem?, List.getElem?_toArray, List.getElem?_cons_succ, List.getElem?_cons_zero, Option.getD_some, Value.cells] at hw); (try simp (disch := first | (simp; done) | (simp; omega)) only [Sep.mid_set, Sep.mid_set2, Sep.mid_set0, Sep.mid_splice, Sep.mid_splice0, List.set_cons_zero, List.set_cons_succ] at hw); (try simp only [Sep.splice, List.take_succ_cons, List.take_zero, List.drop_succ_cons, List.drop_zero, List.length_cons, List.length_nil, Nat.reduceAdd, List.cons_append, List.nil_append] at hw)
    go_wp2_with fail
    refine (tNew_ok 30 (by decide) (by decide) e _ _ hw.focus0).mono ?_
    rintro en_ w_ ⟨p, rfl, hw_⟩
    clear hw; have hw := Holds.unfocus0 (N := [IsTable p ⟨[], 30⟩]) hw_; clear hw_
    (try simp only [List.map_cons, List.map_nil, List.getD_cons_zero, List.getD_cons_succ, List.getD_nil, List.set_cons_zero, List.set_cons_succ, List.cons_append, List.nil_append, Act.eval, Array.getD_eq_getD_getElem?, List.getElem?_toArray, List.getElem?_cons_succ, List.getElem?_cons_zero, Option.getD_some, Value.cells] at hw); (try simp (disch := first | (simp; done) | (simp; omega)) only [Sep.mid_set, Sep.mid_set2, Sep.mid_set0, Sep.mid_splice, Sep.mid_splice0, List.set_cons_zero, List.set_cons_succ] at hw); (try simp only [Sep.splice, List.take_succ_cons, List.take_zero, List.drop_succ_cons, List.drop_zero, List.length_cons, List.length_nil, Nat.reduceAdd, List.cons_append, List.nil_append] at hw)
    go_wp2_with fail
    have Hw0 := Sep.hid hw; clear hw
    generalize hlen' : l.length = len at *
    have Hlen := Sep.hid hlen'; clear hlen'
    go_loopw [29] (fun i wr => ∃ (q : Nat) (T : Table), q ≤ len ∧ i = .int .i64 q ∧ (T.ok ∧ T.most = 30) ∧ Holds e wr [Old e, IsTable p T]) (fun i _ => len - (intOf i).toNat)
    case atStart => exact ⟨0, ⟨[], 30⟩, Nat.zero_le _, rfl, ⟨by unfold Table.ok; decide, rfl⟩, Hw0.out⟩
    case round =>
      clear Hw0
      obtain ⟨q, T, hq, rfl, hok, hw⟩ := hrel
      have Hok := Sep.hid hok; clear hok
      by_cases hlt : q < len
      · obtain ⟨d, hd⟩ : ∃ d, l[q]? = some d := ⟨_, List.getElem?_eq_getElem (by rw [Hlen.out]; exact hlt)⟩
        obtain ⟨ad, rfl, hcell⟩ := hl.out q d hd
        have Hcell := Sep.hid hcell; clear hcell hd
        have hT30 : (T.l.length : Int) ≤ 30 := by have := Hok.out; unfold Table.ok at this; omega
        go_wp2_with (first
          | ((with_reducible refine wpList_newArr (vs := z0) (x := .tmp 7) (y := .tmp 33) Tz0 ti53 under62 Hz1.out Hz2.out hw ?n1 ?n2 ?n3 ?n4 ?n5 ?n6 ?n7 ?n8 ?n9); (case n1 => rfl); (case n2 => rfl); (case n3 => rfl); (case n4 => rfl); (case n5 => rfl); (case n6 => (intro b; rfl)); (case n7 => (intro b; rfl)); (case n8 => (intro b; rfl)); intro bt w_ hw_; clear hw; have hw := hw_; clear hw_; (try simp only [List.map_cons, List.map_nil, List.getD_cons_zero, List.getD_cons_succ, List.getD_nil, List.set_cons_zero, List.set_cons_succ, List.cons_append, List.nil_append, Act.eval, Array.getD_eq_getD_getElem?, List.getElem?_toArray, List.getElem?_cons_succ, List.getElem?_cons_zero, Option.getD_some, Value.cells] at hw); (try simp (disch := first | (simp; done) | (simp; omega)) only [Sep.mid_set, Sep.mid_set2, Sep.mid_set0, Sep.mid_splice, Sep.mid_splice0, List.set_cons_zero, List.set_cons_succ] at hw); (try simp only [Sep.splice, List.take_succ_cons, List.take_zero, List.drop_succ_cons, List.drop_zero, List.length_cons, List.length_nil, Nat.reduceAdd, List.cons_append, List.nil_append] at hw); (try replace hc0 := Sep.Holds.cells hw (i := 0) rfl); (try replace hc1 := Sep.Holds.cells hw (i := 1) rfl); (try replace hc2 := Sep.Holds.cells hw (i := 2) rfl); (try replace hc3 := Sep.Holds.cells hw (i := 3) rfl); (try replace hc4 := Sep.Holds.cells hw (i := 4) rfl); (try replace hc5 := Sep.Holds.cells hw (i := 5) rfl); (try replace hc6 := Sep.Holds.cells hw (i := 6) rfl))
          | (refine wpList_on rfl (wp_loadOld (vs := encA d) rfl rfl hw (i := 0) rfl rfl (fun j v hj => Hcell.out j v hj) ?_))
          | (refine wpList_on rfl (wp_alloc (ti := ti34) rfl hw ?_); intro bd w_ hw_; clear hw; have hw := hw_; clear hw_; (try simp only [List.map_cons, List.map_nil, List.getD_cons_zero, List.getD_cons_succ, List.getD_nil, List.set_cons_zero, List.set_cons_succ, List.cons_append, List.nil_append, Act.eval, Array.getD_eq_getD_getElem?, List.getElem?_toArray, List.getElem?_cons_succ, List.getElem?_cons_zero, Option.getD_some, Value.cells] at hw); (try simp (disch := first | (simp; done) | (simp; omega)) only [Sep.mid_set, Sep.mid_set2, Sep.mid_set0, Sep.mid_splice, Sep.mid_splice0, List.set_cons_zero, List.set_cons_succ] at hw); (try simp only [Sep.splice, List.take_succ_cons, List.take_zero, List.drop_succ_cons, List.drop_zero, List.length_cons, List.length_nil, Nat.reduceAdd, List.cons_append, List.nil_append] at hw); (try replace hc0 := Sep.Holds.cells hw (i := 0) rfl); (try replace hc1 := Sep.Holds.cells hw (i := 1) rfl); (try replace hc2 := Sep.Holds.cells hw (i := 2) rfl); (try replace hc3 := Sep.Holds.cells hw (i := 3) rfl); (try replace hc4 := Sep.Holds.cells hw (i := 4) rfl); (try replace hc5 := Sep.Holds.cells hw (i := 5) rfl); (try replace hc6 := Sep.Holds.cells hw (i := 6) rfl))
          | (refine wpList_on rfl (wp_storeAll (vs := encA d) rfl rfl (by rfl) hw (i := 2) rfl rfl rfl (encA_one d) ?_); intro w_ hw_; clear hw; have hw := hw_; clear hw_; (try simp only [List.map_cons, List.map_nil, List.getD_cons_zero, List.getD_cons_succ, List.getD_nil, List.set_cons_zero, List.set_cons_succ, List.cons_append, List.nil_append, Act.eval, Array.getD_eq_getD_getElem?, List.getElem?_toArray, List.getElem?_cons_succ, List.getElem?_cons_zero, Option.getD_some, Value.cells] at hw); (try simp (disch := first | (simp; done) | (simp; omega)) only [Sep.mid_set, Sep.mid_set2, Sep.mid_set0, Sep.mid_splice, Sep.mid_splice0, List.set_cons_zero, List.set_cons_succ] at hw); (try simp only [Sep.splice, List.take_succ_cons, List.take_zero, List.drop_succ_cons, List.drop_zero, List.length_cons, List.length_nil, Nat.reduceAdd, List.cons_append, List.nil_append] at hw); (try replace hc0 := Sep.Holds.cells hw (i := 0) rfl); (try replace hc1 := Sep.Holds.cells hw (i := 1) rfl); (try replace hc2 := Sep.Holds.cells hw (i := 2) rfl); (try replace hc3 := Sep.Holds.cells hw (i := 3) rfl); (try replace hc4 := Sep.Holds.cells hw (i := 4) rfl); (try replace hc5 := Sep.Holds.cells hw (i := 5) rfl); (try replace hc6 := Sep.Holds.cells hw (i := 6) rfl))
          | (go_at_call 16; refine (tLen_calls p T e _ _ (hw.focus1 1 rfl)).mono ?_; rintro _ w_ ⟨rfl, rfl⟩))
        have Hw1 := Sep.hid hw; clear hw; (try clear hc0); (try clear hc1); (try clear hc2); (try clear hc3); (try clear hc4); (try clear hc5); (try clear hc6)
        replace hT30 : T.l.length ≤ 30 := by omega
        go_loopw [38] (fun i wr => ∃ (k : Nat) (ws : List Task), k ≤ T.l.length ∧ i = .int .i64 k ∧ (ws.length = 30 ∧ ∀ j, j < k → ws[j]? = some (T.getD j)) ∧ Holds e wr [Old e, IsTable p T, pt bd (encA d) 34, pt bt (ws.flatMap encT) 62]) (fun i _ => T.l.length - (intOf i).toNat)
        case atStart => exact ⟨0, List.replicate 30 noTask, Nat.zero_le _, rfl, ⟨rfl, fun j hj => absurd hj (by omega)⟩, by rw [← show z0 = (List.replicate 30 noTask).flatMap encT from Hz0.out]; exact Hw1.out⟩
        case round =>
          clear Hw1
          obtain ⟨k, ws, hk, rfl, hws, hw⟩ := hrel
          have Hws := Sep.hid hws; clear hws
          by_cases hkm : k < T.l.length
          · go_wp2_with (first
              | (go_at_call 22; refine (tGet_calls p T k e _ (sepL [Old e, emp, pt _ _ _, pt _ _ _]) (hw.focus1 1 rfl)).mono ?_; rintro _ w_ ⟨rfl, hw_⟩; clear hw; have hw := Holds.unfocus1 (L := [Old e, emp, pt _ _ _, pt _ _ _]) 1 (by simp) hw_; clear hw_; (try simp only [List.map_cons, List.map_nil, List.getD_cons_zero, List.getD_cons_succ, List.getD_nil, List.set_cons_zero, List.set_cons_succ, List.cons_append, List.nil_append, Act.eval, Array.getD_eq_getD_getElem?, List.getElem?_toArray, List.getElem?_cons_succ, List.getElem?_cons_zero, Option.getD_some, Value.cells] at hw); (try simp (disch := first | (simp; done) | (simp; omega)) only [Sep.mid_set, Sep.mid_set2, Sep.mid_set0, Sep.mid_splice, Sep.mid_splice0, List.set_cons_zero, List.set_cons_succ] at hw); (try simp only [Sep.splice, List.take_succ_cons, List.take_zero, List.drop_succ_cons, List.drop_zero, List.length_cons, List.length_nil, Nat.reduceAdd, List.cons_append, List.nil_append] at hw))
              | (refine upon_storeN (vs := encT (T.getD k)) hw (i := 3) rfl (by rw [encT_length, flat_len (f := encT) encT_length, Hws.out.1]; omega) (encT_one _) ?_; intro w_ hw_; clear hw; have hw := hw_; clear hw_; rw [flat_splice ws k _ (by rw [Hws.out.1]; omega)] at hw; simp only [List.set_cons_succ, List.set_cons_zero] at hw))
            go_roundw
            case rel =>
              refine ⟨k + 1, ws.set k (T.getD k), by omega, by go_num, ⟨by rw [List.length_set]; exact Hws.out.1, ?_⟩, hw⟩
              intro j hj
              by_cases hjk : j = k
              · subst hjk; rw [List.getElem?_set_self (by rw [Hws.out.1]; omega)]
              · rw [List.getElem?_set_ne (fun h => hjk h.symm)]; exact Hws.out.2 j (by omega)
            case measure => simp [intOf]; omega
          · have hkm' : T.l.length ≤ k := by omega
            clear hkm hk
            replace Hws : Hid (ws.length = 30 ∧ ∀ j, j < T.l.length → ws[j]? = some (T.getD j)) := Sep.hid ⟨Hws.out.1, fun j hj => Hws.out.2 j (by omega)⟩
            go_wp2_with (first
              | (refine wpList_on rfl (wp_loadN (vs := encA d) rfl rfl hw (i := 2) rfl rfl (by intro j v hj; simpa using hj) ?_))
              | (go_at_call 9; refine (do_calls p T Hok.out.1 d e _ _ (hw.focus1 1 rfl)).mono ?_; rintro _ w_ ⟨rfl, hw_⟩; clear hw; have hw := Holds.unfocus1 (N := []) 1 (by simp) hw_; clear hw_; (try simp only [List.map_cons, List.map_nil, List.getD_cons_zero, List.getD_cons_succ, List.getD_nil, List.set_cons_zero, List.set_cons_succ, List.cons_append, List.nil_append, Act.eval, Array.getD_eq_getD_getElem?, List.getElem?_toArray, List.getElem?_cons_succ, List.getElem?_cons_zero, Option.getD_some, Value.cells] at hw); (try simp (disch := first | (simp; done) | (simp; omega)) only [Sep.mid_set, Sep.mid_set2, Sep.mid_set0, Sep.mid_splice, Sep.mid_splice0, List.set_cons_zero, List.set_cons_succ] at hw); (try simp only [Sep.splice, List.take_succ_cons, List.take_zero, List.drop_succ_cons, List.drop_zero, List.length_cons, List.length_nil, Nat.reduceAdd, List.cons_append, List.nil_append] at hw)))
            have Hw1 := Sep.hid hw; clear hw; (try clear hc0); (try clear hc1); (try clear hc2); (try clear hc3); (try clear hc4); (try clear hc5); (try clear hc6)
            have hUl : T.l.length ≤ (actT T d).l.length := by rcases act_len T d with h | h <;> omega
            have HUl := Sep.hid hUl; clear hUl
            go_loopw [59] (fun i wr => ∃ k : Nat, k ≤ T.l.length ∧ i = .int .i64 k ∧ Holds e wr [Old e, IsTable p (actT T d), pt bd (encA d) 34, pt bt (ws.flatMap encT) 62]) (fun i _ => T.l.length - (intOf i).toNat)
            case atStart => exact ⟨0, Nat.zero_le _, rfl, Hw1.out⟩
            case round =>
              clear Hw1
              obtain ⟨k, hk, rfl, hw⟩ := hrel
              by_cases hkm : k < T.l.length
              · have HS : Hid (((actT T d).get k).isSome = true) := Sep.hid (by rw [get_isSome _ _ (Nat.lt_of_lt_of_le hkm HUl.out)]; rfl)
                obtain ⟨X, hX⟩ : ∃ X, (actT T d).getD k = X := ⟨_, rfl⟩
                obtain ⟨Y, hY⟩ : ∃ Y, T.getD k = Y := ⟨_, rfl⟩
                have HX := Sep.hid hX; have HY := Sep.hid hY; clear hX hY
                have Hcl : Hid (∀ j v, (encT Y)[j]? = some v → (ws.flatMap encT)[k * 17 + j]? = some v) := Sep.hid (fun j v hj => by
                  rw [flat_get (f := encT) encT_length (show ws[k]? = some Y by rw [Hws.out.2 k hkm, HY.out]) (by have := (List.getElem?_eq_some_iff.1 hj).1; rw [encT_length] at this; exact this)]; exact hj)
                have hst : (ws.flatMap encT)[k * 17]? = some (.int .i64 Y.state) := Hcl.out 0 _ rfl
                have hd0 : (encA d)[0]? = some (.int .i64 d.do_) := rfl
                have hd1 : (encA d)[1]? = some (.int .i64 d.t) := rfl
                have hk30 : (k : Int) < 30 := by omega
                go_wp2_with (first
                  | (go_at_call 22; refine (tGet_calls p (actT T d) k e _ (sepL [Old e, emp, pt _ _ _, pt _ _ _]) (hw.focus1 1 rfl)).mono ?_; rintro _ w_ ⟨rfl, hw_⟩; clear hw; have hw := Holds.unfocus1 (L := [Old e, emp, pt _ _ _, pt _ _ _]) 1 (by simp) hw_; clear hw_; rw [HX.out, HS.out]; (try simp only [List.map_cons, List.map_nil, List.getD_cons_zero, List.getD_cons_succ, List.getD_nil, List.set_cons_zero, List.set_cons_succ, List.cons_append, List.nil_append, Act.eval, Array.getD_eq_getD_getElem?, List.getElem?_toArray, List.getElem?_cons_succ, List.getElem?_cons_zero, Option.getD_some, Value.cells] at hw); (try simp (disch := first | (simp; done) | (simp; omega)) only [Sep.mid_set, Sep.mid_set2, Sep.mid_set0, Sep.mid_splice, Sep.mid_splice0, List.set_cons_zero, List.set_cons_succ] at hw); (try simp only [Sep.splice, List.take_succ_cons, List.take_zero, List.drop_succ_cons, List.drop_zero, List.length_cons, List.length_nil, Nat.reduceAdd, List.cons_append, List.nil_append] at hw))
                  | (refine wpList_on rfl (wp_alloc rfl hw ?_); intro b_ w_ hw_; clear hw; have hw := hw_; clear hw_; (try simp only [List.map_cons, List.map_nil, List.getD_cons_zero, List.getD_cons_succ, List.getD_nil, List.set_cons_zero, List.set_cons_succ, List.cons_append, List.nil_append, Act.eval, Array.getD_eq_getD_getElem?, List.getElem?_toArray, List.getElem?_cons_succ, List.getElem?_cons_zero, Option.getD_some, Value.cells] at hw); (try simp (disch := first | (simp; done) | (simp; omega)) only [Sep.mid_set, Sep.mid_set2, Sep.mid_set0, Sep.mid_splice, Sep.mid_splice0, List.set_cons_zero, List.set_cons_succ] at hw); (try simp only [Sep.splice, List.take_succ_cons, List.take_zero, List.drop_succ_cons, List.drop_zero, List.length_cons, List.length_nil, Nat.reduceAdd, List.cons_append, List.nil_append] at hw); (try replace hc0 := Sep.Holds.cells hw (i := 0) rfl); (try replace hc1 := Sep.Holds.cells hw (i := 1) rfl); (try replace hc2 := Sep.Holds.cells hw (i := 2) rfl); (try replace hc3 := Sep.Holds.cells hw (i := 3) rfl); (try replace hc4 := Sep.Holds.cells hw (i := 4) rfl); (try replace hc5 := Sep.Holds.cells hw (i := 5) rfl); (try replace hc6 := Sep.Holds.cells hw (i := 6) rfl))
                  | (refine wpList_on rfl (wp_storeAll (vs := encT X) rfl rfl (by rfl) hw (i := 4) rfl rfl rfl (encT_one _) ?_); intro w_ hw_; clear hw; have hw := hw_; clear hw_; (try simp only [List.map_cons, List.map_nil, List.getD_cons_zero, List.getD_cons_succ, List.getD_nil, List.set_cons_zero, List.set_cons_succ, List.cons_append, List.nil_append, Act.eval, Array.getD_eq_getD_getElem?, List.getElem?_toArray, List.getElem?_cons_succ, List.getElem?_cons_zero, Option.getD_some, Value.cells] at hw); (try simp (disch := first | (simp; done) | (simp; omega)) only [Sep.mid_set, Sep.mid_set2, Sep.mid_set0, Sep.mid_splice, Sep.mid_splice0, List.set_cons_zero, List.set_cons_succ] at hw); (try simp only [Sep.splice, List.take_succ_cons, List.take_zero, List.drop_succ_cons, List.drop_zero, List.length_cons, List.length_nil, Nat.reduceAdd, List.cons_append, List.nil_append] at hw); (try replace hc0 := Sep.Holds.cells hw (i := 0) rfl); (try replace hc1 := Sep.Holds.cells hw (i := 1) rfl); (try replace hc2 := Sep.Holds.cells hw (i := 2) rfl); (try replace hc3 := Sep.Holds.cells hw (i := 3) rfl); (try replace hc4 := Sep.Holds.cells hw (i := 4) rfl); (try replace hc5 := Sep.Holds.cells hw (i := 5) rfl); (try replace hc6 := Sep.Holds.cells hw (i := 6) rfl)))
                have Hend : Hid (Y.state = 3 → X = Y) := Sep.hid (fun h => by rw [← HX.out, ← HY.out]; exact act_ended T d k (by omega) (by rw [HY.out]; exact h))
                have Hs : Hid (d.do_ = 0 ∨ (k : Int) ≠ d.t ∨ actB T d = false → X = Y) := Sep.hid (fun h => by rw [← HX.out, ← HY.out]; exact act_same T d k (by omega) h)
                refine wp_region_L [] [(6, (fun w' => w' = w_.drew)), (9, (fun w' => w' = w_.drew)), (12, (fun w' => w' = w_.drew)), (18, (fun w' => w' = w_.drew)), (23, (fun w' => w' = w_.drew)), (31, (fun w' => w' = w_.drew)), (34, (fun w' => w' = w_.drew))] (n := 38) (listed := (marks 38 0)) (by kernel_rfl) rfl (by kernel_rfl) ?conds1 ?_
                case conds1 =>
                 intro c hc
                 simp only [List.mem_cons, List.not_mem_nil, or_false] at hc
                 rcases hc with rfl | rfl | rfl | rfl | rfl | rfl | rfl
                 · rfl
                 · rfl
                 · rfl
                 · rfl
                 · rfl
                 · rfl
                 · rfl
                replace hw := hw.drew
                (try replace hc0 := Sep.Holds.cells hw (i := 0) rfl); (try replace hc1 := Sep.Holds.cells hw (i := 1) rfl); (try replace hc2 := Sep.Holds.cells hw (i := 2) rfl); (try replace hc3 := Sep.Holds.cells hw (i := 3) rfl); (try replace hc4 := Sep.Holds.cells hw (i := 4) rfl); (try replace hc5 := Sep.Holds.cells hw (i := 5) rfl); (try replace hc6 := Sep.Holds.cells hw (i := 6) rfl)
                refine wpL_q 0 ?_ rfl (Or.inl ⟨by rfl, fun w_ hS_ => ?_⟩) (marks 38 1) ?_
                rotate_left
                next => (go_simp; try (first | rfl | exact (Bool.not_not _).symm))
                try simp only [Act.put, List.setIfInBounds_toArray, List.set_cons_zero, List.set_cons_succ]
                refine wpL_q 1 ?_ rfl (Or.inl ⟨by rfl, fun w_ hS_ => ?_⟩) (marks 38 3) ?_
                rotate_left
                next => (go_simp; try (first | rfl | exact (Bool.not_not _).symm))
                try simp only [Act.put, List.setIfInBounds_toArray, List.set_cons_zero, List.set_cons_succ]
                refine wpL_b 2 ?_ rfl (Or.inl ⟨by rfl, fun w_ hS_ => ?_⟩) (marks 38 7) ?_
                rotate_left
                next => (go_simp; try (first | rfl | exact (Bool.not_not _).symm))
                intro bb_ hg2
                cases bb_
                case' true =>
                 (try simp only [decide_eq_true_eq, decide_eq_false_iff_not, beq_iff_eq, beq_eq_false_iff_ne, bne_iff_ne, bne_eq_false_iff_eq, Bool.not_eq_true', Bool.not_eq_false', Int.not_lt, Int.not_le] at hg2)
                 first | (cases hg2; done) | (exfalso; first | omega | exact hg16 (Hend.out hg8.out); done)
                case' false =>
                 (try simp only [decide_eq_true_eq, decide_eq_false_iff_not, beq_iff_eq, beq_eq_false_iff_ne, bne_iff_ne, bne_eq_false_iff_eq, Bool.not_eq_true', Bool.not_eq_false', Int.not_lt, Int.not_le] at hg2)
                 first | (cases hg2; done) | (exfalso; first | omega | exact hg16 (Hend.out hg8.out); done) | skip
                 all_goals
                  try replace hg2 := Sep.hid hg2
                  try simp only [Act.put, List.setIfInBounds_toArray, List.set_cons_zero, List.set_cons_succ]
                  refine wpL_q 3 ?_ rfl (Or.inl ⟨by rfl, fun w_ hS_ => ?_⟩) (marks 38 15) ?_
                  rotate_left
                  next => (go_simp; try (first | rfl | exact (Bool.not_not _).symm))
                  try simp only [Act.put, List.setIfInBounds_toArray, List.set_cons_zero, List.set_cons_succ]
                  refine wpL_q 4 ?_ rfl (Or.inl ⟨by rfl, fun w_ hS_ => ?_⟩) (marks 38 31) ?_
                  rotate_left
                  next => (go_simp; try (first | rfl | exact (Bool.not_not _).symm))
                  try simp only [Act.put, List.setIfInBounds_toArray, List.set_cons_zero, List.set_cons_succ]
                  refine wpL_q 5 ?_ rfl (Or.inl ⟨by rfl, fun w_ hS_ => ?_⟩) (marks 38 63) ?_
                  rotate_left
                  next => (go_simp; try (first | rfl | exact (Bool.not_not _).symm))
                  try simp only [Act.put, List.setIfInBounds_toArray, List.set_cons_zero, List.set_cons_succ]
                  refine wpL_m 6 ?_ rfl (.head _) (Or.inl ⟨by rfl, fun w_ hS_ => ?_⟩) (marks 38 127) ?_
                  rotate_left
                  next => (subst hS_; first | (first | (refine Eq.trans (run_neT X Y rfl rfl rfl) ?_; rfl) | (refine Eq.trans (run_loadN (vs := encT Y) (off := k * 17) rfl rfl hw (i := 3) rfl rfl Hcl.out) ?_; rfl) | (refine Eq.trans (run_loadN (vs := encT X) (off := 0) rfl rfl hw (i := 4) rfl rfl (by intro j v hj; simpa using hj)) ?_; rfl)) | (go_simp; try (first | rfl | exact (Bool.not_not _).symm)))
                  try simp only [Act.put, List.setIfInBounds_toArray, List.set_cons_zero, List.set_cons_succ]
                  refine wpL_q 7 ?_ rfl (Or.inl ⟨by rfl, fun w_ hS_ => ?_⟩) (marks 38 255) ?_
                  rotate_left
                  next => (first | (first | (refine Eq.trans (run_neT X Y rfl rfl rfl) ?_; rfl) | (refine Eq.trans (run_loadN (vs := encT Y) (off := k * 17) rfl rfl hw (i := 3) rfl rfl Hcl.out) ?_; rfl) | (refine Eq.trans (run_loadN (vs := encT X) (off := 0) rfl rfl hw (i := 4) rfl rfl (by intro j v hj; simpa using hj)) ?_; rfl)) | (go_simp; try (first | rfl | exact (Bool.not_not _).symm)))
                  try simp only [Act.put, List.setIfInBounds_toArray, List.set_cons_zero, List.set_cons_succ]
                  refine wpL_b 8 ?_ rfl (Or.inl ⟨by rfl, fun w_ hS_ => ?_⟩) (marks 38 511) ?_
                  rotate_left
                  next => (go_simp; try (first | rfl | exact (Bool.not_not _).symm))
                  intro bb_ hg8
                  cases bb_
                  case' true =>
                   (try simp only [decide_eq_true_eq, decide_eq_false_iff_not, beq_iff_eq, beq_eq_false_iff_ne, bne_iff_ne, bne_eq_false_iff_eq, Bool.not_eq_true', Bool.not_eq_false', Int.not_lt, Int.not_le] at hg8)
                   first | (cases hg8; done) | (exfalso; first | omega | exact hg16 (Hend.out hg8.out); done) | skip
                   all_goals
                    try replace hg8 := Sep.hid hg8
                    try simp only [Act.put, List.setIfInBounds_toArray, List.set_cons_zero, List.set_cons_succ]
                    refine wpL_m 9 ?_ rfl (.tail _ (.head _)) (Or.inl ⟨by rfl, fun w_ hS_ => ?_⟩) (marks 38 1023) ?_
                    rotate_left
                    next => (subst hS_; first | (first | (refine Eq.trans (run_neT X Y rfl rfl rfl) ?_; rfl) | (refine Eq.trans (run_loadN (vs := encT Y) (off := k * 17) rfl rfl hw (i := 3) rfl rfl Hcl.out) ?_; rfl) | (refine Eq.trans (run_loadN (vs := encT X) (off := 0) rfl rfl hw (i := 4) rfl rfl (by intro j v hj; simpa using hj)) ?_; rfl)) | (go_simp; try (first | rfl | exact (Bool.not_not _).symm)))
                    try simp only [Act.put, List.setIfInBounds_toArray, List.set_cons_zero, List.set_cons_succ]
                    refine wpL_q 10 ?_ rfl (Or.inl ⟨by rfl, fun w_ hS_ => ?_⟩) (marks 38 2047) ?_
                    rotate_left
                    next => (go_simp; try (first | rfl | exact (Bool.not_not _).symm))
                    try simp only [Act.put, List.setIfInBounds_toArray, List.set_cons_zero, List.set_cons_succ]
                    refine wpL_q 11 ?_ rfl (Or.inl ⟨by rfl, fun w_ hS_ => ?_⟩) (marks 38 4095) ?_
                    rotate_left
                    next => (go_simp; try (first | rfl | exact (Bool.not_not _).symm))
                    try simp only [Act.put, List.setIfInBounds_toArray, List.set_cons_zero, List.set_cons_succ]
                    refine wpL_m 12 ?_ rfl (.tail _ (.tail _ (.head _))) (Or.inl ⟨by rfl, fun w_ hS_ => ?_⟩) (marks 38 8191) ?_
                    rotate_left
                    next => (subst hS_; first | (first | (refine Eq.trans (run_neT X Y rfl rfl rfl) ?_; rfl) | (refine Eq.trans (run_loadN (vs := encT Y) (off := k * 17) rfl rfl hw (i := 3) rfl rfl Hcl.out) ?_; rfl) | (refine Eq.trans (run_loadN (vs := encT X) (off := 0) rfl rfl hw (i := 4) rfl rfl (by intro j v hj; simpa using hj)) ?_; rfl)) | (go_simp; try (first | rfl | exact (Bool.not_not _).symm)))
                    try simp only [Act.put, List.setIfInBounds_toArray, List.set_cons_zero, List.set_cons_succ]
                    refine wpL_q 13 ?_ rfl (Or.inl ⟨by rfl, fun w_ hS_ => ?_⟩) (marks 38 16383) ?_
                    rotate_left
                    next => (first | (first | (refine Eq.trans (run_neT X Y rfl rfl rfl) ?_; rfl) | (refine Eq.trans (run_loadN (vs := encT Y) (off := k * 17) rfl rfl hw (i := 3) rfl rfl Hcl.out) ?_; rfl) | (refine Eq.trans (run_loadN (vs := encT X) (off := 0) rfl rfl hw (i := 4) rfl rfl (by intro j v hj; simpa using hj)) ?_; rfl)) | (go_simp; try (first | rfl | exact (Bool.not_not _).symm)))
                    try simp only [Act.put, List.setIfInBounds_toArray, List.set_cons_zero, List.set_cons_succ]
                  case' false =>
                   (try simp only [decide_eq_true_eq, decide_eq_false_iff_not, beq_iff_eq, beq_eq_false_iff_ne, bne_iff_ne, bne_eq_false_iff_eq, Bool.not_eq_true', Bool.not_eq_false', Int.not_lt, Int.not_le] at hg8)
                   first | (cases hg8; done) | (exfalso; first | omega | exact hg16 (Hend.out hg8.out); done) | skip
                   all_goals
                    try replace hg8 := Sep.hid hg8
                    try simp only [Act.put, List.setIfInBounds_toArray, List.set_cons_zero, List.set_cons_succ]
                    refine wpL_m 9 undef rfl (.tail _ (.head _)) (Or.inr ⟨by rfl, rfl⟩) (marks 38 1023) ?_
                    try simp only [Act.put, List.setIfInBounds_toArray, List.set_cons_zero, List.set_cons_succ]
                    refine wpL_q 10 undef rfl (Or.inr ⟨by rfl, rfl⟩) (marks 38 2047) ?_
                    try simp only [Act.put, List.setIfInBounds_toArray, List.set_cons_zero, List.set_cons_succ]
                    refine wpL_q 11 undef rfl (Or.inr ⟨by rfl, rfl⟩) (marks 38 4095) ?_
                    try simp only [Act.put, List.setIfInBounds_toArray, List.set_cons_zero, List.set_cons_succ]
                    refine wpL_m 12 undef rfl (.tail _ (.tail _ (.head _))) (Or.inr ⟨by rfl, rfl⟩) (marks 38 8191) ?_
                    try simp only [Act.put, List.setIfInBounds_toArray, List.set_cons_zero, List.set_cons_succ]
                    refine wpL_q 13 undef rfl (Or.inr ⟨by rfl, rfl⟩) (marks 38 16383) ?_
                    try simp only [Act.put, List.setIfInBounds_toArray, List.set_cons_zero, List.set_cons_succ]
                  all_goals
                   refine wpL_q 14 ?_ rfl (Or.inl ⟨by rfl, fun w_ hS_ => ?_⟩) (marks 38 32767) ?_
                   rotate_left
                   next => (go_simp; try (first | rfl | exact (Bool.not_not _).symm))
                   try simp only [Act.put, List.setIfInBounds_toArray, List.set_cons_zero, List.set_cons_succ]
                all_goals
                 refine wpL_q 15 ?_ rfl (Or.inl ⟨by rfl, fun w_ hS_ => ?_⟩) (marks 38 65535) ?_
                 rotate_left
                 next => (go_simp; try (first | rfl | exact (Bool.not_not _).symm))
                 try simp only [Act.put, List.setIfInBounds_toArray, List.set_cons_zero, List.set_cons_succ]
                 refine wpL_b 16 ?_ rfl (Or.inl ⟨by rfl, fun w_ hS_ => ?_⟩) (marks 38 131071) ?_
                 rotate_left
                 next => (go_simp; try (first | rfl | exact (Bool.not_not _).symm))
                 intro bb_ hg16
                 cases bb_
                 case' true =>
                  (try simp only [decide_eq_true_eq, decide_eq_false_iff_not, beq_iff_eq, beq_eq_false_iff_ne, bne_iff_ne, bne_eq_false_iff_eq, Bool.not_eq_true', Bool.not_eq_false', Int.not_lt, Int.not_le] at hg16)
                  first | (cases hg16; done) | (exfalso; first | omega | exact hg16 (Hend.out hg8.out); done)
                 case' false =>
                  (try simp only [decide_eq_true_eq, decide_eq_false_iff_not, beq_iff_eq, beq_eq_false_iff_ne, bne_iff_ne, bne_eq_false_iff_eq, Bool.not_eq_true', Bool.not_eq_false', Int.not_lt, Int.not_le] at hg16)
                  first | (cases hg16; done) | (exfalso; first | omega | exact hg16 (Hend.out hg8.out); done) | skip
                  all_goals
                   try replace hg16 := Sep.hid hg16
                   try simp only [Act.put, List.setIfInBounds_toArray, List.set_cons_zero, List.set_cons_succ]
                   refine wpL_q 17 ?_ rfl (Or.inl ⟨by rfl, fun w_ hS_ => ?_⟩) (marks 38 262143) ?_
                   rotate_left
                   next => (go_simp; try (first | rfl | exact (Bool.not_not _).symm))
                   try simp only [Act.put, List.setIfInBounds_toArray, List.set_cons_zero, List.set_cons_succ]
                   refine wpL_m 18 ?_ rfl (.tail _ (.tail _ (.tail _ (.head _)))) (Or.inl ⟨by rfl, fun w_ hS_ => ?_⟩) (marks 38 524287) ?_
                   rotate_left
                   next => (subst hS_; first | (first | (refine Eq.trans (run_neT X Y rfl rfl rfl) ?_; rfl) | (refine Eq.trans (run_loadN (vs := encT Y) (off := k * 17) rfl rfl hw (i := 3) rfl rfl Hcl.out) ?_; rfl) | (refine Eq.trans (run_loadN (vs := encT X) (off := 0) rfl rfl hw (i := 4) rfl rfl (by intro j v hj; simpa using hj)) ?_; rfl)) | (go_simp; try (first | rfl | exact (Bool.not_not _).symm)))
                   try simp only [Act.put, List.setIfInBounds_toArray, List.set_cons_zero, List.set_cons_succ]
                   refine wpL_q 19 ?_ rfl (Or.inl ⟨by rfl, fun w_ hS_ => ?_⟩) (marks 38 1048575) ?_
                   rotate_left
                   next => (first | (first | (refine Eq.trans (run_neT X Y rfl rfl rfl) ?_; rfl) | (refine Eq.trans (run_loadN (vs := encT Y) (off := k * 17) rfl rfl hw (i := 3) rfl rfl Hcl.out) ?_; rfl) | (refine Eq.trans (run_loadN (vs := encT X) (off := 0) rfl rfl hw (i := 4) rfl rfl (by intro j v hj; simpa using hj)) ?_; rfl)) | (go_simp; try (first | rfl | exact (Bool.not_not _).symm)))
                   try simp only [Act.put, List.setIfInBounds_toArray, List.set_cons_zero, List.set_cons_succ]
                   refine wpL_b 20 ?_ rfl (Or.inl ⟨by rfl, fun w_ hS_ => ?_⟩) (marks 38 2097151) ?_
                   rotate_left
                   next => (go_simp; try (first | rfl | exact (Bool.not_not _).symm))
                   intro bb_ hg20
                   cases bb_
                   case' true =>
                    (try simp only [decide_eq_true_eq, decide_eq_false_iff_not, beq_iff_eq, beq_eq_false_iff_ne, bne_iff_ne, bne_eq_false_iff_eq, Bool.not_eq_true', Bool.not_eq_false', Int.not_lt, Int.not_le] at hg20)
                    first | (cases hg20; done) | (exfalso; first | omega | exact hg16 (Hend.out hg8.out); done) | skip
                    all_goals
                     try replace hg20 := Sep.hid hg20
                     try simp only [Act.put, List.setIfInBounds_toArray, List.set_cons_zero, List.set_cons_succ]
                     refine wpL_q 21 undef rfl (Or.inr ⟨by rfl, rfl⟩) (marks 38 4194303) ?_
                     try simp only [Act.put, List.setIfInBounds_toArray, List.set_cons_zero, List.set_cons_succ]
                     refine wpL_q 22 undef rfl (Or.inr ⟨by rfl, rfl⟩) (marks 38 8388607) ?_
                     try simp only [Act.put, List.setIfInBounds_toArray, List.set_cons_zero, List.set_cons_succ]
                     refine wpL_m 23 undef rfl (.tail _ (.tail _ (.tail _ (.tail _ (.head _))))) (Or.inr ⟨by rfl, rfl⟩) (marks 38 16777215) ?_
                     try simp only [Act.put, List.setIfInBounds_toArray, List.set_cons_zero, List.set_cons_succ]
                     refine wpL_q 24 undef rfl (Or.inr ⟨by rfl, rfl⟩) (marks 38 33554431) ?_
                     try simp only [Act.put, List.setIfInBounds_toArray, List.set_cons_zero, List.set_cons_succ]
                   case' false =>
                    (try simp only [decide_eq_true_eq, decide_eq_false_iff_not, beq_iff_eq, beq_eq_false_iff_ne, bne_iff_ne, bne_eq_false_iff_eq, Bool.not_eq_true', Bool.not_eq_false', Int.not_lt, Int.not_le] at hg20)
                    first | (cases hg20; done) | (exfalso; first | omega | exact hg16 (Hend.out hg8.out); done) | skip
                    all_goals
                     try replace hg20 := Sep.hid hg20
                     try simp only [Act.put, List.setIfInBounds_toArray, List.set_cons_zero, List.set_cons_succ]
                     refine wpL_q 21 ?_ rfl (Or.inl ⟨by rfl, fun w_ hS_ => ?_⟩) (marks 38 4194303) ?_
                     rotate_left
                     next => (go_simp; try (first | rfl | exact (Bool.not_not _).symm))
                     try simp only [Act.put, List.setIfInBounds_toArray, List.set_cons_zero, List.set_cons_succ]
                     refine wpL_q 22 ?_ rfl (Or.inl ⟨by rfl, fun w_ hS_ => ?_⟩) (marks 38 8388607) ?_
                     rotate_left
                     next => (go_simp; try (first | rfl | exact (Bool.not_not _).symm))
                     try simp only [Act.put, List.setIfInBounds_toArray, List.set_cons_zero, List.set_cons_succ]
                     refine wpL_m 23 ?_ rfl (.tail _ (.tail _ (.tail _ (.tail _ (.head _))))) (Or.inl ⟨by rfl, fun w_ hS_ => ?_⟩) (marks 38 16777215) ?_
                     rotate_left
                     next => (subst hS_; first | (first | (refine Eq.trans (run_neT X Y rfl rfl rfl) ?_; rfl) | (refine Eq.trans (run_loadN (vs := encT Y) (off := k * 17) rfl rfl hw (i := 3) rfl rfl Hcl.out) ?_; rfl) | (refine Eq.trans (run_loadN (vs := encT X) (off := 0) rfl rfl hw (i := 4) rfl rfl (by intro j v hj; simpa using hj)) ?_; rfl)) | (go_simp; try (first | rfl | exact (Bool.not_not _).symm)))
                     try simp only [Act.put, List.setIfInBounds_toArray, List.set_cons_zero, List.set_cons_succ]
                     refine wpL_q 24 ?_ rfl (Or.inl ⟨by rfl, fun w_ hS_ => ?_⟩) (marks 38 33554431) ?_
                     rotate_left
                     next => (first | (first | (refine Eq.trans (run_neT X Y rfl rfl rfl) ?_; rfl) | (refine Eq.trans (run_loadN (vs := encT Y) (off := k * 17) rfl rfl hw (i := 3) rfl rfl Hcl.out) ?_; rfl) | (refine Eq.trans (run_loadN (vs := encT X) (off := 0) rfl rfl hw (i := 4) rfl rfl (by intro j v hj; simpa using hj)) ?_; rfl)) | (go_simp; try (first | rfl | exact (Bool.not_not _).symm)))
                     try simp only [Act.put, List.setIfInBounds_toArray, List.set_cons_zero, List.set_cons_succ]
                   all_goals
                    refine wpL_q 25 ?_ rfl (Or.inl ⟨by rfl, fun w_ hS_ => ?_⟩) (marks 38 67108863) ?_
                    rotate_left
                    next => (go_simp; try (first | rfl | exact (Bool.not_not _).symm))
                    try simp only [Act.put, List.setIfInBounds_toArray, List.set_cons_zero, List.set_cons_succ]
                    refine wpL_b 26 ?_ rfl (Or.inl ⟨by rfl, fun w_ hS_ => ?_⟩) (marks 38 134217727) ?_
                    rotate_left
                    next => (go_simp; try (first | rfl | exact (Bool.not_not _).symm))
                    intro bb_ hg26
                    cases bb_
                    case' true =>
                     (try simp only [decide_eq_true_eq, decide_eq_false_iff_not, beq_iff_eq, beq_eq_false_iff_ne, bne_iff_ne, bne_eq_false_iff_eq, Bool.not_eq_true', Bool.not_eq_false', Int.not_lt, Int.not_le] at hg26)
                     first | (cases hg26; done) | (exfalso; first | omega | exact hg16 (Hend.out hg8.out); done) | skip
                     all_goals
                      try replace hg26 := Sep.hid hg26
                      try simp only [Act.put, List.setIfInBounds_toArray, List.set_cons_zero, List.set_cons_succ]
                      refine wpL_q 27 undef rfl (Or.inr ⟨by rfl, rfl⟩) (marks 38 268435455) ?_
                      try simp only [Act.put, List.setIfInBounds_toArray, List.set_cons_zero, List.set_cons_succ]
                      refine wpL_q 28 undef rfl (Or.inr ⟨by rfl, rfl⟩) (marks 38 536870911) ?_
                      try simp only [Act.put, List.setIfInBounds_toArray, List.set_cons_zero, List.set_cons_succ]
                    case' false =>
                     (try simp only [decide_eq_true_eq, decide_eq_false_iff_not, beq_iff_eq, beq_eq_false_iff_ne, bne_iff_ne, bne_eq_false_iff_eq, Bool.not_eq_true', Bool.not_eq_false', Int.not_lt, Int.not_le] at hg26)
                     first | (cases hg26; done) | (exfalso; first | omega | exact hg16 (Hend.out hg8.out); done) | skip
                     all_goals
                      try replace hg26 := Sep.hid hg26
                      try simp only [Act.put, List.setIfInBounds_toArray, List.set_cons_zero, List.set_cons_succ]
                      refine wpL_q 27 ?_ rfl (Or.inl ⟨by rfl, fun w_ hS_ => ?_⟩) (marks 38 268435455) ?_
                      rotate_left
                      next => (go_simp; try (first | rfl | exact (Bool.not_not _).symm))
                      try simp only [Act.put, List.setIfInBounds_toArray, List.set_cons_zero, List.set_cons_succ]
                      refine wpL_q 28 ?_ rfl (Or.inl ⟨by rfl, fun w_ hS_ => ?_⟩) (marks 38 536870911) ?_
                      rotate_left
                      next => (go_simp; try (first | rfl | exact (Bool.not_not _).symm))
                      try simp only [Act.put, List.setIfInBounds_toArray, List.set_cons_zero, List.set_cons_succ]
                    all_goals
                     refine wpL_q 29 ?_ rfl (Or.inl ⟨by rfl, fun w_ hS_ => ?_⟩) (marks 38 1073741823) ?_
                     rotate_left
                     next => (go_simp; try (first | rfl | exact (Bool.not_not _).symm))
                     try simp only [Act.put, List.setIfInBounds_toArray, List.set_cons_zero, List.set_cons_succ]
                     refine wpL_b 30 ?_ rfl (Or.inl ⟨by rfl, fun w_ hS_ => ?_⟩) (marks 38 2147483647) ?_
                     rotate_left
                     next => (go_simp; try (first | rfl | exact (Bool.not_not _).symm))
                     intro bb_ hg30
                     cases bb_
                     case' true =>
                      (try simp only [decide_eq_true_eq, decide_eq_false_iff_not, beq_iff_eq, beq_eq_false_iff_ne, bne_iff_ne, bne_eq_false_iff_eq, Bool.not_eq_true', Bool.not_eq_false', Int.not_lt, Int.not_le] at hg30)
                      first | (cases hg30; done) | (exfalso; first | omega | exact hg16 (Hend.out hg8.out); done) | skip
                      all_goals
                       try replace hg30 := Sep.hid hg30
                       try simp only [Act.put, List.setIfInBounds_toArray, List.set_cons_zero, List.set_cons_succ]
                       refine wpL_m 31 ?_ rfl (.tail _ (.tail _ (.tail _ (.tail _ (.tail _ (.head _)))))) (Or.inl ⟨by rfl, fun w_ hS_ => ?_⟩) (marks 38 4294967295) ?_
                       rotate_left
                       next => (subst hS_; first | (first | (refine Eq.trans (run_neT X Y rfl rfl rfl) ?_; rfl) | (refine Eq.trans (run_loadN (vs := encT Y) (off := k * 17) rfl rfl hw (i := 3) rfl rfl Hcl.out) ?_; rfl) | (refine Eq.trans (run_loadN (vs := encT X) (off := 0) rfl rfl hw (i := 4) rfl rfl (by intro j v hj; simpa using hj)) ?_; rfl)) | (go_simp; try (first | rfl | exact (Bool.not_not _).symm)))
                       try simp only [Act.put, List.setIfInBounds_toArray, List.set_cons_zero, List.set_cons_succ]
                       refine wpL_q 32 ?_ rfl (Or.inl ⟨by rfl, fun w_ hS_ => ?_⟩) (marks 38 8589934591) ?_
                       rotate_left
                       next => (go_simp; try (first | rfl | exact (Bool.not_not _).symm))
                       try simp only [Act.put, List.setIfInBounds_toArray, List.set_cons_zero, List.set_cons_succ]
                       refine wpL_q 33 ?_ rfl (Or.inl ⟨by rfl, fun w_ hS_ => ?_⟩) (marks 38 17179869183) ?_
                       rotate_left
                       next => (go_simp; try (first | rfl | exact (Bool.not_not _).symm))
                       try simp only [Act.put, List.setIfInBounds_toArray, List.set_cons_zero, List.set_cons_succ]
                       refine wpL_m 34 ?_ rfl (.tail _ (.tail _ (.tail _ (.tail _ (.tail _ (.tail _ (.head _))))))) (Or.inl ⟨by rfl, fun w_ hS_ => ?_⟩) (marks 38 34359738367) ?_
                       rotate_left
                       next => (subst hS_; first | (first | (refine Eq.trans (run_neT X Y rfl rfl rfl) ?_; rfl) | (refine Eq.trans (run_loadN (vs := encT Y) (off := k * 17) rfl rfl hw (i := 3) rfl rfl Hcl.out) ?_; rfl) | (refine Eq.trans (run_loadN (vs := encT X) (off := 0) rfl rfl hw (i := 4) rfl rfl (by intro j v hj; simpa using hj)) ?_; rfl)) | (go_simp; try (first | rfl | exact (Bool.not_not _).symm)))
                       try simp only [Act.put, List.setIfInBounds_toArray, List.set_cons_zero, List.set_cons_succ]
                       refine wpL_q 35 ?_ rfl (Or.inl ⟨by rfl, fun w_ hS_ => ?_⟩) (marks 38 68719476735) ?_
                       rotate_left
                       next => (first | (first | (refine Eq.trans (run_neT X Y rfl rfl rfl) ?_; rfl) | (refine Eq.trans (run_loadN (vs := encT Y) (off := k * 17) rfl rfl hw (i := 3) rfl rfl Hcl.out) ?_; rfl) | (refine Eq.trans (run_loadN (vs := encT X) (off := 0) rfl rfl hw (i := 4) rfl rfl (by intro j v hj; simpa using hj)) ?_; rfl)) | (go_simp; try (first | rfl | exact (Bool.not_not _).symm)))
                       try simp only [Act.put, List.setIfInBounds_toArray, List.set_cons_zero, List.set_cons_succ]
                     case' false =>
                      (try simp only [decide_eq_true_eq, decide_eq_false_iff_not, beq_iff_eq, beq_eq_false_iff_ne, bne_iff_ne, bne_eq_false_iff_eq, Bool.not_eq_true', Bool.not_eq_false', Int.not_lt, Int.not_le] at hg30)
                      first | (cases hg30; done) | (exfalso; first | omega | exact hg16 (Hend.out hg8.out); done) | skip
                      all_goals
                       try replace hg30 := Sep.hid hg30
                       try simp only [Act.put, List.setIfInBounds_toArray, List.set_cons_zero, List.set_cons_succ]
                       refine wpL_m 31 undef rfl (.tail _ (.tail _ (.tail _ (.tail _ (.tail _ (.head _)))))) (Or.inr ⟨by rfl, rfl⟩) (marks 38 4294967295) ?_
                       try simp only [Act.put, List.setIfInBounds_toArray, List.set_cons_zero, List.set_cons_succ]
                       refine wpL_q 32 undef rfl (Or.inr ⟨by rfl, rfl⟩) (marks 38 8589934591) ?_
                       try simp only [Act.put, List.setIfInBounds_toArray, List.set_cons_zero, List.set_cons_succ]
                       refine wpL_q 33 undef rfl (Or.inr ⟨by rfl, rfl⟩) (marks 38 17179869183) ?_
                       try simp only [Act.put, List.setIfInBounds_toArray, List.set_cons_zero, List.set_cons_succ]
                       refine wpL_m 34 undef rfl (.tail _ (.tail _ (.tail _ (.tail _ (.tail _ (.tail _ (.head _))))))) (Or.inr ⟨by rfl, rfl⟩) (marks 38 34359738367) ?_
                       try simp only [Act.put, List.setIfInBounds_toArray, List.set_cons_zero, List.set_cons_succ]
                       refine wpL_q 35 undef rfl (Or.inr ⟨by rfl, rfl⟩) (marks 38 68719476735) ?_
                       try simp only [Act.put, List.setIfInBounds_toArray, List.set_cons_zero, List.set_cons_succ]
                     all_goals
                      refine wpL_q 36 ?_ rfl (Or.inl ⟨by rfl, fun w_ hS_ => ?_⟩) (marks 38 137438953471) ?_
                      rotate_left
                      next => (go_simp; try (first | rfl | exact (Bool.not_not _).symm))
                      try simp only [Act.put, List.setIfInBounds_toArray, List.set_cons_zero, List.set_cons_succ]
                 all_goals
                  refine wpL_q 37 ?_ rfl (Or.inl ⟨by rfl, fun w_ hS_ => ?_⟩) (marks 38 274877906943) ?_
                  rotate_left
                  next => (go_simp; try (first | rfl | exact (Bool.not_not _).symm))
                  try simp only [Act.put, List.setIfInBounds_toArray, List.set_cons_zero, List.set_cons_succ]
                  all_goals refine wpL_done (by kernel_rfl) ?_ _
                all_goals
                  (try have hxb : decide (X = Y) = true := decide_eq_true (by first | exact Hs.out (.inl hg20.out) | exact Hs.out (.inr (.inl hg26.out)) | exact Hs.out (.inr (.inr hg30.out)) | exact hg16.out); simp only [hxb, Bool.not_true]; clear hxb)
                  go_wp2_with fail
                  go_roundw
                  case rel => exact ⟨k + 1, by omega, by go_num, hw.sel [0, 1, 2, 3] (by decide)⟩
                  case measure => simp [intOf]; omega
              · have hkm' : T.l.length ≤ k := by omega
                clear hkm hk
                go_wp2_with fail
                have hd0 : (encA d)[0]? = some (.int .i64 d.do_) := rfl
                have hwr : IntKind.i64.wrap ((T.l.length : Int) + 1) = (T.l.length : Int) + 1 := IntWalk.i64_in _ (by omega)
                have hnx : ((T.l.length : Int) == (T.l.length : Int) + 1) = false := by simp only [beq_eq_false_iff_ne]; omega
                have hny : ((T.l.length : Int) + 1 == (T.l.length : Int)) = false := by simp only [beq_eq_false_iff_ne]; omega
                rcases act_len T d with ⟨hUl, hdo, hE⟩ | ⟨hUl, hnd⟩
                · have hne : ¬ (actT T d).l.length = T.l.length := by omega
                  refine wp_region_L [1, 15, 20] [(6, (fun w' => Holds e w' [Old e, IsTable p (actT T d), pt bd (encA d) 34, pt bt (ws.flatMap encT) 62]))] (n := 26) (listed := (marks 26 0)) (by kernel_rfl) rfl (by kernel_rfl) ?conds2 ?_
                  case conds2 =>
                   intro c hc
                   simp only [List.mem_cons, List.not_mem_nil, or_false] at hc
                   rcases hc with rfl
                   · exact (by replace hw := hw.drew; exact hw)
                  replace hw := hw.drew
                  (try replace hc0 := Sep.Holds.cells hw (i := 0) rfl); (try replace hc1 := Sep.Holds.cells hw (i := 1) rfl); (try replace hc2 := Sep.Holds.cells hw (i := 2) rfl); (try replace hc3 := Sep.Holds.cells hw (i := 3) rfl); (try replace hc4 := Sep.Holds.cells hw (i := 4) rfl); (try replace hc5 := Sep.Holds.cells hw (i := 5) rfl); (try replace hc6 := Sep.Holds.cells hw (i := 6) rfl)
                  refine wpL_q 0 ?_ rfl (Or.inl ⟨by rfl, fun w_ hS_ => ?_⟩) (marks 26 1) ?_
                  rotate_left
                  next => (go_simp; try (first | rfl | exact (Bool.not_not _).symm))
                  try simp only [Act.put, List.setIfInBounds_toArray, List.set_cons_zero, List.set_cons_succ]
                  refine wpL_q 2 ?_ rfl (Or.inl ⟨by rfl, fun w_ hS_ => ?_⟩) (marks 26 5) ?_
                  rotate_left
                  next => (go_simp; try (first | rfl | exact (Bool.not_not _).symm))
                  try simp only [Act.put, List.setIfInBounds_toArray, List.set_cons_zero, List.set_cons_succ]
                  refine wpL_q 3 ?_ rfl (Or.inl ⟨by rfl, fun w_ hS_ => ?_⟩) (marks 26 13) ?_
                  rotate_left
                  next => (go_simp; try (first | rfl | exact (Bool.not_not _).symm))
                  try simp only [Act.put, List.setIfInBounds_toArray, List.set_cons_zero, List.set_cons_succ]
                  refine wpL_q 5 ?_ rfl (Or.inl ⟨by rfl, fun w_ hS_ => ?_⟩) (marks 26 45) ?_
                  rotate_left
                  next => (go_simp; try (first | rfl | exact (Bool.not_not _).symm))
                  try simp only [Act.put, List.setIfInBounds_toArray, List.set_cons_zero, List.set_cons_succ]
                  refine wpL_m 6 ?_ rfl (.head _) (Or.inl ⟨by rfl, fun w_ hS_ => ?_⟩) (marks 26 109) ?_
                  rotate_left
                  next => (dsimp only at hS_; (try have q0 := Sep.Holds.cells hS_ (i := 0) rfl); (try have q1 := Sep.Holds.cells hS_ (i := 1) rfl); (try have q2 := Sep.Holds.cells hS_ (i := 2) rfl); (try have q3 := Sep.Holds.cells hS_ (i := 3) rfl); (try have q4 := Sep.Holds.cells hS_ (i := 4) rfl); (try have q5 := Sep.Holds.cells hS_ (i := 5) rfl); (try have q6 := Sep.Holds.cells hS_ (i := 6) rfl); go_simp; try (first | rfl | exact (Bool.not_not _).symm))
                  try simp only [Act.put, List.setIfInBounds_toArray, List.set_cons_zero, List.set_cons_succ]
                  refine wpL_q 7 ?_ rfl (Or.inl ⟨by rfl, fun w_ hS_ => ?_⟩) (marks 26 237) ?_
                  rotate_left
                  next => (go_simp; try (first | rfl | exact (Bool.not_not _).symm))
                  try simp only [Act.put, List.setIfInBounds_toArray, List.set_cons_zero, List.set_cons_succ]
                  refine wpL_o 1 rfl (by rfl) (marks 26 239) ?_
                  (go_simp; go_at_call 16; refine (tLen_calls p (actT T d) e _ _ (hw.focus1 1 rfl)).mono ?_; rintro _ w_ ⟨rfl, rfl⟩)
                  refine ⟨(SL.keep (by exact hw) SL.nil), ?_⟩
                  try simp only [Act.put, List.setIfInBounds_toArray, List.set_cons_zero, List.set_cons_succ]
                  refine wpL_q 4 ?_ rfl (Or.inl ⟨by rfl, fun w_ hS_ => ?_⟩) (marks 26 255) ?_
                  rotate_left
                  next => (go_simp; try (first | rfl | exact (Bool.not_not _).symm))
                  try simp only [Act.put, List.setIfInBounds_toArray, List.set_cons_zero, List.set_cons_succ]
                  refine wpL_b 8 ?_ rfl (Or.inl ⟨by rfl, fun w_ hS_ => ?_⟩) (marks 26 511) ?_
                  rotate_left
                  next => (go_simp; try (first | rfl | exact (Bool.not_not _).symm))
                  intro bb_ hg8
                  cases bb_
                  case' true =>
                   (try simp only [decide_eq_true_eq, decide_eq_false_iff_not, beq_iff_eq, beq_eq_false_iff_ne, bne_iff_ne, bne_eq_false_iff_eq, Bool.not_eq_true', Bool.not_eq_false', Int.not_lt, Int.not_le] at hg8)
                   first | (cases hg8; done) | (exfalso; omega; done) | skip
                   all_goals
                    try replace hg8 := Sep.hid hg8
                    try simp only [Act.put, List.setIfInBounds_toArray, List.set_cons_zero, List.set_cons_succ]
                    refine wpL_q 9 ?_ rfl (Or.inl ⟨by rfl, fun w_ hS_ => ?_⟩) (marks 26 1023) ?_
                    rotate_left
                    next => (go_simp; try (first | rfl | exact (Bool.not_not _).symm))
                    try simp only [Act.put, List.setIfInBounds_toArray, List.set_cons_zero, List.set_cons_succ]
                    refine wpL_q 10 ?_ rfl (Or.inl ⟨by rfl, fun w_ hS_ => ?_⟩) (marks 26 2047) ?_
                    rotate_left
                    next => (go_simp; try (first | rfl | exact (Bool.not_not _).symm))
                    try simp only [Act.put, List.setIfInBounds_toArray, List.set_cons_zero, List.set_cons_succ]
                  case' false =>
                   (try simp only [decide_eq_true_eq, decide_eq_false_iff_not, beq_iff_eq, beq_eq_false_iff_ne, bne_iff_ne, bne_eq_false_iff_eq, Bool.not_eq_true', Bool.not_eq_false', Int.not_lt, Int.not_le] at hg8)
                   first | (cases hg8; done) | (exfalso; omega; done)
                  all_goals
                   refine wpL_q 11 ?_ rfl (Or.inl ⟨by rfl, fun w_ hS_ => ?_⟩) (marks 26 4095) ?_
                   rotate_left
                   next => (go_simp; try (first | rfl | exact (Bool.not_not _).symm))
                   try simp only [Act.put, List.setIfInBounds_toArray, List.set_cons_zero, List.set_cons_succ]
                   refine wpL_q 12 ?_ rfl (Or.inl ⟨by rfl, fun w_ hS_ => ?_⟩) (marks 26 8191) ?_
                   rotate_left
                   next => (go_simp; try (first | rfl | exact (Bool.not_not _).symm))
                   try simp only [Act.put, List.setIfInBounds_toArray, List.set_cons_zero, List.set_cons_succ]
                   refine wpL_b 13 ?_ rfl (Or.inl ⟨by rfl, fun w_ hS_ => ?_⟩) (marks 26 16383) ?_
                   rotate_left
                   next => (go_simp; try (first | rfl | exact (Bool.not_not _).symm))
                   intro bb_ hg13
                   cases bb_
                   case' true =>
                    (try simp only [decide_eq_true_eq, decide_eq_false_iff_not, beq_iff_eq, beq_eq_false_iff_ne, bne_iff_ne, bne_eq_false_iff_eq, Bool.not_eq_true', Bool.not_eq_false', Int.not_lt, Int.not_le] at hg13)
                    first | (cases hg13; done) | (exfalso; omega; done)
                   case' false =>
                    (try simp only [decide_eq_true_eq, decide_eq_false_iff_not, beq_iff_eq, beq_eq_false_iff_ne, bne_iff_ne, bne_eq_false_iff_eq, Bool.not_eq_true', Bool.not_eq_false', Int.not_lt, Int.not_le] at hg13)
                    first | (cases hg13; done) | (exfalso; omega; done) | skip
                    all_goals
                     try replace hg13 := Sep.hid hg13
                     try simp only [Act.put, List.setIfInBounds_toArray, List.set_cons_zero, List.set_cons_succ]
                     refine wpL_q 14 ?_ rfl (Or.inl ⟨by rfl, fun w_ hS_ => ?_⟩) (marks 26 32767) ?_
                     rotate_left
                     next => (go_simp; try (first | rfl | exact (Bool.not_not _).symm))
                     try simp only [Act.put, List.setIfInBounds_toArray, List.set_cons_zero, List.set_cons_succ]
                     refine wpL_q 16 ?_ rfl (Or.inl ⟨by rfl, fun w_ hS_ => ?_⟩) (marks 26 98303) ?_
                     rotate_left
                     next => (go_simp; try (first | rfl | exact (Bool.not_not _).symm))
                     try simp only [Act.put, List.setIfInBounds_toArray, List.set_cons_zero, List.set_cons_succ]
                     refine wpL_o 15 rfl (by rfl) (marks 26 131071) ?_
                     (go_simp; go_at_call 16; refine (tLen_calls p (actT T d) e _ _ (hw.focus1 1 rfl)).mono ?_; rintro _ w_ ⟨rfl, rfl⟩)
                     refine ⟨(SL.drop 15 (by kernel_rfl) SL.nil), ?_⟩
                     try simp only [Act.put, List.setIfInBounds_toArray, List.set_cons_zero, List.set_cons_succ]
                     refine wpL_q 17 ?_ rfl (Or.inl ⟨by rfl, fun w_ hS_ => ?_⟩) (marks 26 262143) ?_
                     rotate_left
                     next => (go_simp; try (first | rfl | exact (Bool.not_not _).symm))
                     try simp only [Act.put, List.setIfInBounds_toArray, List.set_cons_zero, List.set_cons_succ]
                     refine wpL_b 18 ?_ rfl (Or.inl ⟨by rfl, fun w_ hS_ => ?_⟩) (marks 26 524287) ?_
                     rotate_left
                     next => (go_simp; try (first | rfl | exact (Bool.not_not _).symm))
                     intro bb_ hg18
                     cases bb_
                     case' true =>
                      (try simp only [decide_eq_true_eq, decide_eq_false_iff_not, beq_iff_eq, beq_eq_false_iff_ne, bne_iff_ne, bne_eq_false_iff_eq, Bool.not_eq_true', Bool.not_eq_false', Int.not_lt, Int.not_le] at hg18)
                      first | (cases hg18; done) | (exfalso; omega; done) | skip
                      all_goals
                       try replace hg18 := Sep.hid hg18
                       try simp only [Act.put, List.setIfInBounds_toArray, List.set_cons_zero, List.set_cons_succ]
                       refine wpL_q 19 ?_ rfl (Or.inl ⟨by rfl, fun w_ hS_ => ?_⟩) (marks 26 1048575) ?_
                       rotate_left
                       next => (go_simp; try (first | rfl | exact (Bool.not_not _).symm))
                       try simp only [Act.put, List.setIfInBounds_toArray, List.set_cons_zero, List.set_cons_succ]
                       refine wpL_q 21 ?_ rfl (Or.inl ⟨by rfl, fun w_ hS_ => ?_⟩) (marks 26 3145727) ?_
                       rotate_left
                       next => (go_simp; try (first | rfl | exact (Bool.not_not _).symm))
                       try simp only [Act.put, List.setIfInBounds_toArray, List.set_cons_zero, List.set_cons_succ]
                       refine wpL_q 22 ?_ rfl (Or.inl ⟨by rfl, fun w_ hS_ => ?_⟩) (marks 26 7340031) ?_
                       rotate_left
                       next => (go_simp; try (first | rfl | exact (Bool.not_not _).symm))
                       try simp only [Act.put, List.setIfInBounds_toArray, List.set_cons_zero, List.set_cons_succ]
                       refine wpL_o 20 rfl (by rfl) (marks 26 8388607) ?_
                       (go_simp; go_at_call 16; refine (tLen_calls p (actT T d) e _ _ (hw.focus1 1 rfl)).mono ?_; rintro _ w_ ⟨rfl, rfl⟩)
                       refine ⟨(SL.drop 15 (by kernel_rfl) SL.nil), ?_⟩
                       try simp only [Act.put, List.setIfInBounds_toArray, List.set_cons_zero, List.set_cons_succ]
                       refine wpL_q 23 ?_ rfl (Or.inl ⟨by rfl, fun w_ hS_ => ?_⟩) (marks 26 16777215) ?_
                       rotate_left
                       next => (go_simp; try (first | rfl | exact (Bool.not_not _).symm))
                       try simp only [Act.put, List.setIfInBounds_toArray, List.set_cons_zero, List.set_cons_succ]
                     case' false =>
                      (try simp only [decide_eq_true_eq, decide_eq_false_iff_not, beq_iff_eq, beq_eq_false_iff_ne, bne_iff_ne, bne_eq_false_iff_eq, Bool.not_eq_true', Bool.not_eq_false', Int.not_lt, Int.not_le] at hg18)
                      first | (cases hg18; done) | (exfalso; omega; done)
                     all_goals
                      refine wpL_q 24 ?_ rfl (Or.inl ⟨by rfl, fun w_ hS_ => ?_⟩) (marks 26 33554431) ?_
                      rotate_left
                      next => (go_simp; try (first | rfl | exact (Bool.not_not _).symm))
                      try simp only [Act.put, List.setIfInBounds_toArray, List.set_cons_zero, List.set_cons_succ]
                   all_goals
                    refine wpL_q 25 ?_ rfl (Or.inl ⟨by rfl, fun w_ hS_ => ?_⟩) (marks 26 67108863) ?_
                    rotate_left
                    next => (go_simp; try (first | rfl | exact (Bool.not_not _).symm))
                    try simp only [Act.put, List.setIfInBounds_toArray, List.set_cons_zero, List.set_cons_succ]
                    all_goals refine wpL_done (by kernel_rfl) ?_ _
                  all_goals
                    go_wp2_with fail
                    go_roundw
                    case rel => exact ⟨q + 1, actT T d, by omega, by go_num, ⟨Hok.out.1.act d, (act_most T d).trans Hok.out.2⟩, hw.sel [0, 1] (by decide)⟩
                    case measure => simp [intOf]; omega
                · by_cases hdo : d.do_ = 0
                  · have hE : (actE T d == 0) = false := beq_eq_false_iff_ne.2 (fun h => hnd ⟨hdo, h⟩)
                    clear hnd
                    refine wp_region_L [1, 15, 20] [(6, (fun w' => Holds e w' [Old e, IsTable p (actT T d), pt bd (encA d) 34, pt bt (ws.flatMap encT) 62]))] (n := 26) (listed := (marks 26 0)) (by kernel_rfl) rfl (by kernel_rfl) ?conds3 ?_
                    case conds3 =>
                     intro c hc
                     simp only [List.mem_cons, List.not_mem_nil, or_false] at hc
                     rcases hc with rfl
                     · exact (by replace hw := hw.drew; exact hw)
                    replace hw := hw.drew
                    (try replace hc0 := Sep.Holds.cells hw (i := 0) rfl); (try replace hc1 := Sep.Holds.cells hw (i := 1) rfl); (try replace hc2 := Sep.Holds.cells hw (i := 2) rfl); (try replace hc3 := Sep.Holds.cells hw (i := 3) rfl); (try replace hc4 := Sep.Holds.cells hw (i := 4) rfl); (try replace hc5 := Sep.Holds.cells hw (i := 5) rfl); (try replace hc6 := Sep.Holds.cells hw (i := 6) rfl)
                    refine wpL_q 0 ?_ rfl (Or.inl ⟨by rfl, fun w_ hS_ => ?_⟩) (marks 26 1) ?_
                    rotate_left
                    next => (go_simp; try (first | rfl | exact (Bool.not_not _).symm))
                    try simp only [Act.put, List.setIfInBounds_toArray, List.set_cons_zero, List.set_cons_succ]
                    refine wpL_q 2 ?_ rfl (Or.inl ⟨by rfl, fun w_ hS_ => ?_⟩) (marks 26 5) ?_
                    rotate_left
                    next => (go_simp; try (first | rfl | exact (Bool.not_not _).symm))
                    try simp only [Act.put, List.setIfInBounds_toArray, List.set_cons_zero, List.set_cons_succ]
                    refine wpL_q 3 ?_ rfl (Or.inl ⟨by rfl, fun w_ hS_ => ?_⟩) (marks 26 13) ?_
                    rotate_left
                    next => (go_simp; try (first | rfl | exact (Bool.not_not _).symm))
                    try simp only [Act.put, List.setIfInBounds_toArray, List.set_cons_zero, List.set_cons_succ]
                    refine wpL_q 5 ?_ rfl (Or.inl ⟨by rfl, fun w_ hS_ => ?_⟩) (marks 26 45) ?_
                    rotate_left
                    next => (go_simp; try (first | rfl | exact (Bool.not_not _).symm))
                    try simp only [Act.put, List.setIfInBounds_toArray, List.set_cons_zero, List.set_cons_succ]
                    refine wpL_m 6 ?_ rfl (.head _) (Or.inl ⟨by rfl, fun w_ hS_ => ?_⟩) (marks 26 109) ?_
                    rotate_left
                    next => (dsimp only at hS_; (try have q0 := Sep.Holds.cells hS_ (i := 0) rfl); (try have q1 := Sep.Holds.cells hS_ (i := 1) rfl); (try have q2 := Sep.Holds.cells hS_ (i := 2) rfl); (try have q3 := Sep.Holds.cells hS_ (i := 3) rfl); (try have q4 := Sep.Holds.cells hS_ (i := 4) rfl); (try have q5 := Sep.Holds.cells hS_ (i := 5) rfl); (try have q6 := Sep.Holds.cells hS_ (i := 6) rfl); go_simp; try (first | rfl | exact (Bool.not_not _).symm))
                    try simp only [Act.put, List.setIfInBounds_toArray, List.set_cons_zero, List.set_cons_succ]
                    refine wpL_q 7 ?_ rfl (Or.inl ⟨by rfl, fun w_ hS_ => ?_⟩) (marks 26 237) ?_
                    rotate_left
                    next => (go_simp; try (first | rfl | exact (Bool.not_not _).symm))
                    try simp only [Act.put, List.setIfInBounds_toArray, List.set_cons_zero, List.set_cons_succ]
                    refine wpL_o 1 rfl (by rfl) (marks 26 239) ?_
                    (go_simp; go_at_call 16; refine (tLen_calls p (actT T d) e _ _ (hw.focus1 1 rfl)).mono ?_; rintro _ w_ ⟨rfl, rfl⟩)
                    refine ⟨(SL.keep (by exact hw) SL.nil), ?_⟩
                    try simp only [Act.put, List.setIfInBounds_toArray, List.set_cons_zero, List.set_cons_succ]
                    refine wpL_q 4 ?_ rfl (Or.inl ⟨by rfl, fun w_ hS_ => ?_⟩) (marks 26 255) ?_
                    rotate_left
                    next => (go_simp; try (first | rfl | exact (Bool.not_not _).symm))
                    try simp only [Act.put, List.setIfInBounds_toArray, List.set_cons_zero, List.set_cons_succ]
                    refine wpL_b 8 ?_ rfl (Or.inl ⟨by rfl, fun w_ hS_ => ?_⟩) (marks 26 511) ?_
                    rotate_left
                    next => (go_simp; try (first | rfl | exact (Bool.not_not _).symm))
                    intro bb_ hg8
                    cases bb_
                    case' true =>
                     (try simp only [decide_eq_true_eq, decide_eq_false_iff_not, beq_iff_eq, beq_eq_false_iff_ne, bne_iff_ne, bne_eq_false_iff_eq, Bool.not_eq_true', Bool.not_eq_false', Int.not_lt, Int.not_le] at hg8)
                     first | (cases hg8; done) | (exfalso; omega; done) | skip
                     all_goals
                      try replace hg8 := Sep.hid hg8
                      try simp only [Act.put, List.setIfInBounds_toArray, List.set_cons_zero, List.set_cons_succ]
                      refine wpL_q 9 ?_ rfl (Or.inl ⟨by rfl, fun w_ hS_ => ?_⟩) (marks 26 1023) ?_
                      rotate_left
                      next => (go_simp; try (first | rfl | exact (Bool.not_not _).symm))
                      try simp only [Act.put, List.setIfInBounds_toArray, List.set_cons_zero, List.set_cons_succ]
                      refine wpL_q 10 ?_ rfl (Or.inl ⟨by rfl, fun w_ hS_ => ?_⟩) (marks 26 2047) ?_
                      rotate_left
                      next => (go_simp; try (first | rfl | exact (Bool.not_not _).symm))
                      try simp only [Act.put, List.setIfInBounds_toArray, List.set_cons_zero, List.set_cons_succ]
                    case' false =>
                     (try simp only [decide_eq_true_eq, decide_eq_false_iff_not, beq_iff_eq, beq_eq_false_iff_ne, bne_iff_ne, bne_eq_false_iff_eq, Bool.not_eq_true', Bool.not_eq_false', Int.not_lt, Int.not_le] at hg8)
                     first | (cases hg8; done) | (exfalso; omega; done)
                    all_goals
                     refine wpL_q 11 ?_ rfl (Or.inl ⟨by rfl, fun w_ hS_ => ?_⟩) (marks 26 4095) ?_
                     rotate_left
                     next => (go_simp; try (first | rfl | exact (Bool.not_not _).symm))
                     try simp only [Act.put, List.setIfInBounds_toArray, List.set_cons_zero, List.set_cons_succ]
                     refine wpL_q 12 ?_ rfl (Or.inl ⟨by rfl, fun w_ hS_ => ?_⟩) (marks 26 8191) ?_
                     rotate_left
                     next => (go_simp; try (first | rfl | exact (Bool.not_not _).symm))
                     try simp only [Act.put, List.setIfInBounds_toArray, List.set_cons_zero, List.set_cons_succ]
                     refine wpL_b 13 ?_ rfl (Or.inl ⟨by rfl, fun w_ hS_ => ?_⟩) (marks 26 16383) ?_
                     rotate_left
                     next => (go_simp; try (first | rfl | exact (Bool.not_not _).symm))
                     intro bb_ hg13
                     cases bb_
                     case' true =>
                      (try simp only [decide_eq_true_eq, decide_eq_false_iff_not, beq_iff_eq, beq_eq_false_iff_ne, bne_iff_ne, bne_eq_false_iff_eq, Bool.not_eq_true', Bool.not_eq_false', Int.not_lt, Int.not_le] at hg13)
                      first | (cases hg13; done) | (exfalso; omega; done)
                     case' false =>
                      (try simp only [decide_eq_true_eq, decide_eq_false_iff_not, beq_iff_eq, beq_eq_false_iff_ne, bne_iff_ne, bne_eq_false_iff_eq, Bool.not_eq_true', Bool.not_eq_false', Int.not_lt, Int.not_le] at hg13)
                      first | (cases hg13; done) | (exfalso; omega; done) | skip
                      all_goals
                       try replace hg13 := Sep.hid hg13
                       try simp only [Act.put, List.setIfInBounds_toArray, List.set_cons_zero, List.set_cons_succ]
                       refine wpL_q 14 ?_ rfl (Or.inl ⟨by rfl, fun w_ hS_ => ?_⟩) (marks 26 32767) ?_
                       rotate_left
                       next => (go_simp; try (first | rfl | exact (Bool.not_not _).symm))
                       try simp only [Act.put, List.setIfInBounds_toArray, List.set_cons_zero, List.set_cons_succ]
                       refine wpL_q 16 ?_ rfl (Or.inl ⟨by rfl, fun w_ hS_ => ?_⟩) (marks 26 98303) ?_
                       rotate_left
                       next => (go_simp; try (first | rfl | exact (Bool.not_not _).symm))
                       try simp only [Act.put, List.setIfInBounds_toArray, List.set_cons_zero, List.set_cons_succ]
                       refine wpL_o 15 rfl (by rfl) (marks 26 131071) ?_
                       (go_simp; go_at_call 16; refine (tLen_calls p (actT T d) e _ _ (hw.focus1 1 rfl)).mono ?_; rintro _ w_ ⟨rfl, rfl⟩)
                       refine ⟨(SL.drop 15 (by kernel_rfl) SL.nil), ?_⟩
                       try simp only [Act.put, List.setIfInBounds_toArray, List.set_cons_zero, List.set_cons_succ]
                       refine wpL_q 17 ?_ rfl (Or.inl ⟨by rfl, fun w_ hS_ => ?_⟩) (marks 26 262143) ?_
                       rotate_left
                       next => (go_simp; try (first | rfl | exact (Bool.not_not _).symm))
                       try simp only [Act.put, List.setIfInBounds_toArray, List.set_cons_zero, List.set_cons_succ]
                       refine wpL_b 18 ?_ rfl (Or.inl ⟨by rfl, fun w_ hS_ => ?_⟩) (marks 26 524287) ?_
                       rotate_left
                       next => (go_simp; try (first | rfl | exact (Bool.not_not _).symm))
                       intro bb_ hg18
                       cases bb_
                       case' true =>
                        (try simp only [decide_eq_true_eq, decide_eq_false_iff_not, beq_iff_eq, beq_eq_false_iff_ne, bne_iff_ne, bne_eq_false_iff_eq, Bool.not_eq_true', Bool.not_eq_false', Int.not_lt, Int.not_le] at hg18)
                        first | (cases hg18; done) | (exfalso; omega; done)
                       case' false =>
                        (try simp only [decide_eq_true_eq, decide_eq_false_iff_not, beq_iff_eq, beq_eq_false_iff_ne, bne_iff_ne, bne_eq_false_iff_eq, Bool.not_eq_true', Bool.not_eq_false', Int.not_lt, Int.not_le] at hg18)
                        first | (cases hg18; done) | (exfalso; omega; done) | skip
                        all_goals
                         try replace hg18 := Sep.hid hg18
                         try simp only [Act.put, List.setIfInBounds_toArray, List.set_cons_zero, List.set_cons_succ]
                         refine wpL_q 19 undef rfl (Or.inr ⟨by rfl, rfl⟩) (marks 26 1048575) ?_
                         try simp only [Act.put, List.setIfInBounds_toArray, List.set_cons_zero, List.set_cons_succ]
                         refine wpL_q 21 undef rfl (Or.inr ⟨by rfl, rfl⟩) (marks 26 3145727) ?_
                         try simp only [Act.put, List.setIfInBounds_toArray, List.set_cons_zero, List.set_cons_succ]
                         refine wpL_q 22 undef rfl (Or.inr ⟨by rfl, rfl⟩) (marks 26 7340031) ?_
                         try simp only [Act.put, List.setIfInBounds_toArray, List.set_cons_zero, List.set_cons_succ]
                         refine wpL_s 20 rfl (by rfl) (marks 26 8388607) ?_
                         try simp only [Act.put, List.setIfInBounds_toArray, List.set_cons_zero, List.set_cons_succ]
                         refine wpL_q 23 undef rfl (Or.inr ⟨by rfl, rfl⟩) (marks 26 16777215) ?_
                         try simp only [Act.put, List.setIfInBounds_toArray, List.set_cons_zero, List.set_cons_succ]
                       all_goals
                        refine wpL_q 24 ?_ rfl (Or.inl ⟨by rfl, fun w_ hS_ => ?_⟩) (marks 26 33554431) ?_
                        rotate_left
                        next => (go_simp; try (first | rfl | exact (Bool.not_not _).symm))
                        try simp only [Act.put, List.setIfInBounds_toArray, List.set_cons_zero, List.set_cons_succ]
                     all_goals
                      refine wpL_q 25 ?_ rfl (Or.inl ⟨by rfl, fun w_ hS_ => ?_⟩) (marks 26 67108863) ?_
                      rotate_left
                      next => (go_simp; try (first | rfl | exact (Bool.not_not _).symm))
                      try simp only [Act.put, List.setIfInBounds_toArray, List.set_cons_zero, List.set_cons_succ]
                      all_goals refine wpL_done (by kernel_rfl) ?_ _
                    all_goals
                      go_wp2_with fail
                      go_roundw
                      case rel => exact ⟨q + 1, actT T d, by omega, by go_num, ⟨Hok.out.1.act d, (act_most T d).trans Hok.out.2⟩, hw.sel [0, 1] (by decide)⟩
                      case measure => simp [intOf]; omega
                  · have hdb : (d.do_ == 0) = false := beq_eq_false_iff_ne.2 hdo
                    clear hnd
                    refine wp_region_L [1, 15, 20] [(6, (fun w' => Holds e w' [Old e, IsTable p (actT T d), pt bd (encA d) 34, pt bt (ws.flatMap encT) 62]))] (n := 26) (listed := (marks 26 0)) (by kernel_rfl) rfl (by kernel_rfl) ?conds4 ?_
                    case conds4 =>
                     intro c hc
                     simp only [List.mem_cons, List.not_mem_nil, or_false] at hc
                     rcases hc with rfl
                     · exact (by replace hw := hw.drew; exact hw)
                    replace hw := hw.drew
                    (try replace hc0 := Sep.Holds.cells hw (i := 0) rfl); (try replace hc1 := Sep.Holds.cells hw (i := 1) rfl); (try replace hc2 := Sep.Holds.cells hw (i := 2) rfl); (try replace hc3 := Sep.Holds.cells hw (i := 3) rfl); (try replace hc4 := Sep.Holds.cells hw (i := 4) rfl); (try replace hc5 := Sep.Holds.cells hw (i := 5) rfl); (try replace hc6 := Sep.Holds.cells hw (i := 6) rfl)
                    refine wpL_q 0 ?_ rfl (Or.inl ⟨by rfl, fun w_ hS_ => ?_⟩) (marks 26 1) ?_
                    rotate_left
                    next => (go_simp; try (first | rfl | exact (Bool.not_not _).symm))
                    try simp only [Act.put, List.setIfInBounds_toArray, List.set_cons_zero, List.set_cons_succ]
                    refine wpL_q 2 ?_ rfl (Or.inl ⟨by rfl, fun w_ hS_ => ?_⟩) (marks 26 5) ?_
                    rotate_left
                    next => (go_simp; try (first | rfl | exact (Bool.not_not _).symm))
                    try simp only [Act.put, List.setIfInBounds_toArray, List.set_cons_zero, List.set_cons_succ]
                    refine wpL_q 3 ?_ rfl (Or.inl ⟨by rfl, fun w_ hS_ => ?_⟩) (marks 26 13) ?_
                    rotate_left
                    next => (go_simp; try (first | rfl | exact (Bool.not_not _).symm))
                    try simp only [Act.put, List.setIfInBounds_toArray, List.set_cons_zero, List.set_cons_succ]
                    refine wpL_q 5 ?_ rfl (Or.inl ⟨by rfl, fun w_ hS_ => ?_⟩) (marks 26 45) ?_
                    rotate_left
                    next => (go_simp; try (first | rfl | exact (Bool.not_not _).symm))
                    try simp only [Act.put, List.setIfInBounds_toArray, List.set_cons_zero, List.set_cons_succ]
                    refine wpL_m 6 ?_ rfl (.head _) (Or.inl ⟨by rfl, fun w_ hS_ => ?_⟩) (marks 26 109) ?_
                    rotate_left
                    next => (dsimp only at hS_; (try have q0 := Sep.Holds.cells hS_ (i := 0) rfl); (try have q1 := Sep.Holds.cells hS_ (i := 1) rfl); (try have q2 := Sep.Holds.cells hS_ (i := 2) rfl); (try have q3 := Sep.Holds.cells hS_ (i := 3) rfl); (try have q4 := Sep.Holds.cells hS_ (i := 4) rfl); (try have q5 := Sep.Holds.cells hS_ (i := 5) rfl); (try have q6 := Sep.Holds.cells hS_ (i := 6) rfl); go_simp; try (first | rfl | exact (Bool.not_not _).symm))
                    try simp only [Act.put, List.setIfInBounds_toArray, List.set_cons_zero, List.set_cons_succ]
                    refine wpL_q 7 ?_ rfl (Or.inl ⟨by rfl, fun w_ hS_ => ?_⟩) (marks 26 237) ?_
                    rotate_left
                    next => (go_simp; try (first | rfl | exact (Bool.not_not _).symm))
                    try simp only [Act.put, List.setIfInBounds_toArray, List.set_cons_zero, List.set_cons_succ]
                    refine wpL_o 1 rfl (by rfl) (marks 26 239) ?_
                    (go_simp; go_at_call 16; refine (tLen_calls p (actT T d) e _ _ (hw.focus1 1 rfl)).mono ?_; rintro _ w_ ⟨rfl, rfl⟩)
                    refine ⟨(SL.keep (by exact hw) SL.nil), ?_⟩
                    try simp only [Act.put, List.setIfInBounds_toArray, List.set_cons_zero, List.set_cons_succ]
                    refine wpL_q 4 ?_ rfl (Or.inl ⟨by rfl, fun w_ hS_ => ?_⟩) (marks 26 255) ?_
                    rotate_left
                    next => (go_simp; try (first | rfl | exact (Bool.not_not _).symm))
                    try simp only [Act.put, List.setIfInBounds_toArray, List.set_cons_zero, List.set_cons_succ]
                    refine wpL_b 8 ?_ rfl (Or.inl ⟨by rfl, fun w_ hS_ => ?_⟩) (marks 26 511) ?_
                    rotate_left
                    next => (go_simp; try (first | rfl | exact (Bool.not_not _).symm))
                    intro bb_ hg8
                    cases bb_
                    case' true =>
                     (try simp only [decide_eq_true_eq, decide_eq_false_iff_not, beq_iff_eq, beq_eq_false_iff_ne, bne_iff_ne, bne_eq_false_iff_eq, Bool.not_eq_true', Bool.not_eq_false', Int.not_lt, Int.not_le] at hg8)
                     first | (cases hg8; done) | (exfalso; omega; done)
                    case' false =>
                     (try simp only [decide_eq_true_eq, decide_eq_false_iff_not, beq_iff_eq, beq_eq_false_iff_ne, bne_iff_ne, bne_eq_false_iff_eq, Bool.not_eq_true', Bool.not_eq_false', Int.not_lt, Int.not_le] at hg8)
                     first | (cases hg8; done) | (exfalso; omega; done) | skip
                     all_goals
                      try replace hg8 := Sep.hid hg8
                      try simp only [Act.put, List.setIfInBounds_toArray, List.set_cons_zero, List.set_cons_succ]
                      refine wpL_q 9 undef rfl (Or.inr ⟨by rfl, rfl⟩) (marks 26 1023) ?_
                      try simp only [Act.put, List.setIfInBounds_toArray, List.set_cons_zero, List.set_cons_succ]
                      refine wpL_q 10 undef rfl (Or.inr ⟨by rfl, rfl⟩) (marks 26 2047) ?_
                      try simp only [Act.put, List.setIfInBounds_toArray, List.set_cons_zero, List.set_cons_succ]
                    all_goals
                     refine wpL_q 11 ?_ rfl (Or.inl ⟨by rfl, fun w_ hS_ => ?_⟩) (marks 26 4095) ?_
                     rotate_left
                     next => (go_simp; try (first | rfl | exact (Bool.not_not _).symm))
                     try simp only [Act.put, List.setIfInBounds_toArray, List.set_cons_zero, List.set_cons_succ]
                     refine wpL_q 12 ?_ rfl (Or.inl ⟨by rfl, fun w_ hS_ => ?_⟩) (marks 26 8191) ?_
                     rotate_left
                     next => (go_simp; try (first | rfl | exact (Bool.not_not _).symm))
                     try simp only [Act.put, List.setIfInBounds_toArray, List.set_cons_zero, List.set_cons_succ]
                     refine wpL_b 13 ?_ rfl (Or.inl ⟨by rfl, fun w_ hS_ => ?_⟩) (marks 26 16383) ?_
                     rotate_left
                     next => (go_simp; try (first | rfl | exact (Bool.not_not _).symm))
                     intro bb_ hg13
                     cases bb_
                     case' true =>
                      (try simp only [decide_eq_true_eq, decide_eq_false_iff_not, beq_iff_eq, beq_eq_false_iff_ne, bne_iff_ne, bne_eq_false_iff_eq, Bool.not_eq_true', Bool.not_eq_false', Int.not_lt, Int.not_le] at hg13)
                      first | (cases hg13; done) | (exfalso; omega; done)
                     case' false =>
                      (try simp only [decide_eq_true_eq, decide_eq_false_iff_not, beq_iff_eq, beq_eq_false_iff_ne, bne_iff_ne, bne_eq_false_iff_eq, Bool.not_eq_true', Bool.not_eq_false', Int.not_lt, Int.not_le] at hg13)
                      first | (cases hg13; done) | (exfalso; omega; done) | skip
                      all_goals
                       try replace hg13 := Sep.hid hg13
                       try simp only [Act.put, List.setIfInBounds_toArray, List.set_cons_zero, List.set_cons_succ]
                       refine wpL_q 14 ?_ rfl (Or.inl ⟨by rfl, fun w_ hS_ => ?_⟩) (marks 26 32767) ?_
                       rotate_left
                       next => (go_simp; try (first | rfl | exact (Bool.not_not _).symm))
                       try simp only [Act.put, List.setIfInBounds_toArray, List.set_cons_zero, List.set_cons_succ]
                       refine wpL_q 16 ?_ rfl (Or.inl ⟨by rfl, fun w_ hS_ => ?_⟩) (marks 26 98303) ?_
                       rotate_left
                       next => (go_simp; try (first | rfl | exact (Bool.not_not _).symm))
                       try simp only [Act.put, List.setIfInBounds_toArray, List.set_cons_zero, List.set_cons_succ]
                       refine wpL_o 15 rfl (by rfl) (marks 26 131071) ?_
                       (go_simp; go_at_call 16; refine (tLen_calls p (actT T d) e _ _ (hw.focus1 1 rfl)).mono ?_; rintro _ w_ ⟨rfl, rfl⟩)
                       refine ⟨(SL.drop 15 (by kernel_rfl) SL.nil), ?_⟩
                       try simp only [Act.put, List.setIfInBounds_toArray, List.set_cons_zero, List.set_cons_succ]
                       refine wpL_q 17 ?_ rfl (Or.inl ⟨by rfl, fun w_ hS_ => ?_⟩) (marks 26 262143) ?_
                       rotate_left
                       next => (go_simp; try (first | rfl | exact (Bool.not_not _).symm))
                       try simp only [Act.put, List.setIfInBounds_toArray, List.set_cons_zero, List.set_cons_succ]
                       refine wpL_b 18 ?_ rfl (Or.inl ⟨by rfl, fun w_ hS_ => ?_⟩) (marks 26 524287) ?_
                       rotate_left
                       next => (go_simp; try (first | rfl | exact (Bool.not_not _).symm))
                       intro bb_ hg18
                       cases bb_
                       case' true =>
                        (try simp only [decide_eq_true_eq, decide_eq_false_iff_not, beq_iff_eq, beq_eq_false_iff_ne, bne_iff_ne, bne_eq_false_iff_eq, Bool.not_eq_true', Bool.not_eq_false', Int.not_lt, Int.not_le] at hg18)
                        first | (cases hg18; done) | (exfalso; omega; done)
                       case' false =>
                        (try simp only [decide_eq_true_eq, decide_eq_false_iff_not, beq_iff_eq, beq_eq_false_iff_ne, bne_iff_ne, bne_eq_false_iff_eq, Bool.not_eq_true', Bool.not_eq_false', Int.not_lt, Int.not_le] at hg18)
                        first | (cases hg18; done) | (exfalso; omega; done) | skip
                        all_goals
                         try replace hg18 := Sep.hid hg18
                         try simp only [Act.put, List.setIfInBounds_toArray, List.set_cons_zero, List.set_cons_succ]
                         refine wpL_q 19 undef rfl (Or.inr ⟨by rfl, rfl⟩) (marks 26 1048575) ?_
                         try simp only [Act.put, List.setIfInBounds_toArray, List.set_cons_zero, List.set_cons_succ]
                         refine wpL_q 21 undef rfl (Or.inr ⟨by rfl, rfl⟩) (marks 26 3145727) ?_
                         try simp only [Act.put, List.setIfInBounds_toArray, List.set_cons_zero, List.set_cons_succ]
                         refine wpL_q 22 undef rfl (Or.inr ⟨by rfl, rfl⟩) (marks 26 7340031) ?_
                         try simp only [Act.put, List.setIfInBounds_toArray, List.set_cons_zero, List.set_cons_succ]
                         refine wpL_s 20 rfl (by rfl) (marks 26 8388607) ?_
                         try simp only [Act.put, List.setIfInBounds_toArray, List.set_cons_zero, List.set_cons_succ]
                         refine wpL_q 23 undef rfl (Or.inr ⟨by rfl, rfl⟩) (marks 26 16777215) ?_
                         try simp only [Act.put, List.setIfInBounds_toArray, List.set_cons_zero, List.set_cons_succ]
                       all_goals
                        refine wpL_q 24 ?_ rfl (Or.inl ⟨by rfl, fun w_ hS_ => ?_⟩) (marks 26 33554431) ?_
                        rotate_left
                        next => (go_simp; try (first | rfl | exact (Bool.not_not _).symm))
                        try simp only [Act.put, List.setIfInBounds_toArray, List.set_cons_zero, List.set_cons_succ]
                     all_goals
                      refine wpL_q 25 ?_ rfl (Or.inl ⟨by rfl, fun w_ hS_ => ?_⟩) (marks 26 67108863) ?_
                      rotate_left
                      next => (go_simp; try (first | rfl | exact (Bool.not_not _).symm))
                      try simp only [Act.put, List.setIfInBounds_toArray, List.set_cons_zero, List.set_cons_succ]
                      all_goals refine wpL_done (by kernel_rfl) ?_ _
                    all_goals
                      go_wp2_with fail
                      go_roundw
                      case rel => exact ⟨q + 1, actT T d, by omega, by go_num, ⟨Hok.out.1.act d, (act_most T d).trans Hok.out.2⟩, hw.sel [0, 1] (by decide)⟩
                      case measure => simp [intOf]; omega
      · go_wp2_with fail
        exact HP.out _ _ ⟨rfl, hw.sel [0] (by decide)⟩
  · refine Sep.calls_post ?_
    intro Post_ hPost_
    have HP := Sep.hid hPost_
    clear hPost_
    go_enter Try.func4, Try.ntmps4
    go_wp2_with fail
    refine (awake_calls e _ _ hw.focus0).mono ?_
    rintro en_ w_ ⟨rfl, hw_⟩
    clear hw; (try clear hc0); (try clear hc1); (try clear hc2); (try clear hc3); (try clear hc4); (try clear hc5); (try clear hc6); have hw := Holds.unfocus0 (N := []) hw_; clear hw_
    (try simp only [List.map_cons, List.map_nil, List.getD_cons_zero, List.getD_cons_succ, List.getD_nil, List.set_cons_zero, List.set_cons_succ, List.cons_append, List.nil_append, Act.eval, Array.getD_eq_getD_getElem?, List.getElem?_toArray, List.getElem?_cons_succ, List.getElem?_cons_zero, Option.getD_some, Value.cells] at hw); (try simp (disch := first | (simp; done) | (simp; omega)) only [Sep.mid_set, Sep.mid_set2, Sep.mid_set0, Sep.mid_splice, Sep.mid_splice0, List.set_cons_zero, List.set_cons_succ] at hw); (try simp only [Sep.splice, List.take_succ_cons, List.take_zero, List.drop_succ_cons, List.drop_zero, List.length_cons, List.length_nil, Nat.reduceAdd, List.cons_append, List.nil_append] at hw)
    have hlong2 : (100 : Int) < (l.length : Int) := by omega
    go_wp2_with fail
    exact HP.out _ _ ⟨rfl, hw.sel [0] (by decide)⟩
end Go.Proofs.Ytmoikkfhlnogbaa
