/-
  Part 6 of the proof: contracts of functions and what they lean on (ScrT, ScrV).
-/
import Derived.Test.YteinbojpmhblkaaDoorPk1
import Derived.Test.YteinbojpmhblkaaDoorPk2
import Derived.Test.YteinbojpmhblkaaDoorPk3
import Derived.Test.YteinbojpmhblkaaDoorPk4
import Derived.Test.YteinbojpmhblkaaDoorPk5
/-
  ScriptTells: the walk.
-/
namespace Go.Proofs.YteinbojpmhblkaaDoor
set_option linter.unusedSimpArgs false
set_option linter.unusedVariables false
open Go.RowKit Go.Sep
set_option maxRecDepth 20000

theorem readS_err (b : List Int) (h : (readS b).2 ≠ 0) : (readS b).1 = scr0 := by
  unfold readS at h ⊢
  split
  · rfl
  split
  · rfl
  split
  · rfl
  split
  · rfl
  rename_i h1 h2 h3 h4
  rw [if_neg h1, if_neg h2, if_neg h3, if_neg h4] at h
  unfold readT at h ⊢
  split
  · split
    · rename_i h5 h6
      rw [if_pos h5, if_pos h6] at h
      exact absurd rfl h
    · rfl
  · rfl
theorem may_small {s : Scr} (h : mayS s = true) : Small s := by
  obtain ⟨_, _, hp8, hi, hpm, _, _⟩ := may_parts h
  refine ⟨by omega, by omega, fun p hp => ?_⟩
  have := List.all_eq_true.1 hpm p hp
  unfold mayP at this
  rw [Bool.and_eq_true, decide_eq_true_eq] at this
  omega
theorem readS_small {b : List Int} (hb : Bys b) : Small (readS b).1 := by
  by_cases h : (readS b).2 = 0
  · exact may_small (bytes_readS hb h).1
  · rw [readS_err b h]; exact small_scr0
set_option maxHeartbeats 32000000 in
theorem script_tells_walk (e : World) (x : Itm) (s t : Scr) (hs gs : List Hd) (pa pb ia ib ab : Option Addr) (pc qc ic jc cb : Nat) (b : List Int) (hT : TopsAt e) (hps : ProgsAt e pa hs s.ps) (hpt : ProgsAt e pb gs t.ps) (his : ItmsAt e ia s.is) (hit : ItmsAt e ib t.is) (hb : BytesAt e ab b) (hcb : b.length ≤ cb)
    (m1 : s.ps.length ≤ maxLen) (m2 : s.is.length ≤ maxLen) (m3 : t.ps.length ≤ maxLen) (m4 : t.is.length ≤ maxLen) :
    Calls Tryd.prog 3 #[.agg (encT x).toArray, .agg (scrV s pa pc ia ic).toArray, .agg (scrV t pb qc ib jc).toArray, .slice ab b.length cb] e fun en w' => en = .returned (.bool true) ∧ Holds e w' [Old e] := by
  have hw := Holds.start e
  have HT := Sep.hid (old_tops hT)
  have HPs := Sep.hid (old_progs hps)
  have HPt := Sep.hid (old_progs hpt)
  have HIs := Sep.hid (old_itms his)
  have HIt := Sep.hid (old_itms hit)
  have HRb := Sep.hid (old_bytes hb)
  have Hbys := Sep.hid (bytes_bys hb)
  have Hm := Sep.hid (show s.ps.length ≤ maxLen ∧ s.is.length ≤ maxLen ∧ t.ps.length ≤ maxLen ∧ t.is.length ≤ maxLen from ⟨m1, m2, m3, m4⟩)
  clear hT hps hpt his hit hb m1 m2 m3 m4
  obtain ⟨lb, hlb⟩ : ∃ lb, b.length = lb := ⟨_, rfl⟩
  rw [hlb] at hcb ⊢
  have Hlb := Sep.hid hlb; clear hlb
  obtain ⟨n1, hn1⟩ : ∃ n1, s.ps.length = n1 := ⟨_, rfl⟩
  obtain ⟨i1, hi1⟩ : ∃ i1, s.is.length = i1 := ⟨_, rfl⟩
  obtain ⟨n2, hn2⟩ : ∃ n2, t.ps.length = n2 := ⟨_, rfl⟩
  obtain ⟨i2, hi2⟩ : ∃ i2, t.is.length = i2 := ⟨_, rfl⟩
  have hA : scrV s pa pc ia ic = [.int .i64 s.r0, .int .i64 s.r1, .int .i64 s.r2, .int .i64 s.r3, .slice pa n1 pc, .slice ia i1 ic] := by rw [← hn1, ← hi1]; rfl
  have hB : scrV t pb qc ib jc = [.int .i64 t.r0, .int .i64 t.r1, .int .i64 t.r2, .int .i64 t.r3, .slice pb n2 qc, .slice ib i2 jc] := by rw [← hn2, ← hi2]; rfl
  have hC : encT x = [.int .i64 x.d, .int .i64 x.a, .int .i64 x.n] := rfl
  rw [hA, hB, hC]
  have HA := Sep.hid hA; have HB := Sep.hid hB; clear hA hB hC hn1 hi1 hn2 hi2
  refine Sep.calls_post ?_
  intro Post_ hPost_
  have HP := Sep.hid hPost_
  clear hPost_
  go_enter Tryd.func3, Tryd.ntmps3
  go_wp2_with (first | (refine wpList_on rfl (wp_box rfl hw ?_); intro b6_ w_ hw_; clear hw; have hw := hw_; clear hw_; (try simp only [List.map_cons, List.map_nil, List.getD_cons_zero, List.getD_cons_succ, List.getD_nil, List.set_cons_zero, List.set_cons_succ, List.cons_append, List.nil_append, Act.eval, Array.getD_eq_getD_getElem?, List.getElem?_toArray, List.getElem?_cons_succ, List.getElem?_cons_zero, Option.getD_some, Value.cells] at hw); (try simp (disch := first | (simp; done) | (simp; omega)) only [Sep.mid_set, Sep.mid_set2, Sep.mid_set0, Sep.mid_splice, Sep.mid_splice0, List.set_cons_zero, List.set_cons_succ] at hw); (try simp only [Sep.splice, List.take_succ_cons, List.take_zero, List.drop_succ_cons, List.drop_zero, List.length_cons, List.length_nil, Nat.reduceAdd, List.cons_append, List.nil_append] at hw); (try replace hc0 := Sep.Holds.cells hw (i := 0) rfl); (try replace hc1 := Sep.Holds.cells hw (i := 1) rfl); (try replace hc2 := Sep.Holds.cells hw (i := 2) rfl); (try replace hc3 := Sep.Holds.cells hw (i := 3) rfl); (try replace hc4 := Sep.Holds.cells hw (i := 4) rfl); (try replace hc5 := Sep.Holds.cells hw (i := 5) rfl); (try replace hc6 := Sep.Holds.cells hw (i := 6) rfl); (try simp only [Act.put, List.setIfInBounds_toArray, List.set_cons_zero, List.set_cons_succ])))
  rename_i b4_ w1_ b5_ w2_ k1_ h1_ k2_ h2_ k3_ h3_
  refine (awake17 e _ _ HT.out.sep hw.focus0).mono ?_
  rintro _ w_ ⟨rfl, hw_⟩
  clear hw; (try clear hc0); (try clear hc1); (try clear hc2); (try clear hc3); (try clear hc4); (try clear hc5); (try clear hc6); have hw := Holds.unfocus0 hw_; clear hw_; (try simp only [List.map_cons, List.map_nil, List.getD_cons_zero, List.getD_cons_succ, List.getD_nil, List.set_cons_zero, List.set_cons_succ, List.cons_append, List.nil_append, Act.eval, Array.getD_eq_getD_getElem?, List.getElem?_toArray, List.getElem?_cons_succ, List.getElem?_cons_zero, Option.getD_some, Value.cells] at hw); (try simp (disch := first | (simp; done) | (simp; omega)) only [Sep.mid_set, Sep.mid_set2, Sep.mid_set0, Sep.mid_splice, Sep.mid_splice0, List.set_cons_zero, List.set_cons_succ] at hw); (try simp only [Sep.splice, List.take_succ_cons, List.take_zero, List.drop_succ_cons, List.drop_zero, List.length_cons, List.length_nil, Nat.reduceAdd, List.cons_append, List.nil_append] at hw)
  (try replace hc0 := Sep.Holds.cells hw (i := 0) rfl); (try replace hc1 := Sep.Holds.cells hw (i := 1) rfl); (try replace hc2 := Sep.Holds.cells hw (i := 2) rfl); (try replace hc3 := Sep.Holds.cells hw (i := 3) rfl); (try replace hc4 := Sep.Holds.cells hw (i := 4) rfl); (try replace hc5 := Sep.Holds.cells hw (i := 5) rfl); (try replace hc6 := Sep.Holds.cells hw (i := 6) rfl)
  go_wp2_with fail
  have hl1 := large17 s hs pa ia pc ic Hm.out.1 Hm.out.2.1 e _ _ (HPs.out.at 0 rfl) hw.focus0
  rw [HA.out] at hl1
  refine hl1.mono ?_
  clear hl1
  rintro _ w_ ⟨rfl, hw_⟩
  clear hw; (try clear hc0); (try clear hc1); (try clear hc2); (try clear hc3); (try clear hc4); (try clear hc5); (try clear hc6); have hw := Holds.unfocus0 hw_; clear hw_; (try simp only [List.map_cons, List.map_nil, List.getD_cons_zero, List.getD_cons_succ, List.getD_nil, List.set_cons_zero, List.set_cons_succ, List.cons_append, List.nil_append, Act.eval, Array.getD_eq_getD_getElem?, List.getElem?_toArray, List.getElem?_cons_succ, List.getElem?_cons_zero, Option.getD_some, Value.cells] at hw); (try simp (disch := first | (simp; done) | (simp; omega)) only [Sep.mid_set, Sep.mid_set2, Sep.mid_set0, Sep.mid_splice, Sep.mid_splice0, List.set_cons_zero, List.set_cons_succ] at hw); (try simp only [Sep.splice, List.take_succ_cons, List.take_zero, List.drop_succ_cons, List.drop_zero, List.length_cons, List.length_nil, Nat.reduceAdd, List.cons_append, List.nil_append] at hw)
  (try replace hc0 := Sep.Holds.cells hw (i := 0) rfl); (try replace hc1 := Sep.Holds.cells hw (i := 1) rfl); (try replace hc2 := Sep.Holds.cells hw (i := 2) rfl); (try replace hc3 := Sep.Holds.cells hw (i := 3) rfl); (try replace hc4 := Sep.Holds.cells hw (i := 4) rfl); (try replace hc5 := Sep.Holds.cells hw (i := 5) rfl); (try replace hc6 := Sep.Holds.cells hw (i := 6) rfl)
  cases hls : largeS s with
  | true =>
    clear hls
    go_wp2_with fail
    exact HP.out _ _ ⟨rfl, hw.sel [0] (by decide)⟩
  | false =>
  have HSs := Sep.hid (small_of hls).1; clear hls
  go_wp2_with fail
  have hl1 := large17 t gs pb ib qc jc Hm.out.2.2.1 Hm.out.2.2.2 e _ _ (HPt.out.at 0 rfl) hw.focus0
  rw [HB.out] at hl1
  refine hl1.mono ?_
  clear hl1
  rintro _ w_ ⟨rfl, hw_⟩
  clear hw; (try clear hc0); (try clear hc1); (try clear hc2); (try clear hc3); (try clear hc4); (try clear hc5); (try clear hc6); have hw := Holds.unfocus0 hw_; clear hw_; (try simp only [List.map_cons, List.map_nil, List.getD_cons_zero, List.getD_cons_succ, List.getD_nil, List.set_cons_zero, List.set_cons_succ, List.cons_append, List.nil_append, Act.eval, Array.getD_eq_getD_getElem?, List.getElem?_toArray, List.getElem?_cons_succ, List.getElem?_cons_zero, Option.getD_some, Value.cells] at hw); (try simp (disch := first | (simp; done) | (simp; omega)) only [Sep.mid_set, Sep.mid_set2, Sep.mid_set0, Sep.mid_splice, Sep.mid_splice0, List.set_cons_zero, List.set_cons_succ] at hw); (try simp only [Sep.splice, List.take_succ_cons, List.take_zero, List.drop_succ_cons, List.drop_zero, List.length_cons, List.length_nil, Nat.reduceAdd, List.cons_append, List.nil_append] at hw)
  (try replace hc0 := Sep.Holds.cells hw (i := 0) rfl); (try replace hc1 := Sep.Holds.cells hw (i := 1) rfl); (try replace hc2 := Sep.Holds.cells hw (i := 2) rfl); (try replace hc3 := Sep.Holds.cells hw (i := 3) rfl); (try replace hc4 := Sep.Holds.cells hw (i := 4) rfl); (try replace hc5 := Sep.Holds.cells hw (i := 5) rfl); (try replace hc6 := Sep.Holds.cells hw (i := 6) rfl)
  cases hlt : largeS t with
  | true =>
    clear hlt
    go_wp2_with fail
    exact HP.out _ _ ⟨rfl, hw.sel [0] (by decide)⟩
  | false =>
  have HSt := Sep.hid (small_of hlt).1; clear hlt
  by_cases h5 : (5000 : Int) < lb
  · go_wp2_with fail
    exact HP.out _ _ ⟨rfl, hw.sel [0] (by decide)⟩
  have h5000 : lb ≤ 5000 := by omega
  go_wp2_with fail
  have hl1 := oBytesSX s HSs.out hs pa ia pc ic e _ _ HT.out.sep (HPs.out.at 0 rfl) (HIs.out.at 0 rfl) hw.focus0
  rw [HA.out] at hl1
  refine hl1.mono ?_
  clear hl1
  rintro _ w_ ⟨v1, rfl, hw_⟩
  clear hw; (try clear hc0); (try clear hc1); (try clear hc2); (try clear hc3); (try clear hc4); (try clear hc5); (try clear hc6); have hw := Holds.unfocus0 hw_; clear hw_; (try simp only [List.map_cons, List.map_nil, List.getD_cons_zero, List.getD_cons_succ, List.getD_nil, List.set_cons_zero, List.set_cons_succ, List.cons_append, List.nil_append, Act.eval, Array.getD_eq_getD_getElem?, List.getElem?_toArray, List.getElem?_cons_succ, List.getElem?_cons_zero, Option.getD_some, Value.cells] at hw); (try simp (disch := first | (simp; done) | (simp; omega)) only [Sep.mid_set, Sep.mid_set2, Sep.mid_set0, Sep.mid_splice, Sep.mid_splice0, List.set_cons_zero, List.set_cons_succ] at hw); (try simp only [Sep.splice, List.take_succ_cons, List.take_zero, List.drop_succ_cons, List.drop_zero, List.length_cons, List.length_nil, Nat.reduceAdd, List.cons_append, List.nil_append] at hw)
  (try replace hc0 := Sep.Holds.cells hw (i := 0) rfl); (try replace hc1 := Sep.Holds.cells hw (i := 1) rfl); (try replace hc2 := Sep.Holds.cells hw (i := 2) rfl); (try replace hc3 := Sep.Holds.cells hw (i := 3) rfl); (try replace hc4 := Sep.Holds.cells hw (i := 4) rfl); (try replace hc5 := Sep.Holds.cells hw (i := 5) rfl); (try replace hc6 := Sep.Holds.cells hw (i := 6) rfl)
  obtain ⟨a1, k1, rfl⟩ := Sl.value (i := 4) rfl hw
  obtain ⟨e1, he1⟩ : ∃ e1, eS s = e1 := ⟨_, rfl⟩
  rw [he1]
  have He1 := Sep.hid he1; clear he1
  go_wp2_with fail
  have hl1 := own17 s HSs.out hs pa ia pc ic e _ _ (HPs.out.at 0 rfl) (HIs.out.at 0 rfl) hw.focus0
  rw [HA.out] at hl1
  refine hl1.mono ?_
  clear hl1
  rintro _ w_ ⟨p2, c2, a2, d2, hs2, hl2, rfl, hw_⟩
  have Hl2 := Sep.hid hl2; clear hl2
  clear hw; (try clear hc0); (try clear hc1); (try clear hc2); (try clear hc3); (try clear hc4); (try clear hc5); (try clear hc6); have hw := Holds.unfocus0 hw_; clear hw_; (try simp only [List.map_cons, List.map_nil, List.getD_cons_zero, List.getD_cons_succ, List.getD_nil, List.set_cons_zero, List.set_cons_succ, List.cons_append, List.nil_append, Act.eval, Array.getD_eq_getD_getElem?, List.getElem?_toArray, List.getElem?_cons_succ, List.getElem?_cons_zero, Option.getD_some, Value.cells] at hw); (try simp (disch := first | (simp; done) | (simp; omega)) only [Sep.mid_set, Sep.mid_set2, Sep.mid_set0, Sep.mid_splice, Sep.mid_splice0, List.set_cons_zero, List.set_cons_succ] at hw); (try simp only [Sep.splice, List.take_succ_cons, List.take_zero, List.drop_succ_cons, List.drop_zero, List.length_cons, List.length_nil, Nat.reduceAdd, List.cons_append, List.nil_append] at hw)
  (try replace hc0 := Sep.Holds.cells hw (i := 0) rfl); (try replace hc1 := Sep.Holds.cells hw (i := 1) rfl); (try replace hc2 := Sep.Holds.cells hw (i := 2) rfl); (try replace hc3 := Sep.Holds.cells hw (i := 3) rfl); (try replace hc4 := Sep.Holds.cells hw (i := 4) rfl); (try replace hc5 := Sep.Holds.cells hw (i := 5) rfl); (try replace hc6 := Sep.Holds.cells hw (i := 6) rfl)
  have hl1 := rBytesSX s HSs.out hs2 p2 a2 c2 d2 e _ _ ((rdP Hl2.out).at 5 rfl) (rdT.at 6 rfl) hw.focus0
  have hsv : scrV s p2 c2 a2 d2 = [.int .i64 s.r0, .int .i64 s.r1, .int .i64 s.r2, .int .i64 s.r3, .slice p2 s.ps.length c2, .slice a2 s.is.length d2] := rfl
  rw [hsv] at hl1 ⊢
  rw [He1.out] at hl1
  go_wp2_with fail
  refine hl1.mono ?_
  clear hl1 hsv
  rintro _ w_ ⟨v3, rfl, hw_⟩
  clear hw; (try clear hc0); (try clear hc1); (try clear hc2); (try clear hc3); (try clear hc4); (try clear hc5); (try clear hc6); have hw := Holds.unfocus0 hw_; clear hw_; (try simp only [List.map_cons, List.map_nil, List.getD_cons_zero, List.getD_cons_succ, List.getD_nil, List.set_cons_zero, List.set_cons_succ, List.cons_append, List.nil_append, Act.eval, Array.getD_eq_getD_getElem?, List.getElem?_toArray, List.getElem?_cons_succ, List.getElem?_cons_zero, Option.getD_some, Value.cells] at hw); (try simp (disch := first | (simp; done) | (simp; omega)) only [Sep.mid_set, Sep.mid_set2, Sep.mid_set0, Sep.mid_splice, Sep.mid_splice0, List.set_cons_zero, List.set_cons_succ] at hw); (try simp only [Sep.splice, List.take_succ_cons, List.take_zero, List.drop_succ_cons, List.drop_zero, List.length_cons, List.length_nil, Nat.reduceAdd, List.cons_append, List.nil_append] at hw)
  obtain ⟨q3, k3, rfl⟩ := Sl.value (i := 7) rfl hw
  have hw := hw.sel [0, 1, 2, 3, 4, 7] (by decide)
  (try simp only [List.map_cons, List.map_nil, List.getD_cons_zero, List.getD_cons_succ, List.getD_nil, List.set_cons_zero, List.set_cons_succ, List.cons_append, List.nil_append, Act.eval, Array.getD_eq_getD_getElem?, List.getElem?_toArray, List.getElem?_cons_succ, List.getElem?_cons_zero, Option.getD_some, Value.cells] at hw); (try simp (disch := first | (simp; done) | (simp; omega)) only [Sep.mid_set, Sep.mid_set2, Sep.mid_set0, Sep.mid_splice, Sep.mid_splice0, List.set_cons_zero, List.set_cons_succ] at hw); (try simp only [Sep.splice, List.take_succ_cons, List.take_zero, List.drop_succ_cons, List.drop_zero, List.length_cons, List.length_nil, Nat.reduceAdd, List.cons_append, List.nil_append] at hw)
  (try replace hc0 := Sep.Holds.cells hw (i := 0) rfl); (try replace hc1 := Sep.Holds.cells hw (i := 1) rfl); (try replace hc2 := Sep.Holds.cells hw (i := 2) rfl); (try replace hc3 := Sep.Holds.cells hw (i := 3) rfl); (try replace hc4 := Sep.Holds.cells hw (i := 4) rfl); (try replace hc5 := Sep.Holds.cells hw (i := 5) rfl); (try replace hc6 := Sep.Holds.cells hw (i := 6) rfl)
  have hSm := readS_small Hbys.out
  have hr1 := fun w X hT hR hw => oReadS b lb cb ab Hlb hcb Hbys.out e w X hT hR hw
  have hr2 := fun w X hR hw => rReadS b lb cb ab Hlb hcb Hbys.out e w X hR hw
  generalize readS b = r at *
  obtain ⟨u, er⟩ := r
  have HSu : Hid (Small u) := Sep.hid hSm; clear hSm
  have Hr1 := Sep.hid hr1; have Hr2 := Sep.hid hr2; clear hr1 hr2
  obtain ⟨n3, hn3⟩ : ∃ n3, u.ps.length = n3 := ⟨_, rfl⟩
  obtain ⟨i3, hi3⟩ : ∃ i3, u.is.length = i3 := ⟨_, rfl⟩
  have Hsv : Hid (∀ p3 c3 a3 d3, scrV u p3 c3 a3 d3 = [.int .i64 u.r0, .int .i64 u.r1, .int .i64 u.r2, .int .i64 u.r3, .slice p3 n3 c3, .slice a3 i3 d3]) := Sep.hid (fun p3 c3 a3 d3 => by rw [← hn3, ← hi3]; rfl)
  have Hi3 := Sep.hid hi3; clear hn3 hi3
  go_wp2_with fail
  refine (Hr1.out _ _ HT.out.sep (HRb.out.at 0 rfl) hw.focus0).mono ?_
  rintro _ w_ ⟨p3, c3, a3, d3, hs3, hl3, rfl, hw_⟩
  have Hl3 := Sep.hid hl3; clear hl3
  rw [Hsv.out]
  clear hw; (try clear hc0); (try clear hc1); (try clear hc2); (try clear hc3); (try clear hc4); (try clear hc5); (try clear hc6); have hw := Holds.unfocus0 hw_; clear hw_; (try simp only [List.map_cons, List.map_nil, List.getD_cons_zero, List.getD_cons_succ, List.getD_nil, List.set_cons_zero, List.set_cons_succ, List.cons_append, List.nil_append, Act.eval, Array.getD_eq_getD_getElem?, List.getElem?_toArray, List.getElem?_cons_succ, List.getElem?_cons_zero, Option.getD_some, Value.cells] at hw); (try simp (disch := first | (simp; done) | (simp; omega)) only [Sep.mid_set, Sep.mid_set2, Sep.mid_set0, Sep.mid_splice, Sep.mid_splice0, List.set_cons_zero, List.set_cons_succ] at hw); (try simp only [Sep.splice, List.take_succ_cons, List.take_zero, List.drop_succ_cons, List.drop_zero, List.length_cons, List.length_nil, Nat.reduceAdd, List.cons_append, List.nil_append] at hw)
  (try replace hc0 := Sep.Holds.cells hw (i := 0) rfl); (try replace hc1 := Sep.Holds.cells hw (i := 1) rfl); (try replace hc2 := Sep.Holds.cells hw (i := 2) rfl); (try replace hc3 := Sep.Holds.cells hw (i := 3) rfl); (try replace hc4 := Sep.Holds.cells hw (i := 4) rfl); (try replace hc5 := Sep.Holds.cells hw (i := 5) rfl); (try replace hc6 := Sep.Holds.cells hw (i := 6) rfl)
  go_wp2_with (first | (refine wpList_on rfl (wp_alloc rfl hw ?_); intro b13_ w_ hw_; clear hw; have hw := hw_; clear hw_; (try simp only [List.map_cons, List.map_nil, List.getD_cons_zero, List.getD_cons_succ, List.getD_nil, List.set_cons_zero, List.set_cons_succ, List.cons_append, List.nil_append, Act.eval, Array.getD_eq_getD_getElem?, List.getElem?_toArray, List.getElem?_cons_succ, List.getElem?_cons_zero, Option.getD_some, Value.cells] at hw); (try simp (disch := first | (simp; done) | (simp; omega)) only [Sep.mid_set, Sep.mid_set2, Sep.mid_set0, Sep.mid_splice, Sep.mid_splice0, List.set_cons_zero, List.set_cons_succ] at hw); (try simp only [Sep.splice, List.take_succ_cons, List.take_zero, List.drop_succ_cons, List.drop_zero, List.length_cons, List.length_nil, Nat.reduceAdd, List.cons_append, List.nil_append] at hw); (try replace hc0 := Sep.Holds.cells hw (i := 0) rfl); (try replace hc1 := Sep.Holds.cells hw (i := 1) rfl); (try replace hc2 := Sep.Holds.cells hw (i := 2) rfl); (try replace hc3 := Sep.Holds.cells hw (i := 3) rfl); (try replace hc4 := Sep.Holds.cells hw (i := 4) rfl); (try replace hc5 := Sep.Holds.cells hw (i := 5) rfl); (try replace hc6 := Sep.Holds.cells hw (i := 6) rfl)) | (refine wpList_on rfl (wp_storeAll (vs := [.int .i64 u.r0, .int .i64 u.r1, .int .i64 u.r2, .int .i64 u.r3, .slice p3 n3 c3, .slice a3 i3 d3]) rfl rfl (by rfl) hw (i := 8) rfl rfl rfl (by simp [Value.oneCell']) ?_); intro w_ hw_; clear hw; have hw := hw_; clear hw_; (try simp only [List.map_cons, List.map_nil, List.getD_cons_zero, List.getD_cons_succ, List.getD_nil, List.set_cons_zero, List.set_cons_succ, List.cons_append, List.nil_append, Act.eval, Array.getD_eq_getD_getElem?, List.getElem?_toArray, List.getElem?_cons_succ, List.getElem?_cons_zero, Option.getD_some, Value.cells] at hw); (try simp (disch := first | (simp; done) | (simp; omega)) only [Sep.mid_set, Sep.mid_set2, Sep.mid_set0, Sep.mid_splice, Sep.mid_splice0, List.set_cons_zero, List.set_cons_succ] at hw); (try simp only [Sep.splice, List.take_succ_cons, List.take_zero, List.drop_succ_cons, List.drop_zero, List.length_cons, List.length_nil, Nat.reduceAdd, List.cons_append, List.nil_append] at hw); (try replace hc0 := Sep.Holds.cells hw (i := 0) rfl); (try replace hc1 := Sep.Holds.cells hw (i := 1) rfl); (try replace hc2 := Sep.Holds.cells hw (i := 2) rfl); (try replace hc3 := Sep.Holds.cells hw (i := 3) rfl); (try replace hc4 := Sep.Holds.cells hw (i := 4) rfl); (try replace hc5 := Sep.Holds.cells hw (i := 5) rfl); (try replace hc6 := Sep.Holds.cells hw (i := 6) rfl)))
  refine (Hr2.out _ _ (HRb.out.at 0 rfl) hw.focus0).mono ?_
  rintro _ w_ ⟨p4, c4, a4, d4, hs4, hl4, rfl, hw_⟩
  have Hl4 := Sep.hid hl4; clear hl4
  rw [Hsv.out]
  clear hw; (try clear hc0); (try clear hc1); (try clear hc2); (try clear hc3); (try clear hc4); (try clear hc5); (try clear hc6); have hw := Holds.unfocus0 hw_; clear hw_; (try simp only [List.map_cons, List.map_nil, List.getD_cons_zero, List.getD_cons_succ, List.getD_nil, List.set_cons_zero, List.set_cons_succ, List.cons_append, List.nil_append, Act.eval, Array.getD_eq_getD_getElem?, List.getElem?_toArray, List.getElem?_cons_succ, List.getElem?_cons_zero, Option.getD_some, Value.cells] at hw); (try simp (disch := first | (simp; done) | (simp; omega)) only [Sep.mid_set, Sep.mid_set2, Sep.mid_set0, Sep.mid_splice, Sep.mid_splice0, List.set_cons_zero, List.set_cons_succ] at hw); (try simp only [Sep.splice, List.take_succ_cons, List.take_zero, List.drop_succ_cons, List.drop_zero, List.length_cons, List.length_nil, Nat.reduceAdd, List.cons_append, List.nil_append] at hw)
  (try replace hc0 := Sep.Holds.cells hw (i := 0) rfl); (try replace hc1 := Sep.Holds.cells hw (i := 1) rfl); (try replace hc2 := Sep.Holds.cells hw (i := 2) rfl); (try replace hc3 := Sep.Holds.cells hw (i := 3) rfl); (try replace hc4 := Sep.Holds.cells hw (i := 4) rfl); (try replace hc5 := Sep.Holds.cells hw (i := 5) rfl); (try replace hc6 := Sep.Holds.cells hw (i := 6) rfl)
  go_wp2_with (first | (refine wpList_on rfl (wp_alloc rfl hw ?_); intro b15_ w_ hw_; clear hw; have hw := hw_; clear hw_; (try simp only [List.map_cons, List.map_nil, List.getD_cons_zero, List.getD_cons_succ, List.getD_nil, List.set_cons_zero, List.set_cons_succ, List.cons_append, List.nil_append, Act.eval, Array.getD_eq_getD_getElem?, List.getElem?_toArray, List.getElem?_cons_succ, List.getElem?_cons_zero, Option.getD_some, Value.cells] at hw); (try simp (disch := first | (simp; done) | (simp; omega)) only [Sep.mid_set, Sep.mid_set2, Sep.mid_set0, Sep.mid_splice, Sep.mid_splice0, List.set_cons_zero, List.set_cons_succ] at hw); (try simp only [Sep.splice, List.take_succ_cons, List.take_zero, List.drop_succ_cons, List.drop_zero, List.length_cons, List.length_nil, Nat.reduceAdd, List.cons_append, List.nil_append] at hw); (try replace hc0 := Sep.Holds.cells hw (i := 0) rfl); (try replace hc1 := Sep.Holds.cells hw (i := 1) rfl); (try replace hc2 := Sep.Holds.cells hw (i := 2) rfl); (try replace hc3 := Sep.Holds.cells hw (i := 3) rfl); (try replace hc4 := Sep.Holds.cells hw (i := 4) rfl); (try replace hc5 := Sep.Holds.cells hw (i := 5) rfl); (try replace hc6 := Sep.Holds.cells hw (i := 6) rfl)) | (refine wpList_on rfl (wp_storeAll (vs := [.int .i64 u.r0, .int .i64 u.r1, .int .i64 u.r2, .int .i64 u.r3, .slice p4 n3 c4, .slice a4 i3 d4]) rfl rfl (by rfl) hw (i := 11) rfl rfl rfl (by simp [Value.oneCell']) ?_); intro w_ hw_; clear hw; have hw := hw_; clear hw_; (try simp only [List.map_cons, List.map_nil, List.getD_cons_zero, List.getD_cons_succ, List.getD_nil, List.set_cons_zero, List.set_cons_succ, List.cons_append, List.nil_append, Act.eval, Array.getD_eq_getD_getElem?, List.getElem?_toArray, List.getElem?_cons_succ, List.getElem?_cons_zero, Option.getD_some, Value.cells] at hw); (try simp (disch := first | (simp; done) | (simp; omega)) only [Sep.mid_set, Sep.mid_set2, Sep.mid_set0, Sep.mid_splice, Sep.mid_splice0, List.set_cons_zero, List.set_cons_succ] at hw); (try simp only [Sep.splice, List.take_succ_cons, List.take_zero, List.drop_succ_cons, List.drop_zero, List.length_cons, List.length_nil, Nat.reduceAdd, List.cons_append, List.nil_append] at hw); (try replace hc0 := Sep.Holds.cells hw (i := 0) rfl); (try replace hc1 := Sep.Holds.cells hw (i := 1) rfl); (try replace hc2 := Sep.Holds.cells hw (i := 2) rfl); (try replace hc3 := Sep.Holds.cells hw (i := 3) rfl); (try replace hc4 := Sep.Holds.cells hw (i := 4) rfl); (try replace hc5 := Sep.Holds.cells hw (i := 5) rfl); (try replace hc6 := Sep.Holds.cells hw (i := 6) rfl)))
  have HP3 := Sep.hid (rdP (TP := 57) (TA := 56) (e := e) (a := p3) (c := c3) (hs := hs3) (ps := u.ps) Hl3.out)
  have HI3 := Sep.hid (rdT (T := 23) (e := e) (n := u.is.length) (ca := d3) (a := a3) (l := u.is))
  have HP4 := Sep.hid (rdP (TP := 62) (TA := 82) (e := e) (a := p4) (c := c4) (hs := hs4) (ps := u.ps) Hl4.out)
  have HI4 := Sep.hid (rdT (T := 47) (e := e) (n := u.is.length) (ca := d4) (a := a4) (l := u.is))
  have Hbl := Sep.hid (bS_len s)
  refine wp_region_L [1, 3, 7, 9, 10, 16, 25, 27, 37, 39, 41, 42] [(0, (fun w' => w' = w_.drew)), (2, (fun w' => Holds e w' [pt b4_ [.int .i64 x.d, .int .i64 x.a, .int .i64 x.n] 23, pt b5_ [.int .i64 s.r0, .int .i64 s.r1, .int .i64 s.r2, .int .i64 s.r3, .slice pa n1 pc, .slice ia i1 ic] 28, pt b6_ [.int .i64 t.r0, .int .i64 t.r1, .int .i64 t.r2, .int .i64 t.r3, .slice pb n2 qc, .slice ib i2 jc] 28, pt b13_ [.int .i64 u.r0, .int .i64 u.r1, .int .i64 u.r2, .int .i64 u.r3, .slice p3 n3 c3, .slice a3 i3 d3] 28, pt b15_ [.int .i64 u.r0, .int .i64 u.r1, .int .i64 u.r2, .int .i64 u.r3, .slice p4 n3 c4, .slice a4 i3 d4] 39])), (6, (fun w' => Holds e w' [pt b4_ [.int .i64 x.d, .int .i64 x.a, .int .i64 x.n] 23, pt b5_ [.int .i64 s.r0, .int .i64 s.r1, .int .i64 s.r2, .int .i64 s.r3, .slice pa n1 pc, .slice ia i1 ic] 28, pt b6_ [.int .i64 t.r0, .int .i64 t.r1, .int .i64 t.r2, .int .i64 t.r3, .slice pb n2 qc, .slice ib i2 jc] 28, pt b13_ [.int .i64 u.r0, .int .i64 u.r1, .int .i64 u.r2, .int .i64 u.r3, .slice p3 n3 c3, .slice a3 i3 d3] 28, pt b15_ [.int .i64 u.r0, .int .i64 u.r1, .int .i64 u.r2, .int .i64 u.r3, .slice p4 n3 c4, .slice a4 i3 d4] 39])), (8, (fun w' => Holds e w' [pt b4_ [.int .i64 x.d, .int .i64 x.a, .int .i64 x.n] 23, pt b5_ [.int .i64 s.r0, .int .i64 s.r1, .int .i64 s.r2, .int .i64 s.r3, .slice pa n1 pc, .slice ia i1 ic] 28, pt b6_ [.int .i64 t.r0, .int .i64 t.r1, .int .i64 t.r2, .int .i64 t.r3, .slice pb n2 qc, .slice ib i2 jc] 28, pt b13_ [.int .i64 u.r0, .int .i64 u.r1, .int .i64 u.r2, .int .i64 u.r3, .slice p3 n3 c3, .slice a3 i3 d3] 28, pt b15_ [.int .i64 u.r0, .int .i64 u.r1, .int .i64 u.r2, .int .i64 u.r3, .slice p4 n3 c4, .slice a4 i3 d4] 39])), (24, (fun w' => Holds e w' [pt b4_ [.int .i64 x.d, .int .i64 x.a, .int .i64 x.n] 23, pt b5_ [.int .i64 s.r0, .int .i64 s.r1, .int .i64 s.r2, .int .i64 s.r3, .slice pa n1 pc, .slice ia i1 ic] 28, pt b6_ [.int .i64 t.r0, .int .i64 t.r1, .int .i64 t.r2, .int .i64 t.r3, .slice pb n2 qc, .slice ib i2 jc] 28, pt b13_ [.int .i64 u.r0, .int .i64 u.r1, .int .i64 u.r2, .int .i64 u.r3, .slice p3 n3 c3, .slice a3 i3 d3] 28, pt b15_ [.int .i64 u.r0, .int .i64 u.r1, .int .i64 u.r2, .int .i64 u.r3, .slice p4 n3 c4, .slice a4 i3 d4] 39])), (26, (fun w' => Holds e w' [pt b4_ [.int .i64 x.d, .int .i64 x.a, .int .i64 x.n] 23, pt b5_ [.int .i64 s.r0, .int .i64 s.r1, .int .i64 s.r2, .int .i64 s.r3, .slice pa n1 pc, .slice ia i1 ic] 28, pt b6_ [.int .i64 t.r0, .int .i64 t.r1, .int .i64 t.r2, .int .i64 t.r3, .slice pb n2 qc, .slice ib i2 jc] 28, pt b13_ [.int .i64 u.r0, .int .i64 u.r1, .int .i64 u.r2, .int .i64 u.r3, .slice p3 n3 c3, .slice a3 i3 d3] 28, pt b15_ [.int .i64 u.r0, .int .i64 u.r1, .int .i64 u.r2, .int .i64 u.r3, .slice p4 n3 c4, .slice a4 i3 d4] 39])), (35, (fun w' => Holds e w' [pt b4_ [.int .i64 x.d, .int .i64 x.a, .int .i64 x.n] 23, pt b5_ [.int .i64 s.r0, .int .i64 s.r1, .int .i64 s.r2, .int .i64 s.r3, .slice pa n1 pc, .slice ia i1 ic] 28, pt b6_ [.int .i64 t.r0, .int .i64 t.r1, .int .i64 t.r2, .int .i64 t.r3, .slice pb n2 qc, .slice ib i2 jc] 28, pt b13_ [.int .i64 u.r0, .int .i64 u.r1, .int .i64 u.r2, .int .i64 u.r3, .slice p3 n3 c3, .slice a3 i3 d3] 28, pt b15_ [.int .i64 u.r0, .int .i64 u.r1, .int .i64 u.r2, .int .i64 u.r3, .slice p4 n3 c4, .slice a4 i3 d4] 39])), (36, (fun w' => Holds e w' [pt b4_ [.int .i64 x.d, .int .i64 x.a, .int .i64 x.n] 23, pt b5_ [.int .i64 s.r0, .int .i64 s.r1, .int .i64 s.r2, .int .i64 s.r3, .slice pa n1 pc, .slice ia i1 ic] 28, pt b6_ [.int .i64 t.r0, .int .i64 t.r1, .int .i64 t.r2, .int .i64 t.r3, .slice pb n2 qc, .slice ib i2 jc] 28, pt b13_ [.int .i64 u.r0, .int .i64 u.r1, .int .i64 u.r2, .int .i64 u.r3, .slice p3 n3 c3, .slice a3 i3 d3] 28, pt b15_ [.int .i64 u.r0, .int .i64 u.r1, .int .i64 u.r2, .int .i64 u.r3, .slice p4 n3 c4, .slice a4 i3 d4] 39])), (38, (fun w' => Holds e w' [pt b4_ [.int .i64 x.d, .int .i64 x.a, .int .i64 x.n] 23, pt b5_ [.int .i64 s.r0, .int .i64 s.r1, .int .i64 s.r2, .int .i64 s.r3, .slice pa n1 pc, .slice ia i1 ic] 28, pt b6_ [.int .i64 t.r0, .int .i64 t.r1, .int .i64 t.r2, .int .i64 t.r3, .slice pb n2 qc, .slice ib i2 jc] 28, pt b13_ [.int .i64 u.r0, .int .i64 u.r1, .int .i64 u.r2, .int .i64 u.r3, .slice p3 n3 c3, .slice a3 i3 d3] 28, pt b15_ [.int .i64 u.r0, .int .i64 u.r1, .int .i64 u.r2, .int .i64 u.r3, .slice p4 n3 c4, .slice a4 i3 d4] 39])), (40, (fun w' => Holds e w' [pt b4_ [.int .i64 x.d, .int .i64 x.a, .int .i64 x.n] 23, pt b5_ [.int .i64 s.r0, .int .i64 s.r1, .int .i64 s.r2, .int .i64 s.r3, .slice pa n1 pc, .slice ia i1 ic] 28, pt b6_ [.int .i64 t.r0, .int .i64 t.r1, .int .i64 t.r2, .int .i64 t.r3, .slice pb n2 qc, .slice ib i2 jc] 28, pt b13_ [.int .i64 u.r0, .int .i64 u.r1, .int .i64 u.r2, .int .i64 u.r3, .slice p3 n3 c3, .slice a3 i3 d3] 28, pt b15_ [.int .i64 u.r0, .int .i64 u.r1, .int .i64 u.r2, .int .i64 u.r3, .slice p4 n3 c4, .slice a4 i3 d4] 39]))] (n := 46) (listed := (marks 46 0)) (by kernel_rfl) rfl (by kernel_rfl) ?conds1 ?_
  case conds1 =>
   intro c hc
   simp only [List.mem_cons, List.not_mem_nil, or_false] at hc
   rcases hc with rfl | rfl | rfl | rfl | rfl | rfl | rfl | rfl | rfl | rfl
   · rfl
   · exact (by replace hw := hw.drew; exact hw.sel [1, 2, 3, 8, 11] (by decide))
   · exact (by replace hw := hw.drew; exact hw.sel [1, 2, 3, 8, 11] (by decide))
   · exact (by replace hw := hw.drew; exact hw.sel [1, 2, 3, 8, 11] (by decide))
   · exact (by replace hw := hw.drew; exact hw.sel [1, 2, 3, 8, 11] (by decide))
   · exact (by replace hw := hw.drew; exact hw.sel [1, 2, 3, 8, 11] (by decide))
   · exact (by replace hw := hw.drew; exact hw.sel [1, 2, 3, 8, 11] (by decide))
   · exact (by replace hw := hw.drew; exact hw.sel [1, 2, 3, 8, 11] (by decide))
   · exact (by replace hw := hw.drew; exact hw.sel [1, 2, 3, 8, 11] (by decide))
   · exact (by replace hw := hw.drew; exact hw.sel [1, 2, 3, 8, 11] (by decide))
  replace hw := hw.drew
  (try replace hc0 := Sep.Holds.cells hw (i := 0) rfl); (try replace hc1 := Sep.Holds.cells hw (i := 1) rfl); (try replace hc2 := Sep.Holds.cells hw (i := 2) rfl); (try replace hc3 := Sep.Holds.cells hw (i := 3) rfl); (try replace hc4 := Sep.Holds.cells hw (i := 4) rfl); (try replace hc5 := Sep.Holds.cells hw (i := 5) rfl); (try replace hc6 := Sep.Holds.cells hw (i := 6) rfl)
  refine wpL_m 0 ?_ rfl (.head _) (Or.inl ⟨by rfl, fun w_ hS_ => ?_⟩) (marks 46 1) ?_
  rotate_left
  next => (subst hS_; go_simp; try (first | rfl | exact (Bool.not_not _).symm))
  try simp only [Act.put, List.setIfInBounds_toArray, List.set_cons_zero, List.set_cons_succ]
  refine wpL_m 2 ?_ rfl (.tail _ (.head _)) (Or.inl ⟨by rfl, fun w_ hS_ => ?_⟩) (marks 46 5) ?_
  rotate_left
  next => (dsimp only at hS_; (try have q0 := Sep.Holds.cells hS_ (i := 0) rfl); (try have q1 := Sep.Holds.cells hS_ (i := 1) rfl); (try have q2 := Sep.Holds.cells hS_ (i := 2) rfl); (try have q3 := Sep.Holds.cells hS_ (i := 3) rfl); (try have q4 := Sep.Holds.cells hS_ (i := 4) rfl); (try have q5 := Sep.Holds.cells hS_ (i := 5) rfl); (try have q6 := Sep.Holds.cells hS_ (i := 6) rfl); go_simp; try (first | rfl | exact (Bool.not_not _).symm))
  try simp only [Act.put, List.setIfInBounds_toArray, List.set_cons_zero, List.set_cons_succ]
  refine wpL_o 1 rfl (by rfl) (marks 46 7) ?_
  (go_simp; go_at_call 13; refine (oItem x e _ _ hw.focus0).mono ?_; rintro _ w_ ⟨rfl, hw_⟩; clear hw; have hw := Holds.unfocus0 hw_; clear hw_; (try simp only [List.map_cons, List.map_nil, List.getD_cons_zero, List.getD_cons_succ, List.getD_nil, List.set_cons_zero, List.set_cons_succ, List.cons_append, List.nil_append, Act.eval, Array.getD_eq_getD_getElem?, List.getElem?_toArray, List.getElem?_cons_succ, List.getElem?_cons_zero, Option.getD_some, Value.cells] at hw); (try simp (disch := first | (simp; done) | (simp; omega)) only [Sep.mid_set, Sep.mid_set2, Sep.mid_set0, Sep.mid_splice, Sep.mid_splice0, List.set_cons_zero, List.set_cons_succ] at hw); (try simp only [Sep.splice, List.take_succ_cons, List.take_zero, List.drop_succ_cons, List.drop_zero, List.length_cons, List.length_nil, Nat.reduceAdd, List.cons_append, List.nil_append] at hw))
  refine ⟨(SL.drop 1 (by kernel_rfl) (SL.keep (by exact hw.sel [1, 2, 3, 8, 11] (by decide)) (SL.keep (by exact hw.sel [1, 2, 3, 8, 11] (by decide)) (SL.keep (by exact hw.sel [1, 2, 3, 8, 11] (by decide)) (SL.keep (by exact hw.sel [1, 2, 3, 8, 11] (by decide)) (SL.keep (by exact hw.sel [1, 2, 3, 8, 11] (by decide)) (SL.keep (by exact hw.sel [1, 2, 3, 8, 11] (by decide)) (SL.keep (by exact hw.sel [1, 2, 3, 8, 11] (by decide)) (SL.keep (by exact hw.sel [1, 2, 3, 8, 11] (by decide)) (SL.keep (by exact hw.sel [1, 2, 3, 8, 11] (by decide)) SL.nil)))))))))), ?_⟩
  try simp only [Act.put, List.setIfInBounds_toArray, List.set_cons_zero, List.set_cons_succ]
  refine wpL_o 3 rfl (by rfl) (marks 46 15) ?_
  (go_simp; go_at_call 14; refine (rItem x e _ _ hw.focus0).mono ?_; rintro _ w_ ⟨rfl, hw_⟩; clear hw; have hw := Holds.unfocus0 hw_; clear hw_; (try simp only [List.map_cons, List.map_nil, List.getD_cons_zero, List.getD_cons_succ, List.getD_nil, List.set_cons_zero, List.set_cons_succ, List.cons_append, List.nil_append, Act.eval, Array.getD_eq_getD_getElem?, List.getElem?_toArray, List.getElem?_cons_succ, List.getElem?_cons_zero, Option.getD_some, Value.cells] at hw); (try simp (disch := first | (simp; done) | (simp; omega)) only [Sep.mid_set, Sep.mid_set2, Sep.mid_set0, Sep.mid_splice, Sep.mid_splice0, List.set_cons_zero, List.set_cons_succ] at hw); (try simp only [Sep.splice, List.take_succ_cons, List.take_zero, List.drop_succ_cons, List.drop_zero, List.length_cons, List.length_nil, Nat.reduceAdd, List.cons_append, List.nil_append] at hw))
  refine ⟨(SL.drop 1 (by kernel_rfl) (SL.drop 3 (by kernel_rfl) (SL.keep (by exact hw.sel [1, 2, 3, 8, 11] (by decide)) (SL.keep (by exact hw.sel [1, 2, 3, 8, 11] (by decide)) (SL.keep (by exact hw.sel [1, 2, 3, 8, 11] (by decide)) (SL.keep (by exact hw.sel [1, 2, 3, 8, 11] (by decide)) (SL.keep (by exact hw.sel [1, 2, 3, 8, 11] (by decide)) (SL.keep (by exact hw.sel [1, 2, 3, 8, 11] (by decide)) (SL.keep (by exact hw.sel [1, 2, 3, 8, 11] (by decide)) (SL.keep (by exact hw.sel [1, 2, 3, 8, 11] (by decide)) SL.nil)))))))))), ?_⟩
  try simp only [Act.put, List.setIfInBounds_toArray, List.set_cons_zero, List.set_cons_succ]
  refine wpL_q 4 ?_ rfl (Or.inl ⟨by rfl, fun w_ hS_ => ?_⟩) (marks 46 31) ?_
  rotate_left
  next => (go_simp; try (first | rfl | exact (Bool.not_not _).symm))
  try simp only [Act.put, List.setIfInBounds_toArray, List.set_cons_zero, List.set_cons_succ]
  refine wpL_b 5 ?_ rfl (Or.inl ⟨by rfl, fun w_ hS_ => ?_⟩) (marks 46 63) ?_
  rotate_left
  next => (go_simp; try (first | rfl | exact (Bool.not_not _).symm))
  intro bb_ hg5
  cases bb_
  case' true =>
   (try simp only [decide_eq_true_eq, decide_eq_false_iff_not, beq_iff_eq, beq_eq_false_iff_ne, bne_iff_ne, bne_eq_false_iff_eq, Bool.not_eq_true', Bool.not_eq_false', Int.not_lt, Int.not_le] at hg5)
   first | (cases hg5; done) | (exfalso; omega; done) | skip
   all_goals
    try replace hg5 := Sep.hid hg5
    try simp only [Act.put, List.setIfInBounds_toArray, List.set_cons_zero, List.set_cons_succ]
    refine wpL_m 6 ?_ rfl (.tail _ (.tail _ (.head _))) (Or.inl ⟨by rfl, fun w_ hS_ => ?_⟩) (marks 46 127) ?_
    rotate_left
    next => (dsimp only at hS_; (try have q0 := Sep.Holds.cells hS_ (i := 0) rfl); (try have q1 := Sep.Holds.cells hS_ (i := 1) rfl); (try have q2 := Sep.Holds.cells hS_ (i := 2) rfl); (try have q3 := Sep.Holds.cells hS_ (i := 3) rfl); (try have q4 := Sep.Holds.cells hS_ (i := 4) rfl); (try have q5 := Sep.Holds.cells hS_ (i := 5) rfl); (try have q6 := Sep.Holds.cells hS_ (i := 6) rfl); go_simp; try (first | rfl | exact (Bool.not_not _).symm))
    try simp only [Act.put, List.setIfInBounds_toArray, List.set_cons_zero, List.set_cons_succ]
    refine wpL_m 8 ?_ rfl (.tail _ (.tail _ (.tail _ (.head _)))) (Or.inl ⟨by rfl, fun w_ hS_ => ?_⟩) (marks 46 383) ?_
    rotate_left
    next => (dsimp only at hS_; (try have q0 := Sep.Holds.cells hS_ (i := 0) rfl); (try have q1 := Sep.Holds.cells hS_ (i := 1) rfl); (try have q2 := Sep.Holds.cells hS_ (i := 2) rfl); (try have q3 := Sep.Holds.cells hS_ (i := 3) rfl); (try have q4 := Sep.Holds.cells hS_ (i := 4) rfl); (try have q5 := Sep.Holds.cells hS_ (i := 5) rfl); (try have q6 := Sep.Holds.cells hS_ (i := 6) rfl); go_simp; try (first | rfl | exact (Bool.not_not _).symm))
    try simp only [Act.put, List.setIfInBounds_toArray, List.set_cons_zero, List.set_cons_succ]
    refine wpL_o 7 rfl (by rfl) (marks 46 511) ?_
    (go_simp; go_at_call 15; have hl1 := oMayS s HSs.out hs pa ia pc ic e _ _ HT.out.sep (HPs.out.at 0 rfl) (HIs.out.at 0 rfl) hw.focus0; rw [HA.out] at hl1; refine hl1.mono ?_; clear hl1; rintro _ w_ ⟨rfl, hw_⟩; clear hw; have hw := Holds.unfocus0 hw_; clear hw_; (try simp only [List.map_cons, List.map_nil, List.getD_cons_zero, List.getD_cons_succ, List.getD_nil, List.set_cons_zero, List.set_cons_succ, List.cons_append, List.nil_append, Act.eval, Array.getD_eq_getD_getElem?, List.getElem?_toArray, List.getElem?_cons_succ, List.getElem?_cons_zero, Option.getD_some, Value.cells] at hw); (try simp (disch := first | (simp; done) | (simp; omega)) only [Sep.mid_set, Sep.mid_set2, Sep.mid_set0, Sep.mid_splice, Sep.mid_splice0, List.set_cons_zero, List.set_cons_succ] at hw); (try simp only [Sep.splice, List.take_succ_cons, List.take_zero, List.drop_succ_cons, List.drop_zero, List.length_cons, List.length_nil, Nat.reduceAdd, List.cons_append, List.nil_append] at hw))
    refine ⟨(SL.drop 1 (by kernel_rfl) (SL.drop 3 (by kernel_rfl) (SL.drop 7 (by kernel_rfl) (SL.keep (by exact hw.sel [1, 2, 3, 8, 11] (by decide)) (SL.keep (by exact hw.sel [1, 2, 3, 8, 11] (by decide)) (SL.keep (by exact hw.sel [1, 2, 3, 8, 11] (by decide)) (SL.keep (by exact hw.sel [1, 2, 3, 8, 11] (by decide)) (SL.keep (by exact hw.sel [1, 2, 3, 8, 11] (by decide)) (SL.keep (by exact hw.sel [1, 2, 3, 8, 11] (by decide)) (SL.keep (by exact hw.sel [1, 2, 3, 8, 11] (by decide)) SL.nil)))))))))), ?_⟩
    try simp only [Act.put, List.setIfInBounds_toArray, List.set_cons_zero, List.set_cons_succ]
    refine wpL_o 9 rfl (by rfl) (marks 46 1023) ?_
    (go_simp; go_at_call 10; have hl1 := own17 s HSs.out hs pa ia pc ic e _ _ (HPs.out.at 0 rfl) (HIs.out.at 0 rfl) hw.focus0; rw [HA.out] at hl1; refine hl1.mono ?_; clear hl1; rintro _ w_ ⟨p7, c7, a7, d7, hs7, hl7, rfl, hw_⟩; have Hl7 := Sep.hid hl7; clear hl7; clear hw; have hw := Holds.unfocus0 hw_; clear hw_; (try simp only [List.map_cons, List.map_nil, List.getD_cons_zero, List.getD_cons_succ, List.getD_nil, List.set_cons_zero, List.set_cons_succ, List.cons_append, List.nil_append, Act.eval, Array.getD_eq_getD_getElem?, List.getElem?_toArray, List.getElem?_cons_succ, List.getElem?_cons_zero, Option.getD_some, Value.cells] at hw); (try simp (disch := first | (simp; done) | (simp; omega)) only [Sep.mid_set, Sep.mid_set2, Sep.mid_set0, Sep.mid_splice, Sep.mid_splice0, List.set_cons_zero, List.set_cons_succ] at hw); (try simp only [Sep.splice, List.take_succ_cons, List.take_zero, List.drop_succ_cons, List.drop_zero, List.length_cons, List.length_nil, Nat.reduceAdd, List.cons_append, List.nil_append] at hw))
    refine ⟨(SL.drop 1 (by kernel_rfl) (SL.drop 3 (by kernel_rfl) (SL.drop 7 (by kernel_rfl) (SL.drop 9 (by kernel_rfl) (SL.keep (by exact hw.sel [1, 2, 3, 8, 11] (by decide)) (SL.keep (by exact hw.sel [1, 2, 3, 8, 11] (by decide)) (SL.keep (by exact hw.sel [1, 2, 3, 8, 11] (by decide)) (SL.keep (by exact hw.sel [1, 2, 3, 8, 11] (by decide)) (SL.keep (by exact hw.sel [1, 2, 3, 8, 11] (by decide)) (SL.keep (by exact hw.sel [1, 2, 3, 8, 11] (by decide)) SL.nil)))))))))), ?_⟩
    try simp only [Act.put, List.setIfInBounds_toArray, List.set_cons_zero, List.set_cons_succ]
    refine wpL_o 10 rfl (by rfl) (marks 46 2047) ?_
    (go_simp; go_at_call 16; refine (rMayS s HSs.out hs7 p7 a7 c7 d7 e _ _ ((rdP Hl7.out).at 12 rfl) (rdT.at 13 rfl) hw.focus0).mono ?_; rintro _ w_ ⟨rfl, hw_⟩; clear hw; have hw := Holds.unfocus0 hw_; clear hw_; (try simp only [List.map_cons, List.map_nil, List.getD_cons_zero, List.getD_cons_succ, List.getD_nil, List.set_cons_zero, List.set_cons_succ, List.cons_append, List.nil_append, Act.eval, Array.getD_eq_getD_getElem?, List.getElem?_toArray, List.getElem?_cons_succ, List.getElem?_cons_zero, Option.getD_some, Value.cells] at hw); (try simp (disch := first | (simp; done) | (simp; omega)) only [Sep.mid_set, Sep.mid_set2, Sep.mid_set0, Sep.mid_splice, Sep.mid_splice0, List.set_cons_zero, List.set_cons_succ] at hw); (try simp only [Sep.splice, List.take_succ_cons, List.take_zero, List.drop_succ_cons, List.drop_zero, List.length_cons, List.length_nil, Nat.reduceAdd, List.cons_append, List.nil_append] at hw))
    refine ⟨(SL.drop 1 (by kernel_rfl) (SL.drop 3 (by kernel_rfl) (SL.drop 7 (by kernel_rfl) (SL.drop 9 (by kernel_rfl) (SL.keep (by exact hw.sel [1, 2, 3, 8, 11] (by decide)) (SL.keep (by exact hw.sel [1, 2, 3, 8, 11] (by decide)) (SL.keep (by exact hw.sel [1, 2, 3, 8, 11] (by decide)) (SL.keep (by exact hw.sel [1, 2, 3, 8, 11] (by decide)) (SL.keep (by exact hw.sel [1, 2, 3, 8, 11] (by decide)) (SL.keep (by exact hw.sel [1, 2, 3, 8, 11] (by decide)) SL.nil)))))))))), ?_⟩
    try simp only [Act.put, List.setIfInBounds_toArray, List.set_cons_zero, List.set_cons_succ]
    refine wpL_q 11 ?_ rfl (Or.inl ⟨by rfl, fun w_ hS_ => ?_⟩) (marks 46 4095) ?_
    rotate_left
    next => (go_simp; try (first | rfl | exact (Bool.not_not _).symm))
    try simp only [Act.put, List.setIfInBounds_toArray, List.set_cons_zero, List.set_cons_succ]
  case' false =>
   (try simp only [decide_eq_true_eq, decide_eq_false_iff_not, beq_iff_eq, beq_eq_false_iff_ne, bne_iff_ne, bne_eq_false_iff_eq, Bool.not_eq_true', Bool.not_eq_false', Int.not_lt, Int.not_le] at hg5)
   first | (cases hg5; done) | (exfalso; omega; done) | skip
   all_goals
    try replace hg5 := Sep.hid hg5
    try simp only [Act.put, List.setIfInBounds_toArray, List.set_cons_zero, List.set_cons_succ]
    refine wpL_m 6 undef rfl (.tail _ (.tail _ (.head _))) (Or.inr ⟨by rfl, rfl⟩) (marks 46 127) ?_
    try simp only [Act.put, List.setIfInBounds_toArray, List.set_cons_zero, List.set_cons_succ]
    refine wpL_m 8 undef rfl (.tail _ (.tail _ (.tail _ (.head _)))) (Or.inr ⟨by rfl, rfl⟩) (marks 46 383) ?_
    try simp only [Act.put, List.setIfInBounds_toArray, List.set_cons_zero, List.set_cons_succ]
    refine wpL_s 7 rfl (by rfl) (marks 46 511) ?_
    try simp only [Act.put, List.setIfInBounds_toArray, List.set_cons_zero, List.set_cons_succ]
    refine wpL_s 9 rfl (by rfl) (marks 46 1023) ?_
    try simp only [Act.put, List.setIfInBounds_toArray, List.set_cons_zero, List.set_cons_succ]
    refine wpL_s 10 rfl (by rfl) (marks 46 2047) ?_
    try simp only [Act.put, List.setIfInBounds_toArray, List.set_cons_zero, List.set_cons_succ]
    refine wpL_q 11 undef rfl (Or.inr ⟨by rfl, rfl⟩) (marks 46 4095) ?_
    try simp only [Act.put, List.setIfInBounds_toArray, List.set_cons_zero, List.set_cons_succ]
  all_goals
   refine wpL_q 12 ?_ rfl (Or.inl ⟨by rfl, fun w_ hS_ => ?_⟩) (marks 46 8191) ?_
   rotate_left
   next => (go_simp; try (first | rfl | exact (Bool.not_not _).symm))
   try simp only [Act.put, List.setIfInBounds_toArray, List.set_cons_zero, List.set_cons_succ]
   refine wpL_b 13 ?_ rfl (Or.inl ⟨by rfl, fun w_ hS_ => ?_⟩) (marks 46 16383) ?_
   rotate_left
   next => (go_simp; try (first | rfl | exact (Bool.not_not _).symm))
   intro bb_ hg13
   cases bb_
   case' true =>
    (try simp only [decide_eq_true_eq, decide_eq_false_iff_not, beq_iff_eq, beq_eq_false_iff_ne, bne_iff_ne, bne_eq_false_iff_eq, Bool.not_eq_true', Bool.not_eq_false', Int.not_lt, Int.not_le] at hg13)
    first | (cases hg13; done) | (exfalso; omega; done) | skip
    all_goals
     try replace hg13 := Sep.hid hg13
     try simp only [Act.put, List.setIfInBounds_toArray, List.set_cons_zero, List.set_cons_succ]
     refine wpL_q 14 ?_ rfl (Or.inl ⟨by rfl, fun w_ hS_ => ?_⟩) (marks 46 32767) ?_
     rotate_left
     next => (go_simp; try (first | rfl | exact (Bool.not_not _).symm))
     try simp only [Act.put, List.setIfInBounds_toArray, List.set_cons_zero, List.set_cons_succ]
     refine wpL_q 15 ?_ rfl (Or.inl ⟨by rfl, fun w_ hS_ => ?_⟩) (marks 46 65535) ?_
     rotate_left
     next => (go_simp; try (first | rfl | exact (Bool.not_not _).symm))
     try simp only [Act.put, List.setIfInBounds_toArray, List.set_cons_zero, List.set_cons_succ]
     refine wpL_o 16 rfl (by rfl) (marks 46 131071) ?_
     (go_simp; go_at_call 17; refine (sameB a1 q3 (bS s) (bS s) _ _ k1 k3 rfl rfl (by have := Hbl.out; omega) _ (readsB (i := 4) hw rfl) (readsB (i := 5) hw rfl)).mono ?_; rintro _ w_ ⟨rfl, hd_⟩; replace hw := hw.drewTo hd_; clear hd_; rw [decide_eq_true rfl])
     refine ⟨(SL.drop 1 (by kernel_rfl) (SL.drop 3 (by kernel_rfl) (SL.drop 7 (by kernel_rfl) (SL.drop 9 (by kernel_rfl) (SL.keep (by exact hw.sel [1, 2, 3, 8, 11] (by decide)) (SL.keep (by exact hw.sel [1, 2, 3, 8, 11] (by decide)) (SL.keep (by exact hw.sel [1, 2, 3, 8, 11] (by decide)) (SL.keep (by exact hw.sel [1, 2, 3, 8, 11] (by decide)) (SL.keep (by exact hw.sel [1, 2, 3, 8, 11] (by decide)) (SL.keep (by exact hw.sel [1, 2, 3, 8, 11] (by decide)) SL.nil)))))))))), ?_⟩
     try simp only [Act.put, List.setIfInBounds_toArray, List.set_cons_zero, List.set_cons_succ]
   case' false =>
    (try simp only [decide_eq_true_eq, decide_eq_false_iff_not, beq_iff_eq, beq_eq_false_iff_ne, bne_iff_ne, bne_eq_false_iff_eq, Bool.not_eq_true', Bool.not_eq_false', Int.not_lt, Int.not_le] at hg13)
    first | (cases hg13; done) | (exfalso; omega; done) | skip
    all_goals
     try replace hg13 := Sep.hid hg13
     try simp only [Act.put, List.setIfInBounds_toArray, List.set_cons_zero, List.set_cons_succ]
     refine wpL_q 14 undef rfl (Or.inr ⟨by rfl, rfl⟩) (marks 46 32767) ?_
     try simp only [Act.put, List.setIfInBounds_toArray, List.set_cons_zero, List.set_cons_succ]
     refine wpL_q 15 undef rfl (Or.inr ⟨by rfl, rfl⟩) (marks 46 65535) ?_
     try simp only [Act.put, List.setIfInBounds_toArray, List.set_cons_zero, List.set_cons_succ]
     refine wpL_s 16 rfl (by rfl) (marks 46 131071) ?_
     try simp only [Act.put, List.setIfInBounds_toArray, List.set_cons_zero, List.set_cons_succ]
   all_goals
    refine wpL_q 17 ?_ rfl (Or.inl ⟨by rfl, fun w_ hS_ => ?_⟩) (marks 46 262143) ?_
    rotate_left
    next => (go_simp; try (first | rfl | exact (Bool.not_not _).symm))
    try simp only [Act.put, List.setIfInBounds_toArray, List.set_cons_zero, List.set_cons_succ]
    refine wpL_b 18 ?_ rfl (Or.inl ⟨by rfl, fun w_ hS_ => ?_⟩) (marks 46 524287) ?_
    rotate_left
    next => (go_simp; try (first | rfl | exact (Bool.not_not _).symm))
    intro bb_ hg18
    cases bb_
    case' true =>
     (try simp only [decide_eq_true_eq, decide_eq_false_iff_not, beq_iff_eq, beq_eq_false_iff_ne, bne_iff_ne, bne_eq_false_iff_eq, Bool.not_eq_true', Bool.not_eq_false', Int.not_lt, Int.not_le] at hg18)
     first | (cases hg18; done) | (exfalso; omega; done) | skip
     all_goals
      try replace hg18 := Sep.hid hg18
      try simp only [Act.put, List.setIfInBounds_toArray, List.set_cons_zero, List.set_cons_succ]
      refine wpL_q 19 ?_ rfl (Or.inl ⟨by rfl, fun w_ hS_ => ?_⟩) (marks 46 1048575) ?_
      rotate_left
      next => (go_simp; try (first | rfl | exact (Bool.not_not _).symm))
      try simp only [Act.put, List.setIfInBounds_toArray, List.set_cons_zero, List.set_cons_succ]
      refine wpL_q 20 ?_ rfl (Or.inl ⟨by rfl, fun w_ hS_ => ?_⟩) (marks 46 2097151) ?_
      rotate_left
      next => (go_simp; try (first | rfl | exact (Bool.not_not _).symm))
      try simp only [Act.put, List.setIfInBounds_toArray, List.set_cons_zero, List.set_cons_succ]
      refine wpL_q 21 ?_ rfl (Or.inl ⟨by rfl, fun w_ hS_ => ?_⟩) (marks 46 4194303) ?_
      rotate_left
      next => (go_simp; try (first | rfl | exact (Bool.not_not _).symm))
      try simp only [Act.put, List.setIfInBounds_toArray, List.set_cons_zero, List.set_cons_succ]
    case' false =>
     (try simp only [decide_eq_true_eq, decide_eq_false_iff_not, beq_iff_eq, beq_eq_false_iff_ne, bne_iff_ne, bne_eq_false_iff_eq, Bool.not_eq_true', Bool.not_eq_false', Int.not_lt, Int.not_le] at hg18)
     first | (cases hg18; done) | (exfalso; omega; done) | skip
     all_goals
      try replace hg18 := Sep.hid hg18
      try simp only [Act.put, List.setIfInBounds_toArray, List.set_cons_zero, List.set_cons_succ]
      refine wpL_q 19 undef rfl (Or.inr ⟨by rfl, rfl⟩) (marks 46 1048575) ?_
      try simp only [Act.put, List.setIfInBounds_toArray, List.set_cons_zero, List.set_cons_succ]
      refine wpL_q 20 undef rfl (Or.inr ⟨by rfl, rfl⟩) (marks 46 2097151) ?_
      try simp only [Act.put, List.setIfInBounds_toArray, List.set_cons_zero, List.set_cons_succ]
      refine wpL_q 21 undef rfl (Or.inr ⟨by rfl, rfl⟩) (marks 46 4194303) ?_
      try simp only [Act.put, List.setIfInBounds_toArray, List.set_cons_zero, List.set_cons_succ]
    all_goals
     refine wpL_q 22 ?_ rfl (Or.inl ⟨by rfl, fun w_ hS_ => ?_⟩) (marks 46 8388607) ?_
     rotate_left
     next => (go_simp; try (first | rfl | exact (Bool.not_not _).symm))
     try simp only [Act.put, List.setIfInBounds_toArray, List.set_cons_zero, List.set_cons_succ]
     refine wpL_b 23 ?_ rfl (Or.inl ⟨by rfl, fun w_ hS_ => ?_⟩) (marks 46 16777215) ?_
     rotate_left
     next => (go_simp; try (first | rfl | exact (Bool.not_not _).symm))
     intro bb_ hg23
     cases bb_
     case' true =>
      (try simp only [decide_eq_true_eq, decide_eq_false_iff_not, beq_iff_eq, beq_eq_false_iff_ne, bne_iff_ne, bne_eq_false_iff_eq, Bool.not_eq_true', Bool.not_eq_false', Int.not_lt, Int.not_le] at hg23)
      first | (cases hg23; done) | (exfalso; omega; done) | skip
      all_goals
       try replace hg23 := Sep.hid hg23
       try simp only [Act.put, List.setIfInBounds_toArray, List.set_cons_zero, List.set_cons_succ]
       refine wpL_m 24 ?_ rfl (.tail _ (.tail _ (.tail _ (.tail _ (.head _))))) (Or.inl ⟨by rfl, fun w_ hS_ => ?_⟩) (marks 46 33554431) ?_
       rotate_left
       next => (dsimp only at hS_; (try have q0 := Sep.Holds.cells hS_ (i := 0) rfl); (try have q1 := Sep.Holds.cells hS_ (i := 1) rfl); (try have q2 := Sep.Holds.cells hS_ (i := 2) rfl); (try have q3 := Sep.Holds.cells hS_ (i := 3) rfl); (try have q4 := Sep.Holds.cells hS_ (i := 4) rfl); (try have q5 := Sep.Holds.cells hS_ (i := 5) rfl); (try have q6 := Sep.Holds.cells hS_ (i := 6) rfl); go_simp; try (first | rfl | exact (Bool.not_not _).symm))
       try simp only [Act.put, List.setIfInBounds_toArray, List.set_cons_zero, List.set_cons_succ]
       refine wpL_m 26 ?_ rfl (.tail _ (.tail _ (.tail _ (.tail _ (.tail _ (.head _)))))) (Or.inl ⟨by rfl, fun w_ hS_ => ?_⟩) (marks 46 100663295) ?_
       rotate_left
       next => (dsimp only at hS_; (try have q0 := Sep.Holds.cells hS_ (i := 0) rfl); (try have q1 := Sep.Holds.cells hS_ (i := 1) rfl); (try have q2 := Sep.Holds.cells hS_ (i := 2) rfl); (try have q3 := Sep.Holds.cells hS_ (i := 3) rfl); (try have q4 := Sep.Holds.cells hS_ (i := 4) rfl); (try have q5 := Sep.Holds.cells hS_ (i := 5) rfl); (try have q6 := Sep.Holds.cells hS_ (i := 6) rfl); go_simp; try (first | rfl | exact (Bool.not_not _).symm))
       try simp only [Act.put, List.setIfInBounds_toArray, List.set_cons_zero, List.set_cons_succ]
       refine wpL_o 25 rfl (by rfl) (marks 46 134217727) ?_
       (go_simp; go_at_call 10; have hl1 := own17 u HSu.out hs3 p3 a3 c3 d3 e _ _ (HP3.out.at 6 rfl) (HI3.out.at 7 rfl) hw.focus0; rw [Hsv.out] at hl1; refine hl1.mono ?_; clear hl1; rintro _ w_ ⟨p8, c8, a8, d8, hs8, hl8, rfl, hw_⟩; have Hl8 := Sep.hid hl8; clear hl8; clear hw; have hw := Holds.unfocus0 hw_; clear hw_; (try simp only [List.map_cons, List.map_nil, List.getD_cons_zero, List.getD_cons_succ, List.getD_nil, List.set_cons_zero, List.set_cons_succ, List.cons_append, List.nil_append, Act.eval, Array.getD_eq_getD_getElem?, List.getElem?_toArray, List.getElem?_cons_succ, List.getElem?_cons_zero, Option.getD_some, Value.cells] at hw); (try simp (disch := first | (simp; done) | (simp; omega)) only [Sep.mid_set, Sep.mid_set2, Sep.mid_set0, Sep.mid_splice, Sep.mid_splice0, List.set_cons_zero, List.set_cons_succ] at hw); (try simp only [Sep.splice, List.take_succ_cons, List.take_zero, List.drop_succ_cons, List.drop_zero, List.length_cons, List.length_nil, Nat.reduceAdd, List.cons_append, List.nil_append] at hw))
       refine ⟨(SL.drop 1 (by kernel_rfl) (SL.drop 3 (by kernel_rfl) (SL.drop 7 (by kernel_rfl) (SL.drop 9 (by kernel_rfl) (SL.drop 25 (by kernel_rfl) (SL.keep (by exact hw.sel [1, 2, 3, 8, 11] (by decide)) (SL.keep (by exact hw.sel [1, 2, 3, 8, 11] (by decide)) (SL.keep (by exact hw.sel [1, 2, 3, 8, 11] (by decide)) (SL.keep (by exact hw.sel [1, 2, 3, 8, 11] (by decide)) (SL.keep (by exact hw.sel [1, 2, 3, 8, 11] (by decide)) SL.nil)))))))))), ?_⟩
       try simp only [Act.put, List.setIfInBounds_toArray, List.set_cons_zero, List.set_cons_succ]
       refine wpL_o 27 rfl (by rfl) (marks 46 268435455) ?_
       (go_simp; go_at_call 18; have hl1 := rSameS u u HSu.out HSu.out hs8 hs4 p8 p4 a8 a4 c8 d8 c4 d4 e _ _ ((rdP Hl8.out).at 14 rfl) (HP4.out.at 9 rfl) (rdT.at 15 rfl) (HI4.out.at 10 rfl) hw.focus0; rw [Hsv.out p4 c4 a4 d4] at hl1; refine hl1.mono ?_; clear hl1; rintro _ w_ ⟨rfl, hw_⟩; rw [decide_eq_true rfl]; clear hw; have hw := Holds.unfocus0 hw_; clear hw_; (try simp only [List.map_cons, List.map_nil, List.getD_cons_zero, List.getD_cons_succ, List.getD_nil, List.set_cons_zero, List.set_cons_succ, List.cons_append, List.nil_append, Act.eval, Array.getD_eq_getD_getElem?, List.getElem?_toArray, List.getElem?_cons_succ, List.getElem?_cons_zero, Option.getD_some, Value.cells] at hw); (try simp (disch := first | (simp; done) | (simp; omega)) only [Sep.mid_set, Sep.mid_set2, Sep.mid_set0, Sep.mid_splice, Sep.mid_splice0, List.set_cons_zero, List.set_cons_succ] at hw); (try simp only [Sep.splice, List.take_succ_cons, List.take_zero, List.drop_succ_cons, List.drop_zero, List.length_cons, List.length_nil, Nat.reduceAdd, List.cons_append, List.nil_append] at hw))
       refine ⟨(SL.drop 1 (by kernel_rfl) (SL.drop 3 (by kernel_rfl) (SL.drop 7 (by kernel_rfl) (SL.drop 9 (by kernel_rfl) (SL.drop 25 (by kernel_rfl) (SL.drop 27 (by kernel_rfl) (SL.keep (by exact hw.sel [1, 2, 3, 8, 11] (by decide)) (SL.keep (by exact hw.sel [1, 2, 3, 8, 11] (by decide)) (SL.keep (by exact hw.sel [1, 2, 3, 8, 11] (by decide)) (SL.keep (by exact hw.sel [1, 2, 3, 8, 11] (by decide)) SL.nil)))))))))), ?_⟩
       try simp only [Act.put, List.setIfInBounds_toArray, List.set_cons_zero, List.set_cons_succ]
     case' false =>
      (try simp only [decide_eq_true_eq, decide_eq_false_iff_not, beq_iff_eq, beq_eq_false_iff_ne, bne_iff_ne, bne_eq_false_iff_eq, Bool.not_eq_true', Bool.not_eq_false', Int.not_lt, Int.not_le] at hg23)
      first | (cases hg23; done) | (exfalso; omega; done) | skip
      all_goals
       try replace hg23 := Sep.hid hg23
       try simp only [Act.put, List.setIfInBounds_toArray, List.set_cons_zero, List.set_cons_succ]
       refine wpL_m 24 undef rfl (.tail _ (.tail _ (.tail _ (.tail _ (.head _))))) (Or.inr ⟨by rfl, rfl⟩) (marks 46 33554431) ?_
       try simp only [Act.put, List.setIfInBounds_toArray, List.set_cons_zero, List.set_cons_succ]
       refine wpL_m 26 undef rfl (.tail _ (.tail _ (.tail _ (.tail _ (.tail _ (.head _)))))) (Or.inr ⟨by rfl, rfl⟩) (marks 46 100663295) ?_
       try simp only [Act.put, List.setIfInBounds_toArray, List.set_cons_zero, List.set_cons_succ]
       refine wpL_s 25 rfl (by rfl) (marks 46 134217727) ?_
       try simp only [Act.put, List.setIfInBounds_toArray, List.set_cons_zero, List.set_cons_succ]
       refine wpL_s 27 rfl (by rfl) (marks 46 268435455) ?_
       try simp only [Act.put, List.setIfInBounds_toArray, List.set_cons_zero, List.set_cons_succ]
     all_goals
      refine wpL_q 28 ?_ rfl (Or.inl ⟨by rfl, fun w_ hS_ => ?_⟩) (marks 46 536870911) ?_
      rotate_left
      next => (go_simp; try (first | rfl | exact (Bool.not_not _).symm))
      try simp only [Act.put, List.setIfInBounds_toArray, List.set_cons_zero, List.set_cons_succ]
      refine wpL_b 29 ?_ rfl (Or.inl ⟨by rfl, fun w_ hS_ => ?_⟩) (marks 46 1073741823) ?_
      rotate_left
      next => (go_simp; try (first | rfl | exact (Bool.not_not _).symm))
      intro bb_ hg29
      cases bb_
      case' true =>
       (try simp only [decide_eq_true_eq, decide_eq_false_iff_not, beq_iff_eq, beq_eq_false_iff_ne, bne_iff_ne, bne_eq_false_iff_eq, Bool.not_eq_true', Bool.not_eq_false', Int.not_lt, Int.not_le] at hg29)
       first | (cases hg29; done) | (exfalso; omega; done) | skip
       all_goals
        try replace hg29 := Sep.hid hg29
        try simp only [Act.put, List.setIfInBounds_toArray, List.set_cons_zero, List.set_cons_succ]
        refine wpL_q 30 ?_ rfl (Or.inl ⟨by rfl, fun w_ hS_ => ?_⟩) (marks 46 2147483647) ?_
        rotate_left
        next => (go_simp; try (first | rfl | exact (Bool.not_not _).symm))
        try simp only [Act.put, List.setIfInBounds_toArray, List.set_cons_zero, List.set_cons_succ]
        refine wpL_q 31 ?_ rfl (Or.inl ⟨by rfl, fun w_ hS_ => ?_⟩) (marks 46 4294967295) ?_
        rotate_left
        next => (go_simp; try (first | rfl | exact (Bool.not_not _).symm))
        try simp only [Act.put, List.setIfInBounds_toArray, List.set_cons_zero, List.set_cons_succ]
        refine wpL_q 32 ?_ rfl (Or.inl ⟨by rfl, fun w_ hS_ => ?_⟩) (marks 46 8589934591) ?_
        rotate_left
        next => (go_simp; try (first | rfl | exact (Bool.not_not _).symm))
        try simp only [Act.put, List.setIfInBounds_toArray, List.set_cons_zero, List.set_cons_succ]
      case' false =>
       (try simp only [decide_eq_true_eq, decide_eq_false_iff_not, beq_iff_eq, beq_eq_false_iff_ne, bne_iff_ne, bne_eq_false_iff_eq, Bool.not_eq_true', Bool.not_eq_false', Int.not_lt, Int.not_le] at hg29)
       first | (cases hg29; done) | (exfalso; omega; done) | skip
       all_goals
        try replace hg29 := Sep.hid hg29
        try simp only [Act.put, List.setIfInBounds_toArray, List.set_cons_zero, List.set_cons_succ]
        refine wpL_q 30 undef rfl (Or.inr ⟨by rfl, rfl⟩) (marks 46 2147483647) ?_
        try simp only [Act.put, List.setIfInBounds_toArray, List.set_cons_zero, List.set_cons_succ]
        refine wpL_q 31 undef rfl (Or.inr ⟨by rfl, rfl⟩) (marks 46 4294967295) ?_
        try simp only [Act.put, List.setIfInBounds_toArray, List.set_cons_zero, List.set_cons_succ]
        refine wpL_q 32 undef rfl (Or.inr ⟨by rfl, rfl⟩) (marks 46 8589934591) ?_
        try simp only [Act.put, List.setIfInBounds_toArray, List.set_cons_zero, List.set_cons_succ]
      all_goals
       refine wpL_q 33 ?_ rfl (Or.inl ⟨by rfl, fun w_ hS_ => ?_⟩) (marks 46 17179869183) ?_
       rotate_left
       next => (go_simp; try (first | rfl | exact (Bool.not_not _).symm))
       try simp only [Act.put, List.setIfInBounds_toArray, List.set_cons_zero, List.set_cons_succ]
       refine wpL_b 34 ?_ rfl (Or.inl ⟨by rfl, fun w_ hS_ => ?_⟩) (marks 46 34359738367) ?_
       rotate_left
       next => (go_simp; try (first | rfl | exact (Bool.not_not _).symm))
       intro bb_ hg34
       cases bb_
       case' true =>
        (try simp only [decide_eq_true_eq, decide_eq_false_iff_not, beq_iff_eq, beq_eq_false_iff_ne, bne_iff_ne, bne_eq_false_iff_eq, Bool.not_eq_true', Bool.not_eq_false', Int.not_lt, Int.not_le] at hg34)
        first | (cases hg34; done) | (exfalso; omega; done) | skip
        all_goals
         try replace hg34 := Sep.hid hg34
         try simp only [Act.put, List.setIfInBounds_toArray, List.set_cons_zero, List.set_cons_succ]
         refine wpL_m 35 ?_ rfl (.tail _ (.tail _ (.tail _ (.tail _ (.tail _ (.tail _ (.head _))))))) (Or.inl ⟨by rfl, fun w_ hS_ => ?_⟩) (marks 46 68719476735) ?_
         rotate_left
         next => (dsimp only at hS_; (try have q0 := Sep.Holds.cells hS_ (i := 0) rfl); (try have q1 := Sep.Holds.cells hS_ (i := 1) rfl); (try have q2 := Sep.Holds.cells hS_ (i := 2) rfl); (try have q3 := Sep.Holds.cells hS_ (i := 3) rfl); (try have q4 := Sep.Holds.cells hS_ (i := 4) rfl); (try have q5 := Sep.Holds.cells hS_ (i := 5) rfl); (try have q6 := Sep.Holds.cells hS_ (i := 6) rfl); go_simp; try (first | rfl | exact (Bool.not_not _).symm))
         try simp only [Act.put, List.setIfInBounds_toArray, List.set_cons_zero, List.set_cons_succ]
         refine wpL_m 36 ?_ rfl (.tail _ (.tail _ (.tail _ (.tail _ (.tail _ (.tail _ (.tail _ (.head _)))))))) (Or.inl ⟨by rfl, fun w_ hS_ => ?_⟩) (marks 46 137438953471) ?_
         rotate_left
         next => (dsimp only at hS_; (try have q0 := Sep.Holds.cells hS_ (i := 0) rfl); (try have q1 := Sep.Holds.cells hS_ (i := 1) rfl); (try have q2 := Sep.Holds.cells hS_ (i := 2) rfl); (try have q3 := Sep.Holds.cells hS_ (i := 3) rfl); (try have q4 := Sep.Holds.cells hS_ (i := 4) rfl); (try have q5 := Sep.Holds.cells hS_ (i := 5) rfl); (try have q6 := Sep.Holds.cells hS_ (i := 6) rfl); go_simp; try (first | rfl | exact (Bool.not_not _).symm))
         try simp only [Act.put, List.setIfInBounds_toArray, List.set_cons_zero, List.set_cons_succ]
         refine wpL_m 38 ?_ rfl (.tail _ (.tail _ (.tail _ (.tail _ (.tail _ (.tail _ (.tail _ (.tail _ (.head _))))))))) (Or.inl ⟨by rfl, fun w_ hS_ => ?_⟩) (marks 46 412316860415) ?_
         rotate_left
         next => (dsimp only at hS_; (try have q0 := Sep.Holds.cells hS_ (i := 0) rfl); (try have q1 := Sep.Holds.cells hS_ (i := 1) rfl); (try have q2 := Sep.Holds.cells hS_ (i := 2) rfl); (try have q3 := Sep.Holds.cells hS_ (i := 3) rfl); (try have q4 := Sep.Holds.cells hS_ (i := 4) rfl); (try have q5 := Sep.Holds.cells hS_ (i := 5) rfl); (try have q6 := Sep.Holds.cells hS_ (i := 6) rfl); go_simp; try (first | rfl | exact (Bool.not_not _).symm))
         try simp only [Act.put, List.setIfInBounds_toArray, List.set_cons_zero, List.set_cons_succ]
         refine wpL_m 40 ?_ rfl (.tail _ (.tail _ (.tail _ (.tail _ (.tail _ (.tail _ (.tail _ (.tail _ (.tail _ (.head _)))))))))) (Or.inl ⟨by rfl, fun w_ hS_ => ?_⟩) (marks 46 1511828488191) ?_
         rotate_left
         next => (dsimp only at hS_; (try have q0 := Sep.Holds.cells hS_ (i := 0) rfl); (try have q1 := Sep.Holds.cells hS_ (i := 1) rfl); (try have q2 := Sep.Holds.cells hS_ (i := 2) rfl); (try have q3 := Sep.Holds.cells hS_ (i := 3) rfl); (try have q4 := Sep.Holds.cells hS_ (i := 4) rfl); (try have q5 := Sep.Holds.cells hS_ (i := 5) rfl); (try have q6 := Sep.Holds.cells hS_ (i := 6) rfl); go_simp; try (first | rfl | exact (Bool.not_not _).symm))
         try simp only [Act.put, List.setIfInBounds_toArray, List.set_cons_zero, List.set_cons_succ]
         refine wpL_o 37 rfl (by rfl) (marks 46 1649267441663) ?_
         (go_simp; go_at_call 19; have hl1 := oSameS s t HSs.out HSt.out hs gs pa pb ia ib pc ic qc jc e _ _ (HPs.out.at 0 rfl) (HPt.out.at 0 rfl) (HIs.out.at 0 rfl) (HIt.out.at 0 rfl) hw.focus0; rw [HA.out, HB.out] at hl1; refine hl1.mono ?_; clear hl1; rintro _ w_ ⟨rfl, hw_⟩; clear hw; have hw := Holds.unfocus0 hw_; clear hw_; (try simp only [List.map_cons, List.map_nil, List.getD_cons_zero, List.getD_cons_succ, List.getD_nil, List.set_cons_zero, List.set_cons_succ, List.cons_append, List.nil_append, Act.eval, Array.getD_eq_getD_getElem?, List.getElem?_toArray, List.getElem?_cons_succ, List.getElem?_cons_zero, Option.getD_some, Value.cells] at hw); (try simp (disch := first | (simp; done) | (simp; omega)) only [Sep.mid_set, Sep.mid_set2, Sep.mid_set0, Sep.mid_splice, Sep.mid_splice0, List.set_cons_zero, List.set_cons_succ] at hw); (try simp only [Sep.splice, List.take_succ_cons, List.take_zero, List.drop_succ_cons, List.drop_zero, List.length_cons, List.length_nil, Nat.reduceAdd, List.cons_append, List.nil_append] at hw))
         refine ⟨(SL.drop 1 (by kernel_rfl) (SL.drop 3 (by kernel_rfl) (SL.drop 7 (by kernel_rfl) (SL.drop 9 (by kernel_rfl) (SL.drop 25 (by kernel_rfl) (SL.drop 27 (by kernel_rfl) (SL.drop 37 (by kernel_rfl) (SL.drop 37 (by kernel_rfl) (SL.keep (by exact hw.sel [1, 2, 3, 8, 11] (by decide)) (SL.keep (by exact hw.sel [1, 2, 3, 8, 11] (by decide)) SL.nil)))))))))), ?_⟩
         try simp only [Act.put, List.setIfInBounds_toArray, List.set_cons_zero, List.set_cons_succ]
         refine wpL_o 39 rfl (by rfl) (marks 46 2199023255551) ?_
         (go_simp; go_at_call 10; have hl1 := own17 s HSs.out hs pa ia pc ic e _ _ (HPs.out.at 0 rfl) (HIs.out.at 0 rfl) hw.focus0; rw [HA.out] at hl1; refine hl1.mono ?_; clear hl1; rintro _ w_ ⟨p9, c9, a9, d9, hs9, hl9, rfl, hw_⟩; have Hl9 := Sep.hid hl9; clear hl9; clear hw; have hw := Holds.unfocus0 hw_; clear hw_; (try simp only [List.map_cons, List.map_nil, List.getD_cons_zero, List.getD_cons_succ, List.getD_nil, List.set_cons_zero, List.set_cons_succ, List.cons_append, List.nil_append, Act.eval, Array.getD_eq_getD_getElem?, List.getElem?_toArray, List.getElem?_cons_succ, List.getElem?_cons_zero, Option.getD_some, Value.cells] at hw); (try simp (disch := first | (simp; done) | (simp; omega)) only [Sep.mid_set, Sep.mid_set2, Sep.mid_set0, Sep.mid_splice, Sep.mid_splice0, List.set_cons_zero, List.set_cons_succ] at hw); (try simp only [Sep.splice, List.take_succ_cons, List.take_zero, List.drop_succ_cons, List.drop_zero, List.length_cons, List.length_nil, Nat.reduceAdd, List.cons_append, List.nil_append] at hw))
         refine ⟨(SL.drop 1 (by kernel_rfl) (SL.drop 3 (by kernel_rfl) (SL.drop 7 (by kernel_rfl) (SL.drop 9 (by kernel_rfl) (SL.drop 25 (by kernel_rfl) (SL.drop 27 (by kernel_rfl) (SL.drop 37 (by kernel_rfl) (SL.drop 37 (by kernel_rfl) (SL.drop 39 (by kernel_rfl) (SL.keep (by exact hw.sel [1, 2, 3, 8, 11] (by decide)) SL.nil)))))))))), ?_⟩
         try simp only [Act.put, List.setIfInBounds_toArray, List.set_cons_zero, List.set_cons_succ]
         refine wpL_o 41 rfl (by rfl) (marks 46 4398046511103) ?_
         (go_simp; go_at_call 10; have hl1 := own17 t HSt.out gs pb ib qc jc e _ _ (HPt.out.at 0 rfl) (HIt.out.at 0 rfl) hw.focus0; rw [HB.out] at hl1; refine hl1.mono ?_; clear hl1; rintro _ w_ ⟨p10, c10, a10, d10, hs10, hl10, rfl, hw_⟩; have Hl10 := Sep.hid hl10; clear hl10; clear hw; have hw := Holds.unfocus0 hw_; clear hw_; (try simp only [List.map_cons, List.map_nil, List.getD_cons_zero, List.getD_cons_succ, List.getD_nil, List.set_cons_zero, List.set_cons_succ, List.cons_append, List.nil_append, Act.eval, Array.getD_eq_getD_getElem?, List.getElem?_toArray, List.getElem?_cons_succ, List.getElem?_cons_zero, Option.getD_some, Value.cells] at hw); (try simp (disch := first | (simp; done) | (simp; omega)) only [Sep.mid_set, Sep.mid_set2, Sep.mid_set0, Sep.mid_splice, Sep.mid_splice0, List.set_cons_zero, List.set_cons_succ] at hw); (try simp only [Sep.splice, List.take_succ_cons, List.take_zero, List.drop_succ_cons, List.drop_zero, List.length_cons, List.length_nil, Nat.reduceAdd, List.cons_append, List.nil_append] at hw))
         refine ⟨(SL.drop 1 (by kernel_rfl) (SL.drop 3 (by kernel_rfl) (SL.drop 7 (by kernel_rfl) (SL.drop 9 (by kernel_rfl) (SL.drop 25 (by kernel_rfl) (SL.drop 27 (by kernel_rfl) (SL.drop 37 (by kernel_rfl) (SL.drop 37 (by kernel_rfl) (SL.drop 39 (by kernel_rfl) (SL.drop 41 (by kernel_rfl) SL.nil)))))))))), ?_⟩
         try simp only [Act.put, List.setIfInBounds_toArray, List.set_cons_zero, List.set_cons_succ]
         refine wpL_o 42 rfl (by rfl) (marks 46 8796093022207) ?_
         (go_simp; go_at_call 18; refine (rSameS s t HSs.out HSt.out hs9 hs10 p9 p10 a9 a10 c9 d9 c10 d10 e _ _ ((rdP Hl9.out).at 16 rfl) ((rdP Hl10.out).at 18 rfl) (rdT.at 17 rfl) (rdT.at 19 rfl) hw.focus0).mono ?_; rintro _ w_ ⟨rfl, hw_⟩; clear hw; have hw := Holds.unfocus0 hw_; clear hw_; (try simp only [List.map_cons, List.map_nil, List.getD_cons_zero, List.getD_cons_succ, List.getD_nil, List.set_cons_zero, List.set_cons_succ, List.cons_append, List.nil_append, Act.eval, Array.getD_eq_getD_getElem?, List.getElem?_toArray, List.getElem?_cons_succ, List.getElem?_cons_zero, Option.getD_some, Value.cells] at hw); (try simp (disch := first | (simp; done) | (simp; omega)) only [Sep.mid_set, Sep.mid_set2, Sep.mid_set0, Sep.mid_splice, Sep.mid_splice0, List.set_cons_zero, List.set_cons_succ] at hw); (try simp only [Sep.splice, List.take_succ_cons, List.take_zero, List.drop_succ_cons, List.drop_zero, List.length_cons, List.length_nil, Nat.reduceAdd, List.cons_append, List.nil_append] at hw))
         refine ⟨(SL.drop 1 (by kernel_rfl) (SL.drop 3 (by kernel_rfl) (SL.drop 7 (by kernel_rfl) (SL.drop 9 (by kernel_rfl) (SL.drop 25 (by kernel_rfl) (SL.drop 27 (by kernel_rfl) (SL.drop 37 (by kernel_rfl) (SL.drop 37 (by kernel_rfl) (SL.drop 39 (by kernel_rfl) (SL.drop 41 (by kernel_rfl) SL.nil)))))))))), ?_⟩
         try simp only [Act.put, List.setIfInBounds_toArray, List.set_cons_zero, List.set_cons_succ]
         refine wpL_q 43 ?_ rfl (Or.inl ⟨by rfl, fun w_ hS_ => ?_⟩) (marks 46 17592186044415) ?_
         rotate_left
         next => (go_simp; try (first | rfl | exact (Bool.not_not _).symm))
         try simp only [Act.put, List.setIfInBounds_toArray, List.set_cons_zero, List.set_cons_succ]
       case' false =>
        (try simp only [decide_eq_true_eq, decide_eq_false_iff_not, beq_iff_eq, beq_eq_false_iff_ne, bne_iff_ne, bne_eq_false_iff_eq, Bool.not_eq_true', Bool.not_eq_false', Int.not_lt, Int.not_le] at hg34)
        first | (cases hg34; done) | (exfalso; omega; done) | skip
        all_goals
         try replace hg34 := Sep.hid hg34
         try simp only [Act.put, List.setIfInBounds_toArray, List.set_cons_zero, List.set_cons_succ]
         refine wpL_m 35 undef rfl (.tail _ (.tail _ (.tail _ (.tail _ (.tail _ (.tail _ (.head _))))))) (Or.inr ⟨by rfl, rfl⟩) (marks 46 68719476735) ?_
         try simp only [Act.put, List.setIfInBounds_toArray, List.set_cons_zero, List.set_cons_succ]
         refine wpL_m 36 undef rfl (.tail _ (.tail _ (.tail _ (.tail _ (.tail _ (.tail _ (.tail _ (.head _)))))))) (Or.inr ⟨by rfl, rfl⟩) (marks 46 137438953471) ?_
         try simp only [Act.put, List.setIfInBounds_toArray, List.set_cons_zero, List.set_cons_succ]
         refine wpL_m 38 undef rfl (.tail _ (.tail _ (.tail _ (.tail _ (.tail _ (.tail _ (.tail _ (.tail _ (.head _))))))))) (Or.inr ⟨by rfl, rfl⟩) (marks 46 412316860415) ?_
         try simp only [Act.put, List.setIfInBounds_toArray, List.set_cons_zero, List.set_cons_succ]
         refine wpL_m 40 undef rfl (.tail _ (.tail _ (.tail _ (.tail _ (.tail _ (.tail _ (.tail _ (.tail _ (.tail _ (.head _)))))))))) (Or.inr ⟨by rfl, rfl⟩) (marks 46 1511828488191) ?_
         try simp only [Act.put, List.setIfInBounds_toArray, List.set_cons_zero, List.set_cons_succ]
         refine wpL_s 37 rfl (by rfl) (marks 46 1649267441663) ?_
         try simp only [Act.put, List.setIfInBounds_toArray, List.set_cons_zero, List.set_cons_succ]
         refine wpL_s 39 rfl (by rfl) (marks 46 2199023255551) ?_
         try simp only [Act.put, List.setIfInBounds_toArray, List.set_cons_zero, List.set_cons_succ]
         refine wpL_s 41 rfl (by rfl) (marks 46 4398046511103) ?_
         try simp only [Act.put, List.setIfInBounds_toArray, List.set_cons_zero, List.set_cons_succ]
         refine wpL_s 42 rfl (by rfl) (marks 46 8796093022207) ?_
         try simp only [Act.put, List.setIfInBounds_toArray, List.set_cons_zero, List.set_cons_succ]
         refine wpL_q 43 undef rfl (Or.inr ⟨by rfl, rfl⟩) (marks 46 17592186044415) ?_
         try simp only [Act.put, List.setIfInBounds_toArray, List.set_cons_zero, List.set_cons_succ]
       all_goals
        refine wpL_q 44 ?_ rfl (Or.inl ⟨by rfl, fun w_ hS_ => ?_⟩) (marks 46 35184372088831) ?_
        rotate_left
        next => (go_simp; try (first | rfl | exact (Bool.not_not _).symm))
        try simp only [Act.put, List.setIfInBounds_toArray, List.set_cons_zero, List.set_cons_succ]
        refine wpL_q 45 ?_ rfl (Or.inl ⟨by rfl, fun w_ hS_ => ?_⟩) (marks 46 70368744177663) ?_
        rotate_left
        next => (go_simp; try (first | rfl | exact (Bool.not_not _).symm))
        try simp only [Act.put, List.setIfInBounds_toArray, List.set_cons_zero, List.set_cons_succ]
        all_goals refine wpL_done (by kernel_rfl) ?_ _
  all_goals (
    (try clear hc0); (try clear hc1); (try clear hc2); (try clear hc3); (try clear hc4); (try clear hc5); (try clear hc6)
    go_wp2_with fail
    exact HP.out _ _ ⟨rfl, hw.sel [0] (by decide)⟩)
end Go.Proofs.YteinbojpmhblkaaDoor
/-
  ScriptMore: the walk.
-/
namespace Go.Proofs.YteinbojpmhblkaaDoor
set_option linter.unusedSimpArgs false
set_option linter.unusedVariables false
open Go.RowKit Go.Sep
set_option maxRecDepth 20000

theorem newsT_of {w : World} {a : Option Addr} {l : List Itm} {n cap : Nat} (h : ReadsT w a l) (hn : l.length = n) :
    (0 < n ∧ ∃ ad c, Value.slice a n cap = .slice (some ad) n c ∧ ∀ (q : Nat) (y : Value), (encTs l)[q]? = some y → w.cell? (ad.add q) = some y) ∨ (n = 0 ∧ ∃ ao c, Value.slice a n cap = .slice ao 0 c) := by
  by_cases h0 : n = 0
  · subst h0; exact .inr ⟨rfl, _, _, rfl⟩
  · obtain ⟨p, rfl, _⟩ := h 0 _ (List.getElem?_eq_getElem (by omega))
    refine .inl ⟨by omega, p, cap, rfl, fun q y hq => ?_⟩
    have hlt := (List.getElem?_eq_some_iff.1 hq).1
    rw [encTs_length] at hlt
    obtain ⟨x, hx⟩ : ∃ x, l[q / 3]? = some x := ⟨_, List.getElem?_eq_getElem (by omega)⟩
    obtain ⟨p2, hp2, hc⟩ := h (q / 3) x hx
    cases hp2
    have hq3 : q % 3 < 3 := Nat.mod_lt _ (by decide)
    have e1 : q / 3 * 3 + q % 3 = q := by omega
    have h1 : (encT x)[q % 3]? = some y := by
      rw [← hq, ← e1]
      unfold encTs
      rw [flat_get encT_len hx hq3]
      congr 1; omega
    have h2 := hc _ _ h1
    rw [Go.Deep.add_add, e1] at h2
    exact h2
set_option maxHeartbeats 32000000 in
theorem script_more_walk (e : World) (s : Scr) (x : Itm) (hs : List Hd) (pa ia : Option Addr) (pc ic : Nat) (hT : TopsAt e) (hps : ProgsAt e pa hs s.ps) (his : ItmsAt e ia s.is) (m1 : s.ps.length ≤ maxLen) (m2 : s.is.length ≤ maxLen) :
    Calls Tryd.prog 5 #[.agg (scrV s pa pc ia ic).toArray, .agg (encT x).toArray] e fun en w' => en = .returned (.bool true) ∧ Holds e w' [Old e] := by
  have hw := Holds.start e
  have HT := Sep.hid (old_tops hT)
  have HPs := Sep.hid (old_progs hps)
  have HIs := Sep.hid (old_itms his)
  have Hm := Sep.hid (show s.ps.length ≤ maxLen ∧ s.is.length ≤ maxLen from ⟨m1, m2⟩)
  clear hT hps his m1 m2
  obtain ⟨n1, hn1⟩ : ∃ n1, s.ps.length = n1 := ⟨_, rfl⟩
  obtain ⟨i1, hi1⟩ : ∃ i1, s.is.length = i1 := ⟨_, rfl⟩
  have hA : scrV s pa pc ia ic = [.int .i64 s.r0, .int .i64 s.r1, .int .i64 s.r2, .int .i64 s.r3, .slice pa n1 pc, .slice ia i1 ic] := by rw [← hn1, ← hi1]; rfl
  have hC : encT x = [.int .i64 x.d, .int .i64 x.a, .int .i64 x.n] := rfl
  rw [hA, hC]
  have HA := Sep.hid hA; clear hA hC
  have Hl1 : Hid ((s.is ++ [x]).length = i1 + 1) := Sep.hid (by rw [List.length_append, hi1]; rfl)
  have Hn1 := Sep.hid hn1; have Hi1 := Sep.hid hi1; clear hn1 hi1
  refine Sep.calls_post ?_
  intro Post_ hPost_
  have HP := Sep.hid hPost_
  clear hPost_
  go_enter Tryd.func5, Tryd.ntmps5
  go_wp2_with (first | (refine wpList_on rfl (wp_box rfl hw ?_); intro b3_ w_ hw_; clear hw; have hw := hw_; clear hw_; (try simp only [List.map_cons, List.map_nil, List.getD_cons_zero, List.getD_cons_succ, List.getD_nil, List.set_cons_zero, List.set_cons_succ, List.cons_append, List.nil_append, Act.eval, Array.getD_eq_getD_getElem?, List.getElem?_toArray, List.getElem?_cons_succ, List.getElem?_cons_zero, Option.getD_some, Value.cells] at hw); (try simp (disch := first | (simp; done) | (simp; omega)) only [Sep.mid_set, Sep.mid_set2, Sep.mid_set0, Sep.mid_splice, Sep.mid_splice0, List.set_cons_zero, List.set_cons_succ] at hw); (try simp only [Sep.splice, List.take_succ_cons, List.take_zero, List.drop_succ_cons, List.drop_zero, List.length_cons, List.length_nil, Nat.reduceAdd, List.cons_append, List.nil_append] at hw); (try replace hc0 := Sep.Holds.cells hw (i := 0) rfl); (try replace hc1 := Sep.Holds.cells hw (i := 1) rfl); (try replace hc2 := Sep.Holds.cells hw (i := 2) rfl); (try replace hc3 := Sep.Holds.cells hw (i := 3) rfl); (try replace hc4 := Sep.Holds.cells hw (i := 4) rfl); (try replace hc5 := Sep.Holds.cells hw (i := 5) rfl); (try replace hc6 := Sep.Holds.cells hw (i := 6) rfl); (try simp only [Act.put, List.setIfInBounds_toArray, List.set_cons_zero, List.set_cons_succ])))
  rename_i b2_ w1_ K1_ h1_ K2_ h2_ K3_ h3_
  refine (awake17 e _ _ HT.out.sep hw.focus0).mono ?_
  rintro _ w_ ⟨rfl, hw_⟩
  clear hw; (try clear hc0); (try clear hc1); (try clear hc2); (try clear hc3); (try clear hc4); (try clear hc5); (try clear hc6); have hw := Holds.unfocus0 hw_; clear hw_; (try simp only [List.map_cons, List.map_nil, List.getD_cons_zero, List.getD_cons_succ, List.getD_nil, List.set_cons_zero, List.set_cons_succ, List.cons_append, List.nil_append, Act.eval, Array.getD_eq_getD_getElem?, List.getElem?_toArray, List.getElem?_cons_succ, List.getElem?_cons_zero, Option.getD_some, Value.cells] at hw); (try simp (disch := first | (simp; done) | (simp; omega)) only [Sep.mid_set, Sep.mid_set2, Sep.mid_set0, Sep.mid_splice, Sep.mid_splice0, List.set_cons_zero, List.set_cons_succ] at hw); (try simp only [Sep.splice, List.take_succ_cons, List.take_zero, List.drop_succ_cons, List.drop_zero, List.length_cons, List.length_nil, Nat.reduceAdd, List.cons_append, List.nil_append] at hw)
  (try replace hc0 := Sep.Holds.cells hw (i := 0) rfl); (try replace hc1 := Sep.Holds.cells hw (i := 1) rfl); (try replace hc2 := Sep.Holds.cells hw (i := 2) rfl); (try replace hc3 := Sep.Holds.cells hw (i := 3) rfl); (try replace hc4 := Sep.Holds.cells hw (i := 4) rfl); (try replace hc5 := Sep.Holds.cells hw (i := 5) rfl); (try replace hc6 := Sep.Holds.cells hw (i := 6) rfl)
  go_wp2_with fail
  have hl1 := large17 s hs pa ia pc ic Hm.out.1 Hm.out.2 e _ _ (HPs.out.at 0 rfl) hw.focus0
  rw [HA.out] at hl1
  refine hl1.mono ?_
  clear hl1
  rintro _ w_ ⟨rfl, hw_⟩
  clear hw; (try clear hc0); (try clear hc1); (try clear hc2); (try clear hc3); (try clear hc4); (try clear hc5); (try clear hc6); have hw := Holds.unfocus0 hw_; clear hw_; (try simp only [List.map_cons, List.map_nil, List.getD_cons_zero, List.getD_cons_succ, List.getD_nil, List.set_cons_zero, List.set_cons_succ, List.cons_append, List.nil_append, Act.eval, Array.getD_eq_getD_getElem?, List.getElem?_toArray, List.getElem?_cons_succ, List.getElem?_cons_zero, Option.getD_some, Value.cells] at hw); (try simp (disch := first | (simp; done) | (simp; omega)) only [Sep.mid_set, Sep.mid_set2, Sep.mid_set0, Sep.mid_splice, Sep.mid_splice0, List.set_cons_zero, List.set_cons_succ] at hw); (try simp only [Sep.splice, List.take_succ_cons, List.take_zero, List.drop_succ_cons, List.drop_zero, List.length_cons, List.length_nil, Nat.reduceAdd, List.cons_append, List.nil_append] at hw)
  (try replace hc0 := Sep.Holds.cells hw (i := 0) rfl); (try replace hc1 := Sep.Holds.cells hw (i := 1) rfl); (try replace hc2 := Sep.Holds.cells hw (i := 2) rfl); (try replace hc3 := Sep.Holds.cells hw (i := 3) rfl); (try replace hc4 := Sep.Holds.cells hw (i := 4) rfl); (try replace hc5 := Sep.Holds.cells hw (i := 5) rfl); (try replace hc6 := Sep.Holds.cells hw (i := 6) rfl)
  cases hls : largeS s with
  | true =>
    clear hls
    go_wp2_with fail
    exact HP.out _ _ ⟨rfl, hw.sel [0] (by decide)⟩
  | false =>
  have HSs := Sep.hid (small_of hls).1; clear hls
  have hi300 : i1 ≤ 300 := by rw [← Hi1.out]; exact HSs.out.2.1
  go_wp2_with fail
  have hl1 := oBytesSX s HSs.out hs pa ia pc ic e _ _ HT.out.sep (HPs.out.at 0 rfl) (HIs.out.at 0 rfl) hw.focus0
  rw [HA.out] at hl1
  refine hl1.mono ?_
  clear hl1
  rintro _ w_ ⟨v1, rfl, hw_⟩
  obtain ⟨lb, hlb⟩ : ∃ lb, (bS s).length = lb := ⟨_, rfl⟩
  have hIs : IsB v1 (bS s) = Sl 5 1 v1 lb (encB (bS s)) := by unfold IsB; rw [hlb]
  rw [hIs] at hw_; clear hIs
  have Hlb := Sep.hid hlb; clear hlb
  clear hw; (try clear hc0); (try clear hc1); (try clear hc2); (try clear hc3); (try clear hc4); (try clear hc5); (try clear hc6); have hw := Holds.unfocus0 hw_; clear hw_; (try simp only [List.map_cons, List.map_nil, List.getD_cons_zero, List.getD_cons_succ, List.getD_nil, List.set_cons_zero, List.set_cons_succ, List.cons_append, List.nil_append, Act.eval, Array.getD_eq_getD_getElem?, List.getElem?_toArray, List.getElem?_cons_succ, List.getElem?_cons_zero, Option.getD_some, Value.cells] at hw); (try simp (disch := first | (simp; done) | (simp; omega)) only [Sep.mid_set, Sep.mid_set2, Sep.mid_set0, Sep.mid_splice, Sep.mid_splice0, List.set_cons_zero, List.set_cons_succ] at hw); (try simp only [Sep.splice, List.take_succ_cons, List.take_zero, List.drop_succ_cons, List.drop_zero, List.length_cons, List.length_nil, Nat.reduceAdd, List.cons_append, List.nil_append] at hw)
  (try replace hc0 := Sep.Holds.cells hw (i := 0) rfl); (try replace hc1 := Sep.Holds.cells hw (i := 1) rfl); (try replace hc2 := Sep.Holds.cells hw (i := 2) rfl); (try replace hc3 := Sep.Holds.cells hw (i := 3) rfl); (try replace hc4 := Sep.Holds.cells hw (i := 4) rfl); (try replace hc5 := Sep.Holds.cells hw (i := 5) rfl); (try replace hc6 := Sep.Holds.cells hw (i := 6) rfl)
  obtain ⟨a1, k1, rfl⟩ := Sl.value (i := 3) rfl hw
  cases hm : mayS s with
  | false =>
    rw [show eS s = 1 by unfold eS; rw [hm]; rfl]
    clear hm
    go_wp2_with fail
    exact HP.out _ _ ⟨rfl, hw.sel [0] (by decide)⟩
  | true =>
  rw [show eS s = 0 by unfold eS; rw [hm]; rfl]
  by_cases h2 : (200 : Int) ≤ i1
  · clear hm
    go_wp2_with fail
    exact HP.out _ _ ⟨rfl, hw.sel [0] (by decide)⟩
  by_cases h3 : (3990 : Int) < lb
  · clear hm
    go_wp2_with fail
    exact HP.out _ _ ⟨rfl, hw.sel [0] (by decide)⟩
  have hbs : bS s = bytesS s := by unfold bS; rw [if_pos hm]
  have hlong : longS s ≤ 3990 := by rw [← bytesS_len, ← hbs, Hlb.out]; omega
  have hmm := mayS_more (x := x) hm (by rw [Hi1.out]; omega) hlong
  have HSt : Hid (Small ⟨s.r0, s.r1, s.r2, s.r3, s.ps, s.is ++ [x]⟩) := Sep.hid ⟨HSs.out.1, by show (s.is ++ [x]).length ≤ 300; rw [Hl1.out]; omega, HSs.out.2.2⟩
  have hlb4 : lb ≤ 4000 := by omega
  cases hix : itemP x with
  | false =>
    have Hix := Sep.hid hix
    have Hmt : Hid (mayS ⟨s.r0, s.r1, s.r2, s.r3, s.ps, s.is ++ [x]⟩ = false) := Sep.hid (by rw [← hix, ← hmm])
    have Het : Hid (eS ⟨s.r0, s.r1, s.r2, s.r3, s.ps, s.is ++ [x]⟩ = 1) := Sep.hid (by unfold eS; rw [Hmt.out]; rfl)
    have Hbt : Hid (bS ⟨s.r0, s.r1, s.r2, s.r3, s.ps, s.is ++ [x]⟩ = []) := Sep.hid (by unfold bS; rw [Hmt.out]; rfl)
    clear hm hmm hbs hlong hix
    go_wp2_with (first | (refine wpList_on rfl (wp_alloc rfl hw ?_); intro b7_ w_ hw_; clear hw; have hw := hw_; clear hw_; (try simp only [List.map_cons, List.map_nil, List.getD_cons_zero, List.getD_cons_succ, List.getD_nil, List.set_cons_zero, List.set_cons_succ, List.cons_append, List.nil_append, Act.eval, Array.getD_eq_getD_getElem?, List.getElem?_toArray, List.getElem?_cons_succ, List.getElem?_cons_zero, Option.getD_some, Value.cells] at hw); (try simp (disch := first | (simp; done) | (simp; omega)) only [Sep.mid_set, Sep.mid_set2, Sep.mid_set0, Sep.mid_splice, Sep.mid_splice0, List.set_cons_zero, List.set_cons_succ] at hw); (try simp only [Sep.splice, List.take_succ_cons, List.take_zero, List.drop_succ_cons, List.drop_zero, List.length_cons, List.length_nil, Nat.reduceAdd, List.cons_append, List.nil_append] at hw); (try replace hc0 := Sep.Holds.cells hw (i := 0) rfl); (try replace hc1 := Sep.Holds.cells hw (i := 1) rfl); (try replace hc2 := Sep.Holds.cells hw (i := 2) rfl); (try replace hc3 := Sep.Holds.cells hw (i := 3) rfl); (try replace hc4 := Sep.Holds.cells hw (i := 4) rfl); (try replace hc5 := Sep.Holds.cells hw (i := 5) rfl); (try replace hc6 := Sep.Holds.cells hw (i := 6) rfl)) | (refine wpList_on rfl (wp_storeAll (vs := [.int .i64 s.r0, .int .i64 s.r1, .int .i64 s.r2, .int .i64 s.r3, .slice pa n1 pc, .slice ia i1 ic]) rfl rfl (by rfl) hw (i := 4) rfl rfl rfl (by simp [Value.oneCell']) ?_); intro w_ hw_; clear hw; have hw := hw_; clear hw_; (try simp only [List.map_cons, List.map_nil, List.getD_cons_zero, List.getD_cons_succ, List.getD_nil, List.set_cons_zero, List.set_cons_succ, List.cons_append, List.nil_append, Act.eval, Array.getD_eq_getD_getElem?, List.getElem?_toArray, List.getElem?_cons_succ, List.getElem?_cons_zero, Option.getD_some, Value.cells] at hw); (try simp (disch := first | (simp; done) | (simp; omega)) only [Sep.mid_set, Sep.mid_set2, Sep.mid_set0, Sep.mid_splice, Sep.mid_splice0, List.set_cons_zero, List.set_cons_succ] at hw); (try simp only [Sep.splice, List.take_succ_cons, List.take_zero, List.drop_succ_cons, List.drop_zero, List.length_cons, List.length_nil, Nat.reduceAdd, List.cons_append, List.nil_append] at hw); (try replace hc0 := Sep.Holds.cells hw (i := 0) rfl); (try replace hc1 := Sep.Holds.cells hw (i := 1) rfl); (try replace hc2 := Sep.Holds.cells hw (i := 2) rfl); (try replace hc3 := Sep.Holds.cells hw (i := 3) rfl); (try replace hc4 := Sep.Holds.cells hw (i := 4) rfl); (try replace hc5 := Sep.Holds.cells hw (i := 5) rfl); (try replace hc6 := Sep.Holds.cells hw (i := 6) rfl)))
    refine wp_region_L [0, 3, 5, 6, 8] [(2, (fun w' => Holds e w' [pt b2_ [.int .i64 s.r0, .int .i64 s.r1, .int .i64 s.r2, .int .i64 s.r3, .slice pa n1 pc, .slice ia i1 ic] 28, pt b3_ [.int .i64 x.d, .int .i64 x.a, .int .i64 x.n] 23])), (4, (fun w' => Holds e w' [pt b2_ [.int .i64 s.r0, .int .i64 s.r1, .int .i64 s.r2, .int .i64 s.r3, .slice pa n1 pc, .slice ia i1 ic] 28, pt b3_ [.int .i64 x.d, .int .i64 x.a, .int .i64 x.n] 23]))] (n := 9) (listed := (marks 9 0)) (by kernel_rfl) rfl (by kernel_rfl) ?conds1 ?_
    case conds1 =>
     intro c hc
     simp only [List.mem_cons, List.not_mem_nil, or_false] at hc
     rcases hc with rfl | rfl
     · exact (by replace hw := hw.drew; exact hw.sel [1, 2] (by decide))
     · exact (by replace hw := hw.drew; exact hw.sel [1, 2] (by decide))
    replace hw := hw.drew
    (try replace hc0 := Sep.Holds.cells hw (i := 0) rfl); (try replace hc1 := Sep.Holds.cells hw (i := 1) rfl); (try replace hc2 := Sep.Holds.cells hw (i := 2) rfl); (try replace hc3 := Sep.Holds.cells hw (i := 3) rfl); (try replace hc4 := Sep.Holds.cells hw (i := 4) rfl); (try replace hc5 := Sep.Holds.cells hw (i := 5) rfl); (try replace hc6 := Sep.Holds.cells hw (i := 6) rfl)
    refine wpL_q 1 ?_ rfl (Or.inl ⟨by rfl, fun w_ hS_ => ?_⟩) (marks 9 2) ?_
    rotate_left
    next => (go_simp; try (first | rfl | exact (Bool.not_not _).symm))
    try simp only [Act.put, List.setIfInBounds_toArray, List.set_cons_zero, List.set_cons_succ]
    refine wpL_m 2 ?_ rfl (.head _) (Or.inl ⟨by rfl, fun w_ hS_ => ?_⟩) (marks 9 6) ?_
    rotate_left
    next => (dsimp only at hS_; (try have q0 := Sep.Holds.cells hS_ (i := 0) rfl); (try have q1 := Sep.Holds.cells hS_ (i := 1) rfl); (try have q2 := Sep.Holds.cells hS_ (i := 2) rfl); (try have q3 := Sep.Holds.cells hS_ (i := 3) rfl); (try have q4 := Sep.Holds.cells hS_ (i := 4) rfl); (try have q5 := Sep.Holds.cells hS_ (i := 5) rfl); (try have q6 := Sep.Holds.cells hS_ (i := 6) rfl); go_simp; try (first | rfl | exact (Bool.not_not _).symm))
    try simp only [Act.put, List.setIfInBounds_toArray, List.set_cons_zero, List.set_cons_succ]
    refine wpL_m 4 ?_ rfl (.tail _ (.head _)) (Or.inl ⟨by rfl, fun w_ hS_ => ?_⟩) (marks 9 22) ?_
    rotate_left
    next => (dsimp only at hS_; (try have q0 := Sep.Holds.cells hS_ (i := 0) rfl); (try have q1 := Sep.Holds.cells hS_ (i := 1) rfl); (try have q2 := Sep.Holds.cells hS_ (i := 2) rfl); (try have q3 := Sep.Holds.cells hS_ (i := 3) rfl); (try have q4 := Sep.Holds.cells hS_ (i := 4) rfl); (try have q5 := Sep.Holds.cells hS_ (i := 5) rfl); (try have q6 := Sep.Holds.cells hS_ (i := 6) rfl); go_simp; try (first | rfl | exact (Bool.not_not _).symm))
    try simp only [Act.put, List.setIfInBounds_toArray, List.set_cons_zero, List.set_cons_succ]
    refine wpL_all (rs := [0, 5]) (by kernel_rfl) (by decide) ?_
    intro i hi
    simp only [List.mem_cons, List.not_mem_nil, or_false] at hi
    rcases hi with rfl | rfl
    focus
     refine ⟨_, _, rfl, by rfl, ?_⟩
     (refine wp_bsl0 rfl hw ?_; intro b0_ w_ hw_; replace hw_ := hw_.newSl (i := 5) rfl 3 0 rfl (by decide); clear hw; have hw := hw_; clear hw_; (try simp only [List.map_cons, List.map_nil, List.getD_cons_zero, List.getD_cons_succ, List.getD_nil, List.set_cons_zero, List.set_cons_succ, List.cons_append, List.nil_append, Act.eval, Array.getD_eq_getD_getElem?, List.getElem?_toArray, List.getElem?_cons_succ, List.getElem?_cons_zero, Option.getD_some, Value.cells] at hw); (try simp (disch := first | (simp; done) | (simp; omega)) only [Sep.mid_set, Sep.mid_set2, Sep.mid_set0, Sep.mid_splice, Sep.mid_splice0, List.set_cons_zero, List.set_cons_succ] at hw); (try simp only [Sep.splice, List.take_succ_cons, List.take_zero, List.drop_succ_cons, List.drop_zero, List.length_cons, List.length_nil, Nat.reduceAdd, List.cons_append, List.nil_append] at hw); (try replace hc0 := Sep.Holds.cells hw (i := 0) rfl); (try replace hc1 := Sep.Holds.cells hw (i := 1) rfl); (try replace hc2 := Sep.Holds.cells hw (i := 2) rfl); (try replace hc3 := Sep.Holds.cells hw (i := 3) rfl); (try replace hc4 := Sep.Holds.cells hw (i := 4) rfl); (try replace hc5 := Sep.Holds.cells hw (i := 5) rfl); (try replace hc6 := Sep.Holds.cells hw (i := 6) rfl))
     refine ⟨(SL.keep (by exact hw.sel [1, 2] (by decide)) (SL.keep (by exact hw.sel [1, 2] (by decide)) SL.nil)), ?_⟩
     try simp only [Act.put, List.setIfInBounds_toArray, List.set_cons_zero, List.set_cons_succ]
     refine wpL_all (rs := [3, 5]) (by kernel_rfl) (by decide) ?_
     intro i hi
     simp only [List.mem_cons, List.not_mem_nil, or_false] at hi
     rcases hi with rfl | rfl
     focus
      refine ⟨_, _, rfl, by rfl, ?_⟩
      (refine wp_appendRd (i := 5) (n := 0) (m := i1) (u := .slice ia i1 ic) (news := encTs s.is) rfl rfl hw rfl rfl (by rw [encTs_length, Hi1.out]) (newsT_of (HIs.out _ _ 0 hw rfl) Hi1.out) (encTs_one s.is) (by rfl) (by (try unfold maxLen); omega) (by (try unfold maxLen); omega) ?_; intro a2_ cp2_ w_ hw_; clear hw; have hw := hw_; clear hw_; (try simp only [List.map_cons, List.map_nil, List.getD_cons_zero, List.getD_cons_succ, List.getD_nil, List.set_cons_zero, List.set_cons_succ, List.cons_append, List.nil_append, Act.eval, Array.getD_eq_getD_getElem?, List.getElem?_toArray, List.getElem?_cons_succ, List.getElem?_cons_zero, Option.getD_some, Value.cells] at hw); (try simp (disch := first | (simp; done) | (simp; omega)) only [Sep.mid_set, Sep.mid_set2, Sep.mid_set0, Sep.mid_splice, Sep.mid_splice0, List.set_cons_zero, List.set_cons_succ] at hw); (try simp only [Sep.splice, List.take_succ_cons, List.take_zero, List.drop_succ_cons, List.drop_zero, List.length_cons, List.length_nil, Nat.reduceAdd, List.cons_append, List.nil_append] at hw); (try replace hc0 := Sep.Holds.cells hw (i := 0) rfl); (try replace hc1 := Sep.Holds.cells hw (i := 1) rfl); (try replace hc2 := Sep.Holds.cells hw (i := 2) rfl); (try replace hc3 := Sep.Holds.cells hw (i := 3) rfl); (try replace hc4 := Sep.Holds.cells hw (i := 4) rfl); (try replace hc5 := Sep.Holds.cells hw (i := 5) rfl); (try replace hc6 := Sep.Holds.cells hw (i := 6) rfl))
      refine ⟨(SL.drop 3 (by kernel_rfl) (SL.keep (by exact hw.sel [1, 2] (by decide)) SL.nil)), ?_⟩
      try simp only [Act.put, List.setIfInBounds_toArray, List.set_cons_zero, List.set_cons_succ]
      refine wpL_o 5 rfl (by rfl) (marks 9 63) ?_
      (refine wp_bsl1 (v := .agg #[.int .i64 x.d, .int .i64 x.a, .int .i64 x.n]) rfl rfl (by rfl) (by rfl) (by decide) hw ?_; intro b3s_ w_ hw_; clear hw; have hw := hw_; clear hw_; (try simp only [List.map_cons, List.map_nil, List.getD_cons_zero, List.getD_cons_succ, List.getD_nil, List.set_cons_zero, List.set_cons_succ, List.cons_append, List.nil_append, Act.eval, Array.getD_eq_getD_getElem?, List.getElem?_toArray, List.getElem?_cons_succ, List.getElem?_cons_zero, Option.getD_some, Value.cells] at hw); (try simp (disch := first | (simp; done) | (simp; omega)) only [Sep.mid_set, Sep.mid_set2, Sep.mid_set0, Sep.mid_splice, Sep.mid_splice0, List.set_cons_zero, List.set_cons_succ] at hw); (try simp only [Sep.splice, List.take_succ_cons, List.take_zero, List.drop_succ_cons, List.drop_zero, List.length_cons, List.length_nil, Nat.reduceAdd, List.cons_append, List.nil_append] at hw); (try replace hc0 := Sep.Holds.cells hw (i := 0) rfl); (try replace hc1 := Sep.Holds.cells hw (i := 1) rfl); (try replace hc2 := Sep.Holds.cells hw (i := 2) rfl); (try replace hc3 := Sep.Holds.cells hw (i := 3) rfl); (try replace hc4 := Sep.Holds.cells hw (i := 4) rfl); (try replace hc5 := Sep.Holds.cells hw (i := 5) rfl); (try replace hc6 := Sep.Holds.cells hw (i := 6) rfl))
      refine ⟨(SL.drop 3 (by kernel_rfl) (SL.drop 5 (by kernel_rfl) SL.nil)), ?_⟩
      try simp only [Act.put, List.setIfInBounds_toArray, List.set_cons_zero, List.set_cons_succ]
      refine wpL_o 6 rfl (by rfl) (marks 9 127) ?_
      (refine wp_appendPt (i := 5) (j := 6) (n := 0 + i1) (m := 1) rfl rfl hw rfl rfl rfl (by rfl) (by simp [Value.oneCell']) (by decide) (by rfl) (by (try unfold maxLen); omega) (by (try unfold maxLen); omega) ?_; intro bx2_ cap2_ off2_ w_ hcap2_ hw_; clear hw; have hw := hw_; clear hw_; (try simp only [List.map_cons, List.map_nil, List.getD_cons_zero, List.getD_cons_succ, List.getD_nil, List.set_cons_zero, List.set_cons_succ, List.cons_append, List.nil_append, Act.eval, Array.getD_eq_getD_getElem?, List.getElem?_toArray, List.getElem?_cons_succ, List.getElem?_cons_zero, Option.getD_some, Value.cells] at hw); (try simp (disch := first | (simp; done) | (simp; omega)) only [Sep.mid_set, Sep.mid_set2, Sep.mid_set0, Sep.mid_splice, Sep.mid_splice0, List.set_cons_zero, List.set_cons_succ] at hw); (try simp only [Sep.splice, List.take_succ_cons, List.take_zero, List.drop_succ_cons, List.drop_zero, List.length_cons, List.length_nil, Nat.reduceAdd, List.cons_append, List.nil_append] at hw); (try replace hc0 := Sep.Holds.cells hw (i := 0) rfl); (try replace hc1 := Sep.Holds.cells hw (i := 1) rfl); (try replace hc2 := Sep.Holds.cells hw (i := 2) rfl); (try replace hc3 := Sep.Holds.cells hw (i := 3) rfl); (try replace hc4 := Sep.Holds.cells hw (i := 4) rfl); (try replace hc5 := Sep.Holds.cells hw (i := 5) rfl); (try replace hc6 := Sep.Holds.cells hw (i := 6) rfl))
      refine ⟨(SL.drop 3 (by kernel_rfl) (SL.drop 5 (by kernel_rfl) SL.nil)), ?_⟩
      try simp only [Act.put, List.setIfInBounds_toArray, List.set_cons_zero, List.set_cons_succ]
      refine wpL_q 7 ?_ rfl (Or.inl ⟨by rfl, fun w_ hS_ => ?_⟩) (marks 9 255) ?_
      rotate_left
      next => (go_simp; try (first | rfl | exact (Bool.not_not _).symm))
      try simp only [Act.put, List.setIfInBounds_toArray, List.set_cons_zero, List.set_cons_succ]
      refine wpL_o 8 rfl (by rfl) (marks 9 511) ?_
      (refine wp_store1 (v := .slice (some ⟨bx2_, off2_, none⟩) (0 + i1 + 1) cap2_) (off := 5) rfl rfl rfl hw (i := 4) rfl (show 5 < 6 by decide) rfl ?_; intro w_ hw_; clear hw; have hw := hw_; clear hw_; (try simp only [List.map_cons, List.map_nil, List.getD_cons_zero, List.getD_cons_succ, List.getD_nil, List.set_cons_zero, List.set_cons_succ, List.cons_append, List.nil_append, Act.eval, Array.getD_eq_getD_getElem?, List.getElem?_toArray, List.getElem?_cons_succ, List.getElem?_cons_zero, Option.getD_some, Value.cells] at hw); (try simp (disch := first | (simp; done) | (simp; omega)) only [Sep.mid_set, Sep.mid_set2, Sep.mid_set0, Sep.mid_splice, Sep.mid_splice0, List.set_cons_zero, List.set_cons_succ] at hw); (try simp only [Sep.splice, List.take_succ_cons, List.take_zero, List.drop_succ_cons, List.drop_zero, List.length_cons, List.length_nil, Nat.reduceAdd, List.cons_append, List.nil_append] at hw); (try replace hc0 := Sep.Holds.cells hw (i := 0) rfl); (try replace hc1 := Sep.Holds.cells hw (i := 1) rfl); (try replace hc2 := Sep.Holds.cells hw (i := 2) rfl); (try replace hc3 := Sep.Holds.cells hw (i := 3) rfl); (try replace hc4 := Sep.Holds.cells hw (i := 4) rfl); (try replace hc5 := Sep.Holds.cells hw (i := 5) rfl); (try replace hc6 := Sep.Holds.cells hw (i := 6) rfl))
      refine ⟨(SL.drop 3 (by kernel_rfl) (SL.drop 5 (by kernel_rfl) SL.nil)), ?_⟩
      try simp only [Act.put, List.setIfInBounds_toArray, List.set_cons_zero, List.set_cons_succ]
      refine wpL_done (by kernel_rfl) ?_ _
      (replace hw := hw.sel [0, 1, 2, 3, 4, 5] (by decide); (try simp only [List.map_cons, List.map_nil, List.getD_cons_zero, List.getD_cons_succ, List.getD_nil, List.set_cons_zero, List.set_cons_succ, List.cons_append, List.nil_append, Act.eval, Array.getD_eq_getD_getElem?, List.getElem?_toArray, List.getElem?_cons_succ, List.getElem?_cons_zero, Option.getD_some, Value.cells] at hw); (try simp (disch := first | (simp; done) | (simp; omega)) only [Sep.mid_set, Sep.mid_set2, Sep.mid_set0, Sep.mid_splice, Sep.mid_splice0, List.set_cons_zero, List.set_cons_succ] at hw); (try simp only [Sep.splice, List.take_succ_cons, List.take_zero, List.drop_succ_cons, List.drop_zero, List.length_cons, List.length_nil, Nat.reduceAdd, List.cons_append, List.nil_append] at hw); simp only [Nat.zero_add, List.nil_append] at hw ⊢)
     rotate_left 1
     focus
      refine ⟨_, _, rfl, by rfl, ?_⟩
      (refine wp_bsl1 (v := .agg #[.int .i64 x.d, .int .i64 x.a, .int .i64 x.n]) rfl rfl (by rfl) (by rfl) (by decide) hw ?_; intro b3s_ w_ hw_; clear hw; have hw := hw_; clear hw_; (try simp only [List.map_cons, List.map_nil, List.getD_cons_zero, List.getD_cons_succ, List.getD_nil, List.set_cons_zero, List.set_cons_succ, List.cons_append, List.nil_append, Act.eval, Array.getD_eq_getD_getElem?, List.getElem?_toArray, List.getElem?_cons_succ, List.getElem?_cons_zero, Option.getD_some, Value.cells] at hw); (try simp (disch := first | (simp; done) | (simp; omega)) only [Sep.mid_set, Sep.mid_set2, Sep.mid_set0, Sep.mid_splice, Sep.mid_splice0, List.set_cons_zero, List.set_cons_succ] at hw); (try simp only [Sep.splice, List.take_succ_cons, List.take_zero, List.drop_succ_cons, List.drop_zero, List.length_cons, List.length_nil, Nat.reduceAdd, List.cons_append, List.nil_append] at hw); (try replace hc0 := Sep.Holds.cells hw (i := 0) rfl); (try replace hc1 := Sep.Holds.cells hw (i := 1) rfl); (try replace hc2 := Sep.Holds.cells hw (i := 2) rfl); (try replace hc3 := Sep.Holds.cells hw (i := 3) rfl); (try replace hc4 := Sep.Holds.cells hw (i := 4) rfl); (try replace hc5 := Sep.Holds.cells hw (i := 5) rfl); (try replace hc6 := Sep.Holds.cells hw (i := 6) rfl))
      refine ⟨(SL.keep (by exact hw.sel [1, 2] (by decide)) (SL.drop 5 (by kernel_rfl) SL.nil)), ?_⟩
      try simp only [Act.put, List.setIfInBounds_toArray, List.set_cons_zero, List.set_cons_succ]
      refine wpL_o 3 rfl (by rfl) (marks 9 63) ?_
      (refine wp_appendRd (i := 5) (n := 0) (m := i1) (u := .slice ia i1 ic) (news := encTs s.is) rfl rfl hw rfl rfl (by rw [encTs_length, Hi1.out]) (newsT_of (HIs.out _ _ 0 hw rfl) Hi1.out) (encTs_one s.is) (by rfl) (by (try unfold maxLen); omega) (by (try unfold maxLen); omega) ?_; intro a2_ cp2_ w_ hw_; clear hw; have hw := hw_; clear hw_; (try simp only [List.map_cons, List.map_nil, List.getD_cons_zero, List.getD_cons_succ, List.getD_nil, List.set_cons_zero, List.set_cons_succ, List.cons_append, List.nil_append, Act.eval, Array.getD_eq_getD_getElem?, List.getElem?_toArray, List.getElem?_cons_succ, List.getElem?_cons_zero, Option.getD_some, Value.cells] at hw); (try simp (disch := first | (simp; done) | (simp; omega)) only [Sep.mid_set, Sep.mid_set2, Sep.mid_set0, Sep.mid_splice, Sep.mid_splice0, List.set_cons_zero, List.set_cons_succ] at hw); (try simp only [Sep.splice, List.take_succ_cons, List.take_zero, List.drop_succ_cons, List.drop_zero, List.length_cons, List.length_nil, Nat.reduceAdd, List.cons_append, List.nil_append] at hw); (try replace hc0 := Sep.Holds.cells hw (i := 0) rfl); (try replace hc1 := Sep.Holds.cells hw (i := 1) rfl); (try replace hc2 := Sep.Holds.cells hw (i := 2) rfl); (try replace hc3 := Sep.Holds.cells hw (i := 3) rfl); (try replace hc4 := Sep.Holds.cells hw (i := 4) rfl); (try replace hc5 := Sep.Holds.cells hw (i := 5) rfl); (try replace hc6 := Sep.Holds.cells hw (i := 6) rfl))
      refine ⟨(SL.drop 3 (by kernel_rfl) (SL.drop 5 (by kernel_rfl) SL.nil)), ?_⟩
      try simp only [Act.put, List.setIfInBounds_toArray, List.set_cons_zero, List.set_cons_succ]
      refine wpL_o 6 rfl (by rfl) (marks 9 127) ?_
      (refine wp_appendPt (i := 5) (j := 6) (n := 0 + i1) (m := 1) rfl rfl hw rfl rfl rfl (by rfl) (by simp [Value.oneCell']) (by decide) (by rfl) (by (try unfold maxLen); omega) (by (try unfold maxLen); omega) ?_; intro bx2_ cap2_ off2_ w_ hcap2_ hw_; clear hw; have hw := hw_; clear hw_; (try simp only [List.map_cons, List.map_nil, List.getD_cons_zero, List.getD_cons_succ, List.getD_nil, List.set_cons_zero, List.set_cons_succ, List.cons_append, List.nil_append, Act.eval, Array.getD_eq_getD_getElem?, List.getElem?_toArray, List.getElem?_cons_succ, List.getElem?_cons_zero, Option.getD_some, Value.cells] at hw); (try simp (disch := first | (simp; done) | (simp; omega)) only [Sep.mid_set, Sep.mid_set2, Sep.mid_set0, Sep.mid_splice, Sep.mid_splice0, List.set_cons_zero, List.set_cons_succ] at hw); (try simp only [Sep.splice, List.take_succ_cons, List.take_zero, List.drop_succ_cons, List.drop_zero, List.length_cons, List.length_nil, Nat.reduceAdd, List.cons_append, List.nil_append] at hw); (try replace hc0 := Sep.Holds.cells hw (i := 0) rfl); (try replace hc1 := Sep.Holds.cells hw (i := 1) rfl); (try replace hc2 := Sep.Holds.cells hw (i := 2) rfl); (try replace hc3 := Sep.Holds.cells hw (i := 3) rfl); (try replace hc4 := Sep.Holds.cells hw (i := 4) rfl); (try replace hc5 := Sep.Holds.cells hw (i := 5) rfl); (try replace hc6 := Sep.Holds.cells hw (i := 6) rfl))
      refine ⟨(SL.drop 3 (by kernel_rfl) (SL.drop 5 (by kernel_rfl) SL.nil)), ?_⟩
      try simp only [Act.put, List.setIfInBounds_toArray, List.set_cons_zero, List.set_cons_succ]
      refine wpL_q 7 ?_ rfl (Or.inl ⟨by rfl, fun w_ hS_ => ?_⟩) (marks 9 255) ?_
      rotate_left
      next => (go_simp; try (first | rfl | exact (Bool.not_not _).symm))
      try simp only [Act.put, List.setIfInBounds_toArray, List.set_cons_zero, List.set_cons_succ]
      refine wpL_o 8 rfl (by rfl) (marks 9 511) ?_
      (refine wp_store1 (v := .slice (some ⟨bx2_, off2_, none⟩) (0 + i1 + 1) cap2_) (off := 5) rfl rfl rfl hw (i := 4) rfl (show 5 < 6 by decide) rfl ?_; intro w_ hw_; clear hw; have hw := hw_; clear hw_; (try simp only [List.map_cons, List.map_nil, List.getD_cons_zero, List.getD_cons_succ, List.getD_nil, List.set_cons_zero, List.set_cons_succ, List.cons_append, List.nil_append, Act.eval, Array.getD_eq_getD_getElem?, List.getElem?_toArray, List.getElem?_cons_succ, List.getElem?_cons_zero, Option.getD_some, Value.cells] at hw); (try simp (disch := first | (simp; done) | (simp; omega)) only [Sep.mid_set, Sep.mid_set2, Sep.mid_set0, Sep.mid_splice, Sep.mid_splice0, List.set_cons_zero, List.set_cons_succ] at hw); (try simp only [Sep.splice, List.take_succ_cons, List.take_zero, List.drop_succ_cons, List.drop_zero, List.length_cons, List.length_nil, Nat.reduceAdd, List.cons_append, List.nil_append] at hw); (try replace hc0 := Sep.Holds.cells hw (i := 0) rfl); (try replace hc1 := Sep.Holds.cells hw (i := 1) rfl); (try replace hc2 := Sep.Holds.cells hw (i := 2) rfl); (try replace hc3 := Sep.Holds.cells hw (i := 3) rfl); (try replace hc4 := Sep.Holds.cells hw (i := 4) rfl); (try replace hc5 := Sep.Holds.cells hw (i := 5) rfl); (try replace hc6 := Sep.Holds.cells hw (i := 6) rfl))
      refine ⟨(SL.drop 3 (by kernel_rfl) (SL.drop 5 (by kernel_rfl) SL.nil)), ?_⟩
      try simp only [Act.put, List.setIfInBounds_toArray, List.set_cons_zero, List.set_cons_succ]
      refine wpL_done (by kernel_rfl) ?_ _
      (replace hw := hw.sel [0, 1, 2, 3, 4, 5] (by decide); (try simp only [List.map_cons, List.map_nil, List.getD_cons_zero, List.getD_cons_succ, List.getD_nil, List.set_cons_zero, List.set_cons_succ, List.cons_append, List.nil_append, Act.eval, Array.getD_eq_getD_getElem?, List.getElem?_toArray, List.getElem?_cons_succ, List.getElem?_cons_zero, Option.getD_some, Value.cells] at hw); (try simp (disch := first | (simp; done) | (simp; omega)) only [Sep.mid_set, Sep.mid_set2, Sep.mid_set0, Sep.mid_splice, Sep.mid_splice0, List.set_cons_zero, List.set_cons_succ] at hw); (try simp only [Sep.splice, List.take_succ_cons, List.take_zero, List.drop_succ_cons, List.drop_zero, List.length_cons, List.length_nil, Nat.reduceAdd, List.cons_append, List.nil_append] at hw); simp only [Nat.zero_add, List.nil_append] at hw ⊢)
     rotate_left 1
    rotate_left 2
    focus
     refine ⟨_, _, rfl, by rfl, ?_⟩
     (refine wp_bsl1 (v := .agg #[.int .i64 x.d, .int .i64 x.a, .int .i64 x.n]) rfl rfl (by rfl) (by rfl) (by decide) hw ?_; intro b3s_ w_ hw_; clear hw; have hw := hw_; clear hw_; (try simp only [List.map_cons, List.map_nil, List.getD_cons_zero, List.getD_cons_succ, List.getD_nil, List.set_cons_zero, List.set_cons_succ, List.cons_append, List.nil_append, Act.eval, Array.getD_eq_getD_getElem?, List.getElem?_toArray, List.getElem?_cons_succ, List.getElem?_cons_zero, Option.getD_some, Value.cells] at hw); (try simp (disch := first | (simp; done) | (simp; omega)) only [Sep.mid_set, Sep.mid_set2, Sep.mid_set0, Sep.mid_splice, Sep.mid_splice0, List.set_cons_zero, List.set_cons_succ] at hw); (try simp only [Sep.splice, List.take_succ_cons, List.take_zero, List.drop_succ_cons, List.drop_zero, List.length_cons, List.length_nil, Nat.reduceAdd, List.cons_append, List.nil_append] at hw); (try replace hc0 := Sep.Holds.cells hw (i := 0) rfl); (try replace hc1 := Sep.Holds.cells hw (i := 1) rfl); (try replace hc2 := Sep.Holds.cells hw (i := 2) rfl); (try replace hc3 := Sep.Holds.cells hw (i := 3) rfl); (try replace hc4 := Sep.Holds.cells hw (i := 4) rfl); (try replace hc5 := Sep.Holds.cells hw (i := 5) rfl); (try replace hc6 := Sep.Holds.cells hw (i := 6) rfl))
     refine ⟨(SL.keep (by exact hw.sel [1, 2] (by decide)) (SL.drop 5 (by kernel_rfl) SL.nil)), ?_⟩
     try simp only [Act.put, List.setIfInBounds_toArray, List.set_cons_zero, List.set_cons_succ]
     refine wpL_o 0 rfl (by rfl) (marks 9 55) ?_
     (refine wp_bsl0 rfl hw ?_; intro b0_ w_ hw_; replace hw_ := hw_.newSl (i := 6) rfl 3 0 rfl (by decide); clear hw; have hw := hw_; clear hw_; (try simp only [List.map_cons, List.map_nil, List.getD_cons_zero, List.getD_cons_succ, List.getD_nil, List.set_cons_zero, List.set_cons_succ, List.cons_append, List.nil_append, Act.eval, Array.getD_eq_getD_getElem?, List.getElem?_toArray, List.getElem?_cons_succ, List.getElem?_cons_zero, Option.getD_some, Value.cells] at hw); (try simp (disch := first | (simp; done) | (simp; omega)) only [Sep.mid_set, Sep.mid_set2, Sep.mid_set0, Sep.mid_splice, Sep.mid_splice0, List.set_cons_zero, List.set_cons_succ] at hw); (try simp only [Sep.splice, List.take_succ_cons, List.take_zero, List.drop_succ_cons, List.drop_zero, List.length_cons, List.length_nil, Nat.reduceAdd, List.cons_append, List.nil_append] at hw); (try replace hc0 := Sep.Holds.cells hw (i := 0) rfl); (try replace hc1 := Sep.Holds.cells hw (i := 1) rfl); (try replace hc2 := Sep.Holds.cells hw (i := 2) rfl); (try replace hc3 := Sep.Holds.cells hw (i := 3) rfl); (try replace hc4 := Sep.Holds.cells hw (i := 4) rfl); (try replace hc5 := Sep.Holds.cells hw (i := 5) rfl); (try replace hc6 := Sep.Holds.cells hw (i := 6) rfl))
     refine ⟨(SL.keep (by exact hw.sel [1, 2] (by decide)) (SL.drop 5 (by kernel_rfl) SL.nil)), ?_⟩
     try simp only [Act.put, List.setIfInBounds_toArray, List.set_cons_zero, List.set_cons_succ]
     refine wpL_o 3 rfl (by rfl) (marks 9 63) ?_
     (refine wp_appendRd (i := 6) (n := 0) (m := i1) (u := .slice ia i1 ic) (news := encTs s.is) rfl rfl hw rfl rfl (by rw [encTs_length, Hi1.out]) (newsT_of (HIs.out _ _ 0 hw rfl) Hi1.out) (encTs_one s.is) (by rfl) (by (try unfold maxLen); omega) (by (try unfold maxLen); omega) ?_; intro a2_ cp2_ w_ hw_; clear hw; have hw := hw_; clear hw_; (try simp only [List.map_cons, List.map_nil, List.getD_cons_zero, List.getD_cons_succ, List.getD_nil, List.set_cons_zero, List.set_cons_succ, List.cons_append, List.nil_append, Act.eval, Array.getD_eq_getD_getElem?, List.getElem?_toArray, List.getElem?_cons_succ, List.getElem?_cons_zero, Option.getD_some, Value.cells] at hw); (try simp (disch := first | (simp; done) | (simp; omega)) only [Sep.mid_set, Sep.mid_set2, Sep.mid_set0, Sep.mid_splice, Sep.mid_splice0, List.set_cons_zero, List.set_cons_succ] at hw); (try simp only [Sep.splice, List.take_succ_cons, List.take_zero, List.drop_succ_cons, List.drop_zero, List.length_cons, List.length_nil, Nat.reduceAdd, List.cons_append, List.nil_append] at hw); (try replace hc0 := Sep.Holds.cells hw (i := 0) rfl); (try replace hc1 := Sep.Holds.cells hw (i := 1) rfl); (try replace hc2 := Sep.Holds.cells hw (i := 2) rfl); (try replace hc3 := Sep.Holds.cells hw (i := 3) rfl); (try replace hc4 := Sep.Holds.cells hw (i := 4) rfl); (try replace hc5 := Sep.Holds.cells hw (i := 5) rfl); (try replace hc6 := Sep.Holds.cells hw (i := 6) rfl))
     refine ⟨(SL.drop 3 (by kernel_rfl) (SL.drop 5 (by kernel_rfl) SL.nil)), ?_⟩
     try simp only [Act.put, List.setIfInBounds_toArray, List.set_cons_zero, List.set_cons_succ]
     refine wpL_o 6 rfl (by rfl) (marks 9 127) ?_
     (refine wp_appendPt (i := 6) (j := 5) (n := 0 + i1) (m := 1) rfl rfl hw rfl rfl rfl (by rfl) (by simp [Value.oneCell']) (by decide) (by rfl) (by (try unfold maxLen); omega) (by (try unfold maxLen); omega) ?_; intro bx2_ cap2_ off2_ w_ hcap2_ hw_; clear hw; have hw := hw_; clear hw_; (try simp only [List.map_cons, List.map_nil, List.getD_cons_zero, List.getD_cons_succ, List.getD_nil, List.set_cons_zero, List.set_cons_succ, List.cons_append, List.nil_append, Act.eval, Array.getD_eq_getD_getElem?, List.getElem?_toArray, List.getElem?_cons_succ, List.getElem?_cons_zero, Option.getD_some, Value.cells] at hw); (try simp (disch := first | (simp; done) | (simp; omega)) only [Sep.mid_set, Sep.mid_set2, Sep.mid_set0, Sep.mid_splice, Sep.mid_splice0, List.set_cons_zero, List.set_cons_succ] at hw); (try simp only [Sep.splice, List.take_succ_cons, List.take_zero, List.drop_succ_cons, List.drop_zero, List.length_cons, List.length_nil, Nat.reduceAdd, List.cons_append, List.nil_append] at hw); (try replace hc0 := Sep.Holds.cells hw (i := 0) rfl); (try replace hc1 := Sep.Holds.cells hw (i := 1) rfl); (try replace hc2 := Sep.Holds.cells hw (i := 2) rfl); (try replace hc3 := Sep.Holds.cells hw (i := 3) rfl); (try replace hc4 := Sep.Holds.cells hw (i := 4) rfl); (try replace hc5 := Sep.Holds.cells hw (i := 5) rfl); (try replace hc6 := Sep.Holds.cells hw (i := 6) rfl))
     refine ⟨(SL.drop 3 (by kernel_rfl) (SL.drop 5 (by kernel_rfl) SL.nil)), ?_⟩
     try simp only [Act.put, List.setIfInBounds_toArray, List.set_cons_zero, List.set_cons_succ]
     refine wpL_q 7 ?_ rfl (Or.inl ⟨by rfl, fun w_ hS_ => ?_⟩) (marks 9 255) ?_
     rotate_left
     next => (go_simp; try (first | rfl | exact (Bool.not_not _).symm))
     try simp only [Act.put, List.setIfInBounds_toArray, List.set_cons_zero, List.set_cons_succ]
     refine wpL_o 8 rfl (by rfl) (marks 9 511) ?_
     (refine wp_store1 (v := .slice (some ⟨bx2_, off2_, none⟩) (0 + i1 + 1) cap2_) (off := 5) rfl rfl rfl hw (i := 4) rfl (show 5 < 6 by decide) rfl ?_; intro w_ hw_; clear hw; have hw := hw_; clear hw_; (try simp only [List.map_cons, List.map_nil, List.getD_cons_zero, List.getD_cons_succ, List.getD_nil, List.set_cons_zero, List.set_cons_succ, List.cons_append, List.nil_append, Act.eval, Array.getD_eq_getD_getElem?, List.getElem?_toArray, List.getElem?_cons_succ, List.getElem?_cons_zero, Option.getD_some, Value.cells] at hw); (try simp (disch := first | (simp; done) | (simp; omega)) only [Sep.mid_set, Sep.mid_set2, Sep.mid_set0, Sep.mid_splice, Sep.mid_splice0, List.set_cons_zero, List.set_cons_succ] at hw); (try simp only [Sep.splice, List.take_succ_cons, List.take_zero, List.drop_succ_cons, List.drop_zero, List.length_cons, List.length_nil, Nat.reduceAdd, List.cons_append, List.nil_append] at hw); (try replace hc0 := Sep.Holds.cells hw (i := 0) rfl); (try replace hc1 := Sep.Holds.cells hw (i := 1) rfl); (try replace hc2 := Sep.Holds.cells hw (i := 2) rfl); (try replace hc3 := Sep.Holds.cells hw (i := 3) rfl); (try replace hc4 := Sep.Holds.cells hw (i := 4) rfl); (try replace hc5 := Sep.Holds.cells hw (i := 5) rfl); (try replace hc6 := Sep.Holds.cells hw (i := 6) rfl))
     refine ⟨(SL.drop 3 (by kernel_rfl) (SL.drop 5 (by kernel_rfl) SL.nil)), ?_⟩
     try simp only [Act.put, List.setIfInBounds_toArray, List.set_cons_zero, List.set_cons_succ]
     refine wpL_done (by kernel_rfl) ?_ _
     (replace hw := hw.sel [0, 1, 2, 3, 4, 6] (by decide); (try simp only [List.map_cons, List.map_nil, List.getD_cons_zero, List.getD_cons_succ, List.getD_nil, List.set_cons_zero, List.set_cons_succ, List.cons_append, List.nil_append, Act.eval, Array.getD_eq_getD_getElem?, List.getElem?_toArray, List.getElem?_cons_succ, List.getElem?_cons_zero, Option.getD_some, Value.cells] at hw); (try simp (disch := first | (simp; done) | (simp; omega)) only [Sep.mid_set, Sep.mid_set2, Sep.mid_set0, Sep.mid_splice, Sep.mid_splice0, List.set_cons_zero, List.set_cons_succ] at hw); (try simp only [Sep.splice, List.take_succ_cons, List.take_zero, List.drop_succ_cons, List.drop_zero, List.length_cons, List.length_nil, Nat.reduceAdd, List.cons_append, List.nil_append] at hw); simp only [Nat.zero_add, List.nil_append] at hw ⊢)
    rotate_left 1
    all_goals (
      (try clear hc0); (try clear hc1); (try clear hc2); (try clear hc3); (try clear hc4); (try clear hc5); (try clear hc6)
      (try replace hc0 := Sep.Holds.cells hw (i := 0) rfl); (try replace hc1 := Sep.Holds.cells hw (i := 1) rfl); (try replace hc2 := Sep.Holds.cells hw (i := 2) rfl); (try replace hc3 := Sep.Holds.cells hw (i := 3) rfl); (try replace hc4 := Sep.Holds.cells hw (i := 4) rfl); (try replace hc5 := Sep.Holds.cells hw (i := 5) rfl); (try replace hc6 := Sep.Holds.cells hw (i := 6) rfl)
      rw [show encTs s.is ++ [.int .i64 x.d, .int .i64 x.a, .int .i64 x.n] = encTs (s.is ++ [x]) from (encTs_snoc s.is x).symm] at hw
      have hw : Holds e w_ [Old e, pt b2_ [.int .i64 s.r0, .int .i64 s.r1, .int .i64 s.r2, .int .i64 s.r3, .slice pa n1 pc, .slice ia i1 ic] 28, pt b3_ [.int .i64 x.d, .int .i64 x.a, .int .i64 x.n] 23, Sl 5 1 (.slice a1 lb k1) lb (encB (bS s)), pt b7_ [.int .i64 s.r0, .int .i64 s.r1, .int .i64 s.r2, .int .i64 s.r3, .slice pa n1 pc, .slice (some ⟨bx2_, off2_, none⟩) (i1 + 1) cap2_] 28, Sl 23 3 (.slice (some ⟨bx2_, off2_, none⟩) (s.is ++ [x]).length cap2_) (s.is ++ [x]).length (encTs (s.is ++ [x]))] := by rw [Hl1.out]; exact hw
      have hsvt : scrV ⟨s.r0, s.r1, s.r2, s.r3, s.ps, s.is ++ [x]⟩ pa pc (some ⟨bx2_, off2_, none⟩) cap2_ = [.int .i64 s.r0, .int .i64 s.r1, .int .i64 s.r2, .int .i64 s.r3, .slice pa n1 pc, .slice (some ⟨bx2_, off2_, none⟩) (i1 + 1) cap2_] := by
        have := Hl1.out
        unfold scrV
        simp only
        rw [this, Hn1.out]
      go_wp2_with fail
      have hl1 := oBytesSX ⟨s.r0, s.r1, s.r2, s.r3, s.ps, s.is ++ [x]⟩ HSt.out hs pa (some ⟨bx2_, off2_, none⟩) pc cap2_ e _ _ HT.out.sep (HPs.out.at 0 rfl) (rdT.at 5 rfl) hw.focus0
      rw [hsvt] at hl1
      refine hl1.mono ?_
      clear hl1
      rintro _ w_ ⟨v3, rfl, hw_⟩
      rw [Het.out]
      rw [Hbt.out] at hw_
      clear hw; (try clear hc0); (try clear hc1); (try clear hc2); (try clear hc3); (try clear hc4); (try clear hc5); (try clear hc6); have hw := Holds.unfocus0 hw_; clear hw_; (try simp only [List.map_cons, List.map_nil, List.getD_cons_zero, List.getD_cons_succ, List.getD_nil, List.set_cons_zero, List.set_cons_succ, List.cons_append, List.nil_append, Act.eval, Array.getD_eq_getD_getElem?, List.getElem?_toArray, List.getElem?_cons_succ, List.getElem?_cons_zero, Option.getD_some, Value.cells] at hw); (try simp (disch := first | (simp; done) | (simp; omega)) only [Sep.mid_set, Sep.mid_set2, Sep.mid_set0, Sep.mid_splice, Sep.mid_splice0, List.set_cons_zero, List.set_cons_succ] at hw); (try simp only [Sep.splice, List.take_succ_cons, List.take_zero, List.drop_succ_cons, List.drop_zero, List.length_cons, List.length_nil, Nat.reduceAdd, List.cons_append, List.nil_append] at hw)
      (try replace hc0 := Sep.Holds.cells hw (i := 0) rfl); (try replace hc1 := Sep.Holds.cells hw (i := 1) rfl); (try replace hc2 := Sep.Holds.cells hw (i := 2) rfl); (try replace hc3 := Sep.Holds.cells hw (i := 3) rfl); (try replace hc4 := Sep.Holds.cells hw (i := 4) rfl); (try replace hc5 := Sep.Holds.cells hw (i := 5) rfl); (try replace hc6 := Sep.Holds.cells hw (i := 6) rfl)
      have Hsvt := Sep.hid hsvt; clear hsvt
      go_wp2_with fail
      refine wp_region_L [1, 3, 9] [(0, (fun w' => w' = w_.drew)), (2, (fun w' => Holds e w' [pt b3_ [.int .i64 x.d, .int .i64 x.a, .int .i64 x.n] 23])), (8, (fun w' => Holds e w' [pt b3_ [.int .i64 x.d, .int .i64 x.a, .int .i64 x.n] 23]))] (n := 12) (listed := (marks 12 0)) (by kernel_rfl) rfl (by kernel_rfl) ?conds2 ?_
      case conds2 =>
       intro c hc
       simp only [List.mem_cons, List.not_mem_nil, or_false] at hc
       rcases hc with rfl | rfl | rfl
       · rfl
       · exact (by replace hw := hw.drew; exact hw.sel [2] (by decide))
       · exact (by replace hw := hw.drew; exact hw.sel [2] (by decide))
      replace hw := hw.drew
      (try replace hc0 := Sep.Holds.cells hw (i := 0) rfl); (try replace hc1 := Sep.Holds.cells hw (i := 1) rfl); (try replace hc2 := Sep.Holds.cells hw (i := 2) rfl); (try replace hc3 := Sep.Holds.cells hw (i := 3) rfl); (try replace hc4 := Sep.Holds.cells hw (i := 4) rfl); (try replace hc5 := Sep.Holds.cells hw (i := 5) rfl); (try replace hc6 := Sep.Holds.cells hw (i := 6) rfl)
      refine wpL_m 0 ?_ rfl (.head _) (Or.inl ⟨by rfl, fun w_ hS_ => ?_⟩) (marks 12 1) ?_
      rotate_left
      next => (subst hS_; go_simp; try (first | rfl | exact (Bool.not_not _).symm))
      try simp only [Act.put, List.setIfInBounds_toArray, List.set_cons_zero, List.set_cons_succ]
      refine wpL_m 2 ?_ rfl (.tail _ (.head _)) (Or.inl ⟨by rfl, fun w_ hS_ => ?_⟩) (marks 12 5) ?_
      rotate_left
      next => (dsimp only at hS_; (try have q0 := Sep.Holds.cells hS_ (i := 0) rfl); (try have q1 := Sep.Holds.cells hS_ (i := 1) rfl); (try have q2 := Sep.Holds.cells hS_ (i := 2) rfl); (try have q3 := Sep.Holds.cells hS_ (i := 3) rfl); (try have q4 := Sep.Holds.cells hS_ (i := 4) rfl); (try have q5 := Sep.Holds.cells hS_ (i := 5) rfl); (try have q6 := Sep.Holds.cells hS_ (i := 6) rfl); go_simp; try (first | rfl | exact (Bool.not_not _).symm))
      try simp only [Act.put, List.setIfInBounds_toArray, List.set_cons_zero, List.set_cons_succ]
      refine wpL_o 1 rfl (by rfl) (marks 12 7) ?_
      (go_simp; go_at_call 15; have hl1 := oMayS ⟨s.r0, s.r1, s.r2, s.r3, s.ps, s.is ++ [x]⟩ HSt.out hs pa (some ⟨bx2_, off2_, none⟩) pc cap2_ e _ _ HT.out.sep (HPs.out.at 0 rfl) (rdT.at 5 rfl) hw.focus0; rw [Hsvt.out] at hl1; refine hl1.mono ?_; clear hl1; rintro _ w_ ⟨rfl, hw_⟩; rw [Hmt.out]; clear hw; have hw := Holds.unfocus0 hw_; clear hw_; (try simp only [List.map_cons, List.map_nil, List.getD_cons_zero, List.getD_cons_succ, List.getD_nil, List.set_cons_zero, List.set_cons_succ, List.cons_append, List.nil_append, Act.eval, Array.getD_eq_getD_getElem?, List.getElem?_toArray, List.getElem?_cons_succ, List.getElem?_cons_zero, Option.getD_some, Value.cells] at hw); (try simp (disch := first | (simp; done) | (simp; omega)) only [Sep.mid_set, Sep.mid_set2, Sep.mid_set0, Sep.mid_splice, Sep.mid_splice0, List.set_cons_zero, List.set_cons_succ] at hw); (try simp only [Sep.splice, List.take_succ_cons, List.take_zero, List.drop_succ_cons, List.drop_zero, List.length_cons, List.length_nil, Nat.reduceAdd, List.cons_append, List.nil_append] at hw))
      refine ⟨(SL.drop 1 (by kernel_rfl) (SL.keep (by exact hw.sel [2] (by decide)) (SL.keep (by exact hw.sel [2] (by decide)) SL.nil))), ?_⟩
      try simp only [Act.put, List.setIfInBounds_toArray, List.set_cons_zero, List.set_cons_succ]
      refine wpL_o 3 rfl (by rfl) (marks 12 15) ?_
      (go_simp; go_at_call 13; refine (oItem x e _ _ hw.focus0).mono ?_; rintro _ w_ ⟨rfl, hw_⟩; rw [Hix.out]; clear hw; have hw := Holds.unfocus0 hw_; clear hw_; (try simp only [List.map_cons, List.map_nil, List.getD_cons_zero, List.getD_cons_succ, List.getD_nil, List.set_cons_zero, List.set_cons_succ, List.cons_append, List.nil_append, Act.eval, Array.getD_eq_getD_getElem?, List.getElem?_toArray, List.getElem?_cons_succ, List.getElem?_cons_zero, Option.getD_some, Value.cells] at hw); (try simp (disch := first | (simp; done) | (simp; omega)) only [Sep.mid_set, Sep.mid_set2, Sep.mid_set0, Sep.mid_splice, Sep.mid_splice0, List.set_cons_zero, List.set_cons_succ] at hw); (try simp only [Sep.splice, List.take_succ_cons, List.take_zero, List.drop_succ_cons, List.drop_zero, List.length_cons, List.length_nil, Nat.reduceAdd, List.cons_append, List.nil_append] at hw))
      refine ⟨(SL.drop 1 (by kernel_rfl) (SL.drop 3 (by kernel_rfl) (SL.keep (by exact hw.sel [2] (by decide)) SL.nil))), ?_⟩
      try simp only [Act.put, List.setIfInBounds_toArray, List.set_cons_zero, List.set_cons_succ]
      refine wpL_q 4 ?_ rfl (Or.inl ⟨by rfl, fun w_ hS_ => ?_⟩) (marks 12 31) ?_
      rotate_left
      next => (go_simp; try (first | rfl | exact (Bool.not_not _).symm))
      try simp only [Act.put, List.setIfInBounds_toArray, List.set_cons_zero, List.set_cons_succ]
      refine wpL_b 5 ?_ rfl (Or.inl ⟨by rfl, fun w_ hS_ => ?_⟩) (marks 12 63) ?_
      rotate_left
      next => (go_simp; try (first | rfl | exact (Bool.not_not _).symm))
      intro bb_ hg5
      cases bb_
      case' true =>
       (try simp only [decide_eq_true_eq, decide_eq_false_iff_not, beq_iff_eq, beq_eq_false_iff_ne, bne_iff_ne, bne_eq_false_iff_eq, Bool.not_eq_true', Bool.not_eq_false', Int.not_lt, Int.not_le] at hg5)
       first | (cases hg5; done) | (exfalso; omega; done) | skip
       all_goals
        try replace hg5 := Sep.hid hg5
        try simp only [Act.put, List.setIfInBounds_toArray, List.set_cons_zero, List.set_cons_succ]
        refine wpL_q 6 undef rfl (Or.inr ⟨by rfl, rfl⟩) (marks 12 127) ?_
        try simp only [Act.put, List.setIfInBounds_toArray, List.set_cons_zero, List.set_cons_succ]
        refine wpL_q 7 undef rfl (Or.inr ⟨by rfl, rfl⟩) (marks 12 255) ?_
        try simp only [Act.put, List.setIfInBounds_toArray, List.set_cons_zero, List.set_cons_succ]
        refine wpL_m 8 undef rfl (.tail _ (.tail _ (.head _))) (Or.inr ⟨by rfl, rfl⟩) (marks 12 511) ?_
        try simp only [Act.put, List.setIfInBounds_toArray, List.set_cons_zero, List.set_cons_succ]
        refine wpL_s 9 rfl (by rfl) (marks 12 1023) ?_
        try simp only [Act.put, List.setIfInBounds_toArray, List.set_cons_zero, List.set_cons_succ]
        refine wpL_q 10 undef rfl (Or.inr ⟨by rfl, rfl⟩) (marks 12 2047) ?_
        try simp only [Act.put, List.setIfInBounds_toArray, List.set_cons_zero, List.set_cons_succ]
      case' false =>
       (try simp only [decide_eq_true_eq, decide_eq_false_iff_not, beq_iff_eq, beq_eq_false_iff_ne, bne_iff_ne, bne_eq_false_iff_eq, Bool.not_eq_true', Bool.not_eq_false', Int.not_lt, Int.not_le] at hg5)
       first | (cases hg5; done) | (exfalso; omega; done) | skip
       all_goals
        try replace hg5 := Sep.hid hg5
        try simp only [Act.put, List.setIfInBounds_toArray, List.set_cons_zero, List.set_cons_succ]
        refine wpL_q 6 ?_ rfl (Or.inl ⟨by rfl, fun w_ hS_ => ?_⟩) (marks 12 127) ?_
        rotate_left
        next => (go_simp; try (first | rfl | exact (Bool.not_not _).symm))
        try simp only [Act.put, List.setIfInBounds_toArray, List.set_cons_zero, List.set_cons_succ]
        refine wpL_q 7 ?_ rfl (Or.inl ⟨by rfl, fun w_ hS_ => ?_⟩) (marks 12 255) ?_
        rotate_left
        next => (go_simp; try (first | rfl | exact (Bool.not_not _).symm))
        try simp only [Act.put, List.setIfInBounds_toArray, List.set_cons_zero, List.set_cons_succ]
        refine wpL_m 8 ?_ rfl (.tail _ (.tail _ (.head _))) (Or.inl ⟨by rfl, fun w_ hS_ => ?_⟩) (marks 12 511) ?_
        rotate_left
        next => (dsimp only at hS_; (try have q0 := Sep.Holds.cells hS_ (i := 0) rfl); (try have q1 := Sep.Holds.cells hS_ (i := 1) rfl); (try have q2 := Sep.Holds.cells hS_ (i := 2) rfl); (try have q3 := Sep.Holds.cells hS_ (i := 3) rfl); (try have q4 := Sep.Holds.cells hS_ (i := 4) rfl); (try have q5 := Sep.Holds.cells hS_ (i := 5) rfl); (try have q6 := Sep.Holds.cells hS_ (i := 6) rfl); go_simp; try (first | rfl | exact (Bool.not_not _).symm))
        try simp only [Act.put, List.setIfInBounds_toArray, List.set_cons_zero, List.set_cons_succ]
        refine wpL_o 9 rfl (by rfl) (marks 12 1023) ?_
        (go_simp; go_at_call 13; refine (oItem x e _ _ hw.focus0).mono ?_; rintro _ w_ ⟨rfl, hw_⟩; rw [Hix.out]; clear hw; have hw := Holds.unfocus0 hw_; clear hw_; (try simp only [List.map_cons, List.map_nil, List.getD_cons_zero, List.getD_cons_succ, List.getD_nil, List.set_cons_zero, List.set_cons_succ, List.cons_append, List.nil_append, Act.eval, Array.getD_eq_getD_getElem?, List.getElem?_toArray, List.getElem?_cons_succ, List.getElem?_cons_zero, Option.getD_some, Value.cells] at hw); (try simp (disch := first | (simp; done) | (simp; omega)) only [Sep.mid_set, Sep.mid_set2, Sep.mid_set0, Sep.mid_splice, Sep.mid_splice0, List.set_cons_zero, List.set_cons_succ] at hw); (try simp only [Sep.splice, List.take_succ_cons, List.take_zero, List.drop_succ_cons, List.drop_zero, List.length_cons, List.length_nil, Nat.reduceAdd, List.cons_append, List.nil_append] at hw))
        refine ⟨(SL.drop 1 (by kernel_rfl) (SL.drop 3 (by kernel_rfl) (SL.drop 9 (by kernel_rfl) SL.nil))), ?_⟩
        try simp only [Act.put, List.setIfInBounds_toArray, List.set_cons_zero, List.set_cons_succ]
        refine wpL_q 10 ?_ rfl (Or.inl ⟨by rfl, fun w_ hS_ => ?_⟩) (marks 12 2047) ?_
        rotate_left
        next => (go_simp; try (first | rfl | exact (Bool.not_not _).symm))
        try simp only [Act.put, List.setIfInBounds_toArray, List.set_cons_zero, List.set_cons_succ]
      all_goals
       refine wpL_q 11 ?_ rfl (Or.inl ⟨by rfl, fun w_ hS_ => ?_⟩) (marks 12 4095) ?_
       rotate_left
       next => (go_simp; try (first | rfl | exact (Bool.not_not _).symm))
       try simp only [Act.put, List.setIfInBounds_toArray, List.set_cons_zero, List.set_cons_succ]
       all_goals refine wpL_done (by kernel_rfl) ?_ _
    )
    all_goals (
      (try clear hc0); (try clear hc1); (try clear hc2); (try clear hc3); (try clear hc4); (try clear hc5); (try clear hc6)
      (try replace hc0 := Sep.Holds.cells hw (i := 0) rfl); (try replace hc1 := Sep.Holds.cells hw (i := 1) rfl); (try replace hc2 := Sep.Holds.cells hw (i := 2) rfl); (try replace hc3 := Sep.Holds.cells hw (i := 3) rfl); (try replace hc4 := Sep.Holds.cells hw (i := 4) rfl); (try replace hc5 := Sep.Holds.cells hw (i := 5) rfl); (try replace hc6 := Sep.Holds.cells hw (i := 6) rfl)
      go_wp2_with fail
      exact HP.out _ _ ⟨rfl, hw.sel [0] (by decide)⟩)
  | true =>
    have Hix := Sep.hid hix
    have Hmt : Hid (mayS ⟨s.r0, s.r1, s.r2, s.r3, s.ps, s.is ++ [x]⟩ = true) := Sep.hid (by rw [← hix, ← hmm])
    have Het : Hid (eS ⟨s.r0, s.r1, s.r2, s.r3, s.ps, s.is ++ [x]⟩ = 0) := Sep.hid (by unfold eS; rw [Hmt.out]; rfl)
    have Hbt : Hid (bS ⟨s.r0, s.r1, s.r2, s.r3, s.ps, s.is ++ [x]⟩ = bS s ++ encItm x) := Sep.hid (by
      have h1 := bytesS_more s x
      unfold bS
      rw [if_pos Hmt.out, if_pos hm]
      exact h1)
    clear hm hmm hbs hlong hix
    go_wp2_with (first | (refine wpList_on rfl (wp_alloc rfl hw ?_); intro b7_ w_ hw_; clear hw; have hw := hw_; clear hw_; (try simp only [List.map_cons, List.map_nil, List.getD_cons_zero, List.getD_cons_succ, List.getD_nil, List.set_cons_zero, List.set_cons_succ, List.cons_append, List.nil_append, Act.eval, Array.getD_eq_getD_getElem?, List.getElem?_toArray, List.getElem?_cons_succ, List.getElem?_cons_zero, Option.getD_some, Value.cells] at hw); (try simp (disch := first | (simp; done) | (simp; omega)) only [Sep.mid_set, Sep.mid_set2, Sep.mid_set0, Sep.mid_splice, Sep.mid_splice0, List.set_cons_zero, List.set_cons_succ] at hw); (try simp only [Sep.splice, List.take_succ_cons, List.take_zero, List.drop_succ_cons, List.drop_zero, List.length_cons, List.length_nil, Nat.reduceAdd, List.cons_append, List.nil_append] at hw); (try replace hc0 := Sep.Holds.cells hw (i := 0) rfl); (try replace hc1 := Sep.Holds.cells hw (i := 1) rfl); (try replace hc2 := Sep.Holds.cells hw (i := 2) rfl); (try replace hc3 := Sep.Holds.cells hw (i := 3) rfl); (try replace hc4 := Sep.Holds.cells hw (i := 4) rfl); (try replace hc5 := Sep.Holds.cells hw (i := 5) rfl); (try replace hc6 := Sep.Holds.cells hw (i := 6) rfl)) | (refine wpList_on rfl (wp_storeAll (vs := [.int .i64 s.r0, .int .i64 s.r1, .int .i64 s.r2, .int .i64 s.r3, .slice pa n1 pc, .slice ia i1 ic]) rfl rfl (by rfl) hw (i := 4) rfl rfl rfl (by simp [Value.oneCell']) ?_); intro w_ hw_; clear hw; have hw := hw_; clear hw_; (try simp only [List.map_cons, List.map_nil, List.getD_cons_zero, List.getD_cons_succ, List.getD_nil, List.set_cons_zero, List.set_cons_succ, List.cons_append, List.nil_append, Act.eval, Array.getD_eq_getD_getElem?, List.getElem?_toArray, List.getElem?_cons_succ, List.getElem?_cons_zero, Option.getD_some, Value.cells] at hw); (try simp (disch := first | (simp; done) | (simp; omega)) only [Sep.mid_set, Sep.mid_set2, Sep.mid_set0, Sep.mid_splice, Sep.mid_splice0, List.set_cons_zero, List.set_cons_succ] at hw); (try simp only [Sep.splice, List.take_succ_cons, List.take_zero, List.drop_succ_cons, List.drop_zero, List.length_cons, List.length_nil, Nat.reduceAdd, List.cons_append, List.nil_append] at hw); (try replace hc0 := Sep.Holds.cells hw (i := 0) rfl); (try replace hc1 := Sep.Holds.cells hw (i := 1) rfl); (try replace hc2 := Sep.Holds.cells hw (i := 2) rfl); (try replace hc3 := Sep.Holds.cells hw (i := 3) rfl); (try replace hc4 := Sep.Holds.cells hw (i := 4) rfl); (try replace hc5 := Sep.Holds.cells hw (i := 5) rfl); (try replace hc6 := Sep.Holds.cells hw (i := 6) rfl)))
    refine wp_region_L [0, 3, 5, 6, 8] [(2, (fun w' => Holds e w' [pt b2_ [.int .i64 s.r0, .int .i64 s.r1, .int .i64 s.r2, .int .i64 s.r3, .slice pa n1 pc, .slice ia i1 ic] 28, pt b3_ [.int .i64 x.d, .int .i64 x.a, .int .i64 x.n] 23])), (4, (fun w' => Holds e w' [pt b2_ [.int .i64 s.r0, .int .i64 s.r1, .int .i64 s.r2, .int .i64 s.r3, .slice pa n1 pc, .slice ia i1 ic] 28, pt b3_ [.int .i64 x.d, .int .i64 x.a, .int .i64 x.n] 23]))] (n := 9) (listed := (marks 9 0)) (by kernel_rfl) rfl (by kernel_rfl) ?conds3 ?_
    case conds3 =>
     intro c hc
     simp only [List.mem_cons, List.not_mem_nil, or_false] at hc
     rcases hc with rfl | rfl
     · exact (by replace hw := hw.drew; exact hw.sel [1, 2] (by decide))
     · exact (by replace hw := hw.drew; exact hw.sel [1, 2] (by decide))
    replace hw := hw.drew
    (try replace hc0 := Sep.Holds.cells hw (i := 0) rfl); (try replace hc1 := Sep.Holds.cells hw (i := 1) rfl); (try replace hc2 := Sep.Holds.cells hw (i := 2) rfl); (try replace hc3 := Sep.Holds.cells hw (i := 3) rfl); (try replace hc4 := Sep.Holds.cells hw (i := 4) rfl); (try replace hc5 := Sep.Holds.cells hw (i := 5) rfl); (try replace hc6 := Sep.Holds.cells hw (i := 6) rfl)
    refine wpL_q 1 ?_ rfl (Or.inl ⟨by rfl, fun w_ hS_ => ?_⟩) (marks 9 2) ?_
    rotate_left
    next => (go_simp; try (first | rfl | exact (Bool.not_not _).symm))
    try simp only [Act.put, List.setIfInBounds_toArray, List.set_cons_zero, List.set_cons_succ]
    refine wpL_m 2 ?_ rfl (.head _) (Or.inl ⟨by rfl, fun w_ hS_ => ?_⟩) (marks 9 6) ?_
    rotate_left
    next => (dsimp only at hS_; (try have q0 := Sep.Holds.cells hS_ (i := 0) rfl); (try have q1 := Sep.Holds.cells hS_ (i := 1) rfl); (try have q2 := Sep.Holds.cells hS_ (i := 2) rfl); (try have q3 := Sep.Holds.cells hS_ (i := 3) rfl); (try have q4 := Sep.Holds.cells hS_ (i := 4) rfl); (try have q5 := Sep.Holds.cells hS_ (i := 5) rfl); (try have q6 := Sep.Holds.cells hS_ (i := 6) rfl); go_simp; try (first | rfl | exact (Bool.not_not _).symm))
    try simp only [Act.put, List.setIfInBounds_toArray, List.set_cons_zero, List.set_cons_succ]
    refine wpL_m 4 ?_ rfl (.tail _ (.head _)) (Or.inl ⟨by rfl, fun w_ hS_ => ?_⟩) (marks 9 22) ?_
    rotate_left
    next => (dsimp only at hS_; (try have q0 := Sep.Holds.cells hS_ (i := 0) rfl); (try have q1 := Sep.Holds.cells hS_ (i := 1) rfl); (try have q2 := Sep.Holds.cells hS_ (i := 2) rfl); (try have q3 := Sep.Holds.cells hS_ (i := 3) rfl); (try have q4 := Sep.Holds.cells hS_ (i := 4) rfl); (try have q5 := Sep.Holds.cells hS_ (i := 5) rfl); (try have q6 := Sep.Holds.cells hS_ (i := 6) rfl); go_simp; try (first | rfl | exact (Bool.not_not _).symm))
    try simp only [Act.put, List.setIfInBounds_toArray, List.set_cons_zero, List.set_cons_succ]
    refine wpL_all (rs := [0, 5]) (by kernel_rfl) (by decide) ?_
    intro i hi
    simp only [List.mem_cons, List.not_mem_nil, or_false] at hi
    rcases hi with rfl | rfl
    focus
     refine ⟨_, _, rfl, by rfl, ?_⟩
     (refine wp_bsl0 rfl hw ?_; intro b0_ w_ hw_; replace hw_ := hw_.newSl (i := 5) rfl 3 0 rfl (by decide); clear hw; have hw := hw_; clear hw_; (try simp only [List.map_cons, List.map_nil, List.getD_cons_zero, List.getD_cons_succ, List.getD_nil, List.set_cons_zero, List.set_cons_succ, List.cons_append, List.nil_append, Act.eval, Array.getD_eq_getD_getElem?, List.getElem?_toArray, List.getElem?_cons_succ, List.getElem?_cons_zero, Option.getD_some, Value.cells] at hw); (try simp (disch := first | (simp; done) | (simp; omega)) only [Sep.mid_set, Sep.mid_set2, Sep.mid_set0, Sep.mid_splice, Sep.mid_splice0, List.set_cons_zero, List.set_cons_succ] at hw); (try simp only [Sep.splice, List.take_succ_cons, List.take_zero, List.drop_succ_cons, List.drop_zero, List.length_cons, List.length_nil, Nat.reduceAdd, List.cons_append, List.nil_append] at hw); (try replace hc0 := Sep.Holds.cells hw (i := 0) rfl); (try replace hc1 := Sep.Holds.cells hw (i := 1) rfl); (try replace hc2 := Sep.Holds.cells hw (i := 2) rfl); (try replace hc3 := Sep.Holds.cells hw (i := 3) rfl); (try replace hc4 := Sep.Holds.cells hw (i := 4) rfl); (try replace hc5 := Sep.Holds.cells hw (i := 5) rfl); (try replace hc6 := Sep.Holds.cells hw (i := 6) rfl))
     refine ⟨(SL.keep (by exact hw.sel [1, 2] (by decide)) (SL.keep (by exact hw.sel [1, 2] (by decide)) SL.nil)), ?_⟩
     try simp only [Act.put, List.setIfInBounds_toArray, List.set_cons_zero, List.set_cons_succ]
     refine wpL_all (rs := [3, 5]) (by kernel_rfl) (by decide) ?_
     intro i hi
     simp only [List.mem_cons, List.not_mem_nil, or_false] at hi
     rcases hi with rfl | rfl
     focus
      refine ⟨_, _, rfl, by rfl, ?_⟩
      (refine wp_appendRd (i := 5) (n := 0) (m := i1) (u := .slice ia i1 ic) (news := encTs s.is) rfl rfl hw rfl rfl (by rw [encTs_length, Hi1.out]) (newsT_of (HIs.out _ _ 0 hw rfl) Hi1.out) (encTs_one s.is) (by rfl) (by (try unfold maxLen); omega) (by (try unfold maxLen); omega) ?_; intro a2_ cp2_ w_ hw_; clear hw; have hw := hw_; clear hw_; (try simp only [List.map_cons, List.map_nil, List.getD_cons_zero, List.getD_cons_succ, List.getD_nil, List.set_cons_zero, List.set_cons_succ, List.cons_append, List.nil_append, Act.eval, Array.getD_eq_getD_getElem?, List.getElem?_toArray, List.getElem?_cons_succ, List.getElem?_cons_zero, Option.getD_some, Value.cells] at hw); (try simp (disch := first | (simp; done) | (simp; omega)) only [Sep.mid_set, Sep.mid_set2, Sep.mid_set0, Sep.mid_splice, Sep.mid_splice0, List.set_cons_zero, List.set_cons_succ] at hw); (try simp only [Sep.splice, List.take_succ_cons, List.take_zero, List.drop_succ_cons, List.drop_zero, List.length_cons, List.length_nil, Nat.reduceAdd, List.cons_append, List.nil_append] at hw); (try replace hc0 := Sep.Holds.cells hw (i := 0) rfl); (try replace hc1 := Sep.Holds.cells hw (i := 1) rfl); (try replace hc2 := Sep.Holds.cells hw (i := 2) rfl); (try replace hc3 := Sep.Holds.cells hw (i := 3) rfl); (try replace hc4 := Sep.Holds.cells hw (i := 4) rfl); (try replace hc5 := Sep.Holds.cells hw (i := 5) rfl); (try replace hc6 := Sep.Holds.cells hw (i := 6) rfl))
      refine ⟨(SL.drop 3 (by kernel_rfl) (SL.keep (by exact hw.sel [1, 2] (by decide)) SL.nil)), ?_⟩
      try simp only [Act.put, List.setIfInBounds_toArray, List.set_cons_zero, List.set_cons_succ]
      refine wpL_o 5 rfl (by rfl) (marks 9 63) ?_
      (refine wp_bsl1 (v := .agg #[.int .i64 x.d, .int .i64 x.a, .int .i64 x.n]) rfl rfl (by rfl) (by rfl) (by decide) hw ?_; intro b3s_ w_ hw_; clear hw; have hw := hw_; clear hw_; (try simp only [List.map_cons, List.map_nil, List.getD_cons_zero, List.getD_cons_succ, List.getD_nil, List.set_cons_zero, List.set_cons_succ, List.cons_append, List.nil_append, Act.eval, Array.getD_eq_getD_getElem?, List.getElem?_toArray, List.getElem?_cons_succ, List.getElem?_cons_zero, Option.getD_some, Value.cells] at hw); (try simp (disch := first | (simp; done) | (simp; omega)) only [Sep.mid_set, Sep.mid_set2, Sep.mid_set0, Sep.mid_splice, Sep.mid_splice0, List.set_cons_zero, List.set_cons_succ] at hw); (try simp only [Sep.splice, List.take_succ_cons, List.take_zero, List.drop_succ_cons, List.drop_zero, List.length_cons, List.length_nil, Nat.reduceAdd, List.cons_append, List.nil_append] at hw); (try replace hc0 := Sep.Holds.cells hw (i := 0) rfl); (try replace hc1 := Sep.Holds.cells hw (i := 1) rfl); (try replace hc2 := Sep.Holds.cells hw (i := 2) rfl); (try replace hc3 := Sep.Holds.cells hw (i := 3) rfl); (try replace hc4 := Sep.Holds.cells hw (i := 4) rfl); (try replace hc5 := Sep.Holds.cells hw (i := 5) rfl); (try replace hc6 := Sep.Holds.cells hw (i := 6) rfl))
      refine ⟨(SL.drop 3 (by kernel_rfl) (SL.drop 5 (by kernel_rfl) SL.nil)), ?_⟩
      try simp only [Act.put, List.setIfInBounds_toArray, List.set_cons_zero, List.set_cons_succ]
      refine wpL_o 6 rfl (by rfl) (marks 9 127) ?_
      (refine wp_appendPt (i := 5) (j := 6) (n := 0 + i1) (m := 1) rfl rfl hw rfl rfl rfl (by rfl) (by simp [Value.oneCell']) (by decide) (by rfl) (by (try unfold maxLen); omega) (by (try unfold maxLen); omega) ?_; intro bx2_ cap2_ off2_ w_ hcap2_ hw_; clear hw; have hw := hw_; clear hw_; (try simp only [List.map_cons, List.map_nil, List.getD_cons_zero, List.getD_cons_succ, List.getD_nil, List.set_cons_zero, List.set_cons_succ, List.cons_append, List.nil_append, Act.eval, Array.getD_eq_getD_getElem?, List.getElem?_toArray, List.getElem?_cons_succ, List.getElem?_cons_zero, Option.getD_some, Value.cells] at hw); (try simp (disch := first | (simp; done) | (simp; omega)) only [Sep.mid_set, Sep.mid_set2, Sep.mid_set0, Sep.mid_splice, Sep.mid_splice0, List.set_cons_zero, List.set_cons_succ] at hw); (try simp only [Sep.splice, List.take_succ_cons, List.take_zero, List.drop_succ_cons, List.drop_zero, List.length_cons, List.length_nil, Nat.reduceAdd, List.cons_append, List.nil_append] at hw); (try replace hc0 := Sep.Holds.cells hw (i := 0) rfl); (try replace hc1 := Sep.Holds.cells hw (i := 1) rfl); (try replace hc2 := Sep.Holds.cells hw (i := 2) rfl); (try replace hc3 := Sep.Holds.cells hw (i := 3) rfl); (try replace hc4 := Sep.Holds.cells hw (i := 4) rfl); (try replace hc5 := Sep.Holds.cells hw (i := 5) rfl); (try replace hc6 := Sep.Holds.cells hw (i := 6) rfl))
      refine ⟨(SL.drop 3 (by kernel_rfl) (SL.drop 5 (by kernel_rfl) SL.nil)), ?_⟩
      try simp only [Act.put, List.setIfInBounds_toArray, List.set_cons_zero, List.set_cons_succ]
      refine wpL_q 7 ?_ rfl (Or.inl ⟨by rfl, fun w_ hS_ => ?_⟩) (marks 9 255) ?_
      rotate_left
      next => (go_simp; try (first | rfl | exact (Bool.not_not _).symm))
      try simp only [Act.put, List.setIfInBounds_toArray, List.set_cons_zero, List.set_cons_succ]
      refine wpL_o 8 rfl (by rfl) (marks 9 511) ?_
      (refine wp_store1 (v := .slice (some ⟨bx2_, off2_, none⟩) (0 + i1 + 1) cap2_) (off := 5) rfl rfl rfl hw (i := 4) rfl (show 5 < 6 by decide) rfl ?_; intro w_ hw_; clear hw; have hw := hw_; clear hw_; (try simp only [List.map_cons, List.map_nil, List.getD_cons_zero, List.getD_cons_succ, List.getD_nil, List.set_cons_zero, List.set_cons_succ, List.cons_append, List.nil_append, Act.eval, Array.getD_eq_getD_getElem?, List.getElem?_toArray, List.getElem?_cons_succ, List.getElem?_cons_zero, Option.getD_some, Value.cells] at hw); (try simp (disch := first | (simp; done) | (simp; omega)) only [Sep.mid_set, Sep.mid_set2, Sep.mid_set0, Sep.mid_splice, Sep.mid_splice0, List.set_cons_zero, List.set_cons_succ] at hw); (try simp only [Sep.splice, List.take_succ_cons, List.take_zero, List.drop_succ_cons, List.drop_zero, List.length_cons, List.length_nil, Nat.reduceAdd, List.cons_append, List.nil_append] at hw); (try replace hc0 := Sep.Holds.cells hw (i := 0) rfl); (try replace hc1 := Sep.Holds.cells hw (i := 1) rfl); (try replace hc2 := Sep.Holds.cells hw (i := 2) rfl); (try replace hc3 := Sep.Holds.cells hw (i := 3) rfl); (try replace hc4 := Sep.Holds.cells hw (i := 4) rfl); (try replace hc5 := Sep.Holds.cells hw (i := 5) rfl); (try replace hc6 := Sep.Holds.cells hw (i := 6) rfl))
      refine ⟨(SL.drop 3 (by kernel_rfl) (SL.drop 5 (by kernel_rfl) SL.nil)), ?_⟩
      try simp only [Act.put, List.setIfInBounds_toArray, List.set_cons_zero, List.set_cons_succ]
      refine wpL_done (by kernel_rfl) ?_ _
      (replace hw := hw.sel [0, 1, 2, 3, 4, 5] (by decide); (try simp only [List.map_cons, List.map_nil, List.getD_cons_zero, List.getD_cons_succ, List.getD_nil, List.set_cons_zero, List.set_cons_succ, List.cons_append, List.nil_append, Act.eval, Array.getD_eq_getD_getElem?, List.getElem?_toArray, List.getElem?_cons_succ, List.getElem?_cons_zero, Option.getD_some, Value.cells] at hw); (try simp (disch := first | (simp; done) | (simp; omega)) only [Sep.mid_set, Sep.mid_set2, Sep.mid_set0, Sep.mid_splice, Sep.mid_splice0, List.set_cons_zero, List.set_cons_succ] at hw); (try simp only [Sep.splice, List.take_succ_cons, List.take_zero, List.drop_succ_cons, List.drop_zero, List.length_cons, List.length_nil, Nat.reduceAdd, List.cons_append, List.nil_append] at hw); simp only [Nat.zero_add, List.nil_append] at hw ⊢)
     rotate_left 1
     focus
      refine ⟨_, _, rfl, by rfl, ?_⟩
      (refine wp_bsl1 (v := .agg #[.int .i64 x.d, .int .i64 x.a, .int .i64 x.n]) rfl rfl (by rfl) (by rfl) (by decide) hw ?_; intro b3s_ w_ hw_; clear hw; have hw := hw_; clear hw_; (try simp only [List.map_cons, List.map_nil, List.getD_cons_zero, List.getD_cons_succ, List.getD_nil, List.set_cons_zero, List.set_cons_succ, List.cons_append, List.nil_append, Act.eval, Array.getD_eq_getD_getElem?, List.getElem?_toArray, List.getElem?_cons_succ, List.getElem?_cons_zero, Option.getD_some, Value.cells] at hw); (try simp (disch := first | (simp; done) | (simp; omega)) only [Sep.mid_set, Sep.mid_set2, Sep.mid_set0, Sep.mid_splice, Sep.mid_splice0, List.set_cons_zero, List.set_cons_succ] at hw); (try simp only [Sep.splice, List.take_succ_cons, List.take_zero, List.drop_succ_cons, List.drop_zero, List.length_cons, List.length_nil, Nat.reduceAdd, List.cons_append, List.nil_append] at hw); (try replace hc0 := Sep.Holds.cells hw (i := 0) rfl); (try replace hc1 := Sep.Holds.cells hw (i := 1) rfl); (try replace hc2 := Sep.Holds.cells hw (i := 2) rfl); (try replace hc3 := Sep.Holds.cells hw (i := 3) rfl); (try replace hc4 := Sep.Holds.cells hw (i := 4) rfl); (try replace hc5 := Sep.Holds.cells hw (i := 5) rfl); (try replace hc6 := Sep.Holds.cells hw (i := 6) rfl))
      refine ⟨(SL.keep (by exact hw.sel [1, 2] (by decide)) (SL.drop 5 (by kernel_rfl) SL.nil)), ?_⟩
      try simp only [Act.put, List.setIfInBounds_toArray, List.set_cons_zero, List.set_cons_succ]
      refine wpL_o 3 rfl (by rfl) (marks 9 63) ?_
      (refine wp_appendRd (i := 5) (n := 0) (m := i1) (u := .slice ia i1 ic) (news := encTs s.is) rfl rfl hw rfl rfl (by rw [encTs_length, Hi1.out]) (newsT_of (HIs.out _ _ 0 hw rfl) Hi1.out) (encTs_one s.is) (by rfl) (by (try unfold maxLen); omega) (by (try unfold maxLen); omega) ?_; intro a2_ cp2_ w_ hw_; clear hw; have hw := hw_; clear hw_; (try simp only [List.map_cons, List.map_nil, List.getD_cons_zero, List.getD_cons_succ, List.getD_nil, List.set_cons_zero, List.set_cons_succ, List.cons_append, List.nil_append, Act.eval, Array.getD_eq_getD_getElem?, List.getElem?_toArray, List.getElem?_cons_succ, List.getElem?_cons_zero, Option.getD_some, Value.cells] at hw); (try simp (disch := first | (simp; done) | (simp; omega)) only [Sep.mid_set, Sep.mid_set2, Sep.mid_set0, Sep.mid_splice, Sep.mid_splice0, List.set_cons_zero, List.set_cons_succ] at hw); (try simp only [Sep.splice, List.take_succ_cons, List.take_zero, List.drop_succ_cons, List.drop_zero, List.length_cons, List.length_nil, Nat.reduceAdd, List.cons_append, List.nil_append] at hw); (try replace hc0 := Sep.Holds.cells hw (i := 0) rfl); (try replace hc1 := Sep.Holds.cells hw (i := 1) rfl); (try replace hc2 := Sep.Holds.cells hw (i := 2) rfl); (try replace hc3 := Sep.Holds.cells hw (i := 3) rfl); (try replace hc4 := Sep.Holds.cells hw (i := 4) rfl); (try replace hc5 := Sep.Holds.cells hw (i := 5) rfl); (try replace hc6 := Sep.Holds.cells hw (i := 6) rfl))
      refine ⟨(SL.drop 3 (by kernel_rfl) (SL.drop 5 (by kernel_rfl) SL.nil)), ?_⟩
      try simp only [Act.put, List.setIfInBounds_toArray, List.set_cons_zero, List.set_cons_succ]
      refine wpL_o 6 rfl (by rfl) (marks 9 127) ?_
      (refine wp_appendPt (i := 5) (j := 6) (n := 0 + i1) (m := 1) rfl rfl hw rfl rfl rfl (by rfl) (by simp [Value.oneCell']) (by decide) (by rfl) (by (try unfold maxLen); omega) (by (try unfold maxLen); omega) ?_; intro bx2_ cap2_ off2_ w_ hcap2_ hw_; clear hw; have hw := hw_; clear hw_; (try simp only [List.map_cons, List.map_nil, List.getD_cons_zero, List.getD_cons_succ, List.getD_nil, List.set_cons_zero, List.set_cons_succ, List.cons_append, List.nil_append, Act.eval, Array.getD_eq_getD_getElem?, List.getElem?_toArray, List.getElem?_cons_succ, List.getElem?_cons_zero, Option.getD_some, Value.cells] at hw); (try simp (disch := first | (simp; done) | (simp; omega)) only [Sep.mid_set, Sep.mid_set2, Sep.mid_set0, Sep.mid_splice, Sep.mid_splice0, List.set_cons_zero, List.set_cons_succ] at hw); (try simp only [Sep.splice, List.take_succ_cons, List.take_zero, List.drop_succ_cons, List.drop_zero, List.length_cons, List.length_nil, Nat.reduceAdd, List.cons_append, List.nil_append] at hw); (try replace hc0 := Sep.Holds.cells hw (i := 0) rfl); (try replace hc1 := Sep.Holds.cells hw (i := 1) rfl); (try replace hc2 := Sep.Holds.cells hw (i := 2) rfl); (try replace hc3 := Sep.Holds.cells hw (i := 3) rfl); (try replace hc4 := Sep.Holds.cells hw (i := 4) rfl); (try replace hc5 := Sep.Holds.cells hw (i := 5) rfl); (try replace hc6 := Sep.Holds.cells hw (i := 6) rfl))
      refine ⟨(SL.drop 3 (by kernel_rfl) (SL.drop 5 (by kernel_rfl) SL.nil)), ?_⟩
      try simp only [Act.put, List.setIfInBounds_toArray, List.set_cons_zero, List.set_cons_succ]
      refine wpL_q 7 ?_ rfl (Or.inl ⟨by rfl, fun w_ hS_ => ?_⟩) (marks 9 255) ?_
      rotate_left
      next => (go_simp; try (first | rfl | exact (Bool.not_not _).symm))
      try simp only [Act.put, List.setIfInBounds_toArray, List.set_cons_zero, List.set_cons_succ]
      refine wpL_o 8 rfl (by rfl) (marks 9 511) ?_
      (refine wp_store1 (v := .slice (some ⟨bx2_, off2_, none⟩) (0 + i1 + 1) cap2_) (off := 5) rfl rfl rfl hw (i := 4) rfl (show 5 < 6 by decide) rfl ?_; intro w_ hw_; clear hw; have hw := hw_; clear hw_; (try simp only [List.map_cons, List.map_nil, List.getD_cons_zero, List.getD_cons_succ, List.getD_nil, List.set_cons_zero, List.set_cons_succ, List.cons_append, List.nil_append, Act.eval, Array.getD_eq_getD_getElem?, List.getElem?_toArray, List.getElem?_cons_succ, List.getElem?_cons_zero, Option.getD_some, Value.cells] at hw); (try simp (disch := first | (simp; done) | (simp; omega)) only [Sep.mid_set, Sep.mid_set2, Sep.mid_set0, Sep.mid_splice, Sep.mid_splice0, List.set_cons_zero, List.set_cons_succ] at hw); (try simp only [Sep.splice, List.take_succ_cons, List.take_zero, List.drop_succ_cons, List.drop_zero, List.length_cons, List.length_nil, Nat.reduceAdd, List.cons_append, List.nil_append] at hw); (try replace hc0 := Sep.Holds.cells hw (i := 0) rfl); (try replace hc1 := Sep.Holds.cells hw (i := 1) rfl); (try replace hc2 := Sep.Holds.cells hw (i := 2) rfl); (try replace hc3 := Sep.Holds.cells hw (i := 3) rfl); (try replace hc4 := Sep.Holds.cells hw (i := 4) rfl); (try replace hc5 := Sep.Holds.cells hw (i := 5) rfl); (try replace hc6 := Sep.Holds.cells hw (i := 6) rfl))
      refine ⟨(SL.drop 3 (by kernel_rfl) (SL.drop 5 (by kernel_rfl) SL.nil)), ?_⟩
      try simp only [Act.put, List.setIfInBounds_toArray, List.set_cons_zero, List.set_cons_succ]
      refine wpL_done (by kernel_rfl) ?_ _
      (replace hw := hw.sel [0, 1, 2, 3, 4, 5] (by decide); (try simp only [List.map_cons, List.map_nil, List.getD_cons_zero, List.getD_cons_succ, List.getD_nil, List.set_cons_zero, List.set_cons_succ, List.cons_append, List.nil_append, Act.eval, Array.getD_eq_getD_getElem?, List.getElem?_toArray, List.getElem?_cons_succ, List.getElem?_cons_zero, Option.getD_some, Value.cells] at hw); (try simp (disch := first | (simp; done) | (simp; omega)) only [Sep.mid_set, Sep.mid_set2, Sep.mid_set0, Sep.mid_splice, Sep.mid_splice0, List.set_cons_zero, List.set_cons_succ] at hw); (try simp only [Sep.splice, List.take_succ_cons, List.take_zero, List.drop_succ_cons, List.drop_zero, List.length_cons, List.length_nil, Nat.reduceAdd, List.cons_append, List.nil_append] at hw); simp only [Nat.zero_add, List.nil_append] at hw ⊢)
     rotate_left 1
    rotate_left 2
    focus
     refine ⟨_, _, rfl, by rfl, ?_⟩
     (refine wp_bsl1 (v := .agg #[.int .i64 x.d, .int .i64 x.a, .int .i64 x.n]) rfl rfl (by rfl) (by rfl) (by decide) hw ?_; intro b3s_ w_ hw_; clear hw; have hw := hw_; clear hw_; (try simp only [List.map_cons, List.map_nil, List.getD_cons_zero, List.getD_cons_succ, List.getD_nil, List.set_cons_zero, List.set_cons_succ, List.cons_append, List.nil_append, Act.eval, Array.getD_eq_getD_getElem?, List.getElem?_toArray, List.getElem?_cons_succ, List.getElem?_cons_zero, Option.getD_some, Value.cells] at hw); (try simp (disch := first | (simp; done) | (simp; omega)) only [Sep.mid_set, Sep.mid_set2, Sep.mid_set0, Sep.mid_splice, Sep.mid_splice0, List.set_cons_zero, List.set_cons_succ] at hw); (try simp only [Sep.splice, List.take_succ_cons, List.take_zero, List.drop_succ_cons, List.drop_zero, List.length_cons, List.length_nil, Nat.reduceAdd, List.cons_append, List.nil_append] at hw); (try replace hc0 := Sep.Holds.cells hw (i := 0) rfl); (try replace hc1 := Sep.Holds.cells hw (i := 1) rfl); (try replace hc2 := Sep.Holds.cells hw (i := 2) rfl); (try replace hc3 := Sep.Holds.cells hw (i := 3) rfl); (try replace hc4 := Sep.Holds.cells hw (i := 4) rfl); (try replace hc5 := Sep.Holds.cells hw (i := 5) rfl); (try replace hc6 := Sep.Holds.cells hw (i := 6) rfl))
     refine ⟨(SL.keep (by exact hw.sel [1, 2] (by decide)) (SL.drop 5 (by kernel_rfl) SL.nil)), ?_⟩
     try simp only [Act.put, List.setIfInBounds_toArray, List.set_cons_zero, List.set_cons_succ]
     refine wpL_o 0 rfl (by rfl) (marks 9 55) ?_
     (refine wp_bsl0 rfl hw ?_; intro b0_ w_ hw_; replace hw_ := hw_.newSl (i := 6) rfl 3 0 rfl (by decide); clear hw; have hw := hw_; clear hw_; (try simp only [List.map_cons, List.map_nil, List.getD_cons_zero, List.getD_cons_succ, List.getD_nil, List.set_cons_zero, List.set_cons_succ, List.cons_append, List.nil_append, Act.eval, Array.getD_eq_getD_getElem?, List.getElem?_toArray, List.getElem?_cons_succ, List.getElem?_cons_zero, Option.getD_some, Value.cells] at hw); (try simp (disch := first | (simp; done) | (simp; omega)) only [Sep.mid_set, Sep.mid_set2, Sep.mid_set0, Sep.mid_splice, Sep.mid_splice0, List.set_cons_zero, List.set_cons_succ] at hw); (try simp only [Sep.splice, List.take_succ_cons, List.take_zero, List.drop_succ_cons, List.drop_zero, List.length_cons, List.length_nil, Nat.reduceAdd, List.cons_append, List.nil_append] at hw); (try replace hc0 := Sep.Holds.cells hw (i := 0) rfl); (try replace hc1 := Sep.Holds.cells hw (i := 1) rfl); (try replace hc2 := Sep.Holds.cells hw (i := 2) rfl); (try replace hc3 := Sep.Holds.cells hw (i := 3) rfl); (try replace hc4 := Sep.Holds.cells hw (i := 4) rfl); (try replace hc5 := Sep.Holds.cells hw (i := 5) rfl); (try replace hc6 := Sep.Holds.cells hw (i := 6) rfl))
     refine ⟨(SL.keep (by exact hw.sel [1, 2] (by decide)) (SL.drop 5 (by kernel_rfl) SL.nil)), ?_⟩
     try simp only [Act.put, List.setIfInBounds_toArray, List.set_cons_zero, List.set_cons_succ]
     refine wpL_o 3 rfl (by rfl) (marks 9 63) ?_
     (refine wp_appendRd (i := 6) (n := 0) (m := i1) (u := .slice ia i1 ic) (news := encTs s.is) rfl rfl hw rfl rfl (by rw [encTs_length, Hi1.out]) (newsT_of (HIs.out _ _ 0 hw rfl) Hi1.out) (encTs_one s.is) (by rfl) (by (try unfold maxLen); omega) (by (try unfold maxLen); omega) ?_; intro a2_ cp2_ w_ hw_; clear hw; have hw := hw_; clear hw_; (try simp only [List.map_cons, List.map_nil, List.getD_cons_zero, List.getD_cons_succ, List.getD_nil, List.set_cons_zero, List.set_cons_succ, List.cons_append, List.nil_append, Act.eval, Array.getD_eq_getD_getElem?, List.getElem?_toArray, List.getElem?_cons_succ, List.getElem?_cons_zero, Option.getD_some, Value.cells] at hw); (try simp (disch := first | (simp; done) | (simp; omega)) only [Sep.mid_set, Sep.mid_set2, Sep.mid_set0, Sep.mid_splice, Sep.mid_splice0, List.set_cons_zero, List.set_cons_succ] at hw); (try simp only [Sep.splice, List.take_succ_cons, List.take_zero, List.drop_succ_cons, List.drop_zero, List.length_cons, List.length_nil, Nat.reduceAdd, List.cons_append, List.nil_append] at hw); (try replace hc0 := Sep.Holds.cells hw (i := 0) rfl); (try replace hc1 := Sep.Holds.cells hw (i := 1) rfl); (try replace hc2 := Sep.Holds.cells hw (i := 2) rfl); (try replace hc3 := Sep.Holds.cells hw (i := 3) rfl); (try replace hc4 := Sep.Holds.cells hw (i := 4) rfl); (try replace hc5 := Sep.Holds.cells hw (i := 5) rfl); (try replace hc6 := Sep.Holds.cells hw (i := 6) rfl))
     refine ⟨(SL.drop 3 (by kernel_rfl) (SL.drop 5 (by kernel_rfl) SL.nil)), ?_⟩
     try simp only [Act.put, List.setIfInBounds_toArray, List.set_cons_zero, List.set_cons_succ]
     refine wpL_o 6 rfl (by rfl) (marks 9 127) ?_
     (refine wp_appendPt (i := 6) (j := 5) (n := 0 + i1) (m := 1) rfl rfl hw rfl rfl rfl (by rfl) (by simp [Value.oneCell']) (by decide) (by rfl) (by (try unfold maxLen); omega) (by (try unfold maxLen); omega) ?_; intro bx2_ cap2_ off2_ w_ hcap2_ hw_; clear hw; have hw := hw_; clear hw_; (try simp only [List.map_cons, List.map_nil, List.getD_cons_zero, List.getD_cons_succ, List.getD_nil, List.set_cons_zero, List.set_cons_succ, List.cons_append, List.nil_append, Act.eval, Array.getD_eq_getD_getElem?, List.getElem?_toArray, List.getElem?_cons_succ, List.getElem?_cons_zero, Option.getD_some, Value.cells] at hw); (try simp (disch := first | (simp; done) | (simp; omega)) only [Sep.mid_set, Sep.mid_set2, Sep.mid_set0, Sep.mid_splice, Sep.mid_splice0, List.set_cons_zero, List.set_cons_succ] at hw); (try simp only [Sep.splice, List.take_succ_cons, List.take_zero, List.drop_succ_cons, List.drop_zero, List.length_cons, List.length_nil, Nat.reduceAdd, List.cons_append, List.nil_append] at hw); (try replace hc0 := Sep.Holds.cells hw (i := 0) rfl); (try replace hc1 := Sep.Holds.cells hw (i := 1) rfl); (try replace hc2 := Sep.Holds.cells hw (i := 2) rfl); (try replace hc3 := Sep.Holds.cells hw (i := 3) rfl); (try replace hc4 := Sep.Holds.cells hw (i := 4) rfl); (try replace hc5 := Sep.Holds.cells hw (i := 5) rfl); (try replace hc6 := Sep.Holds.cells hw (i := 6) rfl))
     refine ⟨(SL.drop 3 (by kernel_rfl) (SL.drop 5 (by kernel_rfl) SL.nil)), ?_⟩
     try simp only [Act.put, List.setIfInBounds_toArray, List.set_cons_zero, List.set_cons_succ]
     refine wpL_q 7 ?_ rfl (Or.inl ⟨by rfl, fun w_ hS_ => ?_⟩) (marks 9 255) ?_
     rotate_left
     next => (go_simp; try (first | rfl | exact (Bool.not_not _).symm))
     try simp only [Act.put, List.setIfInBounds_toArray, List.set_cons_zero, List.set_cons_succ]
     refine wpL_o 8 rfl (by rfl) (marks 9 511) ?_
     (refine wp_store1 (v := .slice (some ⟨bx2_, off2_, none⟩) (0 + i1 + 1) cap2_) (off := 5) rfl rfl rfl hw (i := 4) rfl (show 5 < 6 by decide) rfl ?_; intro w_ hw_; clear hw; have hw := hw_; clear hw_; (try simp only [List.map_cons, List.map_nil, List.getD_cons_zero, List.getD_cons_succ, List.getD_nil, List.set_cons_zero, List.set_cons_succ, List.cons_append, List.nil_append, Act.eval, Array.getD_eq_getD_getElem?, List.getElem?_toArray, List.getElem?_cons_succ, List.getElem?_cons_zero, Option.getD_some, Value.cells] at hw); (try simp (disch := first | (simp; done) | (simp; omega)) only [Sep.mid_set, Sep.mid_set2, Sep.mid_set0, Sep.mid_splice, Sep.mid_splice0, List.set_cons_zero, List.set_cons_succ] at hw); (try simp only [Sep.splice, List.take_succ_cons, List.take_zero, List.drop_succ_cons, List.drop_zero, List.length_cons, List.length_nil, Nat.reduceAdd, List.cons_append, List.nil_append] at hw); (try replace hc0 := Sep.Holds.cells hw (i := 0) rfl); (try replace hc1 := Sep.Holds.cells hw (i := 1) rfl); (try replace hc2 := Sep.Holds.cells hw (i := 2) rfl); (try replace hc3 := Sep.Holds.cells hw (i := 3) rfl); (try replace hc4 := Sep.Holds.cells hw (i := 4) rfl); (try replace hc5 := Sep.Holds.cells hw (i := 5) rfl); (try replace hc6 := Sep.Holds.cells hw (i := 6) rfl))
     refine ⟨(SL.drop 3 (by kernel_rfl) (SL.drop 5 (by kernel_rfl) SL.nil)), ?_⟩
     try simp only [Act.put, List.setIfInBounds_toArray, List.set_cons_zero, List.set_cons_succ]
     refine wpL_done (by kernel_rfl) ?_ _
     (replace hw := hw.sel [0, 1, 2, 3, 4, 6] (by decide); (try simp only [List.map_cons, List.map_nil, List.getD_cons_zero, List.getD_cons_succ, List.getD_nil, List.set_cons_zero, List.set_cons_succ, List.cons_append, List.nil_append, Act.eval, Array.getD_eq_getD_getElem?, List.getElem?_toArray, List.getElem?_cons_succ, List.getElem?_cons_zero, Option.getD_some, Value.cells] at hw); (try simp (disch := first | (simp; done) | (simp; omega)) only [Sep.mid_set, Sep.mid_set2, Sep.mid_set0, Sep.mid_splice, Sep.mid_splice0, List.set_cons_zero, List.set_cons_succ] at hw); (try simp only [Sep.splice, List.take_succ_cons, List.take_zero, List.drop_succ_cons, List.drop_zero, List.length_cons, List.length_nil, Nat.reduceAdd, List.cons_append, List.nil_append] at hw); simp only [Nat.zero_add, List.nil_append] at hw ⊢)
    rotate_left 1
    all_goals (
      (try clear hc0); (try clear hc1); (try clear hc2); (try clear hc3); (try clear hc4); (try clear hc5); (try clear hc6)
      (try replace hc0 := Sep.Holds.cells hw (i := 0) rfl); (try replace hc1 := Sep.Holds.cells hw (i := 1) rfl); (try replace hc2 := Sep.Holds.cells hw (i := 2) rfl); (try replace hc3 := Sep.Holds.cells hw (i := 3) rfl); (try replace hc4 := Sep.Holds.cells hw (i := 4) rfl); (try replace hc5 := Sep.Holds.cells hw (i := 5) rfl); (try replace hc6 := Sep.Holds.cells hw (i := 6) rfl)
      rw [show encTs s.is ++ [.int .i64 x.d, .int .i64 x.a, .int .i64 x.n] = encTs (s.is ++ [x]) from (encTs_snoc s.is x).symm] at hw
      have hw : Holds e w_ [Old e, pt b2_ [.int .i64 s.r0, .int .i64 s.r1, .int .i64 s.r2, .int .i64 s.r3, .slice pa n1 pc, .slice ia i1 ic] 28, pt b3_ [.int .i64 x.d, .int .i64 x.a, .int .i64 x.n] 23, Sl 5 1 (.slice a1 lb k1) lb (encB (bS s)), pt b7_ [.int .i64 s.r0, .int .i64 s.r1, .int .i64 s.r2, .int .i64 s.r3, .slice pa n1 pc, .slice (some ⟨bx2_, off2_, none⟩) (i1 + 1) cap2_] 28, Sl 23 3 (.slice (some ⟨bx2_, off2_, none⟩) (s.is ++ [x]).length cap2_) (s.is ++ [x]).length (encTs (s.is ++ [x]))] := by rw [Hl1.out]; exact hw
      have hsvt : scrV ⟨s.r0, s.r1, s.r2, s.r3, s.ps, s.is ++ [x]⟩ pa pc (some ⟨bx2_, off2_, none⟩) cap2_ = [.int .i64 s.r0, .int .i64 s.r1, .int .i64 s.r2, .int .i64 s.r3, .slice pa n1 pc, .slice (some ⟨bx2_, off2_, none⟩) (i1 + 1) cap2_] := by
        have := Hl1.out
        unfold scrV
        simp only
        rw [this, Hn1.out]
      go_wp2_with fail
      have hl1 := oBytesSX ⟨s.r0, s.r1, s.r2, s.r3, s.ps, s.is ++ [x]⟩ HSt.out hs pa (some ⟨bx2_, off2_, none⟩) pc cap2_ e _ _ HT.out.sep (HPs.out.at 0 rfl) (rdT.at 5 rfl) hw.focus0
      rw [hsvt] at hl1
      refine hl1.mono ?_
      clear hl1
      rintro _ w_ ⟨v3, rfl, hw_⟩
      rw [Het.out]
      rw [Hbt.out] at hw_
      clear hw; (try clear hc0); (try clear hc1); (try clear hc2); (try clear hc3); (try clear hc4); (try clear hc5); (try clear hc6); have hw := Holds.unfocus0 hw_; clear hw_; (try simp only [List.map_cons, List.map_nil, List.getD_cons_zero, List.getD_cons_succ, List.getD_nil, List.set_cons_zero, List.set_cons_succ, List.cons_append, List.nil_append, Act.eval, Array.getD_eq_getD_getElem?, List.getElem?_toArray, List.getElem?_cons_succ, List.getElem?_cons_zero, Option.getD_some, Value.cells] at hw); (try simp (disch := first | (simp; done) | (simp; omega)) only [Sep.mid_set, Sep.mid_set2, Sep.mid_set0, Sep.mid_splice, Sep.mid_splice0, List.set_cons_zero, List.set_cons_succ] at hw); (try simp only [Sep.splice, List.take_succ_cons, List.take_zero, List.drop_succ_cons, List.drop_zero, List.length_cons, List.length_nil, Nat.reduceAdd, List.cons_append, List.nil_append] at hw)
      (try replace hc0 := Sep.Holds.cells hw (i := 0) rfl); (try replace hc1 := Sep.Holds.cells hw (i := 1) rfl); (try replace hc2 := Sep.Holds.cells hw (i := 2) rfl); (try replace hc3 := Sep.Holds.cells hw (i := 3) rfl); (try replace hc4 := Sep.Holds.cells hw (i := 4) rfl); (try replace hc5 := Sep.Holds.cells hw (i := 5) rfl); (try replace hc6 := Sep.Holds.cells hw (i := 6) rfl)
      have Hsvt := Sep.hid hsvt; clear hsvt
      go_wp2_with fail
      refine wp_region_L [1, 3, 9] [(0, (fun w' => w' = w_.drew)), (2, (fun w' => Holds e w' [pt b3_ [.int .i64 x.d, .int .i64 x.a, .int .i64 x.n] 23])), (8, (fun w' => Holds e w' [pt b3_ [.int .i64 x.d, .int .i64 x.a, .int .i64 x.n] 23]))] (n := 12) (listed := (marks 12 0)) (by kernel_rfl) rfl (by kernel_rfl) ?conds4 ?_
      case conds4 =>
       intro c hc
       simp only [List.mem_cons, List.not_mem_nil, or_false] at hc
       rcases hc with rfl | rfl | rfl
       · rfl
       · exact (by replace hw := hw.drew; exact hw.sel [2] (by decide))
       · exact (by replace hw := hw.drew; exact hw.sel [2] (by decide))
      replace hw := hw.drew
      (try replace hc0 := Sep.Holds.cells hw (i := 0) rfl); (try replace hc1 := Sep.Holds.cells hw (i := 1) rfl); (try replace hc2 := Sep.Holds.cells hw (i := 2) rfl); (try replace hc3 := Sep.Holds.cells hw (i := 3) rfl); (try replace hc4 := Sep.Holds.cells hw (i := 4) rfl); (try replace hc5 := Sep.Holds.cells hw (i := 5) rfl); (try replace hc6 := Sep.Holds.cells hw (i := 6) rfl)
      refine wpL_m 0 ?_ rfl (.head _) (Or.inl ⟨by rfl, fun w_ hS_ => ?_⟩) (marks 12 1) ?_
      rotate_left
      next => (subst hS_; go_simp; try (first | rfl | exact (Bool.not_not _).symm))
      try simp only [Act.put, List.setIfInBounds_toArray, List.set_cons_zero, List.set_cons_succ]
      refine wpL_m 2 ?_ rfl (.tail _ (.head _)) (Or.inl ⟨by rfl, fun w_ hS_ => ?_⟩) (marks 12 5) ?_
      rotate_left
      next => (dsimp only at hS_; (try have q0 := Sep.Holds.cells hS_ (i := 0) rfl); (try have q1 := Sep.Holds.cells hS_ (i := 1) rfl); (try have q2 := Sep.Holds.cells hS_ (i := 2) rfl); (try have q3 := Sep.Holds.cells hS_ (i := 3) rfl); (try have q4 := Sep.Holds.cells hS_ (i := 4) rfl); (try have q5 := Sep.Holds.cells hS_ (i := 5) rfl); (try have q6 := Sep.Holds.cells hS_ (i := 6) rfl); go_simp; try (first | rfl | exact (Bool.not_not _).symm))
      try simp only [Act.put, List.setIfInBounds_toArray, List.set_cons_zero, List.set_cons_succ]
      refine wpL_o 1 rfl (by rfl) (marks 12 7) ?_
      (go_simp; go_at_call 15; have hl1 := oMayS ⟨s.r0, s.r1, s.r2, s.r3, s.ps, s.is ++ [x]⟩ HSt.out hs pa (some ⟨bx2_, off2_, none⟩) pc cap2_ e _ _ HT.out.sep (HPs.out.at 0 rfl) (rdT.at 5 rfl) hw.focus0; rw [Hsvt.out] at hl1; refine hl1.mono ?_; clear hl1; rintro _ w_ ⟨rfl, hw_⟩; rw [Hmt.out]; clear hw; have hw := Holds.unfocus0 hw_; clear hw_; (try simp only [List.map_cons, List.map_nil, List.getD_cons_zero, List.getD_cons_succ, List.getD_nil, List.set_cons_zero, List.set_cons_succ, List.cons_append, List.nil_append, Act.eval, Array.getD_eq_getD_getElem?, List.getElem?_toArray, List.getElem?_cons_succ, List.getElem?_cons_zero, Option.getD_some, Value.cells] at hw); (try simp (disch := first | (simp; done) | (simp; omega)) only [Sep.mid_set, Sep.mid_set2, Sep.mid_set0, Sep.mid_splice, Sep.mid_splice0, List.set_cons_zero, List.set_cons_succ] at hw); (try simp only [Sep.splice, List.take_succ_cons, List.take_zero, List.drop_succ_cons, List.drop_zero, List.length_cons, List.length_nil, Nat.reduceAdd, List.cons_append, List.nil_append] at hw))
      refine ⟨(SL.drop 1 (by kernel_rfl) (SL.keep (by exact hw.sel [2] (by decide)) (SL.keep (by exact hw.sel [2] (by decide)) SL.nil))), ?_⟩
      try simp only [Act.put, List.setIfInBounds_toArray, List.set_cons_zero, List.set_cons_succ]
      refine wpL_o 3 rfl (by rfl) (marks 12 15) ?_
      (go_simp; go_at_call 13; refine (oItem x e _ _ hw.focus0).mono ?_; rintro _ w_ ⟨rfl, hw_⟩; rw [Hix.out]; clear hw; have hw := Holds.unfocus0 hw_; clear hw_; (try simp only [List.map_cons, List.map_nil, List.getD_cons_zero, List.getD_cons_succ, List.getD_nil, List.set_cons_zero, List.set_cons_succ, List.cons_append, List.nil_append, Act.eval, Array.getD_eq_getD_getElem?, List.getElem?_toArray, List.getElem?_cons_succ, List.getElem?_cons_zero, Option.getD_some, Value.cells] at hw); (try simp (disch := first | (simp; done) | (simp; omega)) only [Sep.mid_set, Sep.mid_set2, Sep.mid_set0, Sep.mid_splice, Sep.mid_splice0, List.set_cons_zero, List.set_cons_succ] at hw); (try simp only [Sep.splice, List.take_succ_cons, List.take_zero, List.drop_succ_cons, List.drop_zero, List.length_cons, List.length_nil, Nat.reduceAdd, List.cons_append, List.nil_append] at hw))
      refine ⟨(SL.drop 1 (by kernel_rfl) (SL.drop 3 (by kernel_rfl) (SL.keep (by exact hw.sel [2] (by decide)) SL.nil))), ?_⟩
      try simp only [Act.put, List.setIfInBounds_toArray, List.set_cons_zero, List.set_cons_succ]
      refine wpL_q 4 ?_ rfl (Or.inl ⟨by rfl, fun w_ hS_ => ?_⟩) (marks 12 31) ?_
      rotate_left
      next => (go_simp; try (first | rfl | exact (Bool.not_not _).symm))
      try simp only [Act.put, List.setIfInBounds_toArray, List.set_cons_zero, List.set_cons_succ]
      refine wpL_b 5 ?_ rfl (Or.inl ⟨by rfl, fun w_ hS_ => ?_⟩) (marks 12 63) ?_
      rotate_left
      next => (go_simp; try (first | rfl | exact (Bool.not_not _).symm))
      intro bb_ hg5
      cases bb_
      case' true =>
       (try simp only [decide_eq_true_eq, decide_eq_false_iff_not, beq_iff_eq, beq_eq_false_iff_ne, bne_iff_ne, bne_eq_false_iff_eq, Bool.not_eq_true', Bool.not_eq_false', Int.not_lt, Int.not_le] at hg5)
       first | (cases hg5; done) | (exfalso; omega; done) | skip
       all_goals
        try replace hg5 := Sep.hid hg5
        try simp only [Act.put, List.setIfInBounds_toArray, List.set_cons_zero, List.set_cons_succ]
        refine wpL_q 6 undef rfl (Or.inr ⟨by rfl, rfl⟩) (marks 12 127) ?_
        try simp only [Act.put, List.setIfInBounds_toArray, List.set_cons_zero, List.set_cons_succ]
        refine wpL_q 7 undef rfl (Or.inr ⟨by rfl, rfl⟩) (marks 12 255) ?_
        try simp only [Act.put, List.setIfInBounds_toArray, List.set_cons_zero, List.set_cons_succ]
        refine wpL_m 8 undef rfl (.tail _ (.tail _ (.head _))) (Or.inr ⟨by rfl, rfl⟩) (marks 12 511) ?_
        try simp only [Act.put, List.setIfInBounds_toArray, List.set_cons_zero, List.set_cons_succ]
        refine wpL_s 9 rfl (by rfl) (marks 12 1023) ?_
        try simp only [Act.put, List.setIfInBounds_toArray, List.set_cons_zero, List.set_cons_succ]
        refine wpL_q 10 undef rfl (Or.inr ⟨by rfl, rfl⟩) (marks 12 2047) ?_
        try simp only [Act.put, List.setIfInBounds_toArray, List.set_cons_zero, List.set_cons_succ]
      case' false =>
       (try simp only [decide_eq_true_eq, decide_eq_false_iff_not, beq_iff_eq, beq_eq_false_iff_ne, bne_iff_ne, bne_eq_false_iff_eq, Bool.not_eq_true', Bool.not_eq_false', Int.not_lt, Int.not_le] at hg5)
       first | (cases hg5; done) | (exfalso; omega; done) | skip
       all_goals
        try replace hg5 := Sep.hid hg5
        try simp only [Act.put, List.setIfInBounds_toArray, List.set_cons_zero, List.set_cons_succ]
        refine wpL_q 6 ?_ rfl (Or.inl ⟨by rfl, fun w_ hS_ => ?_⟩) (marks 12 127) ?_
        rotate_left
        next => (go_simp; try (first | rfl | exact (Bool.not_not _).symm))
        try simp only [Act.put, List.setIfInBounds_toArray, List.set_cons_zero, List.set_cons_succ]
        refine wpL_q 7 ?_ rfl (Or.inl ⟨by rfl, fun w_ hS_ => ?_⟩) (marks 12 255) ?_
        rotate_left
        next => (go_simp; try (first | rfl | exact (Bool.not_not _).symm))
        try simp only [Act.put, List.setIfInBounds_toArray, List.set_cons_zero, List.set_cons_succ]
        refine wpL_m 8 ?_ rfl (.tail _ (.tail _ (.head _))) (Or.inl ⟨by rfl, fun w_ hS_ => ?_⟩) (marks 12 511) ?_
        rotate_left
        next => (dsimp only at hS_; (try have q0 := Sep.Holds.cells hS_ (i := 0) rfl); (try have q1 := Sep.Holds.cells hS_ (i := 1) rfl); (try have q2 := Sep.Holds.cells hS_ (i := 2) rfl); (try have q3 := Sep.Holds.cells hS_ (i := 3) rfl); (try have q4 := Sep.Holds.cells hS_ (i := 4) rfl); (try have q5 := Sep.Holds.cells hS_ (i := 5) rfl); (try have q6 := Sep.Holds.cells hS_ (i := 6) rfl); go_simp; try (first | rfl | exact (Bool.not_not _).symm))
        try simp only [Act.put, List.setIfInBounds_toArray, List.set_cons_zero, List.set_cons_succ]
        refine wpL_o 9 rfl (by rfl) (marks 12 1023) ?_
        (go_simp; go_at_call 13; refine (oItem x e _ _ hw.focus0).mono ?_; rintro _ w_ ⟨rfl, hw_⟩; rw [Hix.out]; clear hw; have hw := Holds.unfocus0 hw_; clear hw_; (try simp only [List.map_cons, List.map_nil, List.getD_cons_zero, List.getD_cons_succ, List.getD_nil, List.set_cons_zero, List.set_cons_succ, List.cons_append, List.nil_append, Act.eval, Array.getD_eq_getD_getElem?, List.getElem?_toArray, List.getElem?_cons_succ, List.getElem?_cons_zero, Option.getD_some, Value.cells] at hw); (try simp (disch := first | (simp; done) | (simp; omega)) only [Sep.mid_set, Sep.mid_set2, Sep.mid_set0, Sep.mid_splice, Sep.mid_splice0, List.set_cons_zero, List.set_cons_succ] at hw); (try simp only [Sep.splice, List.take_succ_cons, List.take_zero, List.drop_succ_cons, List.drop_zero, List.length_cons, List.length_nil, Nat.reduceAdd, List.cons_append, List.nil_append] at hw))
        refine ⟨(SL.drop 1 (by kernel_rfl) (SL.drop 3 (by kernel_rfl) (SL.drop 9 (by kernel_rfl) SL.nil))), ?_⟩
        try simp only [Act.put, List.setIfInBounds_toArray, List.set_cons_zero, List.set_cons_succ]
        refine wpL_q 10 ?_ rfl (Or.inl ⟨by rfl, fun w_ hS_ => ?_⟩) (marks 12 2047) ?_
        rotate_left
        next => (go_simp; try (first | rfl | exact (Bool.not_not _).symm))
        try simp only [Act.put, List.setIfInBounds_toArray, List.set_cons_zero, List.set_cons_succ]
      all_goals
       refine wpL_q 11 ?_ rfl (Or.inl ⟨by rfl, fun w_ hS_ => ?_⟩) (marks 12 4095) ?_
       rotate_left
       next => (go_simp; try (first | rfl | exact (Bool.not_not _).symm))
       try simp only [Act.put, List.setIfInBounds_toArray, List.set_cons_zero, List.set_cons_succ]
       all_goals refine wpL_done (by kernel_rfl) ?_ _
    )
    all_goals (
      (try clear hc0); (try clear hc1); (try clear hc2); (try clear hc3); (try clear hc4); (try clear hc5); (try clear hc6)
      have hIs : IsB v3 (bS s ++ encItm x) = Sl 5 1 v3 (lb + 10) (encB (bS s ++ encItm x)) := by unfold IsB; rw [List.length_append, Hlb.out, encItm_len]
      rw [hIs] at hw; clear hIs
      (try replace hc0 := Sep.Holds.cells hw (i := 0) rfl); (try replace hc1 := Sep.Holds.cells hw (i := 1) rfl); (try replace hc2 := Sep.Holds.cells hw (i := 2) rfl); (try replace hc3 := Sep.Holds.cells hw (i := 3) rfl); (try replace hc4 := Sep.Holds.cells hw (i := 4) rfl); (try replace hc5 := Sep.Holds.cells hw (i := 5) rfl); (try replace hc6 := Sep.Holds.cells hw (i := 6) rfl)
      obtain ⟨a3, k3, rfl⟩ := Sl.value (i := 6) rfl hw
      have hk3 : lb + 10 ≤ k3 := sl_capB (i := 6) hw rfl
      have Hk3 : Hid (lb ≤ k3) := Sep.hid (by omega)
      have HR3 : Hid (RdB e (Sl 5 1 (.slice a3 (lb + 10) k3) (lb + 10) (encB (bS s ++ encItm x))) a3 (bS s)) := Sep.hid (by
        have h := (rdB (e := e) (n := lb + 10) (ca := k3) (a := a3) (l := bS s ++ encItm x)).take lb
        rwa [List.take_left' Hlb.out] at h)
      clear hk3
      have hq : (((lb + 10 : Nat) : Int) == (lb : Int) + 10) = true := by simp
      go_wp2_with (first | (refine wpList_on rfl (wp_of_run (v := .slice a3 lb k3) (run_sliceTo (k := lb) rfl rfl rfl Hk3.out) ?_); (try simp only [Act.put, List.setIfInBounds_toArray, List.set_cons_zero, List.set_cons_succ])))
      refine (sameB a3 a1 (bS s) (bS s) lb lb k3 k1 Hlb.out.symm Hlb.out.symm (by omega) _ (HR3.out _ _ 6 hw rfl) (readsB (i := 3) hw rfl)).mono ?_
      rintro _ w_ ⟨rfl, hd_⟩
      replace hw := hw.drewTo hd_; clear hd_; (try clear hc0); (try clear hc1); (try clear hc2); (try clear hc3); (try clear hc4); (try clear hc5); (try clear hc6)
      rw [decide_eq_true rfl]
      go_wp2_with fail
      exact HP.out _ _ ⟨rfl, hw.sel [0] (by decide)⟩)
end Go.Proofs.YteinbojpmhblkaaDoor
