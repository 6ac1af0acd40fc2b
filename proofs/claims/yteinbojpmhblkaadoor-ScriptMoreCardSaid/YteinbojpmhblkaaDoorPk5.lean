/-
  Part 5 of the proof: contracts of functions and what they lean on (ScrL, ScrO, ScrJ, ScrQ, CodeLaid).
-/
import Derived.Deep.Strs
import Derived.Test.YteinbojpmhblkaaDoorRows
import Derived.ProofKit
import Derived.LaidMore
import Derived.OpenShut
import Derived.Stop.Joined
import Derived.Test.YteinbojpmhblkaaDoorPk1
import Derived.Test.YteinbojpmhblkaaDoorPk2
import Derived.Test.YteinbojpmhblkaaDoorPk3
import Derived.Test.YteinbojpmhblkaaDoorPk4
/-
  The walks of Same of scripts.
-/
namespace Go.Proofs.YteinbojpmhblkaaDoor
set_option linter.unusedSimpArgs false
set_option linter.unusedVariables false
open Go.RowKit Go.Sep
set_option maxRecDepth 20000

theorem same_parts (s t : Scr) : decide (s = t) = (decide (s.r0 = t.r0 ∧ s.r1 = t.r1 ∧ s.r2 = t.r2 ∧ s.r3 = t.r3) && (decide (s.ps = t.ps) && decide (s.is = t.is))) := by
  obtain ⟨a0, a1, a2, a3, a4, a5⟩ := s
  obtain ⟨b0, b1, b2, b3, b4, b5⟩ := t
  rw [Bool.eq_iff_iff]
  simp [Scr.mk.injEq, and_assoc]
set_option maxHeartbeats 4000000 in
theorem oSameS (s t : Scr) (hSs : Small s) (hSt : Small t) (hs gs : List Hd) (pa pb ia ib : Option Addr) (pc ic qc jc : Nat) (e w : World) (X : HProp) (hRs : RdP e X pa hs s.ps) (hRt : RdP e X pb gs t.ps) (hIs : RdT e X ia s.is) (hIt : RdT e X ib t.is) (hw : Holds e w [X]) :
    Calls Tryd.prog 19 #[.agg (scrV s pa pc ia ic).toArray, .agg (scrV t pb qc ib jc).toArray] w fun en w' => en = .returned (.bool (decide (s = t))) ∧ Holds e w' [X] := by
  have HRs := Sep.hid hRs; have HRt := Sep.hid hRt; clear hRs hRt
  have HIs := Sep.hid hIs; have HIt := Sep.hid hIt; clear hIs hIt
  have HSs := Sep.hid hSs; have HSt := Sep.hid hSt; clear hSs hSt
  obtain ⟨n1, hn1⟩ : ∃ n1, s.ps.length = n1 := ⟨_, rfl⟩
  obtain ⟨i1, hi1⟩ : ∃ i1, s.is.length = i1 := ⟨_, rfl⟩
  obtain ⟨n2, hn2⟩ : ∃ n2, t.ps.length = n2 := ⟨_, rfl⟩
  obtain ⟨i2, hi2⟩ : ∃ i2, t.is.length = i2 := ⟨_, rfl⟩
  have hA : scrV s pa pc ia ic = [.int .i64 s.r0, .int .i64 s.r1, .int .i64 s.r2, .int .i64 s.r3, .slice pa n1 pc, .slice ia i1 ic] := by rw [← hn1, ← hi1]; rfl
  have hB : scrV t pb qc ib jc = [.int .i64 t.r0, .int .i64 t.r1, .int .i64 t.r2, .int .i64 t.r3, .slice pb n2 qc, .slice ib i2 jc] := by rw [← hn2, ← hi2]; rfl
  rw [hA, hB]; clear hA hB
  have Hn1 := Sep.hid hn1; have Hi1 := Sep.hid hi1; have Hn2 := Sep.hid hn2; have Hi2 := Sep.hid hi2
  have hb1 : n1 ≤ 20 := by rw [← hn1]; exact HSs.out.1
  have hb2 : i1 ≤ 300 := by rw [← hi1]; exact HSs.out.2.1
  clear hn1 hi1 hn2 hi2
  have Hm := Sep.hid (same_parts s t)
  have Heq : Hid (∀ w, (binOp .eql 24 (.agg #[.int .i64 s.r0, .int .i64 s.r1, .int .i64 s.r2, .int .i64 s.r3]) (.agg #[.int .i64 t.r0, .int .i64 t.r1, .int .i64 t.r2, .int .i64 t.r3])).run Tryd.prog w = .ok (.bool (decide (s.r0 = t.r0 ∧ s.r1 = t.r1 ∧ s.r2 = t.r2 ∧ s.r3 = t.r3))) w) := Sep.hid (fun w => eqR _ _ _ _ _ _ _ _ w)
  generalize decide (s.r0 = t.r0 ∧ s.r1 = t.r1 ∧ s.r2 = t.r2 ∧ s.r3 = t.r3) = q at *
  refine Sep.calls_post ?_
  intro Post_ hPost_
  have HP := Sep.hid hPost_
  clear hPost_
  go_enter Tryd.func19, Tryd.ntmps19
  cases q with
  | false =>
    go_wp2_with (first | (refine wpList_on rfl (wp_box rfl hw ?_); intro b3_ w_ hw_; clear hw; have hw := hw_; clear hw_; (try simp only [List.map_cons, List.map_nil, List.getD_cons_zero, List.getD_cons_succ, List.getD_nil, List.set_cons_zero, List.set_cons_succ, List.cons_append, List.nil_append, Act.eval, Array.getD_eq_getD_getElem?, List.getElem?_toArray, List.getElem?_cons_succ, List.getElem?_cons_zero, Option.getD_some, Value.cells] at hw); (try simp (disch := first | (simp; done) | (simp; omega)) only [Sep.mid_set, Sep.mid_set2, Sep.mid_set0, Sep.mid_splice, Sep.mid_splice0, List.set_cons_zero, List.set_cons_succ] at hw); (try simp only [Sep.splice, List.take_succ_cons, List.take_zero, List.drop_succ_cons, List.drop_zero, List.length_cons, List.length_nil, Nat.reduceAdd, List.cons_append, List.nil_append] at hw); (try replace hc0 := Sep.Holds.cells hw (i := 0) rfl); (try replace hc1 := Sep.Holds.cells hw (i := 1) rfl); (try replace hc2 := Sep.Holds.cells hw (i := 2) rfl); (try replace hc3 := Sep.Holds.cells hw (i := 3) rfl); (try replace hc4 := Sep.Holds.cells hw (i := 4) rfl); (try replace hc5 := Sep.Holds.cells hw (i := 5) rfl); (try replace hc6 := Sep.Holds.cells hw (i := 6) rfl); (try simp only [Act.put, List.setIfInBounds_toArray, List.set_cons_zero, List.set_cons_succ])) | (refine wpList_on rfl (wp_loadN (vs := [.int .i64 s.r0, .int .i64 s.r1, .int .i64 s.r2, .int .i64 s.r3]) rfl rfl hw (i := 1) rfl rfl take4 ?_); (try simp only [Act.put, List.setIfInBounds_toArray, List.set_cons_zero, List.set_cons_succ])) | (refine wpList_on rfl (wp_loadN (vs := [.int .i64 t.r0, .int .i64 t.r1, .int .i64 t.r2, .int .i64 t.r3]) rfl rfl hw (i := 2) rfl rfl take4 ?_); (try simp only [Act.put, List.setIfInBounds_toArray, List.set_cons_zero, List.set_cons_succ])) | (refine wpList_on rfl (wp_of_run (v := .bool false) (run_eq (b := false) rfl rfl rfl noGuardR (Heq.out _)) ?_); (try simp only [Act.put, List.setIfInBounds_toArray, List.set_cons_zero, List.set_cons_succ])))
    exact HP.out _ _ ⟨by rw [Hm.out]; rfl, hw.sel [0] (by decide)⟩
  | true =>
    go_wp2_with (first | (refine wpList_on rfl (wp_box rfl hw ?_); intro b3_ w_ hw_; clear hw; have hw := hw_; clear hw_; (try simp only [List.map_cons, List.map_nil, List.getD_cons_zero, List.getD_cons_succ, List.getD_nil, List.set_cons_zero, List.set_cons_succ, List.cons_append, List.nil_append, Act.eval, Array.getD_eq_getD_getElem?, List.getElem?_toArray, List.getElem?_cons_succ, List.getElem?_cons_zero, Option.getD_some, Value.cells] at hw); (try simp (disch := first | (simp; done) | (simp; omega)) only [Sep.mid_set, Sep.mid_set2, Sep.mid_set0, Sep.mid_splice, Sep.mid_splice0, List.set_cons_zero, List.set_cons_succ] at hw); (try simp only [Sep.splice, List.take_succ_cons, List.take_zero, List.drop_succ_cons, List.drop_zero, List.length_cons, List.length_nil, Nat.reduceAdd, List.cons_append, List.nil_append] at hw); (try replace hc0 := Sep.Holds.cells hw (i := 0) rfl); (try replace hc1 := Sep.Holds.cells hw (i := 1) rfl); (try replace hc2 := Sep.Holds.cells hw (i := 2) rfl); (try replace hc3 := Sep.Holds.cells hw (i := 3) rfl); (try replace hc4 := Sep.Holds.cells hw (i := 4) rfl); (try replace hc5 := Sep.Holds.cells hw (i := 5) rfl); (try replace hc6 := Sep.Holds.cells hw (i := 6) rfl); (try simp only [Act.put, List.setIfInBounds_toArray, List.set_cons_zero, List.set_cons_succ])) | (refine wpList_on rfl (wp_loadN (vs := [.int .i64 s.r0, .int .i64 s.r1, .int .i64 s.r2, .int .i64 s.r3]) rfl rfl hw (i := 1) rfl rfl take4 ?_); (try simp only [Act.put, List.setIfInBounds_toArray, List.set_cons_zero, List.set_cons_succ])) | (refine wpList_on rfl (wp_loadN (vs := [.int .i64 t.r0, .int .i64 t.r1, .int .i64 t.r2, .int .i64 t.r3]) rfl rfl hw (i := 2) rfl rfl take4 ?_); (try simp only [Act.put, List.setIfInBounds_toArray, List.set_cons_zero, List.set_cons_succ])) | (refine wpList_on rfl (wp_of_run (v := .bool true) (run_eq (b := true) rfl rfl rfl noGuardR (Heq.out _)) ?_); (try simp only [Act.put, List.setIfInBounds_toArray, List.set_cons_zero, List.set_cons_succ])))
    refine (equalP pa pb hs gs s.ps t.ps n1 n2 pc qc Hn1.out.symm Hn2.out.symm (by omega) (fun p hp => by have := HSs.out.2.2 p hp; omega) _ (HRs.out.reads (i := 0) hw rfl) (HRt.out.reads (i := 0) hw rfl)).mono ?_
    rintro _ w_ ⟨rfl, hd_⟩
    replace hw := hw.drewTo hd_; clear hd_; (try clear hc0); (try clear hc1); (try clear hc2); (try clear hc3); (try clear hc4); (try clear hc5); (try clear hc6)
    (try replace hc0 := Sep.Holds.cells hw (i := 0) rfl); (try replace hc1 := Sep.Holds.cells hw (i := 1) rfl); (try replace hc2 := Sep.Holds.cells hw (i := 2) rfl); (try replace hc3 := Sep.Holds.cells hw (i := 3) rfl); (try replace hc4 := Sep.Holds.cells hw (i := 4) rfl); (try replace hc5 := Sep.Holds.cells hw (i := 5) rfl); (try replace hc6 := Sep.Holds.cells hw (i := 6) rfl)
    cases hpp : decide (s.ps = t.ps) with
    | false =>
      have Hpp := Sep.hid hpp; clear hpp
      go_wp2_with fail
      exact HP.out _ _ ⟨by rw [Hm.out, Hpp.out]; rfl, hw.sel [0] (by decide)⟩
    | true =>
      have Hpp := Sep.hid hpp; clear hpp
      go_wp2_with fail
      refine (equalT ia ib s.is t.is i1 i2 ic jc Hi1.out.symm Hi2.out.symm (by omega) _ (HIs.out _ _ 0 hw rfl) (HIt.out _ _ 0 hw rfl)).mono ?_
      rintro _ w_ ⟨rfl, hd_⟩
      replace hw := hw.drewTo hd_; clear hd_; (try clear hc0); (try clear hc1); (try clear hc2); (try clear hc3); (try clear hc4); (try clear hc5); (try clear hc6)
      go_wp2_with fail
      exact HP.out _ _ ⟨by rw [Hm.out, Hpp.out]; rfl, hw.sel [0] (by decide)⟩
def rEq (s t : Scr) (k : Nat) : Prop := (0 < k → s.r0 = t.r0) ∧ (1 < k → s.r1 = t.r1) ∧ (2 < k → s.r2 = t.r2) ∧ (3 < k → s.r3 = t.r3)
set_option maxHeartbeats 8000000 in
theorem rSameS (s t : Scr) (hSs : Small s) (hSt : Small t) (hs gs : List Hd) (pa pb ia ib : Option Addr) (pc ic qc jc : Nat) (e w : World) (X : HProp) (hRs : RdP e X pa hs s.ps) (hRt : RdP e X pb gs t.ps) (hIs : RdT e X ia s.is) (hIt : RdT e X ib t.is) (hw : Holds e w [X]) :
    Calls Tryd.prog 18 #[.agg (scrV s pa pc ia ic).toArray, .agg (scrV t pb qc ib jc).toArray] w fun en w' => en = .returned (.bool (decide (s = t))) ∧ Holds e w' [X] := by
  have HRs := Sep.hid hRs; have HRt := Sep.hid hRt; clear hRs hRt
  have HIs := Sep.hid hIs; have HIt := Sep.hid hIt; clear hIs hIt
  have HSs := Sep.hid hSs; have HSt := Sep.hid hSt; clear hSs hSt
  obtain ⟨n1, hn1⟩ : ∃ n1, s.ps.length = n1 := ⟨_, rfl⟩
  obtain ⟨i1, hi1⟩ : ∃ i1, s.is.length = i1 := ⟨_, rfl⟩
  obtain ⟨n2, hn2⟩ : ∃ n2, t.ps.length = n2 := ⟨_, rfl⟩
  obtain ⟨i2, hi2⟩ : ∃ i2, t.is.length = i2 := ⟨_, rfl⟩
  have hA : scrV s pa pc ia ic = [.int .i64 s.r0, .int .i64 s.r1, .int .i64 s.r2, .int .i64 s.r3, .slice pa n1 pc, .slice ia i1 ic] := by rw [← hn1, ← hi1]; rfl
  have hB : scrV t pb qc ib jc = [.int .i64 t.r0, .int .i64 t.r1, .int .i64 t.r2, .int .i64 t.r3, .slice pb n2 qc, .slice ib i2 jc] := by rw [← hn2, ← hi2]; rfl
  rw [hA, hB]; clear hA hB
  have Hn1 := Sep.hid hn1; have Hi1 := Sep.hid hi1; have Hn2 := Sep.hid hn2; have Hi2 := Sep.hid hi2
  have hb1 : n1 ≤ 20 := by rw [← hn1]; exact HSs.out.1
  have hb2 : i1 ≤ 300 := by rw [← hi1]; exact HSs.out.2.1
  clear hn1 hi1 hn2 hi2
  have Hm := Sep.hid (same_parts s t)
  by_cases hn : n1 = n2
  case neg =>
    have hne : ((n1 : Int) != (n2 : Int)) = true := by simp; omega
    have Hd : Hid (decide (s = t) = false) := Sep.hid (by rw [decide_eq_false_iff_not]; rintro rfl; exact hn (by rw [← Hn1.out, ← Hn2.out]))
    clear hn
    refine Sep.calls_post ?_
    intro Post_ hPost_
    have HP := Sep.hid hPost_
    clear hPost_
    go_enter Tryd.func18, Tryd.ntmps18
    go_wp2_with (first | (refine wpList_on rfl (wp_box rfl hw ?_); intro b3_ w_ hw_; clear hw; have hw := hw_; clear hw_; (try simp only [List.map_cons, List.map_nil, List.getD_cons_zero, List.getD_cons_succ, List.getD_nil, List.set_cons_zero, List.set_cons_succ, List.cons_append, List.nil_append, Act.eval, Array.getD_eq_getD_getElem?, List.getElem?_toArray, List.getElem?_cons_succ, List.getElem?_cons_zero, Option.getD_some, Value.cells] at hw); (try simp (disch := first | (simp; done) | (simp; omega)) only [Sep.mid_set, Sep.mid_set2, Sep.mid_set0, Sep.mid_splice, Sep.mid_splice0, List.set_cons_zero, List.set_cons_succ] at hw); (try simp only [Sep.splice, List.take_succ_cons, List.take_zero, List.drop_succ_cons, List.drop_zero, List.length_cons, List.length_nil, Nat.reduceAdd, List.cons_append, List.nil_append] at hw); (try replace hc0 := Sep.Holds.cells hw (i := 0) rfl); (try replace hc1 := Sep.Holds.cells hw (i := 1) rfl); (try replace hc2 := Sep.Holds.cells hw (i := 2) rfl); (try replace hc3 := Sep.Holds.cells hw (i := 3) rfl); (try replace hc4 := Sep.Holds.cells hw (i := 4) rfl); (try replace hc5 := Sep.Holds.cells hw (i := 5) rfl); (try replace hc6 := Sep.Holds.cells hw (i := 6) rfl); (try simp only [Act.put, List.setIfInBounds_toArray, List.set_cons_zero, List.set_cons_succ])))
    exact HP.out _ _ ⟨by rw [Hd.out]; rfl, hw.sel [0] (by decide)⟩
  by_cases hi : i1 = i2
  case neg =>
    have hne : ((n1 : Int) != (n2 : Int)) = false := by simp [hn]
    have hne2 : ((i1 : Int) != (i2 : Int)) = true := by simp; omega
    have Hd : Hid (decide (s = t) = false) := Sep.hid (by rw [decide_eq_false_iff_not]; rintro rfl; exact hi (by rw [← Hi1.out, ← Hi2.out]))
    clear hn hi
    refine Sep.calls_post ?_
    intro Post_ hPost_
    have HP := Sep.hid hPost_
    clear hPost_
    go_enter Tryd.func18, Tryd.ntmps18
    go_wp2_with (first | (refine wpList_on rfl (wp_box rfl hw ?_); intro b3_ w_ hw_; clear hw; have hw := hw_; clear hw_; (try simp only [List.map_cons, List.map_nil, List.getD_cons_zero, List.getD_cons_succ, List.getD_nil, List.set_cons_zero, List.set_cons_succ, List.cons_append, List.nil_append, Act.eval, Array.getD_eq_getD_getElem?, List.getElem?_toArray, List.getElem?_cons_succ, List.getElem?_cons_zero, Option.getD_some, Value.cells] at hw); (try simp (disch := first | (simp; done) | (simp; omega)) only [Sep.mid_set, Sep.mid_set2, Sep.mid_set0, Sep.mid_splice, Sep.mid_splice0, List.set_cons_zero, List.set_cons_succ] at hw); (try simp only [Sep.splice, List.take_succ_cons, List.take_zero, List.drop_succ_cons, List.drop_zero, List.length_cons, List.length_nil, Nat.reduceAdd, List.cons_append, List.nil_append] at hw); (try replace hc0 := Sep.Holds.cells hw (i := 0) rfl); (try replace hc1 := Sep.Holds.cells hw (i := 1) rfl); (try replace hc2 := Sep.Holds.cells hw (i := 2) rfl); (try replace hc3 := Sep.Holds.cells hw (i := 3) rfl); (try replace hc4 := Sep.Holds.cells hw (i := 4) rfl); (try replace hc5 := Sep.Holds.cells hw (i := 5) rfl); (try replace hc6 := Sep.Holds.cells hw (i := 6) rfl); (try simp only [Act.put, List.setIfInBounds_toArray, List.set_cons_zero, List.set_cons_succ])))
    exact HP.out _ _ ⟨by rw [Hd.out]; rfl, hw.sel [0] (by decide)⟩
  have hne : ((n1 : Int) != (n2 : Int)) = false := by simp [hn]
  have hne2 : ((i1 : Int) != (i2 : Int)) = false := by simp [hi]
  have Hnn := Sep.hid hn; have Hii := Sep.hid hi; clear hn hi
  refine Sep.calls_post ?_
  intro Post_ hPost_
  have HP := Sep.hid hPost_
  clear hPost_
  go_enter Tryd.func18, Tryd.ntmps18
  go_wp2_with (first | (refine wpList_on rfl (wp_box rfl hw ?_); intro b3_ w_ hw_; clear hw; have hw := hw_; clear hw_; (try simp only [List.map_cons, List.map_nil, List.getD_cons_zero, List.getD_cons_succ, List.getD_nil, List.set_cons_zero, List.set_cons_succ, List.cons_append, List.nil_append, Act.eval, Array.getD_eq_getD_getElem?, List.getElem?_toArray, List.getElem?_cons_succ, List.getElem?_cons_zero, Option.getD_some, Value.cells] at hw); (try simp (disch := first | (simp; done) | (simp; omega)) only [Sep.mid_set, Sep.mid_set2, Sep.mid_set0, Sep.mid_splice, Sep.mid_splice0, List.set_cons_zero, List.set_cons_succ] at hw); (try simp only [Sep.splice, List.take_succ_cons, List.take_zero, List.drop_succ_cons, List.drop_zero, List.length_cons, List.length_nil, Nat.reduceAdd, List.cons_append, List.nil_append] at hw); (try replace hc0 := Sep.Holds.cells hw (i := 0) rfl); (try replace hc1 := Sep.Holds.cells hw (i := 1) rfl); (try replace hc2 := Sep.Holds.cells hw (i := 2) rfl); (try replace hc3 := Sep.Holds.cells hw (i := 3) rfl); (try replace hc4 := Sep.Holds.cells hw (i := 4) rfl); (try replace hc5 := Sep.Holds.cells hw (i := 5) rfl); (try replace hc6 := Sep.Holds.cells hw (i := 6) rfl); (try simp only [Act.put, List.setIfInBounds_toArray, List.set_cons_zero, List.set_cons_succ])))
  clear hne hne2
  rename_i b2_ w1_ K1_ h1_
  have Hw0 := Sep.hid hw; clear hw; (try clear hc0); (try clear hc1); (try clear hc2); (try clear hc3); (try clear hc4); (try clear hc5); (try clear hc6)
  go_loopw [5] (fun i wr => ∃ k : Nat, k ≤ 4 ∧ i = .int .i64 k ∧ Hid (rEq s t k) ∧ Holds e wr [X, pt b2_ [.int .i64 s.r0, .int .i64 s.r1, .int .i64 s.r2, .int .i64 s.r3, .slice pa n1 pc, .slice ia i1 ic] 39, pt b3_ [.int .i64 t.r0, .int .i64 t.r1, .int .i64 t.r2, .int .i64 t.r3, .slice pb n2 qc, .slice ib i2 jc] 39]) (fun i _ => 4 - (intOf i).toNat)
  case atStart => exact ⟨0, Nat.zero_le _, rfl, Sep.hid (by unfold rEq; omega), Hw0.out⟩
  case round =>
    clear Hw0
    obtain ⟨k, hk, hi, Ho, hw⟩ := hrel
    match k, hk with
    | 0, _ =>
      obtain rfl : u5 = .int .i64 0 := hi
      (try replace hc0 := Sep.Holds.cells hw (i := 0) rfl); (try replace hc1 := Sep.Holds.cells hw (i := 1) rfl); (try replace hc2 := Sep.Holds.cells hw (i := 2) rfl); (try replace hc3 := Sep.Holds.cells hw (i := 3) rfl); (try replace hc4 := Sep.Holds.cells hw (i := 4) rfl); (try replace hc5 := Sep.Holds.cells hw (i := 5) rfl); (try replace hc6 := Sep.Holds.cells hw (i := 6) rfl)
      by_cases hrr : s.r0 = t.r0
      · have Ho2 : Hid (rEq s t (0 + 1)) := Sep.hid (by have := Ho.out; unfold rEq at *; omega)
        have hb : (s.r0 != t.r0) = false := by simp [hrr]
        clear hrr
        go_wp2_with fail
        refine wp_region_L [] [(3, (fun w' => w' = wr.drew)), (7, (fun w' => w' = wr.drew))] (n := 9) (listed := (marks 9 0)) (by kernel_rfl) rfl (by kernel_rfl) ?conds1 ?_
        case conds1 =>
         intro c hc
         simp only [List.mem_cons, List.not_mem_nil, or_false] at hc
         rcases hc with rfl | rfl
         · rfl
         · rfl
        replace hw := hw.drew
        (try replace hc0 := Sep.Holds.cells hw (i := 0) rfl); (try replace hc1 := Sep.Holds.cells hw (i := 1) rfl); (try replace hc2 := Sep.Holds.cells hw (i := 2) rfl); (try replace hc3 := Sep.Holds.cells hw (i := 3) rfl); (try replace hc4 := Sep.Holds.cells hw (i := 4) rfl); (try replace hc5 := Sep.Holds.cells hw (i := 5) rfl); (try replace hc6 := Sep.Holds.cells hw (i := 6) rfl)
        refine wpL_q 0 ?_ rfl (Or.inl ⟨by rfl, fun w_ hS_ => ?_⟩) (marks 9 1) ?_
        rotate_left
        next => (go_simp; try (first | rfl | exact (Bool.not_not _).symm))
        try simp only [Act.put, List.setIfInBounds_toArray, List.set_cons_zero, List.set_cons_succ]
        refine wpL_q 1 ?_ rfl (Or.inl ⟨by rfl, fun w_ hS_ => ?_⟩) (marks 9 3) ?_
        rotate_left
        next => (go_simp; try (first | rfl | exact (Bool.not_not _).symm))
        try simp only [Act.put, List.setIfInBounds_toArray, List.set_cons_zero, List.set_cons_succ]
        refine wpL_q 2 ?_ rfl (Or.inl ⟨by rfl, fun w_ hS_ => ?_⟩) (marks 9 7) ?_
        rotate_left
        next => (go_simp; try (first | rfl | exact (Bool.not_not _).symm))
        try simp only [Act.put, List.setIfInBounds_toArray, List.set_cons_zero, List.set_cons_succ]
        refine wpL_m 3 ?_ rfl (.head _) (Or.inl ⟨by rfl, fun w_ hS_ => ?_⟩) (marks 9 15) ?_
        rotate_left
        next => (subst hS_; go_simp; try (first | rfl | exact (Bool.not_not _).symm))
        try simp only [Act.put, List.setIfInBounds_toArray, List.set_cons_zero, List.set_cons_succ]
        refine wpL_q 4 ?_ rfl (Or.inl ⟨by rfl, fun w_ hS_ => ?_⟩) (marks 9 31) ?_
        rotate_left
        next => (go_simp; try (first | rfl | exact (Bool.not_not _).symm))
        try simp only [Act.put, List.setIfInBounds_toArray, List.set_cons_zero, List.set_cons_succ]
        refine wpL_q 5 ?_ rfl (Or.inl ⟨by rfl, fun w_ hS_ => ?_⟩) (marks 9 63) ?_
        rotate_left
        next => (go_simp; try (first | rfl | exact (Bool.not_not _).symm))
        try simp only [Act.put, List.setIfInBounds_toArray, List.set_cons_zero, List.set_cons_succ]
        refine wpL_q 6 ?_ rfl (Or.inl ⟨by rfl, fun w_ hS_ => ?_⟩) (marks 9 127) ?_
        rotate_left
        next => (go_simp; try (first | rfl | exact (Bool.not_not _).symm))
        try simp only [Act.put, List.setIfInBounds_toArray, List.set_cons_zero, List.set_cons_succ]
        refine wpL_m 7 ?_ rfl (.tail _ (.head _)) (Or.inl ⟨by rfl, fun w_ hS_ => ?_⟩) (marks 9 255) ?_
        rotate_left
        next => (subst hS_; go_simp; try (first | rfl | exact (Bool.not_not _).symm))
        try simp only [Act.put, List.setIfInBounds_toArray, List.set_cons_zero, List.set_cons_succ]
        refine wpL_q 8 ?_ rfl (Or.inl ⟨by rfl, fun w_ hS_ => ?_⟩) (marks 9 511) ?_
        rotate_left
        next => (go_simp; try (first | rfl | exact (Bool.not_not _).symm))
        try simp only [Act.put, List.setIfInBounds_toArray, List.set_cons_zero, List.set_cons_succ]
        all_goals refine wpL_done (by kernel_rfl) ?_ _
        (try clear hc0); (try clear hc1); (try clear hc2); (try clear hc3); (try clear hc4); (try clear hc5); (try clear hc6)
        go_wp2_with fail
        go_roundw
        case rel => exact ⟨0 + 1, by decide, rfl, Ho2, hw⟩
        case measure => simp [intOf]
      · have hb : (s.r0 != t.r0) = true := by simp [hrr]
        have Hd : Hid (decide (s = t) = false) := Sep.hid (by rw [Hm.out, decide_eq_false (by rintro ⟨h0, h1, h2, h3⟩; exact hrr h0)]; rfl)
        clear hrr
        go_wp2_with fail
        refine wp_region_L [] [(3, (fun w' => w' = wr.drew)), (7, (fun w' => w' = wr.drew))] (n := 9) (listed := (marks 9 0)) (by kernel_rfl) rfl (by kernel_rfl) ?conds2 ?_
        case conds2 =>
         intro c hc
         simp only [List.mem_cons, List.not_mem_nil, or_false] at hc
         rcases hc with rfl | rfl
         · rfl
         · rfl
        replace hw := hw.drew
        (try replace hc0 := Sep.Holds.cells hw (i := 0) rfl); (try replace hc1 := Sep.Holds.cells hw (i := 1) rfl); (try replace hc2 := Sep.Holds.cells hw (i := 2) rfl); (try replace hc3 := Sep.Holds.cells hw (i := 3) rfl); (try replace hc4 := Sep.Holds.cells hw (i := 4) rfl); (try replace hc5 := Sep.Holds.cells hw (i := 5) rfl); (try replace hc6 := Sep.Holds.cells hw (i := 6) rfl)
        refine wpL_q 0 ?_ rfl (Or.inl ⟨by rfl, fun w_ hS_ => ?_⟩) (marks 9 1) ?_
        rotate_left
        next => (go_simp; try (first | rfl | exact (Bool.not_not _).symm))
        try simp only [Act.put, List.setIfInBounds_toArray, List.set_cons_zero, List.set_cons_succ]
        refine wpL_q 1 ?_ rfl (Or.inl ⟨by rfl, fun w_ hS_ => ?_⟩) (marks 9 3) ?_
        rotate_left
        next => (go_simp; try (first | rfl | exact (Bool.not_not _).symm))
        try simp only [Act.put, List.setIfInBounds_toArray, List.set_cons_zero, List.set_cons_succ]
        refine wpL_q 2 ?_ rfl (Or.inl ⟨by rfl, fun w_ hS_ => ?_⟩) (marks 9 7) ?_
        rotate_left
        next => (go_simp; try (first | rfl | exact (Bool.not_not _).symm))
        try simp only [Act.put, List.setIfInBounds_toArray, List.set_cons_zero, List.set_cons_succ]
        refine wpL_m 3 ?_ rfl (.head _) (Or.inl ⟨by rfl, fun w_ hS_ => ?_⟩) (marks 9 15) ?_
        rotate_left
        next => (subst hS_; go_simp; try (first | rfl | exact (Bool.not_not _).symm))
        try simp only [Act.put, List.setIfInBounds_toArray, List.set_cons_zero, List.set_cons_succ]
        refine wpL_q 4 ?_ rfl (Or.inl ⟨by rfl, fun w_ hS_ => ?_⟩) (marks 9 31) ?_
        rotate_left
        next => (go_simp; try (first | rfl | exact (Bool.not_not _).symm))
        try simp only [Act.put, List.setIfInBounds_toArray, List.set_cons_zero, List.set_cons_succ]
        refine wpL_q 5 ?_ rfl (Or.inl ⟨by rfl, fun w_ hS_ => ?_⟩) (marks 9 63) ?_
        rotate_left
        next => (go_simp; try (first | rfl | exact (Bool.not_not _).symm))
        try simp only [Act.put, List.setIfInBounds_toArray, List.set_cons_zero, List.set_cons_succ]
        refine wpL_q 6 ?_ rfl (Or.inl ⟨by rfl, fun w_ hS_ => ?_⟩) (marks 9 127) ?_
        rotate_left
        next => (go_simp; try (first | rfl | exact (Bool.not_not _).symm))
        try simp only [Act.put, List.setIfInBounds_toArray, List.set_cons_zero, List.set_cons_succ]
        refine wpL_m 7 ?_ rfl (.tail _ (.head _)) (Or.inl ⟨by rfl, fun w_ hS_ => ?_⟩) (marks 9 255) ?_
        rotate_left
        next => (subst hS_; go_simp; try (first | rfl | exact (Bool.not_not _).symm))
        try simp only [Act.put, List.setIfInBounds_toArray, List.set_cons_zero, List.set_cons_succ]
        refine wpL_q 8 ?_ rfl (Or.inl ⟨by rfl, fun w_ hS_ => ?_⟩) (marks 9 511) ?_
        rotate_left
        next => (go_simp; try (first | rfl | exact (Bool.not_not _).symm))
        try simp only [Act.put, List.setIfInBounds_toArray, List.set_cons_zero, List.set_cons_succ]
        all_goals refine wpL_done (by kernel_rfl) ?_ _
        (try clear hc0); (try clear hc1); (try clear hc2); (try clear hc3); (try clear hc4); (try clear hc5); (try clear hc6)
        go_wp2_with fail
        exact HP.out _ _ ⟨by rw [Hd.out]; rfl, hw.sel [0] (by decide)⟩
    | 1, _ =>
      obtain rfl : u5 = .int .i64 1 := hi
      (try replace hc0 := Sep.Holds.cells hw (i := 0) rfl); (try replace hc1 := Sep.Holds.cells hw (i := 1) rfl); (try replace hc2 := Sep.Holds.cells hw (i := 2) rfl); (try replace hc3 := Sep.Holds.cells hw (i := 3) rfl); (try replace hc4 := Sep.Holds.cells hw (i := 4) rfl); (try replace hc5 := Sep.Holds.cells hw (i := 5) rfl); (try replace hc6 := Sep.Holds.cells hw (i := 6) rfl)
      by_cases hrr : s.r1 = t.r1
      · have Ho2 : Hid (rEq s t (1 + 1)) := Sep.hid (by have := Ho.out; unfold rEq at *; omega)
        have hb : (s.r1 != t.r1) = false := by simp [hrr]
        clear hrr
        go_wp2_with fail
        refine wp_region_L [] [(3, (fun w' => w' = wr.drew)), (7, (fun w' => w' = wr.drew))] (n := 9) (listed := (marks 9 0)) (by kernel_rfl) rfl (by kernel_rfl) ?conds3 ?_
        case conds3 =>
         intro c hc
         simp only [List.mem_cons, List.not_mem_nil, or_false] at hc
         rcases hc with rfl | rfl
         · rfl
         · rfl
        replace hw := hw.drew
        (try replace hc0 := Sep.Holds.cells hw (i := 0) rfl); (try replace hc1 := Sep.Holds.cells hw (i := 1) rfl); (try replace hc2 := Sep.Holds.cells hw (i := 2) rfl); (try replace hc3 := Sep.Holds.cells hw (i := 3) rfl); (try replace hc4 := Sep.Holds.cells hw (i := 4) rfl); (try replace hc5 := Sep.Holds.cells hw (i := 5) rfl); (try replace hc6 := Sep.Holds.cells hw (i := 6) rfl)
        refine wpL_q 0 ?_ rfl (Or.inl ⟨by rfl, fun w_ hS_ => ?_⟩) (marks 9 1) ?_
        rotate_left
        next => (go_simp; try (first | rfl | exact (Bool.not_not _).symm))
        try simp only [Act.put, List.setIfInBounds_toArray, List.set_cons_zero, List.set_cons_succ]
        refine wpL_q 1 ?_ rfl (Or.inl ⟨by rfl, fun w_ hS_ => ?_⟩) (marks 9 3) ?_
        rotate_left
        next => (go_simp; try (first | rfl | exact (Bool.not_not _).symm))
        try simp only [Act.put, List.setIfInBounds_toArray, List.set_cons_zero, List.set_cons_succ]
        refine wpL_q 2 ?_ rfl (Or.inl ⟨by rfl, fun w_ hS_ => ?_⟩) (marks 9 7) ?_
        rotate_left
        next => (go_simp; try (first | rfl | exact (Bool.not_not _).symm))
        try simp only [Act.put, List.setIfInBounds_toArray, List.set_cons_zero, List.set_cons_succ]
        refine wpL_m 3 ?_ rfl (.head _) (Or.inl ⟨by rfl, fun w_ hS_ => ?_⟩) (marks 9 15) ?_
        rotate_left
        next => (subst hS_; go_simp; try (first | rfl | exact (Bool.not_not _).symm))
        try simp only [Act.put, List.setIfInBounds_toArray, List.set_cons_zero, List.set_cons_succ]
        refine wpL_q 4 ?_ rfl (Or.inl ⟨by rfl, fun w_ hS_ => ?_⟩) (marks 9 31) ?_
        rotate_left
        next => (go_simp; try (first | rfl | exact (Bool.not_not _).symm))
        try simp only [Act.put, List.setIfInBounds_toArray, List.set_cons_zero, List.set_cons_succ]
        refine wpL_q 5 ?_ rfl (Or.inl ⟨by rfl, fun w_ hS_ => ?_⟩) (marks 9 63) ?_
        rotate_left
        next => (go_simp; try (first | rfl | exact (Bool.not_not _).symm))
        try simp only [Act.put, List.setIfInBounds_toArray, List.set_cons_zero, List.set_cons_succ]
        refine wpL_q 6 ?_ rfl (Or.inl ⟨by rfl, fun w_ hS_ => ?_⟩) (marks 9 127) ?_
        rotate_left
        next => (go_simp; try (first | rfl | exact (Bool.not_not _).symm))
        try simp only [Act.put, List.setIfInBounds_toArray, List.set_cons_zero, List.set_cons_succ]
        refine wpL_m 7 ?_ rfl (.tail _ (.head _)) (Or.inl ⟨by rfl, fun w_ hS_ => ?_⟩) (marks 9 255) ?_
        rotate_left
        next => (subst hS_; go_simp; try (first | rfl | exact (Bool.not_not _).symm))
        try simp only [Act.put, List.setIfInBounds_toArray, List.set_cons_zero, List.set_cons_succ]
        refine wpL_q 8 ?_ rfl (Or.inl ⟨by rfl, fun w_ hS_ => ?_⟩) (marks 9 511) ?_
        rotate_left
        next => (go_simp; try (first | rfl | exact (Bool.not_not _).symm))
        try simp only [Act.put, List.setIfInBounds_toArray, List.set_cons_zero, List.set_cons_succ]
        all_goals refine wpL_done (by kernel_rfl) ?_ _
        (try clear hc0); (try clear hc1); (try clear hc2); (try clear hc3); (try clear hc4); (try clear hc5); (try clear hc6)
        go_wp2_with fail
        go_roundw
        case rel => exact ⟨1 + 1, by decide, rfl, Ho2, hw⟩
        case measure => simp [intOf]
      · have hb : (s.r1 != t.r1) = true := by simp [hrr]
        have Hd : Hid (decide (s = t) = false) := Sep.hid (by rw [Hm.out, decide_eq_false (by rintro ⟨h0, h1, h2, h3⟩; exact hrr h1)]; rfl)
        clear hrr
        go_wp2_with fail
        refine wp_region_L [] [(3, (fun w' => w' = wr.drew)), (7, (fun w' => w' = wr.drew))] (n := 9) (listed := (marks 9 0)) (by kernel_rfl) rfl (by kernel_rfl) ?conds4 ?_
        case conds4 =>
         intro c hc
         simp only [List.mem_cons, List.not_mem_nil, or_false] at hc
         rcases hc with rfl | rfl
         · rfl
         · rfl
        replace hw := hw.drew
        (try replace hc0 := Sep.Holds.cells hw (i := 0) rfl); (try replace hc1 := Sep.Holds.cells hw (i := 1) rfl); (try replace hc2 := Sep.Holds.cells hw (i := 2) rfl); (try replace hc3 := Sep.Holds.cells hw (i := 3) rfl); (try replace hc4 := Sep.Holds.cells hw (i := 4) rfl); (try replace hc5 := Sep.Holds.cells hw (i := 5) rfl); (try replace hc6 := Sep.Holds.cells hw (i := 6) rfl)
        refine wpL_q 0 ?_ rfl (Or.inl ⟨by rfl, fun w_ hS_ => ?_⟩) (marks 9 1) ?_
        rotate_left
        next => (go_simp; try (first | rfl | exact (Bool.not_not _).symm))
        try simp only [Act.put, List.setIfInBounds_toArray, List.set_cons_zero, List.set_cons_succ]
        refine wpL_q 1 ?_ rfl (Or.inl ⟨by rfl, fun w_ hS_ => ?_⟩) (marks 9 3) ?_
        rotate_left
        next => (go_simp; try (first | rfl | exact (Bool.not_not _).symm))
        try simp only [Act.put, List.setIfInBounds_toArray, List.set_cons_zero, List.set_cons_succ]
        refine wpL_q 2 ?_ rfl (Or.inl ⟨by rfl, fun w_ hS_ => ?_⟩) (marks 9 7) ?_
        rotate_left
        next => (go_simp; try (first | rfl | exact (Bool.not_not _).symm))
        try simp only [Act.put, List.setIfInBounds_toArray, List.set_cons_zero, List.set_cons_succ]
        refine wpL_m 3 ?_ rfl (.head _) (Or.inl ⟨by rfl, fun w_ hS_ => ?_⟩) (marks 9 15) ?_
        rotate_left
        next => (subst hS_; go_simp; try (first | rfl | exact (Bool.not_not _).symm))
        try simp only [Act.put, List.setIfInBounds_toArray, List.set_cons_zero, List.set_cons_succ]
        refine wpL_q 4 ?_ rfl (Or.inl ⟨by rfl, fun w_ hS_ => ?_⟩) (marks 9 31) ?_
        rotate_left
        next => (go_simp; try (first | rfl | exact (Bool.not_not _).symm))
        try simp only [Act.put, List.setIfInBounds_toArray, List.set_cons_zero, List.set_cons_succ]
        refine wpL_q 5 ?_ rfl (Or.inl ⟨by rfl, fun w_ hS_ => ?_⟩) (marks 9 63) ?_
        rotate_left
        next => (go_simp; try (first | rfl | exact (Bool.not_not _).symm))
        try simp only [Act.put, List.setIfInBounds_toArray, List.set_cons_zero, List.set_cons_succ]
        refine wpL_q 6 ?_ rfl (Or.inl ⟨by rfl, fun w_ hS_ => ?_⟩) (marks 9 127) ?_
        rotate_left
        next => (go_simp; try (first | rfl | exact (Bool.not_not _).symm))
        try simp only [Act.put, List.setIfInBounds_toArray, List.set_cons_zero, List.set_cons_succ]
        refine wpL_m 7 ?_ rfl (.tail _ (.head _)) (Or.inl ⟨by rfl, fun w_ hS_ => ?_⟩) (marks 9 255) ?_
        rotate_left
        next => (subst hS_; go_simp; try (first | rfl | exact (Bool.not_not _).symm))
        try simp only [Act.put, List.setIfInBounds_toArray, List.set_cons_zero, List.set_cons_succ]
        refine wpL_q 8 ?_ rfl (Or.inl ⟨by rfl, fun w_ hS_ => ?_⟩) (marks 9 511) ?_
        rotate_left
        next => (go_simp; try (first | rfl | exact (Bool.not_not _).symm))
        try simp only [Act.put, List.setIfInBounds_toArray, List.set_cons_zero, List.set_cons_succ]
        all_goals refine wpL_done (by kernel_rfl) ?_ _
        (try clear hc0); (try clear hc1); (try clear hc2); (try clear hc3); (try clear hc4); (try clear hc5); (try clear hc6)
        go_wp2_with fail
        exact HP.out _ _ ⟨by rw [Hd.out]; rfl, hw.sel [0] (by decide)⟩
    | 2, _ =>
      obtain rfl : u5 = .int .i64 2 := hi
      (try replace hc0 := Sep.Holds.cells hw (i := 0) rfl); (try replace hc1 := Sep.Holds.cells hw (i := 1) rfl); (try replace hc2 := Sep.Holds.cells hw (i := 2) rfl); (try replace hc3 := Sep.Holds.cells hw (i := 3) rfl); (try replace hc4 := Sep.Holds.cells hw (i := 4) rfl); (try replace hc5 := Sep.Holds.cells hw (i := 5) rfl); (try replace hc6 := Sep.Holds.cells hw (i := 6) rfl)
      by_cases hrr : s.r2 = t.r2
      · have Ho2 : Hid (rEq s t (2 + 1)) := Sep.hid (by have := Ho.out; unfold rEq at *; omega)
        have hb : (s.r2 != t.r2) = false := by simp [hrr]
        clear hrr
        go_wp2_with fail
        refine wp_region_L [] [(3, (fun w' => w' = wr.drew)), (7, (fun w' => w' = wr.drew))] (n := 9) (listed := (marks 9 0)) (by kernel_rfl) rfl (by kernel_rfl) ?conds5 ?_
        case conds5 =>
         intro c hc
         simp only [List.mem_cons, List.not_mem_nil, or_false] at hc
         rcases hc with rfl | rfl
         · rfl
         · rfl
        replace hw := hw.drew
        (try replace hc0 := Sep.Holds.cells hw (i := 0) rfl); (try replace hc1 := Sep.Holds.cells hw (i := 1) rfl); (try replace hc2 := Sep.Holds.cells hw (i := 2) rfl); (try replace hc3 := Sep.Holds.cells hw (i := 3) rfl); (try replace hc4 := Sep.Holds.cells hw (i := 4) rfl); (try replace hc5 := Sep.Holds.cells hw (i := 5) rfl); (try replace hc6 := Sep.Holds.cells hw (i := 6) rfl)
        refine wpL_q 0 ?_ rfl (Or.inl ⟨by rfl, fun w_ hS_ => ?_⟩) (marks 9 1) ?_
        rotate_left
        next => (go_simp; try (first | rfl | exact (Bool.not_not _).symm))
        try simp only [Act.put, List.setIfInBounds_toArray, List.set_cons_zero, List.set_cons_succ]
        refine wpL_q 1 ?_ rfl (Or.inl ⟨by rfl, fun w_ hS_ => ?_⟩) (marks 9 3) ?_
        rotate_left
        next => (go_simp; try (first | rfl | exact (Bool.not_not _).symm))
        try simp only [Act.put, List.setIfInBounds_toArray, List.set_cons_zero, List.set_cons_succ]
        refine wpL_q 2 ?_ rfl (Or.inl ⟨by rfl, fun w_ hS_ => ?_⟩) (marks 9 7) ?_
        rotate_left
        next => (go_simp; try (first | rfl | exact (Bool.not_not _).symm))
        try simp only [Act.put, List.setIfInBounds_toArray, List.set_cons_zero, List.set_cons_succ]
        refine wpL_m 3 ?_ rfl (.head _) (Or.inl ⟨by rfl, fun w_ hS_ => ?_⟩) (marks 9 15) ?_
        rotate_left
        next => (subst hS_; go_simp; try (first | rfl | exact (Bool.not_not _).symm))
        try simp only [Act.put, List.setIfInBounds_toArray, List.set_cons_zero, List.set_cons_succ]
        refine wpL_q 4 ?_ rfl (Or.inl ⟨by rfl, fun w_ hS_ => ?_⟩) (marks 9 31) ?_
        rotate_left
        next => (go_simp; try (first | rfl | exact (Bool.not_not _).symm))
        try simp only [Act.put, List.setIfInBounds_toArray, List.set_cons_zero, List.set_cons_succ]
        refine wpL_q 5 ?_ rfl (Or.inl ⟨by rfl, fun w_ hS_ => ?_⟩) (marks 9 63) ?_
        rotate_left
        next => (go_simp; try (first | rfl | exact (Bool.not_not _).symm))
        try simp only [Act.put, List.setIfInBounds_toArray, List.set_cons_zero, List.set_cons_succ]
        refine wpL_q 6 ?_ rfl (Or.inl ⟨by rfl, fun w_ hS_ => ?_⟩) (marks 9 127) ?_
        rotate_left
        next => (go_simp; try (first | rfl | exact (Bool.not_not _).symm))
        try simp only [Act.put, List.setIfInBounds_toArray, List.set_cons_zero, List.set_cons_succ]
        refine wpL_m 7 ?_ rfl (.tail _ (.head _)) (Or.inl ⟨by rfl, fun w_ hS_ => ?_⟩) (marks 9 255) ?_
        rotate_left
        next => (subst hS_; go_simp; try (first | rfl | exact (Bool.not_not _).symm))
        try simp only [Act.put, List.setIfInBounds_toArray, List.set_cons_zero, List.set_cons_succ]
        refine wpL_q 8 ?_ rfl (Or.inl ⟨by rfl, fun w_ hS_ => ?_⟩) (marks 9 511) ?_
        rotate_left
        next => (go_simp; try (first | rfl | exact (Bool.not_not _).symm))
        try simp only [Act.put, List.setIfInBounds_toArray, List.set_cons_zero, List.set_cons_succ]
        all_goals refine wpL_done (by kernel_rfl) ?_ _
        (try clear hc0); (try clear hc1); (try clear hc2); (try clear hc3); (try clear hc4); (try clear hc5); (try clear hc6)
        go_wp2_with fail
        go_roundw
        case rel => exact ⟨2 + 1, by decide, rfl, Ho2, hw⟩
        case measure => simp [intOf]
      · have hb : (s.r2 != t.r2) = true := by simp [hrr]
        have Hd : Hid (decide (s = t) = false) := Sep.hid (by rw [Hm.out, decide_eq_false (by rintro ⟨h0, h1, h2, h3⟩; exact hrr h2)]; rfl)
        clear hrr
        go_wp2_with fail
        refine wp_region_L [] [(3, (fun w' => w' = wr.drew)), (7, (fun w' => w' = wr.drew))] (n := 9) (listed := (marks 9 0)) (by kernel_rfl) rfl (by kernel_rfl) ?conds6 ?_
        case conds6 =>
         intro c hc
         simp only [List.mem_cons, List.not_mem_nil, or_false] at hc
         rcases hc with rfl | rfl
         · rfl
         · rfl
        replace hw := hw.drew
        (try replace hc0 := Sep.Holds.cells hw (i := 0) rfl); (try replace hc1 := Sep.Holds.cells hw (i := 1) rfl); (try replace hc2 := Sep.Holds.cells hw (i := 2) rfl); (try replace hc3 := Sep.Holds.cells hw (i := 3) rfl); (try replace hc4 := Sep.Holds.cells hw (i := 4) rfl); (try replace hc5 := Sep.Holds.cells hw (i := 5) rfl); (try replace hc6 := Sep.Holds.cells hw (i := 6) rfl)
        refine wpL_q 0 ?_ rfl (Or.inl ⟨by rfl, fun w_ hS_ => ?_⟩) (marks 9 1) ?_
        rotate_left
        next => (go_simp; try (first | rfl | exact (Bool.not_not _).symm))
        try simp only [Act.put, List.setIfInBounds_toArray, List.set_cons_zero, List.set_cons_succ]
        refine wpL_q 1 ?_ rfl (Or.inl ⟨by rfl, fun w_ hS_ => ?_⟩) (marks 9 3) ?_
        rotate_left
        next => (go_simp; try (first | rfl | exact (Bool.not_not _).symm))
        try simp only [Act.put, List.setIfInBounds_toArray, List.set_cons_zero, List.set_cons_succ]
        refine wpL_q 2 ?_ rfl (Or.inl ⟨by rfl, fun w_ hS_ => ?_⟩) (marks 9 7) ?_
        rotate_left
        next => (go_simp; try (first | rfl | exact (Bool.not_not _).symm))
        try simp only [Act.put, List.setIfInBounds_toArray, List.set_cons_zero, List.set_cons_succ]
        refine wpL_m 3 ?_ rfl (.head _) (Or.inl ⟨by rfl, fun w_ hS_ => ?_⟩) (marks 9 15) ?_
        rotate_left
        next => (subst hS_; go_simp; try (first | rfl | exact (Bool.not_not _).symm))
        try simp only [Act.put, List.setIfInBounds_toArray, List.set_cons_zero, List.set_cons_succ]
        refine wpL_q 4 ?_ rfl (Or.inl ⟨by rfl, fun w_ hS_ => ?_⟩) (marks 9 31) ?_
        rotate_left
        next => (go_simp; try (first | rfl | exact (Bool.not_not _).symm))
        try simp only [Act.put, List.setIfInBounds_toArray, List.set_cons_zero, List.set_cons_succ]
        refine wpL_q 5 ?_ rfl (Or.inl ⟨by rfl, fun w_ hS_ => ?_⟩) (marks 9 63) ?_
        rotate_left
        next => (go_simp; try (first | rfl | exact (Bool.not_not _).symm))
        try simp only [Act.put, List.setIfInBounds_toArray, List.set_cons_zero, List.set_cons_succ]
        refine wpL_q 6 ?_ rfl (Or.inl ⟨by rfl, fun w_ hS_ => ?_⟩) (marks 9 127) ?_
        rotate_left
        next => (go_simp; try (first | rfl | exact (Bool.not_not _).symm))
        try simp only [Act.put, List.setIfInBounds_toArray, List.set_cons_zero, List.set_cons_succ]
        refine wpL_m 7 ?_ rfl (.tail _ (.head _)) (Or.inl ⟨by rfl, fun w_ hS_ => ?_⟩) (marks 9 255) ?_
        rotate_left
        next => (subst hS_; go_simp; try (first | rfl | exact (Bool.not_not _).symm))
        try simp only [Act.put, List.setIfInBounds_toArray, List.set_cons_zero, List.set_cons_succ]
        refine wpL_q 8 ?_ rfl (Or.inl ⟨by rfl, fun w_ hS_ => ?_⟩) (marks 9 511) ?_
        rotate_left
        next => (go_simp; try (first | rfl | exact (Bool.not_not _).symm))
        try simp only [Act.put, List.setIfInBounds_toArray, List.set_cons_zero, List.set_cons_succ]
        all_goals refine wpL_done (by kernel_rfl) ?_ _
        (try clear hc0); (try clear hc1); (try clear hc2); (try clear hc3); (try clear hc4); (try clear hc5); (try clear hc6)
        go_wp2_with fail
        exact HP.out _ _ ⟨by rw [Hd.out]; rfl, hw.sel [0] (by decide)⟩
    | 3, _ =>
      obtain rfl : u5 = .int .i64 3 := hi
      (try replace hc0 := Sep.Holds.cells hw (i := 0) rfl); (try replace hc1 := Sep.Holds.cells hw (i := 1) rfl); (try replace hc2 := Sep.Holds.cells hw (i := 2) rfl); (try replace hc3 := Sep.Holds.cells hw (i := 3) rfl); (try replace hc4 := Sep.Holds.cells hw (i := 4) rfl); (try replace hc5 := Sep.Holds.cells hw (i := 5) rfl); (try replace hc6 := Sep.Holds.cells hw (i := 6) rfl)
      by_cases hrr : s.r3 = t.r3
      · have Ho2 : Hid (rEq s t (3 + 1)) := Sep.hid (by have := Ho.out; unfold rEq at *; omega)
        have hb : (s.r3 != t.r3) = false := by simp [hrr]
        clear hrr
        go_wp2_with fail
        refine wp_region_L [] [(3, (fun w' => w' = wr.drew)), (7, (fun w' => w' = wr.drew))] (n := 9) (listed := (marks 9 0)) (by kernel_rfl) rfl (by kernel_rfl) ?conds7 ?_
        case conds7 =>
         intro c hc
         simp only [List.mem_cons, List.not_mem_nil, or_false] at hc
         rcases hc with rfl | rfl
         · rfl
         · rfl
        replace hw := hw.drew
        (try replace hc0 := Sep.Holds.cells hw (i := 0) rfl); (try replace hc1 := Sep.Holds.cells hw (i := 1) rfl); (try replace hc2 := Sep.Holds.cells hw (i := 2) rfl); (try replace hc3 := Sep.Holds.cells hw (i := 3) rfl); (try replace hc4 := Sep.Holds.cells hw (i := 4) rfl); (try replace hc5 := Sep.Holds.cells hw (i := 5) rfl); (try replace hc6 := Sep.Holds.cells hw (i := 6) rfl)
        refine wpL_q 0 ?_ rfl (Or.inl ⟨by rfl, fun w_ hS_ => ?_⟩) (marks 9 1) ?_
        rotate_left
        next => (go_simp; try (first | rfl | exact (Bool.not_not _).symm))
        try simp only [Act.put, List.setIfInBounds_toArray, List.set_cons_zero, List.set_cons_succ]
        refine wpL_q 1 ?_ rfl (Or.inl ⟨by rfl, fun w_ hS_ => ?_⟩) (marks 9 3) ?_
        rotate_left
        next => (go_simp; try (first | rfl | exact (Bool.not_not _).symm))
        try simp only [Act.put, List.setIfInBounds_toArray, List.set_cons_zero, List.set_cons_succ]
        refine wpL_q 2 ?_ rfl (Or.inl ⟨by rfl, fun w_ hS_ => ?_⟩) (marks 9 7) ?_
        rotate_left
        next => (go_simp; try (first | rfl | exact (Bool.not_not _).symm))
        try simp only [Act.put, List.setIfInBounds_toArray, List.set_cons_zero, List.set_cons_succ]
        refine wpL_m 3 ?_ rfl (.head _) (Or.inl ⟨by rfl, fun w_ hS_ => ?_⟩) (marks 9 15) ?_
        rotate_left
        next => (subst hS_; go_simp; try (first | rfl | exact (Bool.not_not _).symm))
        try simp only [Act.put, List.setIfInBounds_toArray, List.set_cons_zero, List.set_cons_succ]
        refine wpL_q 4 ?_ rfl (Or.inl ⟨by rfl, fun w_ hS_ => ?_⟩) (marks 9 31) ?_
        rotate_left
        next => (go_simp; try (first | rfl | exact (Bool.not_not _).symm))
        try simp only [Act.put, List.setIfInBounds_toArray, List.set_cons_zero, List.set_cons_succ]
        refine wpL_q 5 ?_ rfl (Or.inl ⟨by rfl, fun w_ hS_ => ?_⟩) (marks 9 63) ?_
        rotate_left
        next => (go_simp; try (first | rfl | exact (Bool.not_not _).symm))
        try simp only [Act.put, List.setIfInBounds_toArray, List.set_cons_zero, List.set_cons_succ]
        refine wpL_q 6 ?_ rfl (Or.inl ⟨by rfl, fun w_ hS_ => ?_⟩) (marks 9 127) ?_
        rotate_left
        next => (go_simp; try (first | rfl | exact (Bool.not_not _).symm))
        try simp only [Act.put, List.setIfInBounds_toArray, List.set_cons_zero, List.set_cons_succ]
        refine wpL_m 7 ?_ rfl (.tail _ (.head _)) (Or.inl ⟨by rfl, fun w_ hS_ => ?_⟩) (marks 9 255) ?_
        rotate_left
        next => (subst hS_; go_simp; try (first | rfl | exact (Bool.not_not _).symm))
        try simp only [Act.put, List.setIfInBounds_toArray, List.set_cons_zero, List.set_cons_succ]
        refine wpL_q 8 ?_ rfl (Or.inl ⟨by rfl, fun w_ hS_ => ?_⟩) (marks 9 511) ?_
        rotate_left
        next => (go_simp; try (first | rfl | exact (Bool.not_not _).symm))
        try simp only [Act.put, List.setIfInBounds_toArray, List.set_cons_zero, List.set_cons_succ]
        all_goals refine wpL_done (by kernel_rfl) ?_ _
        (try clear hc0); (try clear hc1); (try clear hc2); (try clear hc3); (try clear hc4); (try clear hc5); (try clear hc6)
        go_wp2_with fail
        go_roundw
        case rel => exact ⟨3 + 1, by decide, rfl, Ho2, hw⟩
        case measure => simp [intOf]
      · have hb : (s.r3 != t.r3) = true := by simp [hrr]
        have Hd : Hid (decide (s = t) = false) := Sep.hid (by rw [Hm.out, decide_eq_false (by rintro ⟨h0, h1, h2, h3⟩; exact hrr h3)]; rfl)
        clear hrr
        go_wp2_with fail
        refine wp_region_L [] [(3, (fun w' => w' = wr.drew)), (7, (fun w' => w' = wr.drew))] (n := 9) (listed := (marks 9 0)) (by kernel_rfl) rfl (by kernel_rfl) ?conds8 ?_
        case conds8 =>
         intro c hc
         simp only [List.mem_cons, List.not_mem_nil, or_false] at hc
         rcases hc with rfl | rfl
         · rfl
         · rfl
        replace hw := hw.drew
        (try replace hc0 := Sep.Holds.cells hw (i := 0) rfl); (try replace hc1 := Sep.Holds.cells hw (i := 1) rfl); (try replace hc2 := Sep.Holds.cells hw (i := 2) rfl); (try replace hc3 := Sep.Holds.cells hw (i := 3) rfl); (try replace hc4 := Sep.Holds.cells hw (i := 4) rfl); (try replace hc5 := Sep.Holds.cells hw (i := 5) rfl); (try replace hc6 := Sep.Holds.cells hw (i := 6) rfl)
        refine wpL_q 0 ?_ rfl (Or.inl ⟨by rfl, fun w_ hS_ => ?_⟩) (marks 9 1) ?_
        rotate_left
        next => (go_simp; try (first | rfl | exact (Bool.not_not _).symm))
        try simp only [Act.put, List.setIfInBounds_toArray, List.set_cons_zero, List.set_cons_succ]
        refine wpL_q 1 ?_ rfl (Or.inl ⟨by rfl, fun w_ hS_ => ?_⟩) (marks 9 3) ?_
        rotate_left
        next => (go_simp; try (first | rfl | exact (Bool.not_not _).symm))
        try simp only [Act.put, List.setIfInBounds_toArray, List.set_cons_zero, List.set_cons_succ]
        refine wpL_q 2 ?_ rfl (Or.inl ⟨by rfl, fun w_ hS_ => ?_⟩) (marks 9 7) ?_
        rotate_left
        next => (go_simp; try (first | rfl | exact (Bool.not_not _).symm))
        try simp only [Act.put, List.setIfInBounds_toArray, List.set_cons_zero, List.set_cons_succ]
        refine wpL_m 3 ?_ rfl (.head _) (Or.inl ⟨by rfl, fun w_ hS_ => ?_⟩) (marks 9 15) ?_
        rotate_left
        next => (subst hS_; go_simp; try (first | rfl | exact (Bool.not_not _).symm))
        try simp only [Act.put, List.setIfInBounds_toArray, List.set_cons_zero, List.set_cons_succ]
        refine wpL_q 4 ?_ rfl (Or.inl ⟨by rfl, fun w_ hS_ => ?_⟩) (marks 9 31) ?_
        rotate_left
        next => (go_simp; try (first | rfl | exact (Bool.not_not _).symm))
        try simp only [Act.put, List.setIfInBounds_toArray, List.set_cons_zero, List.set_cons_succ]
        refine wpL_q 5 ?_ rfl (Or.inl ⟨by rfl, fun w_ hS_ => ?_⟩) (marks 9 63) ?_
        rotate_left
        next => (go_simp; try (first | rfl | exact (Bool.not_not _).symm))
        try simp only [Act.put, List.setIfInBounds_toArray, List.set_cons_zero, List.set_cons_succ]
        refine wpL_q 6 ?_ rfl (Or.inl ⟨by rfl, fun w_ hS_ => ?_⟩) (marks 9 127) ?_
        rotate_left
        next => (go_simp; try (first | rfl | exact (Bool.not_not _).symm))
        try simp only [Act.put, List.setIfInBounds_toArray, List.set_cons_zero, List.set_cons_succ]
        refine wpL_m 7 ?_ rfl (.tail _ (.head _)) (Or.inl ⟨by rfl, fun w_ hS_ => ?_⟩) (marks 9 255) ?_
        rotate_left
        next => (subst hS_; go_simp; try (first | rfl | exact (Bool.not_not _).symm))
        try simp only [Act.put, List.setIfInBounds_toArray, List.set_cons_zero, List.set_cons_succ]
        refine wpL_q 8 ?_ rfl (Or.inl ⟨by rfl, fun w_ hS_ => ?_⟩) (marks 9 511) ?_
        rotate_left
        next => (go_simp; try (first | rfl | exact (Bool.not_not _).symm))
        try simp only [Act.put, List.setIfInBounds_toArray, List.set_cons_zero, List.set_cons_succ]
        all_goals refine wpL_done (by kernel_rfl) ?_ _
        (try clear hc0); (try clear hc1); (try clear hc2); (try clear hc3); (try clear hc4); (try clear hc5); (try clear hc6)
        go_wp2_with fail
        exact HP.out _ _ ⟨by rw [Hd.out]; rfl, hw.sel [0] (by decide)⟩
    | 4, _ =>
      obtain rfl : u5 = .int .i64 4 := hi
      (try replace hc0 := Sep.Holds.cells hw (i := 0) rfl); (try replace hc1 := Sep.Holds.cells hw (i := 1) rfl); (try replace hc2 := Sep.Holds.cells hw (i := 2) rfl); (try replace hc3 := Sep.Holds.cells hw (i := 3) rfl); (try replace hc4 := Sep.Holds.cells hw (i := 4) rfl); (try replace hc5 := Sep.Holds.cells hw (i := 5) rfl); (try replace hc6 := Sep.Holds.cells hw (i := 6) rfl)
      have Hm2 : Hid (decide (s = t) = (decide (s.ps = t.ps) && decide (s.is = t.is))) := Sep.hid (by
        have h := Ho.out
        unfold rEq at h
        rw [Hm.out, decide_eq_true (by omega)]; rfl)
      clear Ho Hm
      go_wp2_with fail
      have Hw0 := Sep.hid hw; clear hw; (try clear hc0); (try clear hc1); (try clear hc2); (try clear hc3); (try clear hc4); (try clear hc5); (try clear hc6)
      go_loopw [6] (fun i wr => ∃ k : Nat, k ≤ n1 ∧ i = .int .i64 k ∧ Hid (s.ps.take k = t.ps.take k) ∧ Holds e wr [X, pt b2_ [.int .i64 s.r0, .int .i64 s.r1, .int .i64 s.r2, .int .i64 s.r3, .slice pa n1 pc, .slice ia i1 ic] 39, pt b3_ [.int .i64 t.r0, .int .i64 t.r1, .int .i64 t.r2, .int .i64 t.r3, .slice pb n2 qc, .slice ib i2 jc] 39]) (fun i _ => n1 - (intOf i).toNat)
      case atStart => exact ⟨0, Nat.zero_le _, rfl, Sep.hid (by simp), Hw0.out⟩
      case round =>
        clear Hw0
        obtain ⟨k, hk, rfl, Heq, hw⟩ := hrel
        (try replace hc0 := Sep.Holds.cells hw (i := 0) rfl); (try replace hc1 := Sep.Holds.cells hw (i := 1) rfl); (try replace hc2 := Sep.Holds.cells hw (i := 2) rfl); (try replace hc3 := Sep.Holds.cells hw (i := 3) rfl); (try replace hc4 := Sep.Holds.cells hw (i := 4) rfl); (try replace hc5 := Sep.Holds.cells hw (i := 5) rfl); (try replace hc6 := Sep.Holds.cells hw (i := 6) rfl)
        by_cases hlt : k < n1
        · have hlt2 : k < n2 := by rw [← Hnn.out]; exact hlt
          obtain ⟨x, hx⟩ : ∃ x, s.ps[k]? = some x := ⟨_, List.getElem?_eq_getElem (by rw [Hn1.out]; exact hlt)⟩
          obtain ⟨y, hy⟩ : ∃ y, t.ps[k]? = some y := ⟨_, List.getElem?_eq_getElem (by rw [Hn2.out]; exact hlt2)⟩
          obtain ⟨⟨xa, xc⟩, _, gx, gxa⟩ := HRs.out k x hx
          obtain ⟨⟨ya, yc⟩, _, gy, gya⟩ := HRt.out k y hy
          obtain ⟨ba, rfl, gx2⟩ := gx _ _ 0 hw rfl
          obtain ⟨bb, rfl, gy2⟩ := gy _ _ 0 hw rfl
          have Gxa := Sep.hid gxa; have Gya := Sep.hid gya; clear gxa gya gx gy
          unfold hdV at gx2 gy2
          have Hxl : Hid (x.length ≤ 1000000) := Sep.hid (by have := HSs.out.2.2 x (List.mem_of_getElem? hx); omega)
          obtain ⟨xn, hxn⟩ : ∃ xn, x.length = xn := ⟨_, rfl⟩
          obtain ⟨yn, hyn⟩ : ∃ yn, y.length = yn := ⟨_, rfl⟩
          rw [hxn] at gx2
          rw [hyn] at gy2
          have Hxn := Sep.hid hxn; have Hyn := Sep.hid hyn; clear hxn hyn
          have Hx := Sep.hid hx; clear hx
          have Hy := Sep.hid hy; clear hy
          by_cases hxy : x = y
          · have Hxy : Hid (decide (x = y) = true) := Sep.hid (decide_eq_true hxy)
            have Hxye := Sep.hid hxy; clear hxy
            go_wp2_with fail
            refine wp_region_L [10] [(1, (fun w' => w' = wr.drew)), (4, (fun w' => w' = wr.drew)), (6, (fun w' => w' = wr.drew)), (9, (fun w' => w' = wr.drew))] (n := 12) (listed := (marks 12 0)) (by kernel_rfl) rfl (by kernel_rfl) ?conds9 ?_
            case conds9 =>
             intro c hc
             simp only [List.mem_cons, List.not_mem_nil, or_false] at hc
             rcases hc with rfl | rfl | rfl | rfl
             · rfl
             · rfl
             · rfl
             · rfl
            replace hw := hw.drew
            (try replace hc0 := Sep.Holds.cells hw (i := 0) rfl); (try replace hc1 := Sep.Holds.cells hw (i := 1) rfl); (try replace hc2 := Sep.Holds.cells hw (i := 2) rfl); (try replace hc3 := Sep.Holds.cells hw (i := 3) rfl); (try replace hc4 := Sep.Holds.cells hw (i := 4) rfl); (try replace hc5 := Sep.Holds.cells hw (i := 5) rfl); (try replace hc6 := Sep.Holds.cells hw (i := 6) rfl)
            refine wpL_q 0 ?_ rfl (Or.inl ⟨by rfl, fun w_ hS_ => ?_⟩) (marks 12 1) ?_
            rotate_left
            next => (go_simp; try (first | rfl | exact (Bool.not_not _).symm))
            try simp only [Act.put, List.setIfInBounds_toArray, List.set_cons_zero, List.set_cons_succ]
            refine wpL_m 1 ?_ rfl (.head _) (Or.inl ⟨by rfl, fun w_ hS_ => ?_⟩) (marks 12 3) ?_
            rotate_left
            next => (subst hS_; go_simp; try (first | rfl | exact (Bool.not_not _).symm))
            try simp only [Act.put, List.setIfInBounds_toArray, List.set_cons_zero, List.set_cons_succ]
            refine wpL_q 2 ?_ rfl (Or.inl ⟨by rfl, fun w_ hS_ => ?_⟩) (marks 12 7) ?_
            rotate_left
            next => (go_simp; try (first | rfl | exact (Bool.not_not _).symm))
            try simp only [Act.put, List.setIfInBounds_toArray, List.set_cons_zero, List.set_cons_succ]
            refine wpL_q 3 ?_ rfl (Or.inl ⟨by rfl, fun w_ hS_ => ?_⟩) (marks 12 15) ?_
            rotate_left
            next => (go_simp; try (first | rfl | exact (Bool.not_not _).symm))
            try simp only [Act.put, List.setIfInBounds_toArray, List.set_cons_zero, List.set_cons_succ]
            refine wpL_m 4 ?_ rfl (.tail _ (.head _)) (Or.inl ⟨by rfl, fun w_ hS_ => ?_⟩) (marks 12 31) ?_
            rotate_left
            next => (subst hS_; go_simp; try (first | rfl | exact (Bool.not_not _).symm))
            try simp only [Act.put, List.setIfInBounds_toArray, List.set_cons_zero, List.set_cons_succ]
            refine wpL_q 5 ?_ rfl (Or.inl ⟨by rfl, fun w_ hS_ => ?_⟩) (marks 12 63) ?_
            rotate_left
            next => (go_simp; try (first | rfl | exact (Bool.not_not _).symm))
            try simp only [Act.put, List.setIfInBounds_toArray, List.set_cons_zero, List.set_cons_succ]
            refine wpL_m 6 ?_ rfl (.tail _ (.tail _ (.head _))) (Or.inl ⟨by rfl, fun w_ hS_ => ?_⟩) (marks 12 127) ?_
            rotate_left
            next => (subst hS_; go_simp; try (first | rfl | exact (Bool.not_not _).symm))
            try simp only [Act.put, List.setIfInBounds_toArray, List.set_cons_zero, List.set_cons_succ]
            refine wpL_q 7 ?_ rfl (Or.inl ⟨by rfl, fun w_ hS_ => ?_⟩) (marks 12 255) ?_
            rotate_left
            next => (go_simp; try (first | rfl | exact (Bool.not_not _).symm))
            try simp only [Act.put, List.setIfInBounds_toArray, List.set_cons_zero, List.set_cons_succ]
            refine wpL_q 8 ?_ rfl (Or.inl ⟨by rfl, fun w_ hS_ => ?_⟩) (marks 12 511) ?_
            rotate_left
            next => (go_simp; try (first | rfl | exact (Bool.not_not _).symm))
            try simp only [Act.put, List.setIfInBounds_toArray, List.set_cons_zero, List.set_cons_succ]
            refine wpL_m 9 ?_ rfl (.tail _ (.tail _ (.tail _ (.head _)))) (Or.inl ⟨by rfl, fun w_ hS_ => ?_⟩) (marks 12 1023) ?_
            rotate_left
            next => (subst hS_; go_simp; try (first | rfl | exact (Bool.not_not _).symm))
            try simp only [Act.put, List.setIfInBounds_toArray, List.set_cons_zero, List.set_cons_succ]
            refine wpL_o 10 rfl (by rfl) (marks 12 2047) ?_
            (go_simp; go_at_call 37; refine (sameA xa ya x y xn yn xc yc Hxn.out.symm Hyn.out.symm (by rw [← Hxn.out]; exact Hxl.out) _ (Gxa.out _ _ 0 hw rfl) (Gya.out _ _ 0 hw rfl)).mono ?_; rintro _ w_ ⟨rfl, hd_⟩; replace hw := hw.drewTo hd_; clear hd_; rw [Hxy.out])
            refine ⟨(SL.drop 10 (by kernel_rfl) (SL.drop 10 (by kernel_rfl) (SL.drop 10 (by kernel_rfl) (SL.drop 10 (by kernel_rfl) SL.nil)))), ?_⟩
            try simp only [Act.put, List.setIfInBounds_toArray, List.set_cons_zero, List.set_cons_succ]
            refine wpL_q 11 ?_ rfl (Or.inl ⟨by rfl, fun w_ hS_ => ?_⟩) (marks 12 4095) ?_
            rotate_left
            next => (go_simp; try (first | rfl | exact (Bool.not_not _).symm))
            try simp only [Act.put, List.setIfInBounds_toArray, List.set_cons_zero, List.set_cons_succ]
            all_goals refine wpL_done (by kernel_rfl) ?_ _
            (try clear hc0); (try clear hc1); (try clear hc2); (try clear hc3); (try clear hc4); (try clear hc5); (try clear hc6)
            clear gx2 gy2
            go_wp2_with fail
            go_roundw
            case rel => exact ⟨k + 1, by omega, by go_num, Sep.hid (by rw [List.take_add_one, List.take_add_one, Heq.out, Hx.out, Hy.out, Hxye.out]), hw⟩
            case measure => simp [intOf]; omega
          · have Hxy : Hid (decide (x = y) = false) := Sep.hid (decide_eq_false hxy)
            have Hd : Hid (decide (s = t) = false) := Sep.hid (by
              rw [Hm2.out, decide_eq_false]
              · rfl
              · intro h
                have h2 := Hx.out
                rw [h, Hy.out] at h2
                simp at h2
                exact hxy h2.symm)
            clear hxy
            go_wp2_with fail
            refine wp_region_L [10] [(1, (fun w' => w' = wr.drew)), (4, (fun w' => w' = wr.drew)), (6, (fun w' => w' = wr.drew)), (9, (fun w' => w' = wr.drew))] (n := 12) (listed := (marks 12 0)) (by kernel_rfl) rfl (by kernel_rfl) ?conds10 ?_
            case conds10 =>
             intro c hc
             simp only [List.mem_cons, List.not_mem_nil, or_false] at hc
             rcases hc with rfl | rfl | rfl | rfl
             · rfl
             · rfl
             · rfl
             · rfl
            replace hw := hw.drew
            (try replace hc0 := Sep.Holds.cells hw (i := 0) rfl); (try replace hc1 := Sep.Holds.cells hw (i := 1) rfl); (try replace hc2 := Sep.Holds.cells hw (i := 2) rfl); (try replace hc3 := Sep.Holds.cells hw (i := 3) rfl); (try replace hc4 := Sep.Holds.cells hw (i := 4) rfl); (try replace hc5 := Sep.Holds.cells hw (i := 5) rfl); (try replace hc6 := Sep.Holds.cells hw (i := 6) rfl)
            refine wpL_q 0 ?_ rfl (Or.inl ⟨by rfl, fun w_ hS_ => ?_⟩) (marks 12 1) ?_
            rotate_left
            next => (go_simp; try (first | rfl | exact (Bool.not_not _).symm))
            try simp only [Act.put, List.setIfInBounds_toArray, List.set_cons_zero, List.set_cons_succ]
            refine wpL_m 1 ?_ rfl (.head _) (Or.inl ⟨by rfl, fun w_ hS_ => ?_⟩) (marks 12 3) ?_
            rotate_left
            next => (subst hS_; go_simp; try (first | rfl | exact (Bool.not_not _).symm))
            try simp only [Act.put, List.setIfInBounds_toArray, List.set_cons_zero, List.set_cons_succ]
            refine wpL_q 2 ?_ rfl (Or.inl ⟨by rfl, fun w_ hS_ => ?_⟩) (marks 12 7) ?_
            rotate_left
            next => (go_simp; try (first | rfl | exact (Bool.not_not _).symm))
            try simp only [Act.put, List.setIfInBounds_toArray, List.set_cons_zero, List.set_cons_succ]
            refine wpL_q 3 ?_ rfl (Or.inl ⟨by rfl, fun w_ hS_ => ?_⟩) (marks 12 15) ?_
            rotate_left
            next => (go_simp; try (first | rfl | exact (Bool.not_not _).symm))
            try simp only [Act.put, List.setIfInBounds_toArray, List.set_cons_zero, List.set_cons_succ]
            refine wpL_m 4 ?_ rfl (.tail _ (.head _)) (Or.inl ⟨by rfl, fun w_ hS_ => ?_⟩) (marks 12 31) ?_
            rotate_left
            next => (subst hS_; go_simp; try (first | rfl | exact (Bool.not_not _).symm))
            try simp only [Act.put, List.setIfInBounds_toArray, List.set_cons_zero, List.set_cons_succ]
            refine wpL_q 5 ?_ rfl (Or.inl ⟨by rfl, fun w_ hS_ => ?_⟩) (marks 12 63) ?_
            rotate_left
            next => (go_simp; try (first | rfl | exact (Bool.not_not _).symm))
            try simp only [Act.put, List.setIfInBounds_toArray, List.set_cons_zero, List.set_cons_succ]
            refine wpL_m 6 ?_ rfl (.tail _ (.tail _ (.head _))) (Or.inl ⟨by rfl, fun w_ hS_ => ?_⟩) (marks 12 127) ?_
            rotate_left
            next => (subst hS_; go_simp; try (first | rfl | exact (Bool.not_not _).symm))
            try simp only [Act.put, List.setIfInBounds_toArray, List.set_cons_zero, List.set_cons_succ]
            refine wpL_q 7 ?_ rfl (Or.inl ⟨by rfl, fun w_ hS_ => ?_⟩) (marks 12 255) ?_
            rotate_left
            next => (go_simp; try (first | rfl | exact (Bool.not_not _).symm))
            try simp only [Act.put, List.setIfInBounds_toArray, List.set_cons_zero, List.set_cons_succ]
            refine wpL_q 8 ?_ rfl (Or.inl ⟨by rfl, fun w_ hS_ => ?_⟩) (marks 12 511) ?_
            rotate_left
            next => (go_simp; try (first | rfl | exact (Bool.not_not _).symm))
            try simp only [Act.put, List.setIfInBounds_toArray, List.set_cons_zero, List.set_cons_succ]
            refine wpL_m 9 ?_ rfl (.tail _ (.tail _ (.tail _ (.head _)))) (Or.inl ⟨by rfl, fun w_ hS_ => ?_⟩) (marks 12 1023) ?_
            rotate_left
            next => (subst hS_; go_simp; try (first | rfl | exact (Bool.not_not _).symm))
            try simp only [Act.put, List.setIfInBounds_toArray, List.set_cons_zero, List.set_cons_succ]
            refine wpL_o 10 rfl (by rfl) (marks 12 2047) ?_
            (go_simp; go_at_call 37; refine (sameA xa ya x y xn yn xc yc Hxn.out.symm Hyn.out.symm (by rw [← Hxn.out]; exact Hxl.out) _ (Gxa.out _ _ 0 hw rfl) (Gya.out _ _ 0 hw rfl)).mono ?_; rintro _ w_ ⟨rfl, hd_⟩; replace hw := hw.drewTo hd_; clear hd_; rw [Hxy.out])
            refine ⟨(SL.drop 10 (by kernel_rfl) (SL.drop 10 (by kernel_rfl) (SL.drop 10 (by kernel_rfl) (SL.drop 10 (by kernel_rfl) SL.nil)))), ?_⟩
            try simp only [Act.put, List.setIfInBounds_toArray, List.set_cons_zero, List.set_cons_succ]
            refine wpL_q 11 ?_ rfl (Or.inl ⟨by rfl, fun w_ hS_ => ?_⟩) (marks 12 4095) ?_
            rotate_left
            next => (go_simp; try (first | rfl | exact (Bool.not_not _).symm))
            try simp only [Act.put, List.setIfInBounds_toArray, List.set_cons_zero, List.set_cons_succ]
            all_goals refine wpL_done (by kernel_rfl) ?_ _
            (try clear hc0); (try clear hc1); (try clear hc2); (try clear hc3); (try clear hc4); (try clear hc5); (try clear hc6)
            clear gx2 gy2
            go_wp2_with fail
            exact HP.out _ _ ⟨by rw [Hd.out]; rfl, hw.sel [0] (by decide)⟩
        · have hke : k = n1 := by omega
          have Hpp : Hid (decide (s.ps = t.ps) = true) := Sep.hid (by
            rw [decide_eq_true_eq]
            have h := Heq.out
            rwa [hke, List.take_of_length_le (by rw [Hn1.out]; exact Nat.le_refl _), List.take_of_length_le (by rw [Hn2.out, Hnn.out]; exact Nat.le_refl _)] at h)
          have Hm3 : Hid (decide (s = t) = decide (s.is = t.is)) := Sep.hid (by rw [Hm2.out, Hpp.out]; rfl)
          clear Hm2 Hpp Heq hke
          go_wp2_with fail
          have Hw0 := Sep.hid hw; clear hw; (try clear hc0); (try clear hc1); (try clear hc2); (try clear hc3); (try clear hc4); (try clear hc5); (try clear hc6)
          go_loopw [7] (fun i wr => ∃ k : Nat, k ≤ i1 ∧ i = .int .i64 k ∧ Hid (s.is.take k = t.is.take k) ∧ Holds e wr [X, pt b2_ [.int .i64 s.r0, .int .i64 s.r1, .int .i64 s.r2, .int .i64 s.r3, .slice pa n1 pc, .slice ia i1 ic] 39, pt b3_ [.int .i64 t.r0, .int .i64 t.r1, .int .i64 t.r2, .int .i64 t.r3, .slice pb n2 qc, .slice ib i2 jc] 39]) (fun i _ => i1 - (intOf i).toNat)
          case atStart => exact ⟨0, Nat.zero_le _, rfl, Sep.hid (by simp), Hw0.out⟩
          case round =>
            clear Hw0
            obtain ⟨k, hk, rfl, Heq, hw⟩ := hrel
            (try replace hc0 := Sep.Holds.cells hw (i := 0) rfl); (try replace hc1 := Sep.Holds.cells hw (i := 1) rfl); (try replace hc2 := Sep.Holds.cells hw (i := 2) rfl); (try replace hc3 := Sep.Holds.cells hw (i := 3) rfl); (try replace hc4 := Sep.Holds.cells hw (i := 4) rfl); (try replace hc5 := Sep.Holds.cells hw (i := 5) rfl); (try replace hc6 := Sep.Holds.cells hw (i := 6) rfl)
            by_cases hlt : k < i1
            · have hlt2 : k < i2 := by rw [← Hii.out]; exact hlt
              obtain ⟨x, hx⟩ : ∃ x, s.is[k]? = some x := ⟨_, List.getElem?_eq_getElem (by rw [Hi1.out]; exact hlt)⟩
              obtain ⟨y, hy⟩ : ∃ y, t.is[k]? = some y := ⟨_, List.getElem?_eq_getElem (by rw [Hi2.out]; exact hlt2)⟩
              obtain ⟨ba, rfl, gx⟩ := HIs.out _ _ 0 hw.drew rfl k x hx
              obtain ⟨bb, rfl, gy⟩ := HIt.out _ _ 0 hw.drew rfl k y hy
              have Hcx := Sep.hid gx; have Hcy := Sep.hid gy; clear gx gy
              have Hx := Sep.hid hx; clear hx
              have Hy := Sep.hid hy; clear hy
              by_cases hxy : x = y
              · have Hb : Hid ((!decide (x = y)) = false) := Sep.hid (by simp [hxy])
                have Hxye := Sep.hid hxy; clear hxy
                go_wp2_with fail
                refine wp_region_L [] [(1, (fun w' => w' = wr.drew)), (4, (fun w' => w' = wr.drew)), (6, (fun w' => w' = wr.drew)), (9, (fun w' => w' = wr.drew))] (n := 11) (listed := (marks 11 0)) (by kernel_rfl) rfl (by kernel_rfl) ?conds11 ?_
                case conds11 =>
                 intro c hc
                 simp only [List.mem_cons, List.not_mem_nil, or_false] at hc
                 rcases hc with rfl | rfl | rfl | rfl
                 · rfl
                 · rfl
                 · rfl
                 · rfl
                replace hw := hw.drew
                (try replace hc0 := Sep.Holds.cells hw (i := 0) rfl); (try replace hc1 := Sep.Holds.cells hw (i := 1) rfl); (try replace hc2 := Sep.Holds.cells hw (i := 2) rfl); (try replace hc3 := Sep.Holds.cells hw (i := 3) rfl); (try replace hc4 := Sep.Holds.cells hw (i := 4) rfl); (try replace hc5 := Sep.Holds.cells hw (i := 5) rfl); (try replace hc6 := Sep.Holds.cells hw (i := 6) rfl)
                refine wpL_q 0 ?_ rfl (Or.inl ⟨by rfl, fun w_ hS_ => ?_⟩) (marks 11 1) ?_
                rotate_left
                next => (go_simp; try (first | rfl | exact (Bool.not_not _).symm))
                try simp only [Act.put, List.setIfInBounds_toArray, List.set_cons_zero, List.set_cons_succ]
                refine wpL_m 1 ?_ rfl (.head _) (Or.inl ⟨by rfl, fun w_ hS_ => ?_⟩) (marks 11 3) ?_
                rotate_left
                next => (subst hS_; first | (first | (go_simp; (try rfl); done) | (refine Eq.trans (run_ne (cs := (encT x).toArray) (ds := (encT y).toArray) (b := decide (x = y)) rfl rfl rfl noGuardU (eqU x y _)) ?_; first | (rw [Hb.out]; done) | (rw [Hb.out]; rfl)) | (refine Eq.trans (run_loadAd (vs := encT x) (ad := ba.add (k * 3)) rfl rfl rfl Hcx.out) ?_; rfl) | (refine Eq.trans (run_loadAd (vs := encT y) (ad := bb.add (k * 3)) rfl rfl rfl Hcy.out) ?_; rfl)) | (go_simp; try (first | rfl | exact (Bool.not_not _).symm)))
                try simp only [Act.put, List.setIfInBounds_toArray, List.set_cons_zero, List.set_cons_succ]
                refine wpL_q 2 ?_ rfl (Or.inl ⟨by rfl, fun w_ hS_ => ?_⟩) (marks 11 7) ?_
                rotate_left
                next => (go_simp; try (first | rfl | exact (Bool.not_not _).symm))
                try simp only [Act.put, List.setIfInBounds_toArray, List.set_cons_zero, List.set_cons_succ]
                refine wpL_q 3 ?_ rfl (Or.inl ⟨by rfl, fun w_ hS_ => ?_⟩) (marks 11 15) ?_
                rotate_left
                next => (go_simp; try (first | rfl | exact (Bool.not_not _).symm))
                try simp only [Act.put, List.setIfInBounds_toArray, List.set_cons_zero, List.set_cons_succ]
                refine wpL_m 4 ?_ rfl (.tail _ (.head _)) (Or.inl ⟨by rfl, fun w_ hS_ => ?_⟩) (marks 11 31) ?_
                rotate_left
                next => (subst hS_; first | (first | (go_simp; (try rfl); done) | (refine Eq.trans (run_ne (cs := (encT x).toArray) (ds := (encT y).toArray) (b := decide (x = y)) rfl rfl rfl noGuardU (eqU x y _)) ?_; first | (rw [Hb.out]; done) | (rw [Hb.out]; rfl)) | (refine Eq.trans (run_loadAd (vs := encT x) (ad := ba.add (k * 3)) rfl rfl rfl Hcx.out) ?_; rfl) | (refine Eq.trans (run_loadAd (vs := encT y) (ad := bb.add (k * 3)) rfl rfl rfl Hcy.out) ?_; rfl)) | (go_simp; try (first | rfl | exact (Bool.not_not _).symm)))
                try simp only [Act.put, List.setIfInBounds_toArray, List.set_cons_zero, List.set_cons_succ]
                refine wpL_q 5 ?_ rfl (Or.inl ⟨by rfl, fun w_ hS_ => ?_⟩) (marks 11 63) ?_
                rotate_left
                next => (go_simp; try (first | rfl | exact (Bool.not_not _).symm))
                try simp only [Act.put, List.setIfInBounds_toArray, List.set_cons_zero, List.set_cons_succ]
                refine wpL_m 6 ?_ rfl (.tail _ (.tail _ (.head _))) (Or.inl ⟨by rfl, fun w_ hS_ => ?_⟩) (marks 11 127) ?_
                rotate_left
                next => (subst hS_; first | (first | (go_simp; (try rfl); done) | (refine Eq.trans (run_ne (cs := (encT x).toArray) (ds := (encT y).toArray) (b := decide (x = y)) rfl rfl rfl noGuardU (eqU x y _)) ?_; first | (rw [Hb.out]; done) | (rw [Hb.out]; rfl)) | (refine Eq.trans (run_loadAd (vs := encT x) (ad := ba.add (k * 3)) rfl rfl rfl Hcx.out) ?_; rfl) | (refine Eq.trans (run_loadAd (vs := encT y) (ad := bb.add (k * 3)) rfl rfl rfl Hcy.out) ?_; rfl)) | (go_simp; try (first | rfl | exact (Bool.not_not _).symm)))
                try simp only [Act.put, List.setIfInBounds_toArray, List.set_cons_zero, List.set_cons_succ]
                refine wpL_q 7 ?_ rfl (Or.inl ⟨by rfl, fun w_ hS_ => ?_⟩) (marks 11 255) ?_
                rotate_left
                next => (go_simp; try (first | rfl | exact (Bool.not_not _).symm))
                try simp only [Act.put, List.setIfInBounds_toArray, List.set_cons_zero, List.set_cons_succ]
                refine wpL_q 8 ?_ rfl (Or.inl ⟨by rfl, fun w_ hS_ => ?_⟩) (marks 11 511) ?_
                rotate_left
                next => (go_simp; try (first | rfl | exact (Bool.not_not _).symm))
                try simp only [Act.put, List.setIfInBounds_toArray, List.set_cons_zero, List.set_cons_succ]
                refine wpL_m 9 ?_ rfl (.tail _ (.tail _ (.tail _ (.head _)))) (Or.inl ⟨by rfl, fun w_ hS_ => ?_⟩) (marks 11 1023) ?_
                rotate_left
                next => (subst hS_; first | (first | (go_simp; (try rfl); done) | (refine Eq.trans (run_ne (cs := (encT x).toArray) (ds := (encT y).toArray) (b := decide (x = y)) rfl rfl rfl noGuardU (eqU x y _)) ?_; first | (rw [Hb.out]; done) | (rw [Hb.out]; rfl)) | (refine Eq.trans (run_loadAd (vs := encT x) (ad := ba.add (k * 3)) rfl rfl rfl Hcx.out) ?_; rfl) | (refine Eq.trans (run_loadAd (vs := encT y) (ad := bb.add (k * 3)) rfl rfl rfl Hcy.out) ?_; rfl)) | (go_simp; try (first | rfl | exact (Bool.not_not _).symm)))
                try simp only [Act.put, List.setIfInBounds_toArray, List.set_cons_zero, List.set_cons_succ]
                refine wpL_q 10 ?_ rfl (Or.inl ⟨by rfl, fun w_ hS_ => ?_⟩) (marks 11 2047) ?_
                rotate_left
                next => (first | (first | (go_simp; (try rfl); done) | (refine Eq.trans (run_ne (cs := (encT x).toArray) (ds := (encT y).toArray) (b := decide (x = y)) rfl rfl rfl noGuardU (eqU x y _)) ?_; first | (rw [Hb.out]; done) | (rw [Hb.out]; rfl)) | (refine Eq.trans (run_loadAd (vs := encT x) (ad := ba.add (k * 3)) rfl rfl rfl Hcx.out) ?_; rfl) | (refine Eq.trans (run_loadAd (vs := encT y) (ad := bb.add (k * 3)) rfl rfl rfl Hcy.out) ?_; rfl)) | (go_simp; try (first | rfl | exact (Bool.not_not _).symm)))
                try simp only [Act.put, List.setIfInBounds_toArray, List.set_cons_zero, List.set_cons_succ]
                all_goals refine wpL_done (by kernel_rfl) ?_ _
                (try clear hc0); (try clear hc1); (try clear hc2); (try clear hc3); (try clear hc4); (try clear hc5); (try clear hc6)
                go_wp2_with fail
                go_roundw
                case rel => exact ⟨k + 1, by omega, by go_num, Sep.hid (by rw [List.take_add_one, List.take_add_one, Heq.out, Hx.out, Hy.out, Hxye.out]), hw⟩
                case measure => simp [intOf]; omega
              · have Hb : Hid ((!decide (x = y)) = true) := Sep.hid (by simp [hxy])
                have Hd : Hid (decide (s = t) = false) := Sep.hid (by
                  rw [Hm3.out, decide_eq_false]
                  intro h
                  have h2 := Hx.out
                  rw [h, Hy.out] at h2
                  simp at h2
                  exact hxy h2.symm)
                clear hxy
                go_wp2_with fail
                refine wp_region_L [] [(1, (fun w' => w' = wr.drew)), (4, (fun w' => w' = wr.drew)), (6, (fun w' => w' = wr.drew)), (9, (fun w' => w' = wr.drew))] (n := 11) (listed := (marks 11 0)) (by kernel_rfl) rfl (by kernel_rfl) ?conds12 ?_
                case conds12 =>
                 intro c hc
                 simp only [List.mem_cons, List.not_mem_nil, or_false] at hc
                 rcases hc with rfl | rfl | rfl | rfl
                 · rfl
                 · rfl
                 · rfl
                 · rfl
                replace hw := hw.drew
                (try replace hc0 := Sep.Holds.cells hw (i := 0) rfl); (try replace hc1 := Sep.Holds.cells hw (i := 1) rfl); (try replace hc2 := Sep.Holds.cells hw (i := 2) rfl); (try replace hc3 := Sep.Holds.cells hw (i := 3) rfl); (try replace hc4 := Sep.Holds.cells hw (i := 4) rfl); (try replace hc5 := Sep.Holds.cells hw (i := 5) rfl); (try replace hc6 := Sep.Holds.cells hw (i := 6) rfl)
                refine wpL_q 0 ?_ rfl (Or.inl ⟨by rfl, fun w_ hS_ => ?_⟩) (marks 11 1) ?_
                rotate_left
                next => (go_simp; try (first | rfl | exact (Bool.not_not _).symm))
                try simp only [Act.put, List.setIfInBounds_toArray, List.set_cons_zero, List.set_cons_succ]
                refine wpL_m 1 ?_ rfl (.head _) (Or.inl ⟨by rfl, fun w_ hS_ => ?_⟩) (marks 11 3) ?_
                rotate_left
                next => (subst hS_; first | (first | (go_simp; (try rfl); done) | (refine Eq.trans (run_ne (cs := (encT x).toArray) (ds := (encT y).toArray) (b := decide (x = y)) rfl rfl rfl noGuardU (eqU x y _)) ?_; first | (rw [Hb.out]; done) | (rw [Hb.out]; rfl)) | (refine Eq.trans (run_loadAd (vs := encT x) (ad := ba.add (k * 3)) rfl rfl rfl Hcx.out) ?_; rfl) | (refine Eq.trans (run_loadAd (vs := encT y) (ad := bb.add (k * 3)) rfl rfl rfl Hcy.out) ?_; rfl)) | (go_simp; try (first | rfl | exact (Bool.not_not _).symm)))
                try simp only [Act.put, List.setIfInBounds_toArray, List.set_cons_zero, List.set_cons_succ]
                refine wpL_q 2 ?_ rfl (Or.inl ⟨by rfl, fun w_ hS_ => ?_⟩) (marks 11 7) ?_
                rotate_left
                next => (go_simp; try (first | rfl | exact (Bool.not_not _).symm))
                try simp only [Act.put, List.setIfInBounds_toArray, List.set_cons_zero, List.set_cons_succ]
                refine wpL_q 3 ?_ rfl (Or.inl ⟨by rfl, fun w_ hS_ => ?_⟩) (marks 11 15) ?_
                rotate_left
                next => (go_simp; try (first | rfl | exact (Bool.not_not _).symm))
                try simp only [Act.put, List.setIfInBounds_toArray, List.set_cons_zero, List.set_cons_succ]
                refine wpL_m 4 ?_ rfl (.tail _ (.head _)) (Or.inl ⟨by rfl, fun w_ hS_ => ?_⟩) (marks 11 31) ?_
                rotate_left
                next => (subst hS_; first | (first | (go_simp; (try rfl); done) | (refine Eq.trans (run_ne (cs := (encT x).toArray) (ds := (encT y).toArray) (b := decide (x = y)) rfl rfl rfl noGuardU (eqU x y _)) ?_; first | (rw [Hb.out]; done) | (rw [Hb.out]; rfl)) | (refine Eq.trans (run_loadAd (vs := encT x) (ad := ba.add (k * 3)) rfl rfl rfl Hcx.out) ?_; rfl) | (refine Eq.trans (run_loadAd (vs := encT y) (ad := bb.add (k * 3)) rfl rfl rfl Hcy.out) ?_; rfl)) | (go_simp; try (first | rfl | exact (Bool.not_not _).symm)))
                try simp only [Act.put, List.setIfInBounds_toArray, List.set_cons_zero, List.set_cons_succ]
                refine wpL_q 5 ?_ rfl (Or.inl ⟨by rfl, fun w_ hS_ => ?_⟩) (marks 11 63) ?_
                rotate_left
                next => (go_simp; try (first | rfl | exact (Bool.not_not _).symm))
                try simp only [Act.put, List.setIfInBounds_toArray, List.set_cons_zero, List.set_cons_succ]
                refine wpL_m 6 ?_ rfl (.tail _ (.tail _ (.head _))) (Or.inl ⟨by rfl, fun w_ hS_ => ?_⟩) (marks 11 127) ?_
                rotate_left
                next => (subst hS_; first | (first | (go_simp; (try rfl); done) | (refine Eq.trans (run_ne (cs := (encT x).toArray) (ds := (encT y).toArray) (b := decide (x = y)) rfl rfl rfl noGuardU (eqU x y _)) ?_; first | (rw [Hb.out]; done) | (rw [Hb.out]; rfl)) | (refine Eq.trans (run_loadAd (vs := encT x) (ad := ba.add (k * 3)) rfl rfl rfl Hcx.out) ?_; rfl) | (refine Eq.trans (run_loadAd (vs := encT y) (ad := bb.add (k * 3)) rfl rfl rfl Hcy.out) ?_; rfl)) | (go_simp; try (first | rfl | exact (Bool.not_not _).symm)))
                try simp only [Act.put, List.setIfInBounds_toArray, List.set_cons_zero, List.set_cons_succ]
                refine wpL_q 7 ?_ rfl (Or.inl ⟨by rfl, fun w_ hS_ => ?_⟩) (marks 11 255) ?_
                rotate_left
                next => (go_simp; try (first | rfl | exact (Bool.not_not _).symm))
                try simp only [Act.put, List.setIfInBounds_toArray, List.set_cons_zero, List.set_cons_succ]
                refine wpL_q 8 ?_ rfl (Or.inl ⟨by rfl, fun w_ hS_ => ?_⟩) (marks 11 511) ?_
                rotate_left
                next => (go_simp; try (first | rfl | exact (Bool.not_not _).symm))
                try simp only [Act.put, List.setIfInBounds_toArray, List.set_cons_zero, List.set_cons_succ]
                refine wpL_m 9 ?_ rfl (.tail _ (.tail _ (.tail _ (.head _)))) (Or.inl ⟨by rfl, fun w_ hS_ => ?_⟩) (marks 11 1023) ?_
                rotate_left
                next => (subst hS_; first | (first | (go_simp; (try rfl); done) | (refine Eq.trans (run_ne (cs := (encT x).toArray) (ds := (encT y).toArray) (b := decide (x = y)) rfl rfl rfl noGuardU (eqU x y _)) ?_; first | (rw [Hb.out]; done) | (rw [Hb.out]; rfl)) | (refine Eq.trans (run_loadAd (vs := encT x) (ad := ba.add (k * 3)) rfl rfl rfl Hcx.out) ?_; rfl) | (refine Eq.trans (run_loadAd (vs := encT y) (ad := bb.add (k * 3)) rfl rfl rfl Hcy.out) ?_; rfl)) | (go_simp; try (first | rfl | exact (Bool.not_not _).symm)))
                try simp only [Act.put, List.setIfInBounds_toArray, List.set_cons_zero, List.set_cons_succ]
                refine wpL_q 10 ?_ rfl (Or.inl ⟨by rfl, fun w_ hS_ => ?_⟩) (marks 11 2047) ?_
                rotate_left
                next => (first | (first | (go_simp; (try rfl); done) | (refine Eq.trans (run_ne (cs := (encT x).toArray) (ds := (encT y).toArray) (b := decide (x = y)) rfl rfl rfl noGuardU (eqU x y _)) ?_; first | (rw [Hb.out]; done) | (rw [Hb.out]; rfl)) | (refine Eq.trans (run_loadAd (vs := encT x) (ad := ba.add (k * 3)) rfl rfl rfl Hcx.out) ?_; rfl) | (refine Eq.trans (run_loadAd (vs := encT y) (ad := bb.add (k * 3)) rfl rfl rfl Hcy.out) ?_; rfl)) | (go_simp; try (first | rfl | exact (Bool.not_not _).symm)))
                try simp only [Act.put, List.setIfInBounds_toArray, List.set_cons_zero, List.set_cons_succ]
                all_goals refine wpL_done (by kernel_rfl) ?_ _
                (try clear hc0); (try clear hc1); (try clear hc2); (try clear hc3); (try clear hc4); (try clear hc5); (try clear hc6)
                go_wp2_with fail
                exact HP.out _ _ ⟨by rw [Hd.out]; rfl, hw.sel [0] (by decide)⟩
            · have hke : k = i1 := by omega
              have Hd : Hid (decide (s = t) = true) := Sep.hid (by
                rw [Hm3.out, decide_eq_true_eq]
                have h := Heq.out
                rwa [hke, List.take_of_length_le (by rw [Hi1.out]; exact Nat.le_refl _), List.take_of_length_le (by rw [Hi2.out, Hii.out]; exact Nat.le_refl _)] at h)
              clear Heq hke
              go_wp2_with fail
              exact HP.out _ _ ⟨by rw [Hd.out]; rfl, hw.sel [0] (by decide)⟩
end Go.Proofs.YteinbojpmhblkaaDoor
/-
  The walk of awake: the calls whose answers the document fixes.
-/
namespace Go.Proofs.YteinbojpmhblkaaDoor
set_option linter.unusedSimpArgs false
set_option linter.unusedVariables false
open Go.RowKit Go.Sep
set_option maxRecDepth 20000

def s0 : Scr := ⟨5, 0, 0, 258, [[⟨0, 0, 0, 0⟩]], [⟨2, 0, 258⟩]⟩
def b17 : List Int := [0, 0, 0, 0, 0, 0, 0, 5, 0, 0, 0, 0, 0, 0, 0, 0, 0, 0, 0, 0, 0, 0, 0, 0, 0, 0, 0, 0, 0, 0, 1, 2, 1, 1, 0, 0, 0, 0, 0, 0, 0, 0, 0, 0, 0, 2, 0, 0, 0, 0, 0, 0, 0, 1, 2]
theorem bytes_s0 : bytesS s0 = b17 := by decide +kernel
theorem may_s0 : mayS s0 = true := by decide +kernel
theorem read_s0 : readS b17 = (s0, 0) := by decide +kernel
theorem read_32 : readS (b17.take 32) = (scr0, 8) := by decide +kernel
theorem may_scr0 : mayS scr0 = false := by decide +kernel
theorem small_s0 : Small s0 := ⟨by decide, by decide, by decide⟩
theorem small_scr0 : Small scr0 := ⟨by decide, by decide, by decide⟩
theorem bys_b17 : Bys b17 := bys_of (by decide)
theorem sl_capB {e w : World} {L : List HProp} {i n c sz : Nat} {T : TypeId} {a : Option Addr} {cs : List Value} (hw : Holds e w L) (hi : L[i]? = some (Sl T sz (.slice a n c) n cs)) : n ≤ c := by
  rcases hw.openSl hi with ⟨h1, h2, _⟩ | ⟨b, cap, pre, post, hv, h, _⟩
  · omega
  · cases hv; exact h
set_option maxHeartbeats 16000000 in
theorem awake17 (e w : World) (X : HProp) (hT : Tops e X) (hw : Holds e w [X]) :
    Calls Tryd.prog 6 #[] w fun en w' => en = .returned (.bool true) ∧ Holds e w' [X] := by
  have HT := Sep.hid hT; clear hT
  refine Sep.calls_post ?_
  intro Post_ hPost_
  have HP := Sep.hid hPost_
  clear hPost_
  go_enter Tryd.func6, Tryd.ntmps6
  go_wp2_with (first | (refine wpList_on rfl (wp_bsl1 rfl rfl (by rfl) (by rfl) (by decide) hw ?_); intro bA_ w_ hw_; replace hw_ := hw_.newSl (i := 1) rfl 4 1 rfl (by decide); clear hw; have hw := hw_; clear hw_; (try simp only [List.map_cons, List.map_nil, List.getD_cons_zero, List.getD_cons_succ, List.getD_nil, List.set_cons_zero, List.set_cons_succ, List.cons_append, List.nil_append, Act.eval, Array.getD_eq_getD_getElem?, List.getElem?_toArray, List.getElem?_cons_succ, List.getElem?_cons_zero, Option.getD_some, Value.cells] at hw); (try simp (disch := first | (simp; done) | (simp; omega)) only [Sep.mid_set, Sep.mid_set2, Sep.mid_set0, Sep.mid_splice, Sep.mid_splice0, List.set_cons_zero, List.set_cons_succ] at hw); (try simp only [Sep.splice, List.take_succ_cons, List.take_zero, List.drop_succ_cons, List.drop_zero, List.length_cons, List.length_nil, Nat.reduceAdd, List.cons_append, List.nil_append] at hw); (try replace hc0 := Sep.Holds.cells hw (i := 0) rfl); (try replace hc1 := Sep.Holds.cells hw (i := 1) rfl); (try replace hc2 := Sep.Holds.cells hw (i := 2) rfl); (try replace hc3 := Sep.Holds.cells hw (i := 3) rfl); (try replace hc4 := Sep.Holds.cells hw (i := 4) rfl); (try replace hc5 := Sep.Holds.cells hw (i := 5) rfl); (try replace hc6 := Sep.Holds.cells hw (i := 6) rfl)) | (refine wpList_on rfl (wp_bsl1 rfl rfl (by rfl) (by rfl) (by decide) hw ?_); intro bB_ w_ hw_; replace hw_ := hw_.newSl (i := 2) rfl 1 1 rfl (by decide); clear hw; have hw := hw_; clear hw_; (try simp only [List.map_cons, List.map_nil, List.getD_cons_zero, List.getD_cons_succ, List.getD_nil, List.set_cons_zero, List.set_cons_succ, List.cons_append, List.nil_append, Act.eval, Array.getD_eq_getD_getElem?, List.getElem?_toArray, List.getElem?_cons_succ, List.getElem?_cons_zero, Option.getD_some, Value.cells] at hw); (try simp (disch := first | (simp; done) | (simp; omega)) only [Sep.mid_set, Sep.mid_set2, Sep.mid_set0, Sep.mid_splice, Sep.mid_splice0, List.set_cons_zero, List.set_cons_succ] at hw); (try simp only [Sep.splice, List.take_succ_cons, List.take_zero, List.drop_succ_cons, List.drop_zero, List.length_cons, List.length_nil, Nat.reduceAdd, List.cons_append, List.nil_append] at hw); (try replace hc0 := Sep.Holds.cells hw (i := 0) rfl); (try replace hc1 := Sep.Holds.cells hw (i := 1) rfl); (try replace hc2 := Sep.Holds.cells hw (i := 2) rfl); (try replace hc3 := Sep.Holds.cells hw (i := 3) rfl); (try replace hc4 := Sep.Holds.cells hw (i := 4) rfl); (try replace hc5 := Sep.Holds.cells hw (i := 5) rfl); (try replace hc6 := Sep.Holds.cells hw (i := 6) rfl)) | (refine wpList_on rfl (wp_bsl1 rfl rfl (by rfl) (by rfl) (by decide) hw ?_); intro bC_ w_ hw_; replace hw_ := hw_.newSl (i := 3) rfl 3 1 rfl (by decide); clear hw; have hw := hw_; clear hw_; (try simp only [List.map_cons, List.map_nil, List.getD_cons_zero, List.getD_cons_succ, List.getD_nil, List.set_cons_zero, List.set_cons_succ, List.cons_append, List.nil_append, Act.eval, Array.getD_eq_getD_getElem?, List.getElem?_toArray, List.getElem?_cons_succ, List.getElem?_cons_zero, Option.getD_some, Value.cells] at hw); (try simp (disch := first | (simp; done) | (simp; omega)) only [Sep.mid_set, Sep.mid_set2, Sep.mid_set0, Sep.mid_splice, Sep.mid_splice0, List.set_cons_zero, List.set_cons_succ] at hw); (try simp only [Sep.splice, List.take_succ_cons, List.take_zero, List.drop_succ_cons, List.drop_zero, List.length_cons, List.length_nil, Nat.reduceAdd, List.cons_append, List.nil_append] at hw); (try replace hc0 := Sep.Holds.cells hw (i := 0) rfl); (try replace hc1 := Sep.Holds.cells hw (i := 1) rfl); (try replace hc2 := Sep.Holds.cells hw (i := 2) rfl); (try replace hc3 := Sep.Holds.cells hw (i := 3) rfl); (try replace hc4 := Sep.Holds.cells hw (i := 4) rfl); (try replace hc5 := Sep.Holds.cells hw (i := 5) rfl); (try replace hc6 := Sep.Holds.cells hw (i := 6) rfl)) | (refine wpList_on rfl (wp_alloc rfl hw ?_); intro b1_ w_ hw_; clear hw; have hw := hw_; clear hw_; (try simp only [List.map_cons, List.map_nil, List.getD_cons_zero, List.getD_cons_succ, List.getD_nil, List.set_cons_zero, List.set_cons_succ, List.cons_append, List.nil_append, Act.eval, Array.getD_eq_getD_getElem?, List.getElem?_toArray, List.getElem?_cons_succ, List.getElem?_cons_zero, Option.getD_some, Value.cells] at hw); (try simp (disch := first | (simp; done) | (simp; omega)) only [Sep.mid_set, Sep.mid_set2, Sep.mid_set0, Sep.mid_splice, Sep.mid_splice0, List.set_cons_zero, List.set_cons_succ] at hw); (try simp only [Sep.splice, List.take_succ_cons, List.take_zero, List.drop_succ_cons, List.drop_zero, List.length_cons, List.length_nil, Nat.reduceAdd, List.cons_append, List.nil_append] at hw); (try replace hc0 := Sep.Holds.cells hw (i := 0) rfl); (try replace hc1 := Sep.Holds.cells hw (i := 1) rfl); (try replace hc2 := Sep.Holds.cells hw (i := 2) rfl); (try replace hc3 := Sep.Holds.cells hw (i := 3) rfl); (try replace hc4 := Sep.Holds.cells hw (i := 4) rfl); (try replace hc5 := Sep.Holds.cells hw (i := 5) rfl); (try replace hc6 := Sep.Holds.cells hw (i := 6) rfl)) | (refine wpList_on rfl (wp_storeAll (vs := [.int .i64 5, .int .i64 0, .int .i64 0, .int .i64 258, .slice (some ⟨bB_, 0, none⟩) 1 1, .slice (some ⟨bC_, 0, none⟩) 1 1]) rfl rfl (by rfl) hw (i := 4) rfl rfl rfl (by simp [Value.oneCell']) ?_); intro w_ hw_; clear hw; have hw := hw_; clear hw_; (try simp only [List.map_cons, List.map_nil, List.getD_cons_zero, List.getD_cons_succ, List.getD_nil, List.set_cons_zero, List.set_cons_succ, List.cons_append, List.nil_append, Act.eval, Array.getD_eq_getD_getElem?, List.getElem?_toArray, List.getElem?_cons_succ, List.getElem?_cons_zero, Option.getD_some, Value.cells] at hw); (try simp (disch := first | (simp; done) | (simp; omega)) only [Sep.mid_set, Sep.mid_set2, Sep.mid_set0, Sep.mid_splice, Sep.mid_splice0, List.set_cons_zero, List.set_cons_succ] at hw); (try simp only [Sep.splice, List.take_succ_cons, List.take_zero, List.drop_succ_cons, List.drop_zero, List.length_cons, List.length_nil, Nat.reduceAdd, List.cons_append, List.nil_append] at hw); (try replace hc0 := Sep.Holds.cells hw (i := 0) rfl); (try replace hc1 := Sep.Holds.cells hw (i := 1) rfl); (try replace hc2 := Sep.Holds.cells hw (i := 2) rfl); (try replace hc3 := Sep.Holds.cells hw (i := 3) rfl); (try replace hc4 := Sep.Holds.cells hw (i := 4) rfl); (try replace hc5 := Sep.Holds.cells hw (i := 5) rfl); (try replace hc6 := Sep.Holds.cells hw (i := 6) rfl)))
  have hw := (((hw.sel [1, 0, 2, 3, 4] (by decide)).group [_] [_, _, _, _]).sel [2, 0, 1, 3, 4] (by decide)).group [_, _] [_, _, _]
  have hw := hw.sel [1, 0, 2, 3] (by decide)
  have hw : Holds e w_ [X, IsPs 57 56 (some ⟨bB_, 0, none⟩) 1 [(some ⟨bA_, 0, none⟩, 1)] s0.ps, Sl 23 3 (.slice (some ⟨bC_, 0, none⟩) 1 1) 1 (encTs s0.is), pt b1_ [.int .i64 5, .int .i64 0, .int .i64 0, .int .i64 258, .slice (some ⟨bB_, 0, none⟩) 1 1, .slice (some ⟨bC_, 0, none⟩) 1 1] 28] := hw
  (try clear hc0); (try clear hc1); (try clear hc2); (try clear hc3); (try clear hc4); (try clear hc5); (try clear hc6); (try replace hc0 := Sep.Holds.cells hw (i := 0) rfl); (try replace hc1 := Sep.Holds.cells hw (i := 1) rfl); (try replace hc2 := Sep.Holds.cells hw (i := 2) rfl); (try replace hc3 := Sep.Holds.cells hw (i := 3) rfl); (try replace hc4 := Sep.Holds.cells hw (i := 4) rfl); (try replace hc5 := Sep.Holds.cells hw (i := 5) rfl); (try replace hc6 := Sep.Holds.cells hw (i := 6) rfl)
  have HP0 := Sep.hid (rdP (TP := 57) (TA := 56) (e := e) (a := some ⟨bB_, 0, none⟩) (c := 1) (hs := [(some ⟨bA_, 0, none⟩, 1)]) (ps := s0.ps) rfl)
  have HI0 := Sep.hid (rdT (T := 23) (e := e) (n := 1) (ca := 1) (a := some ⟨bC_, 0, none⟩) (l := s0.is))
  refine (oBytesS s0 small_s0 _ _ _ 1 1 e _ _ HT.out.sep (HP0.out.at 1 rfl) (HI0.out.at 2 rfl) may_s0 hw.focus0).mono ?_
  rintro _ w_ ⟨v, rfl, hw_⟩
  rw [bytes_s0] at hw_
  clear hw; (try clear hc0); (try clear hc1); (try clear hc2); (try clear hc3); (try clear hc4); (try clear hc5); (try clear hc6); have hw := Holds.unfocus0 hw_; clear hw_; (try simp only [List.map_cons, List.map_nil, List.getD_cons_zero, List.getD_cons_succ, List.getD_nil, List.set_cons_zero, List.set_cons_succ, List.cons_append, List.nil_append, Act.eval, Array.getD_eq_getD_getElem?, List.getElem?_toArray, List.getElem?_cons_succ, List.getElem?_cons_zero, Option.getD_some, Value.cells] at hw); (try simp (disch := first | (simp; done) | (simp; omega)) only [Sep.mid_set, Sep.mid_set2, Sep.mid_set0, Sep.mid_splice, Sep.mid_splice0, List.set_cons_zero, List.set_cons_succ] at hw); (try simp only [Sep.splice, List.take_succ_cons, List.take_zero, List.drop_succ_cons, List.drop_zero, List.length_cons, List.length_nil, Nat.reduceAdd, List.cons_append, List.nil_append] at hw)
  have hIs : IsB v b17 = Sl 5 1 v 55 (encB b17) := rfl
  rw [hIs] at hw; clear hIs
  obtain ⟨a1, k1, rfl⟩ := Sl.value (i := 4) rfl hw
  have hk1 : 55 ≤ k1 := sl_capB (i := 4) hw rfl
  have HRB := Sep.hid (rdB (e := e) (n := 55) (ca := k1) (a := a1) (l := b17))
  generalize hB : encB b17 = B at *
  have HB := Sep.hid hB; clear hB
  have hr1 := oReadS b17 55 k1 a1 (Sep.hid rfl) hk1 bys_b17 e _ _ HT.out.sep (HRB.out.at 4 rfl) hw.focus0
  rw [read_s0] at hr1
  go_wp2_with fail
  refine hr1.mono ?_
  clear hr1
  rintro _ w_ ⟨pa2, pc2, ia2, ic2, hs2, hl2, rfl, hw_⟩
  have hsv : scrV (s0, (0 : Int)).1 pa2 pc2 ia2 ic2 = [.int .i64 5, .int .i64 0, .int .i64 0, .int .i64 258, .slice pa2 1 pc2, .slice ia2 1 ic2] := rfl
  rw [hsv]; clear hsv
  clear hw; (try clear hc0); (try clear hc1); (try clear hc2); (try clear hc3); (try clear hc4); (try clear hc5); (try clear hc6); have hw := Holds.unfocus0 hw_; clear hw_; (try simp only [List.map_cons, List.map_nil, List.getD_cons_zero, List.getD_cons_succ, List.getD_nil, List.set_cons_zero, List.set_cons_succ, List.cons_append, List.nil_append, Act.eval, Array.getD_eq_getD_getElem?, List.getElem?_toArray, List.getElem?_cons_succ, List.getElem?_cons_zero, Option.getD_some, Value.cells] at hw); (try simp (disch := first | (simp; done) | (simp; omega)) only [Sep.mid_set, Sep.mid_set2, Sep.mid_set0, Sep.mid_splice, Sep.mid_splice0, List.set_cons_zero, List.set_cons_succ] at hw); (try simp only [Sep.splice, List.take_succ_cons, List.take_zero, List.drop_succ_cons, List.drop_zero, List.length_cons, List.length_nil, Nat.reduceAdd, List.cons_append, List.nil_append] at hw)
  have Hl2 := Sep.hid hl2; clear hl2
  go_wp2_with (first | (refine wpList_on rfl (wp_alloc rfl hw ?_); intro b4_ w_ hw_; clear hw; have hw := hw_; clear hw_; (try simp only [List.map_cons, List.map_nil, List.getD_cons_zero, List.getD_cons_succ, List.getD_nil, List.set_cons_zero, List.set_cons_succ, List.cons_append, List.nil_append, Act.eval, Array.getD_eq_getD_getElem?, List.getElem?_toArray, List.getElem?_cons_succ, List.getElem?_cons_zero, Option.getD_some, Value.cells] at hw); (try simp (disch := first | (simp; done) | (simp; omega)) only [Sep.mid_set, Sep.mid_set2, Sep.mid_set0, Sep.mid_splice, Sep.mid_splice0, List.set_cons_zero, List.set_cons_succ] at hw); (try simp only [Sep.splice, List.take_succ_cons, List.take_zero, List.drop_succ_cons, List.drop_zero, List.length_cons, List.length_nil, Nat.reduceAdd, List.cons_append, List.nil_append] at hw); (try replace hc0 := Sep.Holds.cells hw (i := 0) rfl); (try replace hc1 := Sep.Holds.cells hw (i := 1) rfl); (try replace hc2 := Sep.Holds.cells hw (i := 2) rfl); (try replace hc3 := Sep.Holds.cells hw (i := 3) rfl); (try replace hc4 := Sep.Holds.cells hw (i := 4) rfl); (try replace hc5 := Sep.Holds.cells hw (i := 5) rfl); (try replace hc6 := Sep.Holds.cells hw (i := 6) rfl)) | (refine wpList_on rfl (wp_storeAll (vs := [.int .i64 5, .int .i64 0, .int .i64 0, .int .i64 258, .slice pa2 1 pc2, .slice ia2 1 ic2]) rfl rfl (by rfl) hw (i := 7) rfl rfl rfl (by simp [Value.oneCell']) ?_); intro w_ hw_; clear hw; have hw := hw_; clear hw_; (try simp only [List.map_cons, List.map_nil, List.getD_cons_zero, List.getD_cons_succ, List.getD_nil, List.set_cons_zero, List.set_cons_succ, List.cons_append, List.nil_append, Act.eval, Array.getD_eq_getD_getElem?, List.getElem?_toArray, List.getElem?_cons_succ, List.getElem?_cons_zero, Option.getD_some, Value.cells] at hw); (try simp (disch := first | (simp; done) | (simp; omega)) only [Sep.mid_set, Sep.mid_set2, Sep.mid_set0, Sep.mid_splice, Sep.mid_splice0, List.set_cons_zero, List.set_cons_succ] at hw); (try simp only [Sep.splice, List.take_succ_cons, List.take_zero, List.drop_succ_cons, List.drop_zero, List.length_cons, List.length_nil, Nat.reduceAdd, List.cons_append, List.nil_append] at hw); (try replace hc0 := Sep.Holds.cells hw (i := 0) rfl); (try replace hc1 := Sep.Holds.cells hw (i := 1) rfl); (try replace hc2 := Sep.Holds.cells hw (i := 2) rfl); (try replace hc3 := Sep.Holds.cells hw (i := 3) rfl); (try replace hc4 := Sep.Holds.cells hw (i := 4) rfl); (try replace hc5 := Sep.Holds.cells hw (i := 5) rfl); (try replace hc6 := Sep.Holds.cells hw (i := 6) rfl)))
  have hr1 := oReadS (b17.take 32) 32 k1 a1 (Sep.hid rfl) (by omega) (bys_b17.take 32) e _ _ HT.out.sep ((HRB.out.take 32).at 4 rfl) hw.focus0
  rw [read_32] at hr1
  refine hr1.mono ?_
  clear hr1
  rintro _ w_ ⟨pa3, pc3, ia3, ic3, hs3, _, rfl, hw_⟩
  have hsv : scrV (scr0, (8 : Int)).1 pa3 pc3 ia3 ic3 = [.int .i64 0, .int .i64 0, .int .i64 0, .int .i64 0, .slice pa3 0 pc3, .slice ia3 0 ic3] := rfl
  rw [hsv]; clear hsv
  clear hw; (try clear hc0); (try clear hc1); (try clear hc2); (try clear hc3); (try clear hc4); (try clear hc5); (try clear hc6); have hw := Holds.unfocus0 hw_; clear hw_; (try simp only [List.map_cons, List.map_nil, List.getD_cons_zero, List.getD_cons_succ, List.getD_nil, List.set_cons_zero, List.set_cons_succ, List.cons_append, List.nil_append, Act.eval, Array.getD_eq_getD_getElem?, List.getElem?_toArray, List.getElem?_cons_succ, List.getElem?_cons_zero, Option.getD_some, Value.cells] at hw); (try simp (disch := first | (simp; done) | (simp; omega)) only [Sep.mid_set, Sep.mid_set2, Sep.mid_set0, Sep.mid_splice, Sep.mid_splice0, List.set_cons_zero, List.set_cons_succ] at hw); (try simp only [Sep.splice, List.take_succ_cons, List.take_zero, List.drop_succ_cons, List.drop_zero, List.length_cons, List.length_nil, Nat.reduceAdd, List.cons_append, List.nil_append] at hw)
  have hw := hw.sel [0, 1, 2, 3, 4, 5, 6, 7] (by decide)
  (try simp only [List.map_cons, List.map_nil, List.getD_cons_zero, List.getD_cons_succ, List.getD_nil, List.set_cons_zero, List.set_cons_succ, List.cons_append, List.nil_append, Act.eval, Array.getD_eq_getD_getElem?, List.getElem?_toArray, List.getElem?_cons_succ, List.getElem?_cons_zero, Option.getD_some, Value.cells] at hw); (try simp (disch := first | (simp; done) | (simp; omega)) only [Sep.mid_set, Sep.mid_set2, Sep.mid_set0, Sep.mid_splice, Sep.mid_splice0, List.set_cons_zero, List.set_cons_succ] at hw); (try simp only [Sep.splice, List.take_succ_cons, List.take_zero, List.drop_succ_cons, List.drop_zero, List.length_cons, List.length_nil, Nat.reduceAdd, List.cons_append, List.nil_append] at hw)
  go_wp2_with (first | (refine wpList_on rfl (wp_alloc rfl hw ?_); intro b6_ w_ hw_; clear hw; have hw := hw_; clear hw_; (try simp only [List.map_cons, List.map_nil, List.getD_cons_zero, List.getD_cons_succ, List.getD_nil, List.set_cons_zero, List.set_cons_succ, List.cons_append, List.nil_append, Act.eval, Array.getD_eq_getD_getElem?, List.getElem?_toArray, List.getElem?_cons_succ, List.getElem?_cons_zero, Option.getD_some, Value.cells] at hw); (try simp (disch := first | (simp; done) | (simp; omega)) only [Sep.mid_set, Sep.mid_set2, Sep.mid_set0, Sep.mid_splice, Sep.mid_splice0, List.set_cons_zero, List.set_cons_succ] at hw); (try simp only [Sep.splice, List.take_succ_cons, List.take_zero, List.drop_succ_cons, List.drop_zero, List.length_cons, List.length_nil, Nat.reduceAdd, List.cons_append, List.nil_append] at hw); (try replace hc0 := Sep.Holds.cells hw (i := 0) rfl); (try replace hc1 := Sep.Holds.cells hw (i := 1) rfl); (try replace hc2 := Sep.Holds.cells hw (i := 2) rfl); (try replace hc3 := Sep.Holds.cells hw (i := 3) rfl); (try replace hc4 := Sep.Holds.cells hw (i := 4) rfl); (try replace hc5 := Sep.Holds.cells hw (i := 5) rfl); (try replace hc6 := Sep.Holds.cells hw (i := 6) rfl)) | (refine wpList_on rfl (wp_storeAll (vs := [.int .i64 0, .int .i64 0, .int .i64 0, .int .i64 0, .slice pa3 0 pc3, .slice ia3 0 ic3]) rfl rfl (by rfl) hw (i := 8) rfl rfl rfl (by simp [Value.oneCell']) ?_); intro w_ hw_; clear hw; have hw := hw_; clear hw_; (try simp only [List.map_cons, List.map_nil, List.getD_cons_zero, List.getD_cons_succ, List.getD_nil, List.set_cons_zero, List.set_cons_succ, List.cons_append, List.nil_append, Act.eval, Array.getD_eq_getD_getElem?, List.getElem?_toArray, List.getElem?_cons_succ, List.getElem?_cons_zero, Option.getD_some, Value.cells] at hw); (try simp (disch := first | (simp; done) | (simp; omega)) only [Sep.mid_set, Sep.mid_set2, Sep.mid_set0, Sep.mid_splice, Sep.mid_splice0, List.set_cons_zero, List.set_cons_succ] at hw); (try simp only [Sep.splice, List.take_succ_cons, List.take_zero, List.drop_succ_cons, List.drop_zero, List.length_cons, List.length_nil, Nat.reduceAdd, List.cons_append, List.nil_append] at hw); (try replace hc0 := Sep.Holds.cells hw (i := 0) rfl); (try replace hc1 := Sep.Holds.cells hw (i := 1) rfl); (try replace hc2 := Sep.Holds.cells hw (i := 2) rfl); (try replace hc3 := Sep.Holds.cells hw (i := 3) rfl); (try replace hc4 := Sep.Holds.cells hw (i := 4) rfl); (try replace hc5 := Sep.Holds.cells hw (i := 5) rfl); (try replace hc6 := Sep.Holds.cells hw (i := 6) rfl)))
  refine (oBytesS_no scr0 small_scr0 [] none none 0 0 e _ _ HT.out.sep (fun k p h => by cases h) (fun _ _ _ _ _ k x h => by cases h) may_scr0 hw.focus0).mono ?_
  rintro _ w_ ⟨rfl, hw_⟩
  clear hw; (try clear hc0); (try clear hc1); (try clear hc2); (try clear hc3); (try clear hc4); (try clear hc5); (try clear hc6); have hw := Holds.unfocus0 hw_; clear hw_; (try simp only [List.map_cons, List.map_nil, List.getD_cons_zero, List.getD_cons_succ, List.getD_nil, List.set_cons_zero, List.set_cons_succ, List.cons_append, List.nil_append, Act.eval, Array.getD_eq_getD_getElem?, List.getElem?_toArray, List.getElem?_cons_succ, List.getElem?_cons_zero, Option.getD_some, Value.cells] at hw); (try simp (disch := first | (simp; done) | (simp; omega)) only [Sep.mid_set, Sep.mid_set2, Sep.mid_set0, Sep.mid_splice, Sep.mid_splice0, List.set_cons_zero, List.set_cons_succ] at hw); (try simp only [Sep.splice, List.take_succ_cons, List.take_zero, List.drop_succ_cons, List.drop_zero, List.length_cons, List.length_nil, Nat.reduceAdd, List.cons_append, List.nil_append] at hw)
  go_wp2_with fail
  obtain ⟨p1, rfl⟩ : ∃ p1, a1 = some p1 := by
    obtain ⟨p1, hp1, _⟩ := HRB.out.at 4 rfl _ _ 0 hw.focus0 rfl 0 0 rfl
    exact ⟨p1, hp1⟩
  have l45 : ¬ k1 = 45 := by omega
  have HP2 := Sep.hid (rdP (TP := 57) (TA := 56) (e := e) (a := pa2) (c := pc2) (hs := hs2) (ps := s0.ps) Hl2.out)
  have HI2 := Sep.hid (rdT (T := 23) (e := e) (n := 1) (ca := ic2) (a := ia2) (l := s0.is))
  refine wp_region_L [10, 11, 15, 17, 18, 34, 38, 42, 48] [(14, (fun w' => Holds e w' [pt b1_ [.int .i64 5, .int .i64 0, .int .i64 0, .int .i64 258, .slice (some ⟨bB_, 0, none⟩) 1 1, .slice (some ⟨bC_, 0, none⟩) 1 1] 28, pt b4_ [.int .i64 5, .int .i64 0, .int .i64 0, .int .i64 258, .slice pa2 1 pc2, .slice ia2 1 ic2] 28])), (16, (fun w' => Holds e w' [pt b1_ [.int .i64 5, .int .i64 0, .int .i64 0, .int .i64 258, .slice (some ⟨bB_, 0, none⟩) 1 1, .slice (some ⟨bC_, 0, none⟩) 1 1] 28, pt b4_ [.int .i64 5, .int .i64 0, .int .i64 0, .int .i64 258, .slice pa2 1 pc2, .slice ia2 1 ic2] 28])), (33, (fun w' => Holds e w' [pt b1_ [.int .i64 5, .int .i64 0, .int .i64 0, .int .i64 258, .slice (some ⟨bB_, 0, none⟩) 1 1, .slice (some ⟨bC_, 0, none⟩) 1 1] 28, pt b4_ [.int .i64 5, .int .i64 0, .int .i64 0, .int .i64 258, .slice pa2 1 pc2, .slice ia2 1 ic2] 28])), (46, (fun w' => Holds e w' [pt b1_ [.int .i64 5, .int .i64 0, .int .i64 0, .int .i64 258, .slice (some ⟨bB_, 0, none⟩) 1 1, .slice (some ⟨bC_, 0, none⟩) 1 1] 28, pt b4_ [.int .i64 5, .int .i64 0, .int .i64 0, .int .i64 258, .slice pa2 1 pc2, .slice ia2 1 ic2] 28])), (47, (fun w' => Holds e w' [pt b1_ [.int .i64 5, .int .i64 0, .int .i64 0, .int .i64 258, .slice (some ⟨bB_, 0, none⟩) 1 1, .slice (some ⟨bC_, 0, none⟩) 1 1] 28, pt b4_ [.int .i64 5, .int .i64 0, .int .i64 0, .int .i64 258, .slice pa2 1 pc2, .slice ia2 1 ic2] 28]))] (n := 51) (listed := (marks 51 0)) (by kernel_rfl) rfl (by kernel_rfl) ?conds1 ?_
  case conds1 =>
   intro c hc
   simp only [List.mem_cons, List.not_mem_nil, or_false] at hc
   rcases hc with rfl | rfl | rfl | rfl | rfl
   · exact (by replace hw := hw.drew; exact hw.sel [3, 7] (by decide))
   · exact (by replace hw := hw.drew; exact hw.sel [3, 7] (by decide))
   · exact (by replace hw := hw.drew; exact hw.sel [3, 7] (by decide))
   · exact (by replace hw := hw.drew; exact hw.sel [3, 7] (by decide))
   · exact (by replace hw := hw.drew; exact hw.sel [3, 7] (by decide))
  replace hw := hw.drew
  (try replace hc0 := Sep.Holds.cells hw (i := 0) rfl); (try replace hc1 := Sep.Holds.cells hw (i := 1) rfl); (try replace hc2 := Sep.Holds.cells hw (i := 2) rfl); (try replace hc3 := Sep.Holds.cells hw (i := 3) rfl); (try replace hc4 := Sep.Holds.cells hw (i := 4) rfl); (try replace hc5 := Sep.Holds.cells hw (i := 5) rfl); (try replace hc6 := Sep.Holds.cells hw (i := 6) rfl)
  refine wpL_q 0 ?_ rfl (Or.inl ⟨by rfl, fun w_ hS_ => ?_⟩) (marks 51 1) ?_
  rotate_left
  next => (go_simp; try (first | rfl | exact (Bool.not_not _).symm))
  try simp only [Act.put, List.setIfInBounds_toArray, List.set_cons_zero, List.set_cons_succ]
  refine wpL_q 1 ?_ rfl (Or.inl ⟨by rfl, fun w_ hS_ => ?_⟩) (marks 51 3) ?_
  rotate_left
  next => (go_simp; try (first | rfl | exact (Bool.not_not _).symm))
  try simp only [Act.put, List.setIfInBounds_toArray, List.set_cons_zero, List.set_cons_succ]
  refine wpL_q 2 ?_ rfl (Or.inl ⟨by rfl, fun w_ hS_ => ?_⟩) (marks 51 7) ?_
  rotate_left
  next => (go_simp; try (first | rfl | exact (Bool.not_not _).symm))
  try simp only [Act.put, List.setIfInBounds_toArray, List.set_cons_zero, List.set_cons_succ]
  refine wpL_b 3 ?_ rfl (Or.inl ⟨by rfl, fun w_ hS_ => ?_⟩) (marks 51 15) ?_
  rotate_left
  next => (go_simp; try (first | rfl | exact (Bool.not_not _).symm))
  intro bb_ hg3
  cases bb_
  case' true =>
   (try simp only [decide_eq_true_eq, decide_eq_false_iff_not, beq_iff_eq, beq_eq_false_iff_ne, bne_iff_ne, bne_eq_false_iff_eq, Bool.not_eq_true', Bool.not_eq_false', Int.not_lt, Int.not_le] at hg3)
   first | (cases hg3; done) | (exfalso; omega; done) | skip
   all_goals
    try replace hg3 := Sep.hid hg3
    try simp only [Act.put, List.setIfInBounds_toArray, List.set_cons_zero, List.set_cons_succ]
    refine wpL_q 4 ?_ rfl (Or.inl ⟨by rfl, fun w_ hS_ => ?_⟩) (marks 51 31) ?_
    rotate_left
    next => (go_simp; try (first | rfl | exact (Bool.not_not _).symm))
    try simp only [Act.put, List.setIfInBounds_toArray, List.set_cons_zero, List.set_cons_succ]
    refine wpL_q 5 ?_ rfl (Or.inl ⟨by rfl, fun w_ hS_ => ?_⟩) (marks 51 63) ?_
    rotate_left
    next => (go_simp; try (first | rfl | exact (Bool.not_not _).symm))
    try simp only [Act.put, List.setIfInBounds_toArray, List.set_cons_zero, List.set_cons_succ]
  case' false =>
   (try simp only [decide_eq_true_eq, decide_eq_false_iff_not, beq_iff_eq, beq_eq_false_iff_ne, bne_iff_ne, bne_eq_false_iff_eq, Bool.not_eq_true', Bool.not_eq_false', Int.not_lt, Int.not_le] at hg3)
   first | (cases hg3; done) | (exfalso; omega; done) | skip
   all_goals
    try replace hg3 := Sep.hid hg3
    try simp only [Act.put, List.setIfInBounds_toArray, List.set_cons_zero, List.set_cons_succ]
    refine wpL_q 4 undef rfl (Or.inr ⟨by rfl, rfl⟩) (marks 51 31) ?_
    try simp only [Act.put, List.setIfInBounds_toArray, List.set_cons_zero, List.set_cons_succ]
    refine wpL_q 5 undef rfl (Or.inr ⟨by rfl, rfl⟩) (marks 51 63) ?_
    try simp only [Act.put, List.setIfInBounds_toArray, List.set_cons_zero, List.set_cons_succ]
  all_goals
   refine wpL_q 6 ?_ rfl (Or.inl ⟨by rfl, fun w_ hS_ => ?_⟩) (marks 51 127) ?_
   rotate_left
   next => (go_simp; try (first | rfl | exact (Bool.not_not _).symm))
   try simp only [Act.put, List.setIfInBounds_toArray, List.set_cons_zero, List.set_cons_succ]
   refine wpL_b 7 ?_ rfl (Or.inl ⟨by rfl, fun w_ hS_ => ?_⟩) (marks 51 255) ?_
   rotate_left
   next => (go_simp; try (first | rfl | exact (Bool.not_not _).symm))
   intro bb_ hg7
   cases bb_
   case' true =>
    (try simp only [decide_eq_true_eq, decide_eq_false_iff_not, beq_iff_eq, beq_eq_false_iff_ne, bne_iff_ne, bne_eq_false_iff_eq, Bool.not_eq_true', Bool.not_eq_false', Int.not_lt, Int.not_le] at hg7)
    first | (cases hg7; done) | (exfalso; omega; done) | skip
    all_goals
     try replace hg7 := Sep.hid hg7
     try simp only [Act.put, List.setIfInBounds_toArray, List.set_cons_zero, List.set_cons_succ]
     refine wpL_q 8 ?_ rfl (Or.inl ⟨by rfl, fun w_ hS_ => ?_⟩) (marks 51 511) ?_
     rotate_left
     next => (go_simp; try (first | rfl | exact (Bool.not_not _).symm))
     try simp only [Act.put, List.setIfInBounds_toArray, List.set_cons_zero, List.set_cons_succ]
     refine wpL_q 9 ?_ rfl (Or.inl ⟨by rfl, fun w_ hS_ => ?_⟩) (marks 51 1023) ?_
     rotate_left
     next => (go_simp; try (first | rfl | exact (Bool.not_not _).symm))
     try simp only [Act.put, List.setIfInBounds_toArray, List.set_cons_zero, List.set_cons_succ]
     refine wpL_o 10 rfl (by rfl) (marks 51 2047) ?_
     (refine wp_buildSlice [.int .u8 2, .int .u8 0, .int .u8 0, .int .u8 0, .int .u8 0, .int .u8 0, .int .u8 0, .int .u8 0, .int .u8 1, .int .u8 2] rfl hw (by decide) (by go_simp) rfl ?_; intro bq_ w_ hw_; replace hw_ := hw_.newSl (i := 9) rfl 1 10 rfl (by decide); clear hw; have hw := hw_; clear hw_; (try simp only [List.map_cons, List.map_nil, List.getD_cons_zero, List.getD_cons_succ, List.getD_nil, List.set_cons_zero, List.set_cons_succ, List.cons_append, List.nil_append, Act.eval, Array.getD_eq_getD_getElem?, List.getElem?_toArray, List.getElem?_cons_succ, List.getElem?_cons_zero, Option.getD_some, Value.cells] at hw); (try simp (disch := first | (simp; done) | (simp; omega)) only [Sep.mid_set, Sep.mid_set2, Sep.mid_set0, Sep.mid_splice, Sep.mid_splice0, List.set_cons_zero, List.set_cons_succ] at hw); (try simp only [Sep.splice, List.take_succ_cons, List.take_zero, List.drop_succ_cons, List.drop_zero, List.length_cons, List.length_nil, Nat.reduceAdd, List.cons_append, List.nil_append] at hw); (try replace hc0 := Sep.Holds.cells hw (i := 0) rfl); (try replace hc1 := Sep.Holds.cells hw (i := 1) rfl); (try replace hc2 := Sep.Holds.cells hw (i := 2) rfl); (try replace hc3 := Sep.Holds.cells hw (i := 3) rfl); (try replace hc4 := Sep.Holds.cells hw (i := 4) rfl); (try replace hc5 := Sep.Holds.cells hw (i := 5) rfl); (try replace hc6 := Sep.Holds.cells hw (i := 6) rfl))
     refine ⟨(SL.keep (by exact hw.sel [3, 7] (by decide)) (SL.keep (by exact hw.sel [3, 7] (by decide)) (SL.keep (by exact hw.sel [3, 7] (by decide)) (SL.keep (by exact hw.sel [3, 7] (by decide)) (SL.keep (by exact hw.sel [3, 7] (by decide)) SL.nil))))), ?_⟩
     try simp only [Act.put, List.setIfInBounds_toArray, List.set_cons_zero, List.set_cons_succ]
     refine wpL_o 11 rfl (by rfl) (marks 51 4095) ?_
     (go_simp; go_at_call 17; refine (sameB (some ⟨p1.block, p1.off + 45, none⟩) (some ⟨bq_, 0, none⟩) (b17.drop 45) (b17.drop 45) 10 10 (k1 - 45) 10 rfl rfl (by decide) _ (rd_from (i := 4) HRB.out hw rfl 45) (readsB (i := 9) hw rfl)).mono ?_; rintro _ w_ ⟨rfl, hd_⟩; replace hw := hw.drewTo hd_; clear hd_; rw [decide_eq_true rfl])
     refine ⟨(SL.keep (by exact hw.sel [3, 7] (by decide)) (SL.keep (by exact hw.sel [3, 7] (by decide)) (SL.keep (by exact hw.sel [3, 7] (by decide)) (SL.keep (by exact hw.sel [3, 7] (by decide)) (SL.keep (by exact hw.sel [3, 7] (by decide)) SL.nil))))), ?_⟩
     try simp only [Act.put, List.setIfInBounds_toArray, List.set_cons_zero, List.set_cons_succ]
   case' false =>
    (try simp only [decide_eq_true_eq, decide_eq_false_iff_not, beq_iff_eq, beq_eq_false_iff_ne, bne_iff_ne, bne_eq_false_iff_eq, Bool.not_eq_true', Bool.not_eq_false', Int.not_lt, Int.not_le] at hg7)
    first | (cases hg7; done) | (exfalso; omega; done) | skip
    all_goals
     try replace hg7 := Sep.hid hg7
     try simp only [Act.put, List.setIfInBounds_toArray, List.set_cons_zero, List.set_cons_succ]
     refine wpL_q 8 undef rfl (Or.inr ⟨by rfl, rfl⟩) (marks 51 511) ?_
     try simp only [Act.put, List.setIfInBounds_toArray, List.set_cons_zero, List.set_cons_succ]
     refine wpL_q 9 undef rfl (Or.inr ⟨by rfl, rfl⟩) (marks 51 1023) ?_
     try simp only [Act.put, List.setIfInBounds_toArray, List.set_cons_zero, List.set_cons_succ]
     refine wpL_s 10 rfl (by rfl) (marks 51 2047) ?_
     try simp only [Act.put, List.setIfInBounds_toArray, List.set_cons_zero, List.set_cons_succ]
     refine wpL_s 11 rfl (by rfl) (marks 51 4095) ?_
     try simp only [Act.put, List.setIfInBounds_toArray, List.set_cons_zero, List.set_cons_succ]
   all_goals
    refine wpL_q 12 ?_ rfl (Or.inl ⟨by rfl, fun w_ hS_ => ?_⟩) (marks 51 8191) ?_
    rotate_left
    next => (go_simp; try (first | rfl | exact (Bool.not_not _).symm))
    try simp only [Act.put, List.setIfInBounds_toArray, List.set_cons_zero, List.set_cons_succ]
    refine wpL_b 13 ?_ rfl (Or.inl ⟨by rfl, fun w_ hS_ => ?_⟩) (marks 51 16383) ?_
    rotate_left
    next => (go_simp; try (first | rfl | exact (Bool.not_not _).symm))
    intro bb_ hg13
    cases bb_
    case' true =>
     (try simp only [decide_eq_true_eq, decide_eq_false_iff_not, beq_iff_eq, beq_eq_false_iff_ne, bne_iff_ne, bne_eq_false_iff_eq, Bool.not_eq_true', Bool.not_eq_false', Int.not_lt, Int.not_le] at hg13)
     first | (cases hg13; done) | (exfalso; omega; done) | skip
     all_goals
      try replace hg13 := Sep.hid hg13
      try simp only [Act.put, List.setIfInBounds_toArray, List.set_cons_zero, List.set_cons_succ]
      refine wpL_m 14 ?_ rfl (.head _) (Or.inl ⟨by rfl, fun w_ hS_ => ?_⟩) (marks 51 32767) ?_
      rotate_left
      next => (dsimp only at hS_; (try have q0 := Sep.Holds.cells hS_ (i := 0) rfl); (try have q1 := Sep.Holds.cells hS_ (i := 1) rfl); (try have q2 := Sep.Holds.cells hS_ (i := 2) rfl); (try have q3 := Sep.Holds.cells hS_ (i := 3) rfl); (try have q4 := Sep.Holds.cells hS_ (i := 4) rfl); (try have q5 := Sep.Holds.cells hS_ (i := 5) rfl); (try have q6 := Sep.Holds.cells hS_ (i := 6) rfl); go_simp; try (first | rfl | exact (Bool.not_not _).symm))
      try simp only [Act.put, List.setIfInBounds_toArray, List.set_cons_zero, List.set_cons_succ]
      refine wpL_m 16 ?_ rfl (.tail _ (.head _)) (Or.inl ⟨by rfl, fun w_ hS_ => ?_⟩) (marks 51 98303) ?_
      rotate_left
      next => (dsimp only at hS_; (try have q0 := Sep.Holds.cells hS_ (i := 0) rfl); (try have q1 := Sep.Holds.cells hS_ (i := 1) rfl); (try have q2 := Sep.Holds.cells hS_ (i := 2) rfl); (try have q3 := Sep.Holds.cells hS_ (i := 3) rfl); (try have q4 := Sep.Holds.cells hS_ (i := 4) rfl); (try have q5 := Sep.Holds.cells hS_ (i := 5) rfl); (try have q6 := Sep.Holds.cells hS_ (i := 6) rfl); go_simp; try (first | rfl | exact (Bool.not_not _).symm))
      try simp only [Act.put, List.setIfInBounds_toArray, List.set_cons_zero, List.set_cons_succ]
      refine wpL_o 15 rfl (by rfl) (marks 51 131071) ?_
      (go_simp; go_at_call 10; refine (own17 s0 small_s0 hs2 pa2 ia2 pc2 ic2 e _ _ (HP2.out.at 5 rfl) (HI2.out.at 6 rfl) hw.focus0).mono ?_; rintro _ w_ ⟨pa7, pc7, ia7, ic7, hs7, hl7, rfl, hw_⟩; rw [show scrV s0 pa7 pc7 ia7 ic7 = [.int .i64 5, .int .i64 0, .int .i64 0, .int .i64 258, .slice pa7 1 pc7, .slice ia7 1 ic7] from rfl]; clear hw; have hw := Holds.unfocus0 hw_; clear hw_; have Hl7 := Sep.hid hl7; clear hl7; (try simp only [List.map_cons, List.map_nil, List.getD_cons_zero, List.getD_cons_succ, List.getD_nil, List.set_cons_zero, List.set_cons_succ, List.cons_append, List.nil_append, Act.eval, Array.getD_eq_getD_getElem?, List.getElem?_toArray, List.getElem?_cons_succ, List.getElem?_cons_zero, Option.getD_some, Value.cells] at hw); (try simp (disch := first | (simp; done) | (simp; omega)) only [Sep.mid_set, Sep.mid_set2, Sep.mid_set0, Sep.mid_splice, Sep.mid_splice0, List.set_cons_zero, List.set_cons_succ] at hw); (try simp only [Sep.splice, List.take_succ_cons, List.take_zero, List.drop_succ_cons, List.drop_zero, List.length_cons, List.length_nil, Nat.reduceAdd, List.cons_append, List.nil_append] at hw))
      refine ⟨(SL.drop 15 (by kernel_rfl) (SL.keep (by exact hw.sel [3, 7] (by decide)) (SL.keep (by exact hw.sel [3, 7] (by decide)) (SL.keep (by exact hw.sel [3, 7] (by decide)) (SL.keep (by exact hw.sel [3, 7] (by decide)) SL.nil))))), ?_⟩
      try simp only [Act.put, List.setIfInBounds_toArray, List.set_cons_zero, List.set_cons_succ]
      refine wpL_o 17 rfl (by rfl) (marks 51 262143) ?_
      (go_simp; go_at_call 10; refine (own17 s0 small_s0 _ (some ⟨bB_, 0, none⟩) (some ⟨bC_, 0, none⟩) 1 1 e _ _ (HP0.out.at 1 rfl) (HI0.out.at 2 rfl) hw.focus0).mono ?_; rintro _ w_ ⟨pa8, pc8, ia8, ic8, hs8, hl8, rfl, hw_⟩; rw [show scrV s0 pa8 pc8 ia8 ic8 = [.int .i64 5, .int .i64 0, .int .i64 0, .int .i64 258, .slice pa8 1 pc8, .slice ia8 1 ic8] from rfl]; clear hw; have hw := Holds.unfocus0 hw_; clear hw_; have Hl8 := Sep.hid hl8; clear hl8; (try simp only [List.map_cons, List.map_nil, List.getD_cons_zero, List.getD_cons_succ, List.getD_nil, List.set_cons_zero, List.set_cons_succ, List.cons_append, List.nil_append, Act.eval, Array.getD_eq_getD_getElem?, List.getElem?_toArray, List.getElem?_cons_succ, List.getElem?_cons_zero, Option.getD_some, Value.cells] at hw); (try simp (disch := first | (simp; done) | (simp; omega)) only [Sep.mid_set, Sep.mid_set2, Sep.mid_set0, Sep.mid_splice, Sep.mid_splice0, List.set_cons_zero, List.set_cons_succ] at hw); (try simp only [Sep.splice, List.take_succ_cons, List.take_zero, List.drop_succ_cons, List.drop_zero, List.length_cons, List.length_nil, Nat.reduceAdd, List.cons_append, List.nil_append] at hw))
      refine ⟨(SL.drop 15 (by kernel_rfl) (SL.drop 17 (by kernel_rfl) (SL.keep (by exact hw.sel [3, 7] (by decide)) (SL.keep (by exact hw.sel [3, 7] (by decide)) (SL.keep (by exact hw.sel [3, 7] (by decide)) SL.nil))))), ?_⟩
      try simp only [Act.put, List.setIfInBounds_toArray, List.set_cons_zero, List.set_cons_succ]
      refine wpL_o 18 rfl (by rfl) (marks 51 524287) ?_
      (go_simp; go_at_call 18; refine (rSameS s0 s0 small_s0 small_s0 hs7 hs8 pa7 pa8 ia7 ia8 pc7 ic7 pc8 ic8 e _ _ ((rdP Hl7.out).at 10 rfl) ((rdP Hl8.out).at 12 rfl) (rdT.at 11 rfl) (rdT.at 13 rfl) hw.focus0).mono ?_; rintro _ w_ ⟨rfl, hw_⟩; rw [decide_eq_true rfl]; clear hw; have hw := Holds.unfocus0 hw_; clear hw_; (try simp only [List.map_cons, List.map_nil, List.getD_cons_zero, List.getD_cons_succ, List.getD_nil, List.set_cons_zero, List.set_cons_succ, List.cons_append, List.nil_append, Act.eval, Array.getD_eq_getD_getElem?, List.getElem?_toArray, List.getElem?_cons_succ, List.getElem?_cons_zero, Option.getD_some, Value.cells] at hw); (try simp (disch := first | (simp; done) | (simp; omega)) only [Sep.mid_set, Sep.mid_set2, Sep.mid_set0, Sep.mid_splice, Sep.mid_splice0, List.set_cons_zero, List.set_cons_succ] at hw); (try simp only [Sep.splice, List.take_succ_cons, List.take_zero, List.drop_succ_cons, List.drop_zero, List.length_cons, List.length_nil, Nat.reduceAdd, List.cons_append, List.nil_append] at hw))
      refine ⟨(SL.drop 15 (by kernel_rfl) (SL.drop 17 (by kernel_rfl) (SL.keep (by exact hw.sel [3, 7] (by decide)) (SL.keep (by exact hw.sel [3, 7] (by decide)) (SL.keep (by exact hw.sel [3, 7] (by decide)) SL.nil))))), ?_⟩
      try simp only [Act.put, List.setIfInBounds_toArray, List.set_cons_zero, List.set_cons_succ]
    case' false =>
     (try simp only [decide_eq_true_eq, decide_eq_false_iff_not, beq_iff_eq, beq_eq_false_iff_ne, bne_iff_ne, bne_eq_false_iff_eq, Bool.not_eq_true', Bool.not_eq_false', Int.not_lt, Int.not_le] at hg13)
     first | (cases hg13; done) | (exfalso; omega; done) | skip
     all_goals
      try replace hg13 := Sep.hid hg13
      try simp only [Act.put, List.setIfInBounds_toArray, List.set_cons_zero, List.set_cons_succ]
      refine wpL_m 14 undef rfl (.head _) (Or.inr ⟨by rfl, rfl⟩) (marks 51 32767) ?_
      try simp only [Act.put, List.setIfInBounds_toArray, List.set_cons_zero, List.set_cons_succ]
      refine wpL_m 16 undef rfl (.tail _ (.head _)) (Or.inr ⟨by rfl, rfl⟩) (marks 51 98303) ?_
      try simp only [Act.put, List.setIfInBounds_toArray, List.set_cons_zero, List.set_cons_succ]
      refine wpL_s 15 rfl (by rfl) (marks 51 131071) ?_
      try simp only [Act.put, List.setIfInBounds_toArray, List.set_cons_zero, List.set_cons_succ]
      refine wpL_s 17 rfl (by rfl) (marks 51 262143) ?_
      try simp only [Act.put, List.setIfInBounds_toArray, List.set_cons_zero, List.set_cons_succ]
      refine wpL_s 18 rfl (by rfl) (marks 51 524287) ?_
      try simp only [Act.put, List.setIfInBounds_toArray, List.set_cons_zero, List.set_cons_succ]
    all_goals
     refine wpL_q 19 ?_ rfl (Or.inl ⟨by rfl, fun w_ hS_ => ?_⟩) (marks 51 1048575) ?_
     rotate_left
     next => (go_simp; try (first | rfl | exact (Bool.not_not _).symm))
     try simp only [Act.put, List.setIfInBounds_toArray, List.set_cons_zero, List.set_cons_succ]
     refine wpL_b 20 ?_ rfl (Or.inl ⟨by rfl, fun w_ hS_ => ?_⟩) (marks 51 2097151) ?_
     rotate_left
     next => (go_simp; try (first | rfl | exact (Bool.not_not _).symm))
     intro bb_ hg20
     cases bb_
     case' true =>
      (try simp only [decide_eq_true_eq, decide_eq_false_iff_not, beq_iff_eq, beq_eq_false_iff_ne, bne_iff_ne, bne_eq_false_iff_eq, Bool.not_eq_true', Bool.not_eq_false', Int.not_lt, Int.not_le] at hg20)
      first | (cases hg20; done) | (exfalso; omega; done) | skip
      all_goals
       try replace hg20 := Sep.hid hg20
       try simp only [Act.put, List.setIfInBounds_toArray, List.set_cons_zero, List.set_cons_succ]
       refine wpL_q 21 ?_ rfl (Or.inl ⟨by rfl, fun w_ hS_ => ?_⟩) (marks 51 4194303) ?_
       rotate_left
       next => (go_simp; try (first | rfl | exact (Bool.not_not _).symm))
       try simp only [Act.put, List.setIfInBounds_toArray, List.set_cons_zero, List.set_cons_succ]
       refine wpL_q 22 ?_ rfl (Or.inl ⟨by rfl, fun w_ hS_ => ?_⟩) (marks 51 8388607) ?_
       rotate_left
       next => (go_simp; try (first | rfl | exact (Bool.not_not _).symm))
       try simp only [Act.put, List.setIfInBounds_toArray, List.set_cons_zero, List.set_cons_succ]
     case' false =>
      (try simp only [decide_eq_true_eq, decide_eq_false_iff_not, beq_iff_eq, beq_eq_false_iff_ne, bne_iff_ne, bne_eq_false_iff_eq, Bool.not_eq_true', Bool.not_eq_false', Int.not_lt, Int.not_le] at hg20)
      first | (cases hg20; done) | (exfalso; omega; done) | skip
      all_goals
       try replace hg20 := Sep.hid hg20
       try simp only [Act.put, List.setIfInBounds_toArray, List.set_cons_zero, List.set_cons_succ]
       refine wpL_q 21 undef rfl (Or.inr ⟨by rfl, rfl⟩) (marks 51 4194303) ?_
       try simp only [Act.put, List.setIfInBounds_toArray, List.set_cons_zero, List.set_cons_succ]
       refine wpL_q 22 undef rfl (Or.inr ⟨by rfl, rfl⟩) (marks 51 8388607) ?_
       try simp only [Act.put, List.setIfInBounds_toArray, List.set_cons_zero, List.set_cons_succ]
     all_goals
      refine wpL_q 23 ?_ rfl (Or.inl ⟨by rfl, fun w_ hS_ => ?_⟩) (marks 51 16777215) ?_
      rotate_left
      next => (go_simp; try (first | rfl | exact (Bool.not_not _).symm))
      try simp only [Act.put, List.setIfInBounds_toArray, List.set_cons_zero, List.set_cons_succ]
      refine wpL_b 24 ?_ rfl (Or.inl ⟨by rfl, fun w_ hS_ => ?_⟩) (marks 51 33554431) ?_
      rotate_left
      next => (go_simp; try (first | rfl | exact (Bool.not_not _).symm))
      intro bb_ hg24
      cases bb_
      case' true =>
       (try simp only [decide_eq_true_eq, decide_eq_false_iff_not, beq_iff_eq, beq_eq_false_iff_ne, bne_iff_ne, bne_eq_false_iff_eq, Bool.not_eq_true', Bool.not_eq_false', Int.not_lt, Int.not_le] at hg24)
       first | (cases hg24; done) | (exfalso; omega; done) | skip
       all_goals
        try replace hg24 := Sep.hid hg24
        try simp only [Act.put, List.setIfInBounds_toArray, List.set_cons_zero, List.set_cons_succ]
        refine wpL_q 25 ?_ rfl (Or.inl ⟨by rfl, fun w_ hS_ => ?_⟩) (marks 51 67108863) ?_
        rotate_left
        next => (go_simp; try (first | rfl | exact (Bool.not_not _).symm))
        try simp only [Act.put, List.setIfInBounds_toArray, List.set_cons_zero, List.set_cons_succ]
        refine wpL_q 26 ?_ rfl (Or.inl ⟨by rfl, fun w_ hS_ => ?_⟩) (marks 51 134217727) ?_
        rotate_left
        next => (go_simp; try (first | rfl | exact (Bool.not_not _).symm))
        try simp only [Act.put, List.setIfInBounds_toArray, List.set_cons_zero, List.set_cons_succ]
      case' false =>
       (try simp only [decide_eq_true_eq, decide_eq_false_iff_not, beq_iff_eq, beq_eq_false_iff_ne, bne_iff_ne, bne_eq_false_iff_eq, Bool.not_eq_true', Bool.not_eq_false', Int.not_lt, Int.not_le] at hg24)
       first | (cases hg24; done) | (exfalso; omega; done) | skip
       all_goals
        try replace hg24 := Sep.hid hg24
        try simp only [Act.put, List.setIfInBounds_toArray, List.set_cons_zero, List.set_cons_succ]
        refine wpL_q 25 undef rfl (Or.inr ⟨by rfl, rfl⟩) (marks 51 67108863) ?_
        try simp only [Act.put, List.setIfInBounds_toArray, List.set_cons_zero, List.set_cons_succ]
        refine wpL_q 26 undef rfl (Or.inr ⟨by rfl, rfl⟩) (marks 51 134217727) ?_
        try simp only [Act.put, List.setIfInBounds_toArray, List.set_cons_zero, List.set_cons_succ]
      all_goals
       refine wpL_q 27 ?_ rfl (Or.inl ⟨by rfl, fun w_ hS_ => ?_⟩) (marks 51 268435455) ?_
       rotate_left
       next => (go_simp; try (first | rfl | exact (Bool.not_not _).symm))
       try simp only [Act.put, List.setIfInBounds_toArray, List.set_cons_zero, List.set_cons_succ]
       refine wpL_b 28 ?_ rfl (Or.inl ⟨by rfl, fun w_ hS_ => ?_⟩) (marks 51 536870911) ?_
       rotate_left
       next => (go_simp; try (first | rfl | exact (Bool.not_not _).symm))
       intro bb_ hg28
       cases bb_
       case' true =>
        (try simp only [decide_eq_true_eq, decide_eq_false_iff_not, beq_iff_eq, beq_eq_false_iff_ne, bne_iff_ne, bne_eq_false_iff_eq, Bool.not_eq_true', Bool.not_eq_false', Int.not_lt, Int.not_le] at hg28)
        first | (cases hg28; done) | (exfalso; omega; done) | skip
        all_goals
         try replace hg28 := Sep.hid hg28
         try simp only [Act.put, List.setIfInBounds_toArray, List.set_cons_zero, List.set_cons_succ]
         refine wpL_q 29 ?_ rfl (Or.inl ⟨by rfl, fun w_ hS_ => ?_⟩) (marks 51 1073741823) ?_
         rotate_left
         next => (go_simp; try (first | rfl | exact (Bool.not_not _).symm))
         try simp only [Act.put, List.setIfInBounds_toArray, List.set_cons_zero, List.set_cons_succ]
         refine wpL_q 30 ?_ rfl (Or.inl ⟨by rfl, fun w_ hS_ => ?_⟩) (marks 51 2147483647) ?_
         rotate_left
         next => (go_simp; try (first | rfl | exact (Bool.not_not _).symm))
         try simp only [Act.put, List.setIfInBounds_toArray, List.set_cons_zero, List.set_cons_succ]
       case' false =>
        (try simp only [decide_eq_true_eq, decide_eq_false_iff_not, beq_iff_eq, beq_eq_false_iff_ne, bne_iff_ne, bne_eq_false_iff_eq, Bool.not_eq_true', Bool.not_eq_false', Int.not_lt, Int.not_le] at hg28)
        first | (cases hg28; done) | (exfalso; omega; done) | skip
        all_goals
         try replace hg28 := Sep.hid hg28
         try simp only [Act.put, List.setIfInBounds_toArray, List.set_cons_zero, List.set_cons_succ]
         refine wpL_q 29 undef rfl (Or.inr ⟨by rfl, rfl⟩) (marks 51 1073741823) ?_
         try simp only [Act.put, List.setIfInBounds_toArray, List.set_cons_zero, List.set_cons_succ]
         refine wpL_q 30 undef rfl (Or.inr ⟨by rfl, rfl⟩) (marks 51 2147483647) ?_
         try simp only [Act.put, List.setIfInBounds_toArray, List.set_cons_zero, List.set_cons_succ]
       all_goals
        refine wpL_q 31 ?_ rfl (Or.inl ⟨by rfl, fun w_ hS_ => ?_⟩) (marks 51 4294967295) ?_
        rotate_left
        next => (go_simp; try (first | rfl | exact (Bool.not_not _).symm))
        try simp only [Act.put, List.setIfInBounds_toArray, List.set_cons_zero, List.set_cons_succ]
        refine wpL_b 32 ?_ rfl (Or.inl ⟨by rfl, fun w_ hS_ => ?_⟩) (marks 51 8589934591) ?_
        rotate_left
        next => (go_simp; try (first | rfl | exact (Bool.not_not _).symm))
        intro bb_ hg32
        cases bb_
        case' true =>
         (try simp only [decide_eq_true_eq, decide_eq_false_iff_not, beq_iff_eq, beq_eq_false_iff_ne, bne_iff_ne, bne_eq_false_iff_eq, Bool.not_eq_true', Bool.not_eq_false', Int.not_lt, Int.not_le] at hg32)
         first | (cases hg32; done) | (exfalso; omega; done) | skip
         all_goals
          try replace hg32 := Sep.hid hg32
          try simp only [Act.put, List.setIfInBounds_toArray, List.set_cons_zero, List.set_cons_succ]
          refine wpL_m 33 ?_ rfl (.tail _ (.tail _ (.head _))) (Or.inl ⟨by rfl, fun w_ hS_ => ?_⟩) (marks 51 17179869183) ?_
          rotate_left
          next => (dsimp only at hS_; (try have q0 := Sep.Holds.cells hS_ (i := 0) rfl); (try have q1 := Sep.Holds.cells hS_ (i := 1) rfl); (try have q2 := Sep.Holds.cells hS_ (i := 2) rfl); (try have q3 := Sep.Holds.cells hS_ (i := 3) rfl); (try have q4 := Sep.Holds.cells hS_ (i := 4) rfl); (try have q5 := Sep.Holds.cells hS_ (i := 5) rfl); (try have q6 := Sep.Holds.cells hS_ (i := 6) rfl); go_simp; try (first | rfl | exact (Bool.not_not _).symm))
          try simp only [Act.put, List.setIfInBounds_toArray, List.set_cons_zero, List.set_cons_succ]
          refine wpL_o 34 rfl (by rfl) (marks 51 34359738367) ?_
          (go_simp; go_at_call 15; refine (oMayS s0 small_s0 _ (some ⟨bB_, 0, none⟩) (some ⟨bC_, 0, none⟩) 1 1 e _ _ HT.out.sep (HP0.out.at 1 rfl) (HI0.out.at 2 rfl) hw.focus0).mono ?_; rintro _ w_ ⟨rfl, hw_⟩; rw [may_s0]; clear hw; have hw := Holds.unfocus0 hw_; clear hw_; (try simp only [List.map_cons, List.map_nil, List.getD_cons_zero, List.getD_cons_succ, List.getD_nil, List.set_cons_zero, List.set_cons_succ, List.cons_append, List.nil_append, Act.eval, Array.getD_eq_getD_getElem?, List.getElem?_toArray, List.getElem?_cons_succ, List.getElem?_cons_zero, Option.getD_some, Value.cells] at hw); (try simp (disch := first | (simp; done) | (simp; omega)) only [Sep.mid_set, Sep.mid_set2, Sep.mid_set0, Sep.mid_splice, Sep.mid_splice0, List.set_cons_zero, List.set_cons_succ] at hw); (try simp only [Sep.splice, List.take_succ_cons, List.take_zero, List.drop_succ_cons, List.drop_zero, List.length_cons, List.length_nil, Nat.reduceAdd, List.cons_append, List.nil_append] at hw))
          refine ⟨(SL.drop 15 (by kernel_rfl) (SL.drop 17 (by kernel_rfl) (SL.drop 34 (by kernel_rfl) (SL.keep (by exact hw.sel [3, 7] (by decide)) (SL.keep (by exact hw.sel [3, 7] (by decide)) SL.nil))))), ?_⟩
          try simp only [Act.put, List.setIfInBounds_toArray, List.set_cons_zero, List.set_cons_succ]
        case' false =>
         (try simp only [decide_eq_true_eq, decide_eq_false_iff_not, beq_iff_eq, beq_eq_false_iff_ne, bne_iff_ne, bne_eq_false_iff_eq, Bool.not_eq_true', Bool.not_eq_false', Int.not_lt, Int.not_le] at hg32)
         first | (cases hg32; done) | (exfalso; omega; done) | skip
         all_goals
          try replace hg32 := Sep.hid hg32
          try simp only [Act.put, List.setIfInBounds_toArray, List.set_cons_zero, List.set_cons_succ]
          refine wpL_m 33 undef rfl (.tail _ (.tail _ (.head _))) (Or.inr ⟨by rfl, rfl⟩) (marks 51 17179869183) ?_
          try simp only [Act.put, List.setIfInBounds_toArray, List.set_cons_zero, List.set_cons_succ]
          refine wpL_s 34 rfl (by rfl) (marks 51 34359738367) ?_
          try simp only [Act.put, List.setIfInBounds_toArray, List.set_cons_zero, List.set_cons_succ]
        all_goals
         refine wpL_q 35 ?_ rfl (Or.inl ⟨by rfl, fun w_ hS_ => ?_⟩) (marks 51 68719476735) ?_
         rotate_left
         next => (go_simp; try (first | rfl | exact (Bool.not_not _).symm))
         try simp only [Act.put, List.setIfInBounds_toArray, List.set_cons_zero, List.set_cons_succ]
         refine wpL_b 36 ?_ rfl (Or.inl ⟨by rfl, fun w_ hS_ => ?_⟩) (marks 51 137438953471) ?_
         rotate_left
         next => (go_simp; try (first | rfl | exact (Bool.not_not _).symm))
         intro bb_ hg36
         cases bb_
         case' true =>
          (try simp only [decide_eq_true_eq, decide_eq_false_iff_not, beq_iff_eq, beq_eq_false_iff_ne, bne_iff_ne, bne_eq_false_iff_eq, Bool.not_eq_true', Bool.not_eq_false', Int.not_lt, Int.not_le] at hg36)
          first | (cases hg36; done) | (exfalso; omega; done) | skip
          all_goals
           try replace hg36 := Sep.hid hg36
           try simp only [Act.put, List.setIfInBounds_toArray, List.set_cons_zero, List.set_cons_succ]
           refine wpL_q 37 ?_ rfl (Or.inl ⟨by rfl, fun w_ hS_ => ?_⟩) (marks 51 274877906943) ?_
           rotate_left
           next => (go_simp; try (first | rfl | exact (Bool.not_not _).symm))
           try simp only [Act.put, List.setIfInBounds_toArray, List.set_cons_zero, List.set_cons_succ]
           refine wpL_o 38 rfl (by rfl) (marks 51 549755813887) ?_
           (go_simp; go_at_call 13; refine (oItem ⟨1, 15, 0⟩ e _ _ hw.focus0).mono ?_; rintro _ w_ ⟨rfl, hw_⟩; rw [show itemP ⟨1, 15, 0⟩ = true from rfl]; clear hw; have hw := Holds.unfocus0 hw_; clear hw_; (try simp only [List.map_cons, List.map_nil, List.getD_cons_zero, List.getD_cons_succ, List.getD_nil, List.set_cons_zero, List.set_cons_succ, List.cons_append, List.nil_append, Act.eval, Array.getD_eq_getD_getElem?, List.getElem?_toArray, List.getElem?_cons_succ, List.getElem?_cons_zero, Option.getD_some, Value.cells] at hw); (try simp (disch := first | (simp; done) | (simp; omega)) only [Sep.mid_set, Sep.mid_set2, Sep.mid_set0, Sep.mid_splice, Sep.mid_splice0, List.set_cons_zero, List.set_cons_succ] at hw); (try simp only [Sep.splice, List.take_succ_cons, List.take_zero, List.drop_succ_cons, List.drop_zero, List.length_cons, List.length_nil, Nat.reduceAdd, List.cons_append, List.nil_append] at hw))
           refine ⟨(SL.drop 15 (by kernel_rfl) (SL.drop 17 (by kernel_rfl) (SL.drop 34 (by kernel_rfl) (SL.keep (by exact hw.sel [3, 7] (by decide)) (SL.keep (by exact hw.sel [3, 7] (by decide)) SL.nil))))), ?_⟩
           try simp only [Act.put, List.setIfInBounds_toArray, List.set_cons_zero, List.set_cons_succ]
         case' false =>
          (try simp only [decide_eq_true_eq, decide_eq_false_iff_not, beq_iff_eq, beq_eq_false_iff_ne, bne_iff_ne, bne_eq_false_iff_eq, Bool.not_eq_true', Bool.not_eq_false', Int.not_lt, Int.not_le] at hg36)
          first | (cases hg36; done) | (exfalso; omega; done) | skip
          all_goals
           try replace hg36 := Sep.hid hg36
           try simp only [Act.put, List.setIfInBounds_toArray, List.set_cons_zero, List.set_cons_succ]
           refine wpL_q 37 undef rfl (Or.inr ⟨by rfl, rfl⟩) (marks 51 274877906943) ?_
           try simp only [Act.put, List.setIfInBounds_toArray, List.set_cons_zero, List.set_cons_succ]
           refine wpL_s 38 rfl (by rfl) (marks 51 549755813887) ?_
           try simp only [Act.put, List.setIfInBounds_toArray, List.set_cons_zero, List.set_cons_succ]
         all_goals
          refine wpL_q 39 ?_ rfl (Or.inl ⟨by rfl, fun w_ hS_ => ?_⟩) (marks 51 1099511627775) ?_
          rotate_left
          next => (go_simp; try (first | rfl | exact (Bool.not_not _).symm))
          try simp only [Act.put, List.setIfInBounds_toArray, List.set_cons_zero, List.set_cons_succ]
          refine wpL_b 40 ?_ rfl (Or.inl ⟨by rfl, fun w_ hS_ => ?_⟩) (marks 51 2199023255551) ?_
          rotate_left
          next => (go_simp; try (first | rfl | exact (Bool.not_not _).symm))
          intro bb_ hg40
          cases bb_
          case' true =>
           (try simp only [decide_eq_true_eq, decide_eq_false_iff_not, beq_iff_eq, beq_eq_false_iff_ne, bne_iff_ne, bne_eq_false_iff_eq, Bool.not_eq_true', Bool.not_eq_false', Int.not_lt, Int.not_le] at hg40)
           first | (cases hg40; done) | (exfalso; omega; done) | skip
           all_goals
            try replace hg40 := Sep.hid hg40
            try simp only [Act.put, List.setIfInBounds_toArray, List.set_cons_zero, List.set_cons_succ]
            refine wpL_q 41 ?_ rfl (Or.inl ⟨by rfl, fun w_ hS_ => ?_⟩) (marks 51 4398046511103) ?_
            rotate_left
            next => (go_simp; try (first | rfl | exact (Bool.not_not _).symm))
            try simp only [Act.put, List.setIfInBounds_toArray, List.set_cons_zero, List.set_cons_succ]
            refine wpL_o 42 rfl (by rfl) (marks 51 8796093022207) ?_
            (go_simp; go_at_call 13; refine (oItem ⟨0, 8, 0⟩ e _ _ hw.focus0).mono ?_; rintro _ w_ ⟨rfl, hw_⟩; rw [show itemP ⟨0, 8, 0⟩ = false from rfl]; clear hw; have hw := Holds.unfocus0 hw_; clear hw_; (try simp only [List.map_cons, List.map_nil, List.getD_cons_zero, List.getD_cons_succ, List.getD_nil, List.set_cons_zero, List.set_cons_succ, List.cons_append, List.nil_append, Act.eval, Array.getD_eq_getD_getElem?, List.getElem?_toArray, List.getElem?_cons_succ, List.getElem?_cons_zero, Option.getD_some, Value.cells] at hw); (try simp (disch := first | (simp; done) | (simp; omega)) only [Sep.mid_set, Sep.mid_set2, Sep.mid_set0, Sep.mid_splice, Sep.mid_splice0, List.set_cons_zero, List.set_cons_succ] at hw); (try simp only [Sep.splice, List.take_succ_cons, List.take_zero, List.drop_succ_cons, List.drop_zero, List.length_cons, List.length_nil, Nat.reduceAdd, List.cons_append, List.nil_append] at hw))
            refine ⟨(SL.drop 15 (by kernel_rfl) (SL.drop 17 (by kernel_rfl) (SL.drop 34 (by kernel_rfl) (SL.keep (by exact hw.sel [3, 7] (by decide)) (SL.keep (by exact hw.sel [3, 7] (by decide)) SL.nil))))), ?_⟩
            try simp only [Act.put, List.setIfInBounds_toArray, List.set_cons_zero, List.set_cons_succ]
            refine wpL_q 43 ?_ rfl (Or.inl ⟨by rfl, fun w_ hS_ => ?_⟩) (marks 51 17592186044415) ?_
            rotate_left
            next => (go_simp; try (first | rfl | exact (Bool.not_not _).symm))
            try simp only [Act.put, List.setIfInBounds_toArray, List.set_cons_zero, List.set_cons_succ]
          case' false =>
           (try simp only [decide_eq_true_eq, decide_eq_false_iff_not, beq_iff_eq, beq_eq_false_iff_ne, bne_iff_ne, bne_eq_false_iff_eq, Bool.not_eq_true', Bool.not_eq_false', Int.not_lt, Int.not_le] at hg40)
           first | (cases hg40; done) | (exfalso; omega; done) | skip
           all_goals
            try replace hg40 := Sep.hid hg40
            try simp only [Act.put, List.setIfInBounds_toArray, List.set_cons_zero, List.set_cons_succ]
            refine wpL_q 41 undef rfl (Or.inr ⟨by rfl, rfl⟩) (marks 51 4398046511103) ?_
            try simp only [Act.put, List.setIfInBounds_toArray, List.set_cons_zero, List.set_cons_succ]
            refine wpL_s 42 rfl (by rfl) (marks 51 8796093022207) ?_
            try simp only [Act.put, List.setIfInBounds_toArray, List.set_cons_zero, List.set_cons_succ]
            refine wpL_q 43 undef rfl (Or.inr ⟨by rfl, rfl⟩) (marks 51 17592186044415) ?_
            try simp only [Act.put, List.setIfInBounds_toArray, List.set_cons_zero, List.set_cons_succ]
          all_goals
           refine wpL_q 44 ?_ rfl (Or.inl ⟨by rfl, fun w_ hS_ => ?_⟩) (marks 51 35184372088831) ?_
           rotate_left
           next => (go_simp; try (first | rfl | exact (Bool.not_not _).symm))
           try simp only [Act.put, List.setIfInBounds_toArray, List.set_cons_zero, List.set_cons_succ]
           refine wpL_b 45 ?_ rfl (Or.inl ⟨by rfl, fun w_ hS_ => ?_⟩) (marks 51 70368744177663) ?_
           rotate_left
           next => (go_simp; try (first | rfl | exact (Bool.not_not _).symm))
           intro bb_ hg45
           cases bb_
           case' true =>
            (try simp only [decide_eq_true_eq, decide_eq_false_iff_not, beq_iff_eq, beq_eq_false_iff_ne, bne_iff_ne, bne_eq_false_iff_eq, Bool.not_eq_true', Bool.not_eq_false', Int.not_lt, Int.not_le] at hg45)
            first | (cases hg45; done) | (exfalso; omega; done) | skip
            all_goals
             try replace hg45 := Sep.hid hg45
             try simp only [Act.put, List.setIfInBounds_toArray, List.set_cons_zero, List.set_cons_succ]
             refine wpL_m 46 ?_ rfl (.tail _ (.tail _ (.tail _ (.head _)))) (Or.inl ⟨by rfl, fun w_ hS_ => ?_⟩) (marks 51 140737488355327) ?_
             rotate_left
             next => (dsimp only at hS_; (try have q0 := Sep.Holds.cells hS_ (i := 0) rfl); (try have q1 := Sep.Holds.cells hS_ (i := 1) rfl); (try have q2 := Sep.Holds.cells hS_ (i := 2) rfl); (try have q3 := Sep.Holds.cells hS_ (i := 3) rfl); (try have q4 := Sep.Holds.cells hS_ (i := 4) rfl); (try have q5 := Sep.Holds.cells hS_ (i := 5) rfl); (try have q6 := Sep.Holds.cells hS_ (i := 6) rfl); go_simp; try (first | rfl | exact (Bool.not_not _).symm))
             try simp only [Act.put, List.setIfInBounds_toArray, List.set_cons_zero, List.set_cons_succ]
             refine wpL_m 47 ?_ rfl (.tail _ (.tail _ (.tail _ (.tail _ (.head _))))) (Or.inl ⟨by rfl, fun w_ hS_ => ?_⟩) (marks 51 281474976710655) ?_
             rotate_left
             next => (dsimp only at hS_; (try have q0 := Sep.Holds.cells hS_ (i := 0) rfl); (try have q1 := Sep.Holds.cells hS_ (i := 1) rfl); (try have q2 := Sep.Holds.cells hS_ (i := 2) rfl); (try have q3 := Sep.Holds.cells hS_ (i := 3) rfl); (try have q4 := Sep.Holds.cells hS_ (i := 4) rfl); (try have q5 := Sep.Holds.cells hS_ (i := 5) rfl); (try have q6 := Sep.Holds.cells hS_ (i := 6) rfl); go_simp; try (first | rfl | exact (Bool.not_not _).symm))
             try simp only [Act.put, List.setIfInBounds_toArray, List.set_cons_zero, List.set_cons_succ]
             refine wpL_o 48 rfl (by rfl) (marks 51 562949953421311) ?_
             (go_simp; go_at_call 19; refine (oSameS s0 s0 small_s0 small_s0 _ hs2 (some ⟨bB_, 0, none⟩) pa2 (some ⟨bC_, 0, none⟩) ia2 1 1 pc2 ic2 e _ _ (HP0.out.at 1 rfl) (HP2.out.at 5 rfl) (HI0.out.at 2 rfl) (HI2.out.at 6 rfl) hw.focus0).mono ?_; rintro _ w_ ⟨rfl, hw_⟩; rw [decide_eq_true rfl]; clear hw; have hw := Holds.unfocus0 hw_; clear hw_; (try simp only [List.map_cons, List.map_nil, List.getD_cons_zero, List.getD_cons_succ, List.getD_nil, List.set_cons_zero, List.set_cons_succ, List.cons_append, List.nil_append, Act.eval, Array.getD_eq_getD_getElem?, List.getElem?_toArray, List.getElem?_cons_succ, List.getElem?_cons_zero, Option.getD_some, Value.cells] at hw); (try simp (disch := first | (simp; done) | (simp; omega)) only [Sep.mid_set, Sep.mid_set2, Sep.mid_set0, Sep.mid_splice, Sep.mid_splice0, List.set_cons_zero, List.set_cons_succ] at hw); (try simp only [Sep.splice, List.take_succ_cons, List.take_zero, List.drop_succ_cons, List.drop_zero, List.length_cons, List.length_nil, Nat.reduceAdd, List.cons_append, List.nil_append] at hw))
             refine ⟨(SL.drop 15 (by kernel_rfl) (SL.drop 17 (by kernel_rfl) (SL.drop 34 (by kernel_rfl) (SL.drop 48 (by kernel_rfl) (SL.drop 48 (by kernel_rfl) SL.nil))))), ?_⟩
             try simp only [Act.put, List.setIfInBounds_toArray, List.set_cons_zero, List.set_cons_succ]
           case' false =>
            (try simp only [decide_eq_true_eq, decide_eq_false_iff_not, beq_iff_eq, beq_eq_false_iff_ne, bne_iff_ne, bne_eq_false_iff_eq, Bool.not_eq_true', Bool.not_eq_false', Int.not_lt, Int.not_le] at hg45)
            first | (cases hg45; done) | (exfalso; omega; done) | skip
            all_goals
             try replace hg45 := Sep.hid hg45
             try simp only [Act.put, List.setIfInBounds_toArray, List.set_cons_zero, List.set_cons_succ]
             refine wpL_m 46 undef rfl (.tail _ (.tail _ (.tail _ (.head _)))) (Or.inr ⟨by rfl, rfl⟩) (marks 51 140737488355327) ?_
             try simp only [Act.put, List.setIfInBounds_toArray, List.set_cons_zero, List.set_cons_succ]
             refine wpL_m 47 undef rfl (.tail _ (.tail _ (.tail _ (.tail _ (.head _))))) (Or.inr ⟨by rfl, rfl⟩) (marks 51 281474976710655) ?_
             try simp only [Act.put, List.setIfInBounds_toArray, List.set_cons_zero, List.set_cons_succ]
             refine wpL_s 48 rfl (by rfl) (marks 51 562949953421311) ?_
             try simp only [Act.put, List.setIfInBounds_toArray, List.set_cons_zero, List.set_cons_succ]
           all_goals
            refine wpL_q 49 ?_ rfl (Or.inl ⟨by rfl, fun w_ hS_ => ?_⟩) (marks 51 1125899906842623) ?_
            rotate_left
            next => (go_simp; try (first | rfl | exact (Bool.not_not _).symm))
            try simp only [Act.put, List.setIfInBounds_toArray, List.set_cons_zero, List.set_cons_succ]
            refine wpL_q 50 ?_ rfl (Or.inl ⟨by rfl, fun w_ hS_ => ?_⟩) (marks 51 2251799813685247) ?_
            rotate_left
            next => (go_simp; try (first | rfl | exact (Bool.not_not _).symm))
            try simp only [Act.put, List.setIfInBounds_toArray, List.set_cons_zero, List.set_cons_succ]
            all_goals refine wpL_done (by kernel_rfl) ?_ _
  all_goals (
    (try clear hc0); (try clear hc1); (try clear hc2); (try clear hc3); (try clear hc4); (try clear hc5); (try clear hc6)
    go_wp2_with fail
    exact HP.out _ _ ⟨rfl, hw.sel [0] (by decide)⟩)
end Go.Proofs.YteinbojpmhblkaaDoor
/-
  The walk of Read of a script, the document's.
-/
namespace Go.Proofs.YteinbojpmhblkaaDoor
set_option linter.unusedSimpArgs false
set_option linter.unusedVariables false
open Go.RowKit Go.Sep
set_option maxRecDepth 20000

set_option maxHeartbeats 16000000 in
theorem rReadS (b : List Int) (n ca : Nat) (a : Option Addr) (hn : Hid (b.length = n)) (hca : n ≤ ca) (hb : Bys b) (e w : World) (X : HProp) (hR : RdB e X a b) (hw : Holds e w [X]) :
    Calls Tryd.prog 12 #[.slice a n ca] w fun en w' => GotS 62 82 47 (readS b) en e w' X := by
  have HR := Sep.hid hR; clear hR
  have Hb := Sep.hid hb; clear hb
  by_cases h1 : (4000 : Int) < n
  · have Hp : Hid (readS b = (scr0, 9)) := Sep.hid (by unfold readS; rw [if_pos (by rw [hn.out]; omega)])
    refine Sep.calls_post ?_
    intro Post_ hPost_
    have HP := Sep.hid hPost_
    clear hPost_
    go_enter Tryd.func12, Tryd.ntmps12
    go_wp2_with (first | (refine wpList_on rfl (wp_alloc rfl hw ?_); intro b2_ w_ hw_; clear hw; have hw := hw_; clear hw_; (try simp only [List.map_cons, List.map_nil, List.getD_cons_zero, List.getD_cons_succ, List.getD_nil, List.set_cons_zero, List.set_cons_succ, List.cons_append, List.nil_append, Act.eval, Array.getD_eq_getD_getElem?, List.getElem?_toArray, List.getElem?_cons_succ, List.getElem?_cons_zero, Option.getD_some, Value.cells] at hw); (try simp (disch := first | (simp; done) | (simp; omega)) only [Sep.mid_set, Sep.mid_set2, Sep.mid_set0, Sep.mid_splice, Sep.mid_splice0, List.set_cons_zero, List.set_cons_succ] at hw); (try simp only [Sep.splice, List.take_succ_cons, List.take_zero, List.drop_succ_cons, List.drop_zero, List.length_cons, List.length_nil, Nat.reduceAdd, List.cons_append, List.nil_append] at hw); (try replace hc0 := Sep.Holds.cells hw (i := 0) rfl); (try replace hc1 := Sep.Holds.cells hw (i := 1) rfl); (try replace hc2 := Sep.Holds.cells hw (i := 2) rfl); (try replace hc3 := Sep.Holds.cells hw (i := 3) rfl); (try replace hc4 := Sep.Holds.cells hw (i := 4) rfl); (try replace hc5 := Sep.Holds.cells hw (i := 5) rfl); (try replace hc6 := Sep.Holds.cells hw (i := 6) rfl)) | (refine wpList_on rfl (wp_storeAll (vs := [.int .i64 0, .int .i64 0, .int .i64 0, .int .i64 0, .slice none 0 0, .slice none 0 0]) rfl rfl (by rfl) hw (i := 2) rfl rfl rfl (by simp [Value.oneCell']) ?_); intro w_ hw_; clear hw; have hw := hw_; clear hw_; (try simp only [List.map_cons, List.map_nil, List.getD_cons_zero, List.getD_cons_succ, List.getD_nil, List.set_cons_zero, List.set_cons_succ, List.cons_append, List.nil_append, Act.eval, Array.getD_eq_getD_getElem?, List.getElem?_toArray, List.getElem?_cons_succ, List.getElem?_cons_zero, Option.getD_some, Value.cells] at hw); (try simp (disch := first | (simp; done) | (simp; omega)) only [Sep.mid_set, Sep.mid_set2, Sep.mid_set0, Sep.mid_splice, Sep.mid_splice0, List.set_cons_zero, List.set_cons_succ] at hw); (try simp only [Sep.splice, List.take_succ_cons, List.take_zero, List.drop_succ_cons, List.drop_zero, List.length_cons, List.length_nil, Nat.reduceAdd, List.cons_append, List.nil_append] at hw); (try replace hc0 := Sep.Holds.cells hw (i := 0) rfl); (try replace hc1 := Sep.Holds.cells hw (i := 1) rfl); (try replace hc2 := Sep.Holds.cells hw (i := 2) rfl); (try replace hc3 := Sep.Holds.cells hw (i := 3) rfl); (try replace hc4 := Sep.Holds.cells hw (i := 4) rfl); (try replace hc5 := Sep.Holds.cells hw (i := 5) rfl); (try replace hc6 := Sep.Holds.cells hw (i := 6) rfl)) | (refine wpList_on rfl (wp_storeAll (vs := [.int .i64 0, .int .i64 0, .int .i64 0, .int .i64 0, .slice none 0 0, .slice none 0 0]) rfl rfl (by rfl) hw (i := 1) rfl rfl rfl (by simp [Value.oneCell']) ?_); intro w_ hw_; clear hw; have hw := hw_; clear hw_; (try simp only [List.map_cons, List.map_nil, List.getD_cons_zero, List.getD_cons_succ, List.getD_nil, List.set_cons_zero, List.set_cons_succ, List.cons_append, List.nil_append, Act.eval, Array.getD_eq_getD_getElem?, List.getElem?_toArray, List.getElem?_cons_succ, List.getElem?_cons_zero, Option.getD_some, Value.cells] at hw); (try simp (disch := first | (simp; done) | (simp; omega)) only [Sep.mid_set, Sep.mid_set2, Sep.mid_set0, Sep.mid_splice, Sep.mid_splice0, List.set_cons_zero, List.set_cons_succ] at hw); (try simp only [Sep.splice, List.take_succ_cons, List.take_zero, List.drop_succ_cons, List.drop_zero, List.length_cons, List.length_nil, Nat.reduceAdd, List.cons_append, List.nil_append] at hw); (try replace hc0 := Sep.Holds.cells hw (i := 0) rfl); (try replace hc1 := Sep.Holds.cells hw (i := 1) rfl); (try replace hc2 := Sep.Holds.cells hw (i := 2) rfl); (try replace hc3 := Sep.Holds.cells hw (i := 3) rfl); (try replace hc4 := Sep.Holds.cells hw (i := 4) rfl); (try replace hc5 := Sep.Holds.cells hw (i := 5) rfl); (try replace hc6 := Sep.Holds.cells hw (i := 6) rfl)))
    refine bodyPost_ret (v := .tuple #[.agg #[.int .i64 0, .int .i64 0, .int .i64 0, .int .i64 0, .slice none 0 0, .slice none 0 0], .int .i64 9]) (res_cell_tmp (ty := 39) rfl rfl rfl hw (i := 1) rfl rfl) rfl ?_
    exact HP.out _ _ (got_no Hp.out (hw.sel [0] (by decide)))
  by_cases h2 : (n : Int) < 33
  · have Hp : Hid (readS b = (scr0, 8)) := Sep.hid (by unfold readS; rw [if_neg (by rw [hn.out]; omega), if_pos (by rw [hn.out]; omega)])
    refine Sep.calls_post ?_
    intro Post_ hPost_
    have HP := Sep.hid hPost_
    clear hPost_
    go_enter Tryd.func12, Tryd.ntmps12
    go_wp2_with (first | (refine wpList_on rfl (wp_alloc rfl hw ?_); intro b2_ w_ hw_; clear hw; have hw := hw_; clear hw_; (try simp only [List.map_cons, List.map_nil, List.getD_cons_zero, List.getD_cons_succ, List.getD_nil, List.set_cons_zero, List.set_cons_succ, List.cons_append, List.nil_append, Act.eval, Array.getD_eq_getD_getElem?, List.getElem?_toArray, List.getElem?_cons_succ, List.getElem?_cons_zero, Option.getD_some, Value.cells] at hw); (try simp (disch := first | (simp; done) | (simp; omega)) only [Sep.mid_set, Sep.mid_set2, Sep.mid_set0, Sep.mid_splice, Sep.mid_splice0, List.set_cons_zero, List.set_cons_succ] at hw); (try simp only [Sep.splice, List.take_succ_cons, List.take_zero, List.drop_succ_cons, List.drop_zero, List.length_cons, List.length_nil, Nat.reduceAdd, List.cons_append, List.nil_append] at hw); (try replace hc0 := Sep.Holds.cells hw (i := 0) rfl); (try replace hc1 := Sep.Holds.cells hw (i := 1) rfl); (try replace hc2 := Sep.Holds.cells hw (i := 2) rfl); (try replace hc3 := Sep.Holds.cells hw (i := 3) rfl); (try replace hc4 := Sep.Holds.cells hw (i := 4) rfl); (try replace hc5 := Sep.Holds.cells hw (i := 5) rfl); (try replace hc6 := Sep.Holds.cells hw (i := 6) rfl)) | (refine wpList_on rfl (wp_storeAll (vs := [.int .i64 0, .int .i64 0, .int .i64 0, .int .i64 0, .slice none 0 0, .slice none 0 0]) rfl rfl (by rfl) hw (i := 2) rfl rfl rfl (by simp [Value.oneCell']) ?_); intro w_ hw_; clear hw; have hw := hw_; clear hw_; (try simp only [List.map_cons, List.map_nil, List.getD_cons_zero, List.getD_cons_succ, List.getD_nil, List.set_cons_zero, List.set_cons_succ, List.cons_append, List.nil_append, Act.eval, Array.getD_eq_getD_getElem?, List.getElem?_toArray, List.getElem?_cons_succ, List.getElem?_cons_zero, Option.getD_some, Value.cells] at hw); (try simp (disch := first | (simp; done) | (simp; omega)) only [Sep.mid_set, Sep.mid_set2, Sep.mid_set0, Sep.mid_splice, Sep.mid_splice0, List.set_cons_zero, List.set_cons_succ] at hw); (try simp only [Sep.splice, List.take_succ_cons, List.take_zero, List.drop_succ_cons, List.drop_zero, List.length_cons, List.length_nil, Nat.reduceAdd, List.cons_append, List.nil_append] at hw); (try replace hc0 := Sep.Holds.cells hw (i := 0) rfl); (try replace hc1 := Sep.Holds.cells hw (i := 1) rfl); (try replace hc2 := Sep.Holds.cells hw (i := 2) rfl); (try replace hc3 := Sep.Holds.cells hw (i := 3) rfl); (try replace hc4 := Sep.Holds.cells hw (i := 4) rfl); (try replace hc5 := Sep.Holds.cells hw (i := 5) rfl); (try replace hc6 := Sep.Holds.cells hw (i := 6) rfl)) | (refine wpList_on rfl (wp_storeAll (vs := [.int .i64 0, .int .i64 0, .int .i64 0, .int .i64 0, .slice none 0 0, .slice none 0 0]) rfl rfl (by rfl) hw (i := 1) rfl rfl rfl (by simp [Value.oneCell']) ?_); intro w_ hw_; clear hw; have hw := hw_; clear hw_; (try simp only [List.map_cons, List.map_nil, List.getD_cons_zero, List.getD_cons_succ, List.getD_nil, List.set_cons_zero, List.set_cons_succ, List.cons_append, List.nil_append, Act.eval, Array.getD_eq_getD_getElem?, List.getElem?_toArray, List.getElem?_cons_succ, List.getElem?_cons_zero, Option.getD_some, Value.cells] at hw); (try simp (disch := first | (simp; done) | (simp; omega)) only [Sep.mid_set, Sep.mid_set2, Sep.mid_set0, Sep.mid_splice, Sep.mid_splice0, List.set_cons_zero, List.set_cons_succ] at hw); (try simp only [Sep.splice, List.take_succ_cons, List.take_zero, List.drop_succ_cons, List.drop_zero, List.length_cons, List.length_nil, Nat.reduceAdd, List.cons_append, List.nil_append] at hw); (try replace hc0 := Sep.Holds.cells hw (i := 0) rfl); (try replace hc1 := Sep.Holds.cells hw (i := 1) rfl); (try replace hc2 := Sep.Holds.cells hw (i := 2) rfl); (try replace hc3 := Sep.Holds.cells hw (i := 3) rfl); (try replace hc4 := Sep.Holds.cells hw (i := 4) rfl); (try replace hc5 := Sep.Holds.cells hw (i := 5) rfl); (try replace hc6 := Sep.Holds.cells hw (i := 6) rfl)))
    refine bodyPost_ret (v := .tuple #[.agg #[.int .i64 0, .int .i64 0, .int .i64 0, .int .i64 0, .slice none 0 0, .slice none 0 0], .int .i64 8]) (res_cell_tmp (ty := 39) rfl rfl rfl hw (i := 1) rfl rfl) rfl ?_
    exact HP.out _ _ (got_no Hp.out (hw.sel [0] (by decide)))
  obtain ⟨p, rfl⟩ : ∃ p, a = some p := by
    obtain ⟨p, hp, _⟩ := HR.out _ _ 0 hw rfl 0 _ (List.getElem?_eq_getElem (by rw [hn.out]; omega))
    exact ⟨p, hp⟩
  obtain ⟨q0, hq0⟩ : ∃ q0, Hid (roomAt b 0 = q0) := ⟨_, Sep.hid rfl⟩
  obtain ⟨q1, hq1⟩ : ∃ q1, Hid (roomAt b 1 = q1) := ⟨_, Sep.hid rfl⟩
  obtain ⟨q2, hq2⟩ : ∃ q2, Hid (roomAt b 2 = q2) := ⟨_, Sep.hid rfl⟩
  obtain ⟨q3, hq3⟩ : ∃ q3, Hid (roomAt b 3 = q3) := ⟨_, Sep.hid rfl⟩
  refine Sep.calls_post ?_
  intro Post_ hPost_
  have HP := Sep.hid hPost_
  clear hPost_
  go_enter Tryd.func12, Tryd.ntmps12
  go_wp2_with (first | (refine wpList_on rfl (wp_alloc rfl hw ?_); intro bn_ w_ hw_; clear hw; have hw := hw_; clear hw_; (try simp only [List.map_cons, List.map_nil, List.getD_cons_zero, List.getD_cons_succ, List.getD_nil, List.set_cons_zero, List.set_cons_succ, List.cons_append, List.nil_append, Act.eval, Array.getD_eq_getD_getElem?, List.getElem?_toArray, List.getElem?_cons_succ, List.getElem?_cons_zero, Option.getD_some, Value.cells] at hw); (try simp (disch := first | (simp; done) | (simp; omega)) only [Sep.mid_set, Sep.mid_set2, Sep.mid_set0, Sep.mid_splice, Sep.mid_splice0, List.set_cons_zero, List.set_cons_succ] at hw); (try simp only [Sep.splice, List.take_succ_cons, List.take_zero, List.drop_succ_cons, List.drop_zero, List.length_cons, List.length_nil, Nat.reduceAdd, List.cons_append, List.nil_append] at hw); (try replace hc0 := Sep.Holds.cells hw (i := 0) rfl); (try replace hc1 := Sep.Holds.cells hw (i := 1) rfl); (try replace hc2 := Sep.Holds.cells hw (i := 2) rfl); (try replace hc3 := Sep.Holds.cells hw (i := 3) rfl); (try replace hc4 := Sep.Holds.cells hw (i := 4) rfl); (try replace hc5 := Sep.Holds.cells hw (i := 5) rfl); (try replace hc6 := Sep.Holds.cells hw (i := 6) rfl)) | (refine wpList_on rfl (wp_storeAll (vs := [.int .i64 0, .int .i64 0, .int .i64 0, .int .i64 0, .slice none 0 0, .slice none 0 0]) rfl rfl (by rfl) hw (i := 2) rfl rfl rfl (by simp [Value.oneCell']) ?_); intro w_ hw_; clear hw; have hw := hw_; clear hw_; (try simp only [List.map_cons, List.map_nil, List.getD_cons_zero, List.getD_cons_succ, List.getD_nil, List.set_cons_zero, List.set_cons_succ, List.cons_append, List.nil_append, Act.eval, Array.getD_eq_getD_getElem?, List.getElem?_toArray, List.getElem?_cons_succ, List.getElem?_cons_zero, Option.getD_some, Value.cells] at hw); (try simp (disch := first | (simp; done) | (simp; omega)) only [Sep.mid_set, Sep.mid_set2, Sep.mid_set0, Sep.mid_splice, Sep.mid_splice0, List.set_cons_zero, List.set_cons_succ] at hw); (try simp only [Sep.splice, List.take_succ_cons, List.take_zero, List.drop_succ_cons, List.drop_zero, List.length_cons, List.length_nil, Nat.reduceAdd, List.cons_append, List.nil_append] at hw); (try replace hc0 := Sep.Holds.cells hw (i := 0) rfl); (try replace hc1 := Sep.Holds.cells hw (i := 1) rfl); (try replace hc2 := Sep.Holds.cells hw (i := 2) rfl); (try replace hc3 := Sep.Holds.cells hw (i := 3) rfl); (try replace hc4 := Sep.Holds.cells hw (i := 4) rfl); (try replace hc5 := Sep.Holds.cells hw (i := 5) rfl); (try replace hc6 := Sep.Holds.cells hw (i := 6) rfl)))
  rename_i b1_ w1_ w2_ K1_ h1_
  have Hw0 := Sep.hid hw; clear hw; (try clear hc0); (try clear hc1); (try clear hc2); (try clear hc3); (try clear hc4); (try clear hc5); (try clear hc6)
  go_loopw [5] (fun i wr => ∃ k : Nat, k ≤ 4 ∧ i = .int .i64 k ∧ Hid (qOk q0 q1 q2 q3 k) ∧ Holds e wr [X, pt b1_ [.int .i64 0, .int .i64 0, .int .i64 0, .int .i64 0, .slice none 0 0, .slice none 0 0] 39, pt bn_ (roomsC q0 q1 q2 q3 k) 39]) (fun i _ => 4 - (intOf i).toNat)
  case atStart => exact ⟨0, Nat.zero_le _, rfl, Sep.hid (by unfold qOk; omega), Hw0.out⟩
  case round =>
    clear Hw0
    obtain ⟨k, hk, hi, Ho, hw⟩ := hrel
    match k, hk with
    | 0, _ =>
      obtain rfl : u5 = .int .i64 0 := hi
      simp only [roomsC] at hw
      (try replace hc0 := Sep.Holds.cells hw (i := 0) rfl); (try replace hc1 := Sep.Holds.cells hw (i := 1) rfl); (try replace hc2 := Sep.Holds.cells hw (i := 2) rfl); (try replace hc3 := Sep.Holds.cells hw (i := 3) rfl); (try replace hc4 := Sep.Holds.cells hw (i := 4) rfl); (try replace hc5 := Sep.Holds.cells hw (i := 5) rfl); (try replace hc6 := Sep.Holds.cells hw (i := 6) rfl)
      obtain ⟨a2, ha2, hR2⟩ := rd_sliced (n := n) (c := ca) (l := 0) HR.out hn.out (by omega) hca
      have HR2 := Sep.hid hR2; clear hR2
      have hnum : numP ((b.drop 0).take 8) = q0 := hq0.out
      have Hnum := Sep.hid hnum; clear hnum
      go_wp2_with (first | (refine wpList_on rfl (wp_of_run (v := sliced (some p) 0 n ca 1) (run_sliceFrom (l := 0) rfl rfl rfl (by omega)) ?_); (try simp only [Act.put, List.setIfInBounds_toArray, List.set_cons_zero, List.set_cons_succ]); rw [ha2]))
      refine (rNum a2 (b.drop 0) (n - 0) (ca - 0) (by omega) (Sep.hid (by rw [List.length_drop, hn.out])) (Hb.out.drop _) _ (HR2.out _ _ 0 hw rfl)).mono ?_
      rintro _ w2_ ⟨rfl, hw2_⟩; subst hw2_
      rw [Hnum.out]
      clear ha2
      by_cases hneg : q0 < 0
      · have Hp : Hid (readS b = (scr0, 7)) := Sep.hid (by unfold readS; rw [if_neg (by rw [hn.out]; omega), if_neg (by rw [hn.out]; omega), if_pos]; rw [hq0.out, hq1.out, hq2.out, hq3.out]; omega)
        go_wp2_with (first | (refine wpList_on rfl (wp_store1 (v := _) (off := 0) rfl rfl rfl hw (i := 2) rfl (show 0 < 6 by decide) rfl ?_); intro w_ hw_; clear hw; have hw := hw_; clear hw_; (try simp only [List.map_cons, List.map_nil, List.getD_cons_zero, List.getD_cons_succ, List.getD_nil, List.set_cons_zero, List.set_cons_succ, List.cons_append, List.nil_append, Act.eval, Array.getD_eq_getD_getElem?, List.getElem?_toArray, List.getElem?_cons_succ, List.getElem?_cons_zero, Option.getD_some, Value.cells] at hw); (try simp (disch := first | (simp; done) | (simp; omega)) only [Sep.mid_set, Sep.mid_set2, Sep.mid_set0, Sep.mid_splice, Sep.mid_splice0, List.set_cons_zero, List.set_cons_succ] at hw); (try simp only [Sep.splice, List.take_succ_cons, List.take_zero, List.drop_succ_cons, List.drop_zero, List.length_cons, List.length_nil, Nat.reduceAdd, List.cons_append, List.nil_append] at hw); (try replace hc0 := Sep.Holds.cells hw (i := 0) rfl); (try replace hc1 := Sep.Holds.cells hw (i := 1) rfl); (try replace hc2 := Sep.Holds.cells hw (i := 2) rfl); (try replace hc3 := Sep.Holds.cells hw (i := 3) rfl); (try replace hc4 := Sep.Holds.cells hw (i := 4) rfl); (try replace hc5 := Sep.Holds.cells hw (i := 5) rfl); (try replace hc6 := Sep.Holds.cells hw (i := 6) rfl)) | (refine wpList_on rfl (wp_storeAll (vs := [.int .i64 0, .int .i64 0, .int .i64 0, .int .i64 0, .slice none 0 0, .slice none 0 0]) rfl rfl (by rfl) hw (i := 1) rfl rfl rfl (by simp [Value.oneCell']) ?_); intro w_ hw_; clear hw; have hw := hw_; clear hw_; (try simp only [List.map_cons, List.map_nil, List.getD_cons_zero, List.getD_cons_succ, List.getD_nil, List.set_cons_zero, List.set_cons_succ, List.cons_append, List.nil_append, Act.eval, Array.getD_eq_getD_getElem?, List.getElem?_toArray, List.getElem?_cons_succ, List.getElem?_cons_zero, Option.getD_some, Value.cells] at hw); (try simp (disch := first | (simp; done) | (simp; omega)) only [Sep.mid_set, Sep.mid_set2, Sep.mid_set0, Sep.mid_splice, Sep.mid_splice0, List.set_cons_zero, List.set_cons_succ] at hw); (try simp only [Sep.splice, List.take_succ_cons, List.take_zero, List.drop_succ_cons, List.drop_zero, List.length_cons, List.length_nil, Nat.reduceAdd, List.cons_append, List.nil_append] at hw); (try replace hc0 := Sep.Holds.cells hw (i := 0) rfl); (try replace hc1 := Sep.Holds.cells hw (i := 1) rfl); (try replace hc2 := Sep.Holds.cells hw (i := 2) rfl); (try replace hc3 := Sep.Holds.cells hw (i := 3) rfl); (try replace hc4 := Sep.Holds.cells hw (i := 4) rfl); (try replace hc5 := Sep.Holds.cells hw (i := 5) rfl); (try replace hc6 := Sep.Holds.cells hw (i := 6) rfl)))
        refine bodyPost_ret (v := .tuple #[.agg #[.int .i64 0, .int .i64 0, .int .i64 0, .int .i64 0, .slice none 0 0, .slice none 0 0], .int .i64 7]) (res_cell_tmp (ty := 39) rfl rfl rfl hw (i := 1) rfl rfl) rfl ?_
        exact HP.out _ _ (got_no Hp.out (hw.sel [0] (by decide)))
      · have Ho2 : Hid (qOk q0 q1 q2 q3 (0 + 1)) := Sep.hid (by have := Ho.out; unfold qOk at *; omega)
        go_wp2_with (first | (refine wpList_on rfl (wp_store1 (v := _) (off := 0) rfl rfl rfl hw (i := 2) rfl (show 0 < 6 by decide) rfl ?_); intro w_ hw_; clear hw; have hw := hw_; clear hw_; (try simp only [List.map_cons, List.map_nil, List.getD_cons_zero, List.getD_cons_succ, List.getD_nil, List.set_cons_zero, List.set_cons_succ, List.cons_append, List.nil_append, Act.eval, Array.getD_eq_getD_getElem?, List.getElem?_toArray, List.getElem?_cons_succ, List.getElem?_cons_zero, Option.getD_some, Value.cells] at hw); (try simp (disch := first | (simp; done) | (simp; omega)) only [Sep.mid_set, Sep.mid_set2, Sep.mid_set0, Sep.mid_splice, Sep.mid_splice0, List.set_cons_zero, List.set_cons_succ] at hw); (try simp only [Sep.splice, List.take_succ_cons, List.take_zero, List.drop_succ_cons, List.drop_zero, List.length_cons, List.length_nil, Nat.reduceAdd, List.cons_append, List.nil_append] at hw); (try replace hc0 := Sep.Holds.cells hw (i := 0) rfl); (try replace hc1 := Sep.Holds.cells hw (i := 1) rfl); (try replace hc2 := Sep.Holds.cells hw (i := 2) rfl); (try replace hc3 := Sep.Holds.cells hw (i := 3) rfl); (try replace hc4 := Sep.Holds.cells hw (i := 4) rfl); (try replace hc5 := Sep.Holds.cells hw (i := 5) rfl); (try replace hc6 := Sep.Holds.cells hw (i := 6) rfl)))
        go_roundw
        case rel => exact ⟨0 + 1, by decide, rfl, Ho2, hw⟩
        case measure => simp [intOf]
    | 1, _ =>
      obtain rfl : u5 = .int .i64 1 := hi
      simp only [roomsC] at hw
      (try replace hc0 := Sep.Holds.cells hw (i := 0) rfl); (try replace hc1 := Sep.Holds.cells hw (i := 1) rfl); (try replace hc2 := Sep.Holds.cells hw (i := 2) rfl); (try replace hc3 := Sep.Holds.cells hw (i := 3) rfl); (try replace hc4 := Sep.Holds.cells hw (i := 4) rfl); (try replace hc5 := Sep.Holds.cells hw (i := 5) rfl); (try replace hc6 := Sep.Holds.cells hw (i := 6) rfl)
      obtain ⟨a2, ha2, hR2⟩ := rd_sliced (n := n) (c := ca) (l := 8) HR.out hn.out (by omega) hca
      have HR2 := Sep.hid hR2; clear hR2
      have hnum : numP ((b.drop 8).take 8) = q1 := hq1.out
      have Hnum := Sep.hid hnum; clear hnum
      go_wp2_with (first | (refine wpList_on rfl (wp_of_run (v := sliced (some p) 8 n ca 1) (run_sliceFrom (l := 8) rfl rfl rfl (by omega)) ?_); (try simp only [Act.put, List.setIfInBounds_toArray, List.set_cons_zero, List.set_cons_succ]); rw [ha2]))
      refine (rNum a2 (b.drop 8) (n - 8) (ca - 8) (by omega) (Sep.hid (by rw [List.length_drop, hn.out])) (Hb.out.drop _) _ (HR2.out _ _ 0 hw rfl)).mono ?_
      rintro _ w2_ ⟨rfl, hw2_⟩; subst hw2_
      rw [Hnum.out]
      clear ha2
      by_cases hneg : q1 < 0
      · have Hp : Hid (readS b = (scr0, 7)) := Sep.hid (by unfold readS; rw [if_neg (by rw [hn.out]; omega), if_neg (by rw [hn.out]; omega), if_pos]; rw [hq0.out, hq1.out, hq2.out, hq3.out]; omega)
        go_wp2_with (first | (refine wpList_on rfl (wp_store1 (v := _) (off := 1) rfl rfl rfl hw (i := 2) rfl (show 1 < 6 by decide) rfl ?_); intro w_ hw_; clear hw; have hw := hw_; clear hw_; (try simp only [List.map_cons, List.map_nil, List.getD_cons_zero, List.getD_cons_succ, List.getD_nil, List.set_cons_zero, List.set_cons_succ, List.cons_append, List.nil_append, Act.eval, Array.getD_eq_getD_getElem?, List.getElem?_toArray, List.getElem?_cons_succ, List.getElem?_cons_zero, Option.getD_some, Value.cells] at hw); (try simp (disch := first | (simp; done) | (simp; omega)) only [Sep.mid_set, Sep.mid_set2, Sep.mid_set0, Sep.mid_splice, Sep.mid_splice0, List.set_cons_zero, List.set_cons_succ] at hw); (try simp only [Sep.splice, List.take_succ_cons, List.take_zero, List.drop_succ_cons, List.drop_zero, List.length_cons, List.length_nil, Nat.reduceAdd, List.cons_append, List.nil_append] at hw); (try replace hc0 := Sep.Holds.cells hw (i := 0) rfl); (try replace hc1 := Sep.Holds.cells hw (i := 1) rfl); (try replace hc2 := Sep.Holds.cells hw (i := 2) rfl); (try replace hc3 := Sep.Holds.cells hw (i := 3) rfl); (try replace hc4 := Sep.Holds.cells hw (i := 4) rfl); (try replace hc5 := Sep.Holds.cells hw (i := 5) rfl); (try replace hc6 := Sep.Holds.cells hw (i := 6) rfl)) | (refine wpList_on rfl (wp_storeAll (vs := [.int .i64 0, .int .i64 0, .int .i64 0, .int .i64 0, .slice none 0 0, .slice none 0 0]) rfl rfl (by rfl) hw (i := 1) rfl rfl rfl (by simp [Value.oneCell']) ?_); intro w_ hw_; clear hw; have hw := hw_; clear hw_; (try simp only [List.map_cons, List.map_nil, List.getD_cons_zero, List.getD_cons_succ, List.getD_nil, List.set_cons_zero, List.set_cons_succ, List.cons_append, List.nil_append, Act.eval, Array.getD_eq_getD_getElem?, List.getElem?_toArray, List.getElem?_cons_succ, List.getElem?_cons_zero, Option.getD_some, Value.cells] at hw); (try simp (disch := first | (simp; done) | (simp; omega)) only [Sep.mid_set, Sep.mid_set2, Sep.mid_set0, Sep.mid_splice, Sep.mid_splice0, List.set_cons_zero, List.set_cons_succ] at hw); (try simp only [Sep.splice, List.take_succ_cons, List.take_zero, List.drop_succ_cons, List.drop_zero, List.length_cons, List.length_nil, Nat.reduceAdd, List.cons_append, List.nil_append] at hw); (try replace hc0 := Sep.Holds.cells hw (i := 0) rfl); (try replace hc1 := Sep.Holds.cells hw (i := 1) rfl); (try replace hc2 := Sep.Holds.cells hw (i := 2) rfl); (try replace hc3 := Sep.Holds.cells hw (i := 3) rfl); (try replace hc4 := Sep.Holds.cells hw (i := 4) rfl); (try replace hc5 := Sep.Holds.cells hw (i := 5) rfl); (try replace hc6 := Sep.Holds.cells hw (i := 6) rfl)))
        refine bodyPost_ret (v := .tuple #[.agg #[.int .i64 0, .int .i64 0, .int .i64 0, .int .i64 0, .slice none 0 0, .slice none 0 0], .int .i64 7]) (res_cell_tmp (ty := 39) rfl rfl rfl hw (i := 1) rfl rfl) rfl ?_
        exact HP.out _ _ (got_no Hp.out (hw.sel [0] (by decide)))
      · have Ho2 : Hid (qOk q0 q1 q2 q3 (1 + 1)) := Sep.hid (by have := Ho.out; unfold qOk at *; omega)
        go_wp2_with (first | (refine wpList_on rfl (wp_store1 (v := _) (off := 1) rfl rfl rfl hw (i := 2) rfl (show 1 < 6 by decide) rfl ?_); intro w_ hw_; clear hw; have hw := hw_; clear hw_; (try simp only [List.map_cons, List.map_nil, List.getD_cons_zero, List.getD_cons_succ, List.getD_nil, List.set_cons_zero, List.set_cons_succ, List.cons_append, List.nil_append, Act.eval, Array.getD_eq_getD_getElem?, List.getElem?_toArray, List.getElem?_cons_succ, List.getElem?_cons_zero, Option.getD_some, Value.cells] at hw); (try simp (disch := first | (simp; done) | (simp; omega)) only [Sep.mid_set, Sep.mid_set2, Sep.mid_set0, Sep.mid_splice, Sep.mid_splice0, List.set_cons_zero, List.set_cons_succ] at hw); (try simp only [Sep.splice, List.take_succ_cons, List.take_zero, List.drop_succ_cons, List.drop_zero, List.length_cons, List.length_nil, Nat.reduceAdd, List.cons_append, List.nil_append] at hw); (try replace hc0 := Sep.Holds.cells hw (i := 0) rfl); (try replace hc1 := Sep.Holds.cells hw (i := 1) rfl); (try replace hc2 := Sep.Holds.cells hw (i := 2) rfl); (try replace hc3 := Sep.Holds.cells hw (i := 3) rfl); (try replace hc4 := Sep.Holds.cells hw (i := 4) rfl); (try replace hc5 := Sep.Holds.cells hw (i := 5) rfl); (try replace hc6 := Sep.Holds.cells hw (i := 6) rfl)))
        go_roundw
        case rel => exact ⟨1 + 1, by decide, rfl, Ho2, hw⟩
        case measure => simp [intOf]
    | 2, _ =>
      obtain rfl : u5 = .int .i64 2 := hi
      simp only [roomsC] at hw
      (try replace hc0 := Sep.Holds.cells hw (i := 0) rfl); (try replace hc1 := Sep.Holds.cells hw (i := 1) rfl); (try replace hc2 := Sep.Holds.cells hw (i := 2) rfl); (try replace hc3 := Sep.Holds.cells hw (i := 3) rfl); (try replace hc4 := Sep.Holds.cells hw (i := 4) rfl); (try replace hc5 := Sep.Holds.cells hw (i := 5) rfl); (try replace hc6 := Sep.Holds.cells hw (i := 6) rfl)
      obtain ⟨a2, ha2, hR2⟩ := rd_sliced (n := n) (c := ca) (l := 16) HR.out hn.out (by omega) hca
      have HR2 := Sep.hid hR2; clear hR2
      have hnum : numP ((b.drop 16).take 8) = q2 := hq2.out
      have Hnum := Sep.hid hnum; clear hnum
      go_wp2_with (first | (refine wpList_on rfl (wp_of_run (v := sliced (some p) 16 n ca 1) (run_sliceFrom (l := 16) rfl rfl rfl (by omega)) ?_); (try simp only [Act.put, List.setIfInBounds_toArray, List.set_cons_zero, List.set_cons_succ]); rw [ha2]))
      refine (rNum a2 (b.drop 16) (n - 16) (ca - 16) (by omega) (Sep.hid (by rw [List.length_drop, hn.out])) (Hb.out.drop _) _ (HR2.out _ _ 0 hw rfl)).mono ?_
      rintro _ w2_ ⟨rfl, hw2_⟩; subst hw2_
      rw [Hnum.out]
      clear ha2
      by_cases hneg : q2 < 0
      · have Hp : Hid (readS b = (scr0, 7)) := Sep.hid (by unfold readS; rw [if_neg (by rw [hn.out]; omega), if_neg (by rw [hn.out]; omega), if_pos]; rw [hq0.out, hq1.out, hq2.out, hq3.out]; omega)
        go_wp2_with (first | (refine wpList_on rfl (wp_store1 (v := _) (off := 2) rfl rfl rfl hw (i := 2) rfl (show 2 < 6 by decide) rfl ?_); intro w_ hw_; clear hw; have hw := hw_; clear hw_; (try simp only [List.map_cons, List.map_nil, List.getD_cons_zero, List.getD_cons_succ, List.getD_nil, List.set_cons_zero, List.set_cons_succ, List.cons_append, List.nil_append, Act.eval, Array.getD_eq_getD_getElem?, List.getElem?_toArray, List.getElem?_cons_succ, List.getElem?_cons_zero, Option.getD_some, Value.cells] at hw); (try simp (disch := first | (simp; done) | (simp; omega)) only [Sep.mid_set, Sep.mid_set2, Sep.mid_set0, Sep.mid_splice, Sep.mid_splice0, List.set_cons_zero, List.set_cons_succ] at hw); (try simp only [Sep.splice, List.take_succ_cons, List.take_zero, List.drop_succ_cons, List.drop_zero, List.length_cons, List.length_nil, Nat.reduceAdd, List.cons_append, List.nil_append] at hw); (try replace hc0 := Sep.Holds.cells hw (i := 0) rfl); (try replace hc1 := Sep.Holds.cells hw (i := 1) rfl); (try replace hc2 := Sep.Holds.cells hw (i := 2) rfl); (try replace hc3 := Sep.Holds.cells hw (i := 3) rfl); (try replace hc4 := Sep.Holds.cells hw (i := 4) rfl); (try replace hc5 := Sep.Holds.cells hw (i := 5) rfl); (try replace hc6 := Sep.Holds.cells hw (i := 6) rfl)) | (refine wpList_on rfl (wp_storeAll (vs := [.int .i64 0, .int .i64 0, .int .i64 0, .int .i64 0, .slice none 0 0, .slice none 0 0]) rfl rfl (by rfl) hw (i := 1) rfl rfl rfl (by simp [Value.oneCell']) ?_); intro w_ hw_; clear hw; have hw := hw_; clear hw_; (try simp only [List.map_cons, List.map_nil, List.getD_cons_zero, List.getD_cons_succ, List.getD_nil, List.set_cons_zero, List.set_cons_succ, List.cons_append, List.nil_append, Act.eval, Array.getD_eq_getD_getElem?, List.getElem?_toArray, List.getElem?_cons_succ, List.getElem?_cons_zero, Option.getD_some, Value.cells] at hw); (try simp (disch := first | (simp; done) | (simp; omega)) only [Sep.mid_set, Sep.mid_set2, Sep.mid_set0, Sep.mid_splice, Sep.mid_splice0, List.set_cons_zero, List.set_cons_succ] at hw); (try simp only [Sep.splice, List.take_succ_cons, List.take_zero, List.drop_succ_cons, List.drop_zero, List.length_cons, List.length_nil, Nat.reduceAdd, List.cons_append, List.nil_append] at hw); (try replace hc0 := Sep.Holds.cells hw (i := 0) rfl); (try replace hc1 := Sep.Holds.cells hw (i := 1) rfl); (try replace hc2 := Sep.Holds.cells hw (i := 2) rfl); (try replace hc3 := Sep.Holds.cells hw (i := 3) rfl); (try replace hc4 := Sep.Holds.cells hw (i := 4) rfl); (try replace hc5 := Sep.Holds.cells hw (i := 5) rfl); (try replace hc6 := Sep.Holds.cells hw (i := 6) rfl)))
        refine bodyPost_ret (v := .tuple #[.agg #[.int .i64 0, .int .i64 0, .int .i64 0, .int .i64 0, .slice none 0 0, .slice none 0 0], .int .i64 7]) (res_cell_tmp (ty := 39) rfl rfl rfl hw (i := 1) rfl rfl) rfl ?_
        exact HP.out _ _ (got_no Hp.out (hw.sel [0] (by decide)))
      · have Ho2 : Hid (qOk q0 q1 q2 q3 (2 + 1)) := Sep.hid (by have := Ho.out; unfold qOk at *; omega)
        go_wp2_with (first | (refine wpList_on rfl (wp_store1 (v := _) (off := 2) rfl rfl rfl hw (i := 2) rfl (show 2 < 6 by decide) rfl ?_); intro w_ hw_; clear hw; have hw := hw_; clear hw_; (try simp only [List.map_cons, List.map_nil, List.getD_cons_zero, List.getD_cons_succ, List.getD_nil, List.set_cons_zero, List.set_cons_succ, List.cons_append, List.nil_append, Act.eval, Array.getD_eq_getD_getElem?, List.getElem?_toArray, List.getElem?_cons_succ, List.getElem?_cons_zero, Option.getD_some, Value.cells] at hw); (try simp (disch := first | (simp; done) | (simp; omega)) only [Sep.mid_set, Sep.mid_set2, Sep.mid_set0, Sep.mid_splice, Sep.mid_splice0, List.set_cons_zero, List.set_cons_succ] at hw); (try simp only [Sep.splice, List.take_succ_cons, List.take_zero, List.drop_succ_cons, List.drop_zero, List.length_cons, List.length_nil, Nat.reduceAdd, List.cons_append, List.nil_append] at hw); (try replace hc0 := Sep.Holds.cells hw (i := 0) rfl); (try replace hc1 := Sep.Holds.cells hw (i := 1) rfl); (try replace hc2 := Sep.Holds.cells hw (i := 2) rfl); (try replace hc3 := Sep.Holds.cells hw (i := 3) rfl); (try replace hc4 := Sep.Holds.cells hw (i := 4) rfl); (try replace hc5 := Sep.Holds.cells hw (i := 5) rfl); (try replace hc6 := Sep.Holds.cells hw (i := 6) rfl)))
        go_roundw
        case rel => exact ⟨2 + 1, by decide, rfl, Ho2, hw⟩
        case measure => simp [intOf]
    | 3, _ =>
      obtain rfl : u5 = .int .i64 3 := hi
      simp only [roomsC] at hw
      (try replace hc0 := Sep.Holds.cells hw (i := 0) rfl); (try replace hc1 := Sep.Holds.cells hw (i := 1) rfl); (try replace hc2 := Sep.Holds.cells hw (i := 2) rfl); (try replace hc3 := Sep.Holds.cells hw (i := 3) rfl); (try replace hc4 := Sep.Holds.cells hw (i := 4) rfl); (try replace hc5 := Sep.Holds.cells hw (i := 5) rfl); (try replace hc6 := Sep.Holds.cells hw (i := 6) rfl)
      obtain ⟨a2, ha2, hR2⟩ := rd_sliced (n := n) (c := ca) (l := 24) HR.out hn.out (by omega) hca
      have HR2 := Sep.hid hR2; clear hR2
      have hnum : numP ((b.drop 24).take 8) = q3 := hq3.out
      have Hnum := Sep.hid hnum; clear hnum
      go_wp2_with (first | (refine wpList_on rfl (wp_of_run (v := sliced (some p) 24 n ca 1) (run_sliceFrom (l := 24) rfl rfl rfl (by omega)) ?_); (try simp only [Act.put, List.setIfInBounds_toArray, List.set_cons_zero, List.set_cons_succ]); rw [ha2]))
      refine (rNum a2 (b.drop 24) (n - 24) (ca - 24) (by omega) (Sep.hid (by rw [List.length_drop, hn.out])) (Hb.out.drop _) _ (HR2.out _ _ 0 hw rfl)).mono ?_
      rintro _ w2_ ⟨rfl, hw2_⟩; subst hw2_
      rw [Hnum.out]
      clear ha2
      by_cases hneg : q3 < 0
      · have Hp : Hid (readS b = (scr0, 7)) := Sep.hid (by unfold readS; rw [if_neg (by rw [hn.out]; omega), if_neg (by rw [hn.out]; omega), if_pos]; rw [hq0.out, hq1.out, hq2.out, hq3.out]; omega)
        go_wp2_with (first | (refine wpList_on rfl (wp_store1 (v := _) (off := 3) rfl rfl rfl hw (i := 2) rfl (show 3 < 6 by decide) rfl ?_); intro w_ hw_; clear hw; have hw := hw_; clear hw_; (try simp only [List.map_cons, List.map_nil, List.getD_cons_zero, List.getD_cons_succ, List.getD_nil, List.set_cons_zero, List.set_cons_succ, List.cons_append, List.nil_append, Act.eval, Array.getD_eq_getD_getElem?, List.getElem?_toArray, List.getElem?_cons_succ, List.getElem?_cons_zero, Option.getD_some, Value.cells] at hw); (try simp (disch := first | (simp; done) | (simp; omega)) only [Sep.mid_set, Sep.mid_set2, Sep.mid_set0, Sep.mid_splice, Sep.mid_splice0, List.set_cons_zero, List.set_cons_succ] at hw); (try simp only [Sep.splice, List.take_succ_cons, List.take_zero, List.drop_succ_cons, List.drop_zero, List.length_cons, List.length_nil, Nat.reduceAdd, List.cons_append, List.nil_append] at hw); (try replace hc0 := Sep.Holds.cells hw (i := 0) rfl); (try replace hc1 := Sep.Holds.cells hw (i := 1) rfl); (try replace hc2 := Sep.Holds.cells hw (i := 2) rfl); (try replace hc3 := Sep.Holds.cells hw (i := 3) rfl); (try replace hc4 := Sep.Holds.cells hw (i := 4) rfl); (try replace hc5 := Sep.Holds.cells hw (i := 5) rfl); (try replace hc6 := Sep.Holds.cells hw (i := 6) rfl)) | (refine wpList_on rfl (wp_storeAll (vs := [.int .i64 0, .int .i64 0, .int .i64 0, .int .i64 0, .slice none 0 0, .slice none 0 0]) rfl rfl (by rfl) hw (i := 1) rfl rfl rfl (by simp [Value.oneCell']) ?_); intro w_ hw_; clear hw; have hw := hw_; clear hw_; (try simp only [List.map_cons, List.map_nil, List.getD_cons_zero, List.getD_cons_succ, List.getD_nil, List.set_cons_zero, List.set_cons_succ, List.cons_append, List.nil_append, Act.eval, Array.getD_eq_getD_getElem?, List.getElem?_toArray, List.getElem?_cons_succ, List.getElem?_cons_zero, Option.getD_some, Value.cells] at hw); (try simp (disch := first | (simp; done) | (simp; omega)) only [Sep.mid_set, Sep.mid_set2, Sep.mid_set0, Sep.mid_splice, Sep.mid_splice0, List.set_cons_zero, List.set_cons_succ] at hw); (try simp only [Sep.splice, List.take_succ_cons, List.take_zero, List.drop_succ_cons, List.drop_zero, List.length_cons, List.length_nil, Nat.reduceAdd, List.cons_append, List.nil_append] at hw); (try replace hc0 := Sep.Holds.cells hw (i := 0) rfl); (try replace hc1 := Sep.Holds.cells hw (i := 1) rfl); (try replace hc2 := Sep.Holds.cells hw (i := 2) rfl); (try replace hc3 := Sep.Holds.cells hw (i := 3) rfl); (try replace hc4 := Sep.Holds.cells hw (i := 4) rfl); (try replace hc5 := Sep.Holds.cells hw (i := 5) rfl); (try replace hc6 := Sep.Holds.cells hw (i := 6) rfl)))
        refine bodyPost_ret (v := .tuple #[.agg #[.int .i64 0, .int .i64 0, .int .i64 0, .int .i64 0, .slice none 0 0, .slice none 0 0], .int .i64 7]) (res_cell_tmp (ty := 39) rfl rfl rfl hw (i := 1) rfl rfl) rfl ?_
        exact HP.out _ _ (got_no Hp.out (hw.sel [0] (by decide)))
      · have Ho2 : Hid (qOk q0 q1 q2 q3 (3 + 1)) := Sep.hid (by have := Ho.out; unfold qOk at *; omega)
        go_wp2_with (first | (refine wpList_on rfl (wp_store1 (v := _) (off := 3) rfl rfl rfl hw (i := 2) rfl (show 3 < 6 by decide) rfl ?_); intro w_ hw_; clear hw; have hw := hw_; clear hw_; (try simp only [List.map_cons, List.map_nil, List.getD_cons_zero, List.getD_cons_succ, List.getD_nil, List.set_cons_zero, List.set_cons_succ, List.cons_append, List.nil_append, Act.eval, Array.getD_eq_getD_getElem?, List.getElem?_toArray, List.getElem?_cons_succ, List.getElem?_cons_zero, Option.getD_some, Value.cells] at hw); (try simp (disch := first | (simp; done) | (simp; omega)) only [Sep.mid_set, Sep.mid_set2, Sep.mid_set0, Sep.mid_splice, Sep.mid_splice0, List.set_cons_zero, List.set_cons_succ] at hw); (try simp only [Sep.splice, List.take_succ_cons, List.take_zero, List.drop_succ_cons, List.drop_zero, List.length_cons, List.length_nil, Nat.reduceAdd, List.cons_append, List.nil_append] at hw); (try replace hc0 := Sep.Holds.cells hw (i := 0) rfl); (try replace hc1 := Sep.Holds.cells hw (i := 1) rfl); (try replace hc2 := Sep.Holds.cells hw (i := 2) rfl); (try replace hc3 := Sep.Holds.cells hw (i := 3) rfl); (try replace hc4 := Sep.Holds.cells hw (i := 4) rfl); (try replace hc5 := Sep.Holds.cells hw (i := 5) rfl); (try replace hc6 := Sep.Holds.cells hw (i := 6) rfl)))
        go_roundw
        case rel => exact ⟨3 + 1, by decide, rfl, Ho2, hw⟩
        case measure => simp [intOf]
    | 4, _ =>
      obtain rfl : u5 = .int .i64 4 := hi
      have Hq : Hid (¬ (roomAt b 0 < 0 ∨ roomAt b 1 < 0 ∨ roomAt b 2 < 0 ∨ roomAt b 3 < 0)) := Sep.hid (by have := Ho.out; unfold qOk at this; rw [hq0.out, hq1.out, hq2.out, hq3.out]; omega)
      clear Ho
      have hw : Holds e wr [X, pt b1_ [.int .i64 0, .int .i64 0, .int .i64 0, .int .i64 0, .slice none 0 0, .slice none 0 0] 39, pt bn_ [.int .i64 q0, .int .i64 q1, .int .i64 q2, .int .i64 q3, .slice none 0 0, .slice none 0 0] 39] := hw
      obtain ⟨c, hc⟩ : ∃ c, b.getD 32 0 = c := ⟨_, rfl⟩
      have hcb : b[32]? = some c := by rw [← hc, List.getD_eq_getElem?_getD, List.getElem?_eq_getElem (by rw [hn.out]; omega)]; rfl
      have hc255 := Hb.out c (List.mem_of_getElem? hcb)
      have g32 : wr.cell? ⟨p.block, p.off + 32, none⟩ = some (.int .u8 c) := by
        obtain ⟨p2, hp2, h⟩ := HR.out _ _ 0 hw rfl 32 c hcb
        cases hp2; exact h
      have hcw : wrap64 c = c := IntWalk.wrap64_in _ (by omega)
      have Hc0 := Sep.hid hc; clear hc hcb
      (try replace hc0 := Sep.Holds.cells hw (i := 0) rfl); (try replace hc1 := Sep.Holds.cells hw (i := 1) rfl); (try replace hc2 := Sep.Holds.cells hw (i := 2) rfl); (try replace hc3 := Sep.Holds.cells hw (i := 3) rfl); (try replace hc4 := Sep.Holds.cells hw (i := 4) rfl); (try replace hc5 := Sep.Holds.cells hw (i := 5) rfl); (try replace hc6 := Sep.Holds.cells hw (i := 6) rfl)
      have l32 : (32 : Int) < n := by omega
      by_cases h3 : c < 1
      · have Hp : Hid (readS b = (scr0, 7)) := Sep.hid (by unfold readS; rw [if_neg (by rw [hn.out]; omega), if_neg (by rw [hn.out]; omega), if_neg Hq.out, if_pos (by rw [Hc0.out]; exact .inl h3)])
        clear hc255
        go_wp2_with (first | (refine wpList_on rfl (wp_storeAll (vs := [.int .i64 0, .int .i64 0, .int .i64 0, .int .i64 0, .slice none 0 0, .slice none 0 0]) rfl rfl (by rfl) hw (i := 1) rfl rfl rfl (by simp [Value.oneCell']) ?_); intro w_ hw_; clear hw; have hw := hw_; clear hw_; (try simp only [List.map_cons, List.map_nil, List.getD_cons_zero, List.getD_cons_succ, List.getD_nil, List.set_cons_zero, List.set_cons_succ, List.cons_append, List.nil_append, Act.eval, Array.getD_eq_getD_getElem?, List.getElem?_toArray, List.getElem?_cons_succ, List.getElem?_cons_zero, Option.getD_some, Value.cells] at hw); (try simp (disch := first | (simp; done) | (simp; omega)) only [Sep.mid_set, Sep.mid_set2, Sep.mid_set0, Sep.mid_splice, Sep.mid_splice0, List.set_cons_zero, List.set_cons_succ] at hw); (try simp only [Sep.splice, List.take_succ_cons, List.take_zero, List.drop_succ_cons, List.drop_zero, List.length_cons, List.length_nil, Nat.reduceAdd, List.cons_append, List.nil_append] at hw); (try replace hc0 := Sep.Holds.cells hw (i := 0) rfl); (try replace hc1 := Sep.Holds.cells hw (i := 1) rfl); (try replace hc2 := Sep.Holds.cells hw (i := 2) rfl); (try replace hc3 := Sep.Holds.cells hw (i := 3) rfl); (try replace hc4 := Sep.Holds.cells hw (i := 4) rfl); (try replace hc5 := Sep.Holds.cells hw (i := 5) rfl); (try replace hc6 := Sep.Holds.cells hw (i := 6) rfl)))
        refine bodyPost_ret (v := .tuple #[.agg #[.int .i64 0, .int .i64 0, .int .i64 0, .int .i64 0, .slice none 0 0, .slice none 0 0], .int .i64 7]) (res_cell_tmp (ty := 39) rfl rfl rfl hw (i := 1) rfl rfl) rfl ?_
        exact HP.out _ _ (got_no Hp.out (hw.sel [0] (by decide)))
      by_cases h4 : 8 < c
      · have Hp : Hid (readS b = (scr0, 7)) := Sep.hid (by unfold readS; rw [if_neg (by rw [hn.out]; omega), if_neg (by rw [hn.out]; omega), if_neg Hq.out, if_pos (by rw [Hc0.out]; exact .inr h4)])
        clear hc255
        go_wp2_with (first | (refine wpList_on rfl (wp_storeAll (vs := [.int .i64 0, .int .i64 0, .int .i64 0, .int .i64 0, .slice none 0 0, .slice none 0 0]) rfl rfl (by rfl) hw (i := 1) rfl rfl rfl (by simp [Value.oneCell']) ?_); intro w_ hw_; clear hw; have hw := hw_; clear hw_; (try simp only [List.map_cons, List.map_nil, List.getD_cons_zero, List.getD_cons_succ, List.getD_nil, List.set_cons_zero, List.set_cons_succ, List.cons_append, List.nil_append, Act.eval, Array.getD_eq_getD_getElem?, List.getElem?_toArray, List.getElem?_cons_succ, List.getElem?_cons_zero, Option.getD_some, Value.cells] at hw); (try simp (disch := first | (simp; done) | (simp; omega)) only [Sep.mid_set, Sep.mid_set2, Sep.mid_set0, Sep.mid_splice, Sep.mid_splice0, List.set_cons_zero, List.set_cons_succ] at hw); (try simp only [Sep.splice, List.take_succ_cons, List.take_zero, List.drop_succ_cons, List.drop_zero, List.length_cons, List.length_nil, Nat.reduceAdd, List.cons_append, List.nil_append] at hw); (try replace hc0 := Sep.Holds.cells hw (i := 0) rfl); (try replace hc1 := Sep.Holds.cells hw (i := 1) rfl); (try replace hc2 := Sep.Holds.cells hw (i := 2) rfl); (try replace hc3 := Sep.Holds.cells hw (i := 3) rfl); (try replace hc4 := Sep.Holds.cells hw (i := 4) rfl); (try replace hc5 := Sep.Holds.cells hw (i := 5) rfl); (try replace hc6 := Sep.Holds.cells hw (i := 6) rfl)))
        refine bodyPost_ret (v := .tuple #[.agg #[.int .i64 0, .int .i64 0, .int .i64 0, .int .i64 0, .slice none 0 0, .slice none 0 0], .int .i64 7]) (res_cell_tmp (ty := 39) rfl rfl rfl hw (i := 1) rfl rfl) rfl ?_
        exact HP.out _ _ (got_no Hp.out (hw.sel [0] (by decide)))
      obtain ⟨N, rfl⟩ : ∃ N : Nat, c = N := ⟨c.toNat, by omega⟩
      have hN8 : N ≤ 8 := by omega
      have Hp : Hid (readS b = readT b (readPs N (b.drop 33))) := Sep.hid (by unfold readS; rw [if_neg (by rw [hn.out]; omega), if_neg (by rw [hn.out]; omega), if_neg Hq.out, if_neg (by rw [Hc0.out]; omega), Hc0.out, Int.toNat_natCast])
      clear Hc0 Hq hc255
      have h5000 : n ≤ 4000 := by omega
      have H33 : Hid (33 ≤ n) := Sep.hid (by omega)
      clear h1 h2
      go_wp2_with fail
      clear g32 hcw l32
      have hw := (hw.addEmp (X := Sl 62 1 (.slice none 0 0) 0 (hdVs [] [])) (Sl.nil _ _ _)).addEmp (X := sepL (hdRs 82 [] [])) (sepL_none (by intro P hP; cases hP))
      have Hw0 := Sep.hid hw; clear hw; (try clear hc0); (try clear hc1); (try clear hc2); (try clear hc3); (try clear hc4); (try clear hc5); (try clear hc6)
      go_loopw [8, 7] (fun i at7 wr => ∃ (k z m pc : Nat) (pa : Option Addr) (hs : List Hd) (ps : List (List Deed)), k ≤ N ∧ i = .int .i64 k ∧ at7 = .int .i64 ((33 + z : Nat) : Int) ∧ Hid (m + (33 + z) = n) ∧ m ≤ 4000 ∧ Hid (readPs N (b.drop 33) = catP ps z (readPs (N - k) (b.drop (33 + z)))) ∧ Hid (ps.length = k) ∧ Hid (hs.length = k) ∧ Holds e wr [X, pt b1_ [.int .i64 0, .int .i64 0, .int .i64 0, .int .i64 0, .slice none 0 0, .slice none 0 0] 39, pt bn_ [.int .i64 q0, .int .i64 q1, .int .i64 q2, .int .i64 q3, .slice pa k pc, .slice none 0 0] 39, Sl 62 1 (.slice pa k pc) k (hdVs hs ps), sepL (hdRs 82 hs ps)]) (fun i _ _ => N - (intOf i).toNat)
      case atStart => exact ⟨0, 0, n - 33, 0, none, [], [], Nat.zero_le _, rfl, rfl, Sep.hid (by have := H33.out; omega), by omega, Sep.hid (by simp [catP]), Sep.hid rfl, Sep.hid rfl, Hw0.out⟩
      case round =>
        clear Hw0
        obtain ⟨k, z, m, pc, pa, hs, ps, hk, rfl, rfl, Hmz, hm4, Hps, Hpl, Hhl, hw⟩ := hrel
        have hz : 33 + z ≤ n := by have := Hmz.out; omega
        have Hmz2 : Hid (n - (33 + z) = m) := Sep.hid (by have := Hmz.out; omega)
        have hdl : (b.drop (33 + z)).length = m := by rw [List.length_drop, hn.out]; have := Hmz.out; omega
        have Hdb : Hid (Bys (b.drop (33 + z))) := Sep.hid (Hb.out.drop _)
        have Hdr : Hid (∀ q, b.drop (33 + (z + q)) = (b.drop (33 + z)).drop q) := Sep.hid (fun q => by rw [List.drop_drop]; congr 1; omega)
        have Hitm : Hid (∀ ps2 z2, z2 = z → readT b (ps2, z2, 0) = if (itemsP (b.drop (33 + z))).2 = 0 then (⟨q0, q1, q2, q3, ps2, (itemsP (b.drop (33 + z))).1⟩, 0) else (scr0, (itemsP (b.drop (33 + z))).2)) := Sep.hid (fun ps2 z2 hz => by
          subst hz
          unfold readT
          rw [if_pos rfl, hq0.out, hq1.out, hq2.out, hq3.out])
        obtain ⟨d, hdd⟩ : ∃ d, b.drop (33 + z) = d := ⟨_, rfl⟩
        have Hdd := Sep.hid hdd
        rw [hdd] at hdl Hdb Hdr Hitm Hps
        clear hdd
        obtain ⟨y, hy⟩ : ∃ y, 33 + z = y := ⟨_, rfl⟩
        rw [hy] at Hmz Hmz2 hz Hdd ⊢
        have Hy := Sep.hid hy; clear hy
        have hy4 : y ≤ 4000 := by omega
        have Hdl := Sep.hid hdl; clear hdl
        (try replace hc0 := Sep.Holds.cells hw (i := 0) rfl); (try replace hc1 := Sep.Holds.cells hw (i := 1) rfl); (try replace hc2 := Sep.Holds.cells hw (i := 2) rfl); (try replace hc3 := Sep.Holds.cells hw (i := 3) rfl); (try replace hc4 := Sep.Holds.cells hw (i := 4) rfl); (try replace hc5 := Sep.Holds.cells hw (i := 5) rfl); (try replace hc6 := Sep.Holds.cells hw (i := 6) rfl)
        by_cases hlt : k < N
        · obtain ⟨j, hj⟩ : ∃ j, N - k = j + 1 := ⟨N - k - 1, by omega⟩
          have Hj : Hid (N - (k + 1) = j) := Sep.hid (by omega)
          rw [hj] at Hps
          clear hj
          obtain ⟨a2, ha2, hR2⟩ := rd_sliced (n := n) (c := ca) (l := y) HR.out hn.out hz hca
          rw [Hdd.out] at hR2
          rw [Hmz2.out] at ha2
          have HR2 := Sep.hid hR2; clear hR2
          go_wp2_with (first | (refine wpList_on rfl (wp_of_run (v := sliced (some p) y n ca 1) (run_sliceFrom (l := y) rfl rfl rfl hz) ?_); (try simp only [Act.put, List.setIfInBounds_toArray, List.set_cons_zero, List.set_cons_succ]); rw [ha2]))
          clear ha2
          refine (rRead d m (ca - y) a2 Hdl (by have := Hmz.out; omega) Hdb.out e _ _ (HR2.out.at 0 rfl) hw.focus0).mono ?_
          rintro _ w_ ⟨v, rfl, hw_⟩
          clear hw; (try clear hc0); (try clear hc1); (try clear hc2); (try clear hc3); (try clear hc4); (try clear hc5); (try clear hc6); have hw := Holds.unfocus0 hw_; clear hw_
          by_cases he : (readP d).2.2 = 0
          case neg =>
            have hp2 : readS b = (scr0, (readP d).2.2) := by
              rw [Hp.out, Hps.out, readPs_err he]
              unfold catP readT
              rw [if_neg he]
            obtain ⟨er, her⟩ : ∃ er, (readP d).2.2 = er := ⟨_, rfl⟩
            rw [her] at hp2 he ⊢
            have Hp2 := Sep.hid hp2
            have hne : (er != 0) = true := by simpa using he
            clear hp2 he her
            (try simp only [List.map_cons, List.map_nil, List.getD_cons_zero, List.getD_cons_succ, List.getD_nil, List.set_cons_zero, List.set_cons_succ, List.cons_append, List.nil_append, Act.eval, Array.getD_eq_getD_getElem?, List.getElem?_toArray, List.getElem?_cons_succ, List.getElem?_cons_zero, Option.getD_some, Value.cells] at hw); (try simp (disch := first | (simp; done) | (simp; omega)) only [Sep.mid_set, Sep.mid_set2, Sep.mid_set0, Sep.mid_splice, Sep.mid_splice0, List.set_cons_zero, List.set_cons_succ] at hw); (try simp only [Sep.splice, List.take_succ_cons, List.take_zero, List.drop_succ_cons, List.drop_zero, List.length_cons, List.length_nil, Nat.reduceAdd, List.cons_append, List.nil_append] at hw); (try replace hc0 := Sep.Holds.cells hw (i := 0) rfl); (try replace hc1 := Sep.Holds.cells hw (i := 1) rfl); (try replace hc2 := Sep.Holds.cells hw (i := 2) rfl); (try replace hc3 := Sep.Holds.cells hw (i := 3) rfl); (try replace hc4 := Sep.Holds.cells hw (i := 4) rfl); (try replace hc5 := Sep.Holds.cells hw (i := 5) rfl); (try replace hc6 := Sep.Holds.cells hw (i := 6) rfl)
            go_wp2_with (first | (refine wpList_on rfl (wp_storeAll (vs := [.int .i64 0, .int .i64 0, .int .i64 0, .int .i64 0, .slice none 0 0, .slice none 0 0]) rfl rfl (by rfl) hw (i := 1) rfl rfl rfl (by simp [Value.oneCell']) ?_); intro w_ hw_; clear hw; have hw := hw_; clear hw_; (try simp only [List.map_cons, List.map_nil, List.getD_cons_zero, List.getD_cons_succ, List.getD_nil, List.set_cons_zero, List.set_cons_succ, List.cons_append, List.nil_append, Act.eval, Array.getD_eq_getD_getElem?, List.getElem?_toArray, List.getElem?_cons_succ, List.getElem?_cons_zero, Option.getD_some, Value.cells] at hw); (try simp (disch := first | (simp; done) | (simp; omega)) only [Sep.mid_set, Sep.mid_set2, Sep.mid_set0, Sep.mid_splice, Sep.mid_splice0, List.set_cons_zero, List.set_cons_succ] at hw); (try simp only [Sep.splice, List.take_succ_cons, List.take_zero, List.drop_succ_cons, List.drop_zero, List.length_cons, List.length_nil, Nat.reduceAdd, List.cons_append, List.nil_append] at hw); (try replace hc0 := Sep.Holds.cells hw (i := 0) rfl); (try replace hc1 := Sep.Holds.cells hw (i := 1) rfl); (try replace hc2 := Sep.Holds.cells hw (i := 2) rfl); (try replace hc3 := Sep.Holds.cells hw (i := 3) rfl); (try replace hc4 := Sep.Holds.cells hw (i := 4) rfl); (try replace hc5 := Sep.Holds.cells hw (i := 5) rfl); (try replace hc6 := Sep.Holds.cells hw (i := 6) rfl)))
            refine bodyPost_ret (v := .tuple #[.agg #[.int .i64 0, .int .i64 0, .int .i64 0, .int .i64 0, .slice none 0 0, .slice none 0 0], .int .i64 er]) (res_cell_tmp (ty := 39) rfl rfl rfl hw (i := 1) rfl rfl) rfl ?_
            exact HP.out _ _ (got_no Hp2.out (hw.sel [0] (by decide)))
          obtain ⟨j2, hrd, hj1, hj24, hjl, _, _⟩ := bytes_read Hdb.out he
          have hll := readL_len d j2
          have Hst := Sep.hid (readPs_step (k := j) hrd)
          rw [hrd] at hw ⊢
          have Hb2 : Hid (1 + j2 * 11 ≤ m) := Sep.hid (by rw [← Hdl.out]; exact hjl)
          clear he hrd hjl
          generalize hn2 : 1 + j2 * 11 = n2 at *
          generalize readL d j2 = l at *
          have hIs : IsAs 82 v l = Sl 82 4 v j2 (encAs l) := by unfold IsAs; rw [hll]
          rw [hIs] at hw; clear hIs
          have Hll := Sep.hid hll; clear hll
          (try simp only [List.map_cons, List.map_nil, List.getD_cons_zero, List.getD_cons_succ, List.getD_nil, List.set_cons_zero, List.set_cons_succ, List.cons_append, List.nil_append, Act.eval, Array.getD_eq_getD_getElem?, List.getElem?_toArray, List.getElem?_cons_succ, List.getElem?_cons_zero, Option.getD_some, Value.cells] at hw); (try simp (disch := first | (simp; done) | (simp; omega)) only [Sep.mid_set, Sep.mid_set2, Sep.mid_set0, Sep.mid_splice, Sep.mid_splice0, List.set_cons_zero, List.set_cons_succ] at hw); (try simp only [Sep.splice, List.take_succ_cons, List.take_zero, List.drop_succ_cons, List.drop_zero, List.length_cons, List.length_nil, Nat.reduceAdd, List.cons_append, List.nil_append] at hw); (try replace hc0 := Sep.Holds.cells hw (i := 0) rfl); (try replace hc1 := Sep.Holds.cells hw (i := 1) rfl); (try replace hc2 := Sep.Holds.cells hw (i := 2) rfl); (try replace hc3 := Sep.Holds.cells hw (i := 3) rfl); (try replace hc4 := Sep.Holds.cells hw (i := 4) rfl); (try replace hc5 := Sep.Holds.cells hw (i := 5) rfl); (try replace hc6 := Sep.Holds.cells hw (i := 6) rfl)
          obtain ⟨va, vc, rfl⟩ := Sl.value (i := 5) rfl hw
          have hn300 : n2 ≤ 300 := by omega
          clear hn2
          go_wp2_with (first | (refine wpList_on rfl (wp_bsl1 rfl rfl (by rfl) (by rfl) (by decide) hw ?_); intro b_ w_ hw_; clear hw; have hw := hw_; clear hw_; (try simp only [List.map_cons, List.map_nil, List.getD_cons_zero, List.getD_cons_succ, List.getD_nil, List.set_cons_zero, List.set_cons_succ, List.cons_append, List.nil_append, Act.eval, Array.getD_eq_getD_getElem?, List.getElem?_toArray, List.getElem?_cons_succ, List.getElem?_cons_zero, Option.getD_some, Value.cells] at hw); (try simp (disch := first | (simp; done) | (simp; omega)) only [Sep.mid_set, Sep.mid_set2, Sep.mid_set0, Sep.mid_splice, Sep.mid_splice0, List.set_cons_zero, List.set_cons_succ] at hw); (try simp only [Sep.splice, List.take_succ_cons, List.take_zero, List.drop_succ_cons, List.drop_zero, List.length_cons, List.length_nil, Nat.reduceAdd, List.cons_append, List.nil_append] at hw); (try replace hc0 := Sep.Holds.cells hw (i := 0) rfl); (try replace hc1 := Sep.Holds.cells hw (i := 1) rfl); (try replace hc2 := Sep.Holds.cells hw (i := 2) rfl); (try replace hc3 := Sep.Holds.cells hw (i := 3) rfl); (try replace hc4 := Sep.Holds.cells hw (i := 4) rfl); (try replace hc5 := Sep.Holds.cells hw (i := 5) rfl); (try replace hc6 := Sep.Holds.cells hw (i := 6) rfl)) | (at_builtin; refine wpList_on rfl (wp_appendPt (i := 3) (j := 6) rfl rfl hw rfl rfl rfl (by rfl) (by simp [Value.oneCell']) (by decide) (by rfl) (by (try unfold maxLen); omega) (by (try unfold maxLen); omega) ?_); intro bx2_ cap2_ off2_ w_ hcap2_ hw_; clear hw; have hw := hw_; clear hw_; (try simp only [List.map_cons, List.map_nil, List.getD_cons_zero, List.getD_cons_succ, List.getD_nil, List.set_cons_zero, List.set_cons_succ, List.cons_append, List.nil_append, Act.eval, Array.getD_eq_getD_getElem?, List.getElem?_toArray, List.getElem?_cons_succ, List.getElem?_cons_zero, Option.getD_some, Value.cells] at hw); (try simp (disch := first | (simp; done) | (simp; omega)) only [Sep.mid_set, Sep.mid_set2, Sep.mid_set0, Sep.mid_splice, Sep.mid_splice0, List.set_cons_zero, List.set_cons_succ] at hw); (try simp only [Sep.splice, List.take_succ_cons, List.take_zero, List.drop_succ_cons, List.drop_zero, List.length_cons, List.length_nil, Nat.reduceAdd, List.cons_append, List.nil_append] at hw); (try replace hc0 := Sep.Holds.cells hw (i := 0) rfl); (try replace hc1 := Sep.Holds.cells hw (i := 1) rfl); (try replace hc2 := Sep.Holds.cells hw (i := 2) rfl); (try replace hc3 := Sep.Holds.cells hw (i := 3) rfl); (try replace hc4 := Sep.Holds.cells hw (i := 4) rfl); (try replace hc5 := Sep.Holds.cells hw (i := 5) rfl); (try replace hc6 := Sep.Holds.cells hw (i := 6) rfl)) | (refine wpList_on rfl (wp_store1 (v := _) (off := 4) rfl rfl rfl hw (i := 2) rfl (show 4 < 6 by decide) rfl ?_); intro w_ hw_; clear hw; have hw := hw_; clear hw_; (try simp only [List.map_cons, List.map_nil, List.getD_cons_zero, List.getD_cons_succ, List.getD_nil, List.set_cons_zero, List.set_cons_succ, List.cons_append, List.nil_append, Act.eval, Array.getD_eq_getD_getElem?, List.getElem?_toArray, List.getElem?_cons_succ, List.getElem?_cons_zero, Option.getD_some, Value.cells] at hw); (try simp (disch := first | (simp; done) | (simp; omega)) only [Sep.mid_set, Sep.mid_set2, Sep.mid_set0, Sep.mid_splice, Sep.mid_splice0, List.set_cons_zero, List.set_cons_succ] at hw); (try simp only [Sep.splice, List.take_succ_cons, List.take_zero, List.drop_succ_cons, List.drop_zero, List.length_cons, List.length_nil, Nat.reduceAdd, List.cons_append, List.nil_append] at hw); (try replace hc0 := Sep.Holds.cells hw (i := 0) rfl); (try replace hc1 := Sep.Holds.cells hw (i := 1) rfl); (try replace hc2 := Sep.Holds.cells hw (i := 2) rfl); (try replace hc3 := Sep.Holds.cells hw (i := 3) rfl); (try replace hc4 := Sep.Holds.cells hw (i := 4) rfl); (try replace hc5 := Sep.Holds.cells hw (i := 5) rfl); (try replace hc6 := Sep.Holds.cells hw (i := 6) rfl)))
          go_roundw
          case rel =>
            have hw := hw.sel [0, 1, 2, 3, 4, 5] (by decide)
            have hw := Holds.growRow (L := [X, pt b1_ [.int .i64 0, .int .i64 0, .int .i64 0, .int .i64 0, .slice none 0 0, .slice none 0 0] 39, pt bn_ [.int .i64 q0, .int .i64 q1, .int .i64 q2, .int .i64 q3, .slice (some ⟨bx2_, off2_, none⟩) (k + 1) cap2_, .slice none 0 0] 39, Sl 62 1 (.slice (some ⟨bx2_, off2_, none⟩) (k + 1) cap2_) (k + 1) (hdVs hs ps ++ [.slice va j2 vc]), sepL (hdRs 82 hs ps)]) (j := 4) (R := hdRs 82 hs ps) (B := Sl 82 4 (.slice va j2 vc) j2 (encAs l)) rfl hw
            have hpl : hs.length = ps.length := by rw [Hpl.out, Hhl.out]
            have e1 : hdVs hs ps ++ [.slice va j2 vc] = hdVs (hs ++ [(va, vc)]) (ps ++ [l]) := by rw [hdVs_snoc hpl]; unfold hdV; rw [Hll.out]
            have e2 : hdRs 82 hs ps ++ [Sl 82 4 (.slice va j2 vc) j2 (encAs l)] = hdRs 82 (hs ++ [(va, vc)]) (ps ++ [l]) := by rw [hdRs_snoc hpl]; unfold hdV IsAs; rw [Hll.out]
            rw [e1, e2] at hw
            exact ⟨k + 1, z + n2, m - n2, cap2_, some ⟨bx2_, off2_, none⟩, hs ++ [(va, vc)], ps ++ [l], by omega, by go_num, congrArg (Value.int .i64) (by have := Hy.out; omega), Sep.hid (by have := Hmz.out; have := Hb2.out; have := Hy.out; omega), by omega, Sep.hid (by rw [Hps.out, Hst.out, catP_catP, Hj.out, Hdr.out]), Sep.hid (by rw [List.length_append, Hpl.out]; rfl), Sep.hid (by rw [List.length_append, Hhl.out]; rfl), hw⟩
          case measure => simp [intOf]; omega
        · have hke : N = k := by omega
          subst hke
          have Hp2 : Hid (readS b = if (itemsP d).2 = 0 then (⟨q0, q1, q2, q3, ps, (itemsP d).1⟩, 0) else (scr0, (itemsP d).2)) := Sep.hid (by
            rw [Hp.out, Hps.out, Nat.sub_self]
            unfold catP readPs
            rw [Hitm.out _ _ (Nat.add_zero z), List.append_nil])
          clear Hp Hps Hitm Hdr
          have hsub : (n : Int) - (y : Int) = (m : Int) := by have := Hmz.out; omega
          by_cases h10 : m % 10 = 0
          case neg =>
            have Hp3 : Hid (readS b = (scr0, 8)) := Sep.hid (by
              have hi : itemsP d = ([], 8) := by unfold itemsP; rw [if_pos (by rw [Hdl.out]; exact h10)]
              rw [Hp2.out, hi]; rfl)
            have hr : ((m : Int) % 10 != 0) = true := by simp; omega
            clear h10 Hp2
            go_wp2_with (first | (refine wpList_on rfl (wp_storeAll (vs := [.int .i64 0, .int .i64 0, .int .i64 0, .int .i64 0, .slice none 0 0, .slice none 0 0]) rfl rfl (by rfl) hw (i := 1) rfl rfl rfl (by simp [Value.oneCell']) ?_); intro w_ hw_; clear hw; have hw := hw_; clear hw_; (try simp only [List.map_cons, List.map_nil, List.getD_cons_zero, List.getD_cons_succ, List.getD_nil, List.set_cons_zero, List.set_cons_succ, List.cons_append, List.nil_append, Act.eval, Array.getD_eq_getD_getElem?, List.getElem?_toArray, List.getElem?_cons_succ, List.getElem?_cons_zero, Option.getD_some, Value.cells] at hw); (try simp (disch := first | (simp; done) | (simp; omega)) only [Sep.mid_set, Sep.mid_set2, Sep.mid_set0, Sep.mid_splice, Sep.mid_splice0, List.set_cons_zero, List.set_cons_succ] at hw); (try simp only [Sep.splice, List.take_succ_cons, List.take_zero, List.drop_succ_cons, List.drop_zero, List.length_cons, List.length_nil, Nat.reduceAdd, List.cons_append, List.nil_append] at hw); (try replace hc0 := Sep.Holds.cells hw (i := 0) rfl); (try replace hc1 := Sep.Holds.cells hw (i := 1) rfl); (try replace hc2 := Sep.Holds.cells hw (i := 2) rfl); (try replace hc3 := Sep.Holds.cells hw (i := 3) rfl); (try replace hc4 := Sep.Holds.cells hw (i := 4) rfl); (try replace hc5 := Sep.Holds.cells hw (i := 5) rfl); (try replace hc6 := Sep.Holds.cells hw (i := 6) rfl)))
            refine bodyPost_ret (v := .tuple #[.agg #[.int .i64 0, .int .i64 0, .int .i64 0, .int .i64 0, .slice none 0 0, .slice none 0 0], .int .i64 8]) (res_cell_tmp (ty := 39) rfl rfl rfl hw (i := 1) rfl rfl) rfl ?_
            exact HP.out _ _ (got_no Hp3.out (hw.sel [0] (by decide)))
          obtain ⟨M, hM⟩ : ∃ M, m / 10 = M := ⟨_, rfl⟩
          have HM : Hid (m = 10 * M) := Sep.hid (by omega)
          have Hi : Hid (itemsP d = if (readI d M).all itemP = true ∧ M ≤ 200 then (readI d M, 0) else ([], 7)) := Sep.hid (by unfold itemsP; rw [if_neg (by rw [Hdl.out]; omega), Hdl.out, hM])
          have Hno : Hid (¬ ((readI d M).all itemP = true ∧ M ≤ 200) → readS b = (scr0, 7)) := Sep.hid (fun h => by rw [Hp2.out, Hi.out, if_neg h]; rfl)
          have hr : ((m : Int) % 10 != 0) = false := by simp; omega
          clear h10 hM
          go_wp2_with fail
          clear hsub hr
          have hw := hw.addEmp (X := Sl 47 3 (.slice none 0 0) 0 (encTs [])) (Sl.nil _ _ _)
          have Hw0 := Sep.hid hw; clear hw; (try clear hc0); (try clear hc1); (try clear hc2); (try clear hc3); (try clear hc4); (try clear hc5); (try clear hc6)
          go_loopw [7] (fun at7 wr => ∃ (k ic : Nat) (ia : Option Addr), at7 = .int .i64 ((y + 10 * k : Nat) : Int) ∧ Hid (10 * k ≤ m) ∧ k ≤ 200 ∧ Hid ((readI d k).all itemP = true) ∧ Holds e wr [X, pt b1_ [.int .i64 0, .int .i64 0, .int .i64 0, .int .i64 0, .slice none 0 0, .slice none 0 0] 39, pt bn_ [.int .i64 q0, .int .i64 q1, .int .i64 q2, .int .i64 q3, .slice pa N pc, .slice ia k ic] 39, Sl 62 1 (.slice pa N pc) N (hdVs hs ps), sepL (hdRs 82 hs ps), Sl 47 3 (.slice ia k ic) k (encTs (readI d k))]) (fun i _ => n - (intOf i).toNat)
          case atStart => exact ⟨0, 0, none, congrArg (Value.int .i64) (by omega), Sep.hid (by omega), by omega, Sep.hid rfl, Hw0.out⟩
          case round =>
            clear Hw0
            obtain ⟨k, ic, ia, rfl, Hkm, hk200, Hall, hw⟩ := hrel
            obtain ⟨s, hss⟩ : ∃ s, y + 10 * k = s := ⟨_, rfl⟩
            rw [hss]
            have Hs := Sep.hid hss; clear hss
            have hs4 : s ≤ 4000 := by have := Hs.out; have := Hkm.out; have := Hmz.out; omega
            (try replace hc0 := Sep.Holds.cells hw (i := 0) rfl); (try replace hc1 := Sep.Holds.cells hw (i := 1) rfl); (try replace hc2 := Sep.Holds.cells hw (i := 2) rfl); (try replace hc3 := Sep.Holds.cells hw (i := 3) rfl); (try replace hc4 := Sep.Holds.cells hw (i := 4) rfl); (try replace hc5 := Sep.Holds.cells hw (i := 5) rfl); (try replace hc6 := Sep.Holds.cells hw (i := 6) rfl)
            by_cases hlt : s < n
            · have hkM : k < M := by have := Hs.out; have := HM.out; have := Hmz.out; omega
              have hs10 : s + 10 ≤ n := by have := Hs.out; have := HM.out; have := Hmz.out; omega
              have Hsn := Sep.hid (readI_snoc d k)
              have Hx : Hid (itmAt ((d.drop (k * 10)).take 10) = ⟨b[s]?.getD 0, b[s + 1]?.getD 0, numP ((b.drop (s + 2)).take 8)⟩) := Sep.hid (by
                rw [← Hdd.out, List.drop_drop, show y + k * 10 = s by rw [← Hs.out]; omega]; exact itmAt_at b s)
              have Hget : Hid (∀ j, s + j < n → IntKind.i64.wrap (b[s + j]?.getD 0) = b[s + j]?.getD 0 ∧ ∀ w', Holds e w' [X] → w'.cell? (p.add (s + j)) = some (.int .u8 (b[s + j]?.getD 0))) := Sep.hid (fun j hj => by
                have hj' : b[s + j]? = some (b[s + j]?.getD 0) := by rw [List.getElem?_eq_getElem (by rw [hn.out]; exact hj)]; rfl
                refine ⟨IntWalk.i64_in _ (by have := Hb.out _ (List.mem_of_getElem? hj'); omega), fun w' hw' => ?_⟩
                obtain ⟨p2, hp2, hc⟩ := HR.out w' [X] 0 hw' rfl _ _ hj'
                cases hp2; exact hc)
              have Hnum : Hid (∀ w' L, Holds e w' (X :: L) → Calls Tryd.prog 28 #[.slice (some (p.add (s + 2))) (n - (s + 2)) (ca - (s + 2))] w' fun en w2 => en = .returned (.int .i64 (numP ((b.drop (s + 2)).take 8))) ∧ w2 = w') := Sep.hid (fun w' L hw' => rNum _ (b.drop (s + 2)) _ _ (by omega) (Sep.hid (by rw [List.length_drop, hn.out])) (Hb.out.drop _) w' (rd_from (i := 0) HR.out hw' rfl _))
              obtain ⟨c0, hc0⟩ : ∃ c0, b[s]?.getD 0 = c0 := ⟨_, rfl⟩
              obtain ⟨c1, hc1⟩ : ∃ c1, b[s + 1]?.getD 0 = c1 := ⟨_, rfl⟩
              have Hg : Hid ((IntKind.i64.wrap c0 = c0 ∧ IntKind.i64.wrap c1 = c1) ∧ ∀ w', Holds e w' [X] → w'.cell? (p.add s) = some (.int .u8 c0) ∧ w'.cell? (p.add (s + 1)) = some (.int .u8 c1)) := Sep.hid (by
                have g0 := Hget.out 0 (by omega)
                have g1 := Hget.out 1 (by omega)
                rw [Nat.add_zero, hc0] at g0
                rw [hc1] at g1
                exact ⟨⟨g0.1, g1.1⟩, fun w' hw' => ⟨g0.2 w' hw', g1.2 w' hw'⟩⟩)
              rw [hc0, hc1] at Hx
              rw [Hx.out] at Hsn
              clear hc0 hc1 Hget Hx
              generalize numP ((b.drop (s + 2)).take 8) = c2 at *
              obtain ⟨s1, hs1⟩ : ∃ s1, s + 1 = s1 := ⟨_, rfl⟩
              obtain ⟨s2, hs2⟩ : ∃ s2, s + 2 = s2 := ⟨_, rfl⟩
              have e1 : IntKind.i64.wrap ((s : Int) + 1) = (s1 : Int) := by rw [← hs1, IntWalk.i64_in _ (by omega)]; rfl
              have e2 : IntKind.i64.wrap ((s : Int) + 2) = (s2 : Int) := by rw [← hs2, IntWalk.i64_in _ (by omega)]; rfl
              have l1 : s1 < n := by omega
              have l3 : s2 ≤ n := by omega
              have l4 : n ≤ ca := hca
              have l5 : ¬ ca = s2 := by omega
              have Hs10 := Sep.hid hs10
              rw [hs1] at Hg
              rw [hs2] at Hnum
              clear hs1 hs2 hs10
              obtain ⟨A, hA⟩ : ∃ A, A = encTs (readI d k) := ⟨_, rfl⟩
              have HA := Sep.hid hA
              rw [← hA] at hw
              clear hA
              go_wp2_with fail
              refine wp_region_L [15, 17, 18] [(3, (fun w' => Holds e w' [X])), (9, (fun w' => Holds e w' [X]))] (n := 19) (listed := (marks 19 0)) (by kernel_rfl) rfl (by kernel_rfl) ?conds1 ?_
              case conds1 =>
               intro c hc
               simp only [List.mem_cons, List.not_mem_nil, or_false] at hc
               rcases hc with rfl | rfl
               · exact (by replace hw := hw.drew; exact hw.sel [0] (by decide))
               · exact (by replace hw := hw.drew; exact hw.sel [0] (by decide))
              replace hw := hw.drew
              (try replace hc0 := Sep.Holds.cells hw (i := 0) rfl); (try replace hc1 := Sep.Holds.cells hw (i := 1) rfl); (try replace hc2 := Sep.Holds.cells hw (i := 2) rfl); (try replace hc3 := Sep.Holds.cells hw (i := 3) rfl); (try replace hc4 := Sep.Holds.cells hw (i := 4) rfl); (try replace hc5 := Sep.Holds.cells hw (i := 5) rfl); (try replace hc6 := Sep.Holds.cells hw (i := 6) rfl)
              refine wpL_q 0 ?_ rfl (Or.inl ⟨by rfl, fun w_ hS_ => ?_⟩) (marks 19 1) ?_
              rotate_left
              next => (go_simp; try (first | rfl | exact (Bool.not_not _).symm))
              try simp only [Act.put, List.setIfInBounds_toArray, List.set_cons_zero, List.set_cons_succ]
              refine wpL_q 1 ?_ rfl (Or.inl ⟨by rfl, fun w_ hS_ => ?_⟩) (marks 19 3) ?_
              rotate_left
              next => (go_simp; try (first | rfl | exact (Bool.not_not _).symm))
              try simp only [Act.put, List.setIfInBounds_toArray, List.set_cons_zero, List.set_cons_succ]
              refine wpL_q 2 ?_ rfl (Or.inl ⟨by rfl, fun w_ hS_ => ?_⟩) (marks 19 7) ?_
              rotate_left
              next => (go_simp; try (first | rfl | exact (Bool.not_not _).symm))
              try simp only [Act.put, List.setIfInBounds_toArray, List.set_cons_zero, List.set_cons_succ]
              refine wpL_m 3 ?_ rfl (.head _) (Or.inl ⟨by rfl, fun w_ hS_ => ?_⟩) (marks 19 15) ?_
              rotate_left
              next => (dsimp only at hS_; (try have q0 := Sep.Holds.cells hS_ (i := 0) rfl); (try have q1 := Sep.Holds.cells hS_ (i := 1) rfl); (try have q2 := Sep.Holds.cells hS_ (i := 2) rfl); (try have q3 := Sep.Holds.cells hS_ (i := 3) rfl); (try have q4 := Sep.Holds.cells hS_ (i := 4) rfl); (try have q5 := Sep.Holds.cells hS_ (i := 5) rfl); (try have q6 := Sep.Holds.cells hS_ (i := 6) rfl); first | ((first | (go_simp; (try rfl); done) | (obtain ⟨g0, g1⟩ := Hg.out.2 _ hS_; go_simp; (try rfl); done))) | (go_simp; try (first | rfl | exact (Bool.not_not _).symm)))
              try simp only [Act.put, List.setIfInBounds_toArray, List.set_cons_zero, List.set_cons_succ]
              refine wpL_q 4 ?_ rfl (Or.inl ⟨by rfl, fun w_ hS_ => ?_⟩) (marks 19 31) ?_
              rotate_left
              next => (go_simp; try (first | rfl | exact (Bool.not_not _).symm))
              try simp only [Act.put, List.setIfInBounds_toArray, List.set_cons_zero, List.set_cons_succ]
              refine wpL_q 5 ?_ rfl (Or.inl ⟨by rfl, fun w_ hS_ => ?_⟩) (marks 19 63) ?_
              rotate_left
              next => (go_simp; try (first | rfl | exact (Bool.not_not _).symm))
              try simp only [Act.put, List.setIfInBounds_toArray, List.set_cons_zero, List.set_cons_succ]
              refine wpL_q 6 ?_ rfl (Or.inl ⟨by rfl, fun w_ hS_ => ?_⟩) (marks 19 127) ?_
              rotate_left
              next => (go_simp; try (first | rfl | exact (Bool.not_not _).symm))
              try simp only [Act.put, List.setIfInBounds_toArray, List.set_cons_zero, List.set_cons_succ]
              refine wpL_q 7 ?_ rfl (Or.inl ⟨by rfl, fun w_ hS_ => ?_⟩) (marks 19 255) ?_
              rotate_left
              next => (go_simp; try (first | rfl | exact (Bool.not_not _).symm))
              try simp only [Act.put, List.setIfInBounds_toArray, List.set_cons_zero, List.set_cons_succ]
              refine wpL_q 8 ?_ rfl (Or.inl ⟨by rfl, fun w_ hS_ => ?_⟩) (marks 19 511) ?_
              rotate_left
              next => (go_simp; try (first | rfl | exact (Bool.not_not _).symm))
              try simp only [Act.put, List.setIfInBounds_toArray, List.set_cons_zero, List.set_cons_succ]
              refine wpL_m 9 ?_ rfl (.tail _ (.head _)) (Or.inl ⟨by rfl, fun w_ hS_ => ?_⟩) (marks 19 1023) ?_
              rotate_left
              next => (dsimp only at hS_; (try have q0 := Sep.Holds.cells hS_ (i := 0) rfl); (try have q1 := Sep.Holds.cells hS_ (i := 1) rfl); (try have q2 := Sep.Holds.cells hS_ (i := 2) rfl); (try have q3 := Sep.Holds.cells hS_ (i := 3) rfl); (try have q4 := Sep.Holds.cells hS_ (i := 4) rfl); (try have q5 := Sep.Holds.cells hS_ (i := 5) rfl); (try have q6 := Sep.Holds.cells hS_ (i := 6) rfl); first | ((first | (go_simp; (try rfl); done) | (obtain ⟨g0, g1⟩ := Hg.out.2 _ hS_; go_simp; (try rfl); done))) | (go_simp; try (first | rfl | exact (Bool.not_not _).symm)))
              try simp only [Act.put, List.setIfInBounds_toArray, List.set_cons_zero, List.set_cons_succ]
              refine wpL_q 10 ?_ rfl (Or.inl ⟨by rfl, fun w_ hS_ => ?_⟩) (marks 19 2047) ?_
              rotate_left
              next => (go_simp; try (first | rfl | exact (Bool.not_not _).symm))
              try simp only [Act.put, List.setIfInBounds_toArray, List.set_cons_zero, List.set_cons_succ]
              refine wpL_q 11 ?_ rfl (Or.inl ⟨by rfl, fun w_ hS_ => ?_⟩) (marks 19 4095) ?_
              rotate_left
              next => (go_simp; try (first | rfl | exact (Bool.not_not _).symm))
              try simp only [Act.put, List.setIfInBounds_toArray, List.set_cons_zero, List.set_cons_succ]
              refine wpL_q 12 ?_ rfl (Or.inl ⟨by rfl, fun w_ hS_ => ?_⟩) (marks 19 8191) ?_
              rotate_left
              next => (go_simp; try (first | rfl | exact (Bool.not_not _).symm))
              try simp only [Act.put, List.setIfInBounds_toArray, List.set_cons_zero, List.set_cons_succ]
              refine wpL_q 13 ?_ rfl (Or.inl ⟨by rfl, fun w_ hS_ => ?_⟩) (marks 19 16383) ?_
              rotate_left
              next => (go_simp; try (first | rfl | exact (Bool.not_not _).symm))
              try simp only [Act.put, List.setIfInBounds_toArray, List.set_cons_zero, List.set_cons_succ]
              refine wpL_q 14 ?_ rfl (Or.inl ⟨by rfl, fun w_ hS_ => ?_⟩) (marks 19 32767) ?_
              rotate_left
              next => (first | ((first | (go_simp; (try rfl); done) | (obtain ⟨g0, g1⟩ := Hg.out.2 _ hS_; go_simp; (try rfl); done))) | (go_simp; try (first | rfl | exact (Bool.not_not _).symm)))
              try simp only [Act.put, List.setIfInBounds_toArray, List.set_cons_zero, List.set_cons_succ]
              refine wpL_all (rs := [15, 17]) (by kernel_rfl) (by decide) ?_
              intro i hi
              simp only [List.mem_cons, List.not_mem_nil, or_false] at hi
              rcases hi with rfl | rfl
              focus
               refine ⟨_, _, rfl, by rfl, ?_⟩
               (go_simp; go_at_call 28; refine (Hnum.out _ _ hw).mono ?_; rintro _ w_ ⟨rfl, hw_⟩; subst hw_; (try simp only [List.map_cons, List.map_nil, List.getD_cons_zero, List.getD_cons_succ, List.getD_nil, List.set_cons_zero, List.set_cons_succ, List.cons_append, List.nil_append, Act.eval, Array.getD_eq_getD_getElem?, List.getElem?_toArray, List.getElem?_cons_succ, List.getElem?_cons_zero, Option.getD_some, Value.cells] at hw); (try simp (disch := first | (simp; done) | (simp; omega)) only [Sep.mid_set, Sep.mid_set2, Sep.mid_set0, Sep.mid_splice, Sep.mid_splice0, List.set_cons_zero, List.set_cons_succ] at hw); (try simp only [Sep.splice, List.take_succ_cons, List.take_zero, List.drop_succ_cons, List.drop_zero, List.length_cons, List.length_nil, Nat.reduceAdd, List.cons_append, List.nil_append] at hw))
               refine ⟨(SL.keep (by exact hw.sel [0] (by decide)) (SL.keep (by exact hw.sel [0] (by decide)) SL.nil)), ?_⟩
               try simp only [Act.put, List.setIfInBounds_toArray, List.set_cons_zero, List.set_cons_succ]
               refine wpL_q 16 ?_ rfl (Or.inl ⟨by rfl, fun w_ hS_ => ?_⟩) (marks 19 131071) ?_
               rotate_left
               next => (go_simp; try (first | rfl | exact (Bool.not_not _).symm))
               try simp only [Act.put, List.setIfInBounds_toArray, List.set_cons_zero, List.set_cons_succ]
               refine wpL_o 17 rfl (by rfl) (marks 19 262143) ?_
               (refine wp_alloc rfl hw ?_; intro b5_ w_ hw_; clear hw; have hw := hw_; clear hw_; (try simp only [List.map_cons, List.map_nil, List.getD_cons_zero, List.getD_cons_succ, List.getD_nil, List.set_cons_zero, List.set_cons_succ, List.cons_append, List.nil_append, Act.eval, Array.getD_eq_getD_getElem?, List.getElem?_toArray, List.getElem?_cons_succ, List.getElem?_cons_zero, Option.getD_some, Value.cells] at hw); (try simp (disch := first | (simp; done) | (simp; omega)) only [Sep.mid_set, Sep.mid_set2, Sep.mid_set0, Sep.mid_splice, Sep.mid_splice0, List.set_cons_zero, List.set_cons_succ] at hw); (try simp only [Sep.splice, List.take_succ_cons, List.take_zero, List.drop_succ_cons, List.drop_zero, List.length_cons, List.length_nil, Nat.reduceAdd, List.cons_append, List.nil_append] at hw); (try replace hc0 := Sep.Holds.cells hw (i := 0) rfl); (try replace hc1 := Sep.Holds.cells hw (i := 1) rfl); (try replace hc2 := Sep.Holds.cells hw (i := 2) rfl); (try replace hc3 := Sep.Holds.cells hw (i := 3) rfl); (try replace hc4 := Sep.Holds.cells hw (i := 4) rfl); (try replace hc5 := Sep.Holds.cells hw (i := 5) rfl); (try replace hc6 := Sep.Holds.cells hw (i := 6) rfl))
               refine ⟨(SL.keep (by exact hw.sel [0] (by decide)) (SL.keep (by exact hw.sel [0] (by decide)) SL.nil)), ?_⟩
               try simp only [Act.put, List.setIfInBounds_toArray, List.set_cons_zero, List.set_cons_succ]
               refine wpL_o 18 rfl (by rfl) (marks 19 524287) ?_
               (refine wp_storeAll (vs := [.int .i64 (IntKind.i64.wrap c0), .int .i64 (IntKind.i64.wrap c1), .int .i64 c2]) rfl rfl (by rfl) hw (i := 6) rfl rfl rfl (by simp [Value.oneCell']) ?_; intro w_ hw_; clear hw; have hw := hw_; clear hw_; (try simp only [List.map_cons, List.map_nil, List.getD_cons_zero, List.getD_cons_succ, List.getD_nil, List.set_cons_zero, List.set_cons_succ, List.cons_append, List.nil_append, Act.eval, Array.getD_eq_getD_getElem?, List.getElem?_toArray, List.getElem?_cons_succ, List.getElem?_cons_zero, Option.getD_some, Value.cells] at hw); (try simp (disch := first | (simp; done) | (simp; omega)) only [Sep.mid_set, Sep.mid_set2, Sep.mid_set0, Sep.mid_splice, Sep.mid_splice0, List.set_cons_zero, List.set_cons_succ] at hw); (try simp only [Sep.splice, List.take_succ_cons, List.take_zero, List.drop_succ_cons, List.drop_zero, List.length_cons, List.length_nil, Nat.reduceAdd, List.cons_append, List.nil_append] at hw); (try replace hc0 := Sep.Holds.cells hw (i := 0) rfl); (try replace hc1 := Sep.Holds.cells hw (i := 1) rfl); (try replace hc2 := Sep.Holds.cells hw (i := 2) rfl); (try replace hc3 := Sep.Holds.cells hw (i := 3) rfl); (try replace hc4 := Sep.Holds.cells hw (i := 4) rfl); (try replace hc5 := Sep.Holds.cells hw (i := 5) rfl); (try replace hc6 := Sep.Holds.cells hw (i := 6) rfl))
               refine ⟨(SL.drop 18 (by kernel_rfl) (SL.drop 18 (by kernel_rfl) SL.nil)), ?_⟩
               try simp only [Act.put, List.setIfInBounds_toArray, List.set_cons_zero, List.set_cons_succ]
               refine wpL_done (by kernel_rfl) ?_ _
               (replace hw := hw.sel [0, 1, 2, 3, 4, 5, 6] (by decide); (try simp only [List.map_cons, List.map_nil, List.getD_cons_zero, List.getD_cons_succ, List.getD_nil, List.set_cons_zero, List.set_cons_succ, List.cons_append, List.nil_append, Act.eval, Array.getD_eq_getD_getElem?, List.getElem?_toArray, List.getElem?_cons_succ, List.getElem?_cons_zero, Option.getD_some, Value.cells] at hw); (try simp (disch := first | (simp; done) | (simp; omega)) only [Sep.mid_set, Sep.mid_set2, Sep.mid_set0, Sep.mid_splice, Sep.mid_splice0, List.set_cons_zero, List.set_cons_succ] at hw); (try simp only [Sep.splice, List.take_succ_cons, List.take_zero, List.drop_succ_cons, List.drop_zero, List.length_cons, List.length_nil, Nat.reduceAdd, List.cons_append, List.nil_append] at hw))
              rotate_left 1
              focus
               refine ⟨_, _, rfl, by rfl, ?_⟩
               (refine wp_alloc rfl hw ?_; intro b5_ w_ hw_; clear hw; have hw := hw_; clear hw_; (try simp only [List.map_cons, List.map_nil, List.getD_cons_zero, List.getD_cons_succ, List.getD_nil, List.set_cons_zero, List.set_cons_succ, List.cons_append, List.nil_append, Act.eval, Array.getD_eq_getD_getElem?, List.getElem?_toArray, List.getElem?_cons_succ, List.getElem?_cons_zero, Option.getD_some, Value.cells] at hw); (try simp (disch := first | (simp; done) | (simp; omega)) only [Sep.mid_set, Sep.mid_set2, Sep.mid_set0, Sep.mid_splice, Sep.mid_splice0, List.set_cons_zero, List.set_cons_succ] at hw); (try simp only [Sep.splice, List.take_succ_cons, List.take_zero, List.drop_succ_cons, List.drop_zero, List.length_cons, List.length_nil, Nat.reduceAdd, List.cons_append, List.nil_append] at hw); (try replace hc0 := Sep.Holds.cells hw (i := 0) rfl); (try replace hc1 := Sep.Holds.cells hw (i := 1) rfl); (try replace hc2 := Sep.Holds.cells hw (i := 2) rfl); (try replace hc3 := Sep.Holds.cells hw (i := 3) rfl); (try replace hc4 := Sep.Holds.cells hw (i := 4) rfl); (try replace hc5 := Sep.Holds.cells hw (i := 5) rfl); (try replace hc6 := Sep.Holds.cells hw (i := 6) rfl))
               refine ⟨(SL.keep (by exact hw.sel [0] (by decide)) (SL.keep (by exact hw.sel [0] (by decide)) SL.nil)), ?_⟩
               try simp only [Act.put, List.setIfInBounds_toArray, List.set_cons_zero, List.set_cons_succ]
               refine wpL_o 15 rfl (by rfl) (marks 19 196607) ?_
               (go_simp; go_at_call 28; refine (Hnum.out _ _ hw).mono ?_; rintro _ w_ ⟨rfl, hw_⟩; subst hw_; (try simp only [List.map_cons, List.map_nil, List.getD_cons_zero, List.getD_cons_succ, List.getD_nil, List.set_cons_zero, List.set_cons_succ, List.cons_append, List.nil_append, Act.eval, Array.getD_eq_getD_getElem?, List.getElem?_toArray, List.getElem?_cons_succ, List.getElem?_cons_zero, Option.getD_some, Value.cells] at hw); (try simp (disch := first | (simp; done) | (simp; omega)) only [Sep.mid_set, Sep.mid_set2, Sep.mid_set0, Sep.mid_splice, Sep.mid_splice0, List.set_cons_zero, List.set_cons_succ] at hw); (try simp only [Sep.splice, List.take_succ_cons, List.take_zero, List.drop_succ_cons, List.drop_zero, List.length_cons, List.length_nil, Nat.reduceAdd, List.cons_append, List.nil_append] at hw))
               refine ⟨(SL.keep (by exact hw.sel [0] (by decide)) (SL.keep (by exact hw.sel [0] (by decide)) SL.nil)), ?_⟩
               try simp only [Act.put, List.setIfInBounds_toArray, List.set_cons_zero, List.set_cons_succ]
               refine wpL_q 16 ?_ rfl (Or.inl ⟨by rfl, fun w_ hS_ => ?_⟩) (marks 19 262143) ?_
               rotate_left
               next => (go_simp; try (first | rfl | exact (Bool.not_not _).symm))
               try simp only [Act.put, List.setIfInBounds_toArray, List.set_cons_zero, List.set_cons_succ]
               refine wpL_o 18 rfl (by rfl) (marks 19 524287) ?_
               (refine wp_storeAll (vs := [.int .i64 (IntKind.i64.wrap c0), .int .i64 (IntKind.i64.wrap c1), .int .i64 c2]) rfl rfl (by rfl) hw (i := 6) rfl rfl rfl (by simp [Value.oneCell']) ?_; intro w_ hw_; clear hw; have hw := hw_; clear hw_; (try simp only [List.map_cons, List.map_nil, List.getD_cons_zero, List.getD_cons_succ, List.getD_nil, List.set_cons_zero, List.set_cons_succ, List.cons_append, List.nil_append, Act.eval, Array.getD_eq_getD_getElem?, List.getElem?_toArray, List.getElem?_cons_succ, List.getElem?_cons_zero, Option.getD_some, Value.cells] at hw); (try simp (disch := first | (simp; done) | (simp; omega)) only [Sep.mid_set, Sep.mid_set2, Sep.mid_set0, Sep.mid_splice, Sep.mid_splice0, List.set_cons_zero, List.set_cons_succ] at hw); (try simp only [Sep.splice, List.take_succ_cons, List.take_zero, List.drop_succ_cons, List.drop_zero, List.length_cons, List.length_nil, Nat.reduceAdd, List.cons_append, List.nil_append] at hw); (try replace hc0 := Sep.Holds.cells hw (i := 0) rfl); (try replace hc1 := Sep.Holds.cells hw (i := 1) rfl); (try replace hc2 := Sep.Holds.cells hw (i := 2) rfl); (try replace hc3 := Sep.Holds.cells hw (i := 3) rfl); (try replace hc4 := Sep.Holds.cells hw (i := 4) rfl); (try replace hc5 := Sep.Holds.cells hw (i := 5) rfl); (try replace hc6 := Sep.Holds.cells hw (i := 6) rfl))
               refine ⟨(SL.drop 18 (by kernel_rfl) (SL.drop 18 (by kernel_rfl) SL.nil)), ?_⟩
               try simp only [Act.put, List.setIfInBounds_toArray, List.set_cons_zero, List.set_cons_succ]
               refine wpL_done (by kernel_rfl) ?_ _
               (replace hw := hw.sel [0, 1, 2, 3, 4, 5, 6] (by decide); (try simp only [List.map_cons, List.map_nil, List.getD_cons_zero, List.getD_cons_succ, List.getD_nil, List.set_cons_zero, List.set_cons_succ, List.cons_append, List.nil_append, Act.eval, Array.getD_eq_getD_getElem?, List.getElem?_toArray, List.getElem?_cons_succ, List.getElem?_cons_zero, Option.getD_some, Value.cells] at hw); (try simp (disch := first | (simp; done) | (simp; omega)) only [Sep.mid_set, Sep.mid_set2, Sep.mid_set0, Sep.mid_splice, Sep.mid_splice0, List.set_cons_zero, List.set_cons_succ] at hw); (try simp only [Sep.splice, List.take_succ_cons, List.take_zero, List.drop_succ_cons, List.drop_zero, List.length_cons, List.length_nil, Nat.reduceAdd, List.cons_append, List.nil_append] at hw))
              rotate_left 1
              all_goals
                rw [Hg.out.1.1, Hg.out.1.2] at hw
                (try clear hc0); (try clear hc1); (try clear hc2); (try clear hc3); (try clear hc4); (try clear hc5); (try clear hc6)
                (try replace hc0 := Sep.Holds.cells hw (i := 0) rfl); (try replace hc1 := Sep.Holds.cells hw (i := 1) rfl); (try replace hc2 := Sep.Holds.cells hw (i := 2) rfl); (try replace hc3 := Sep.Holds.cells hw (i := 3) rfl); (try replace hc4 := Sep.Holds.cells hw (i := 4) rfl); (try replace hc5 := Sep.Holds.cells hw (i := 5) rfl); (try replace hc6 := Sep.Holds.cells hw (i := 6) rfl)
                clear l1 l3 l4 l5 e1 e2
                go_wp2_with fail
                refine (rItem ⟨c0, c1, c2⟩ e _ _ hw.focus0).mono ?_
                rintro _ w_ ⟨rfl, hw_⟩
                clear hw; (try clear hc0); (try clear hc1); (try clear hc2); (try clear hc3); (try clear hc4); (try clear hc5); (try clear hc6); have hw := Holds.unfocus0 hw_; clear hw_
                (try simp only [List.map_cons, List.map_nil, List.getD_cons_zero, List.getD_cons_succ, List.getD_nil, List.set_cons_zero, List.set_cons_succ, List.cons_append, List.nil_append, Act.eval, Array.getD_eq_getD_getElem?, List.getElem?_toArray, List.getElem?_cons_succ, List.getElem?_cons_zero, Option.getD_some, Value.cells] at hw); (try simp (disch := first | (simp; done) | (simp; omega)) only [Sep.mid_set, Sep.mid_set2, Sep.mid_set0, Sep.mid_splice, Sep.mid_splice0, List.set_cons_zero, List.set_cons_succ] at hw); (try simp only [Sep.splice, List.take_succ_cons, List.take_zero, List.drop_succ_cons, List.drop_zero, List.length_cons, List.length_nil, Nat.reduceAdd, List.cons_append, List.nil_append] at hw); (try replace hc0 := Sep.Holds.cells hw (i := 0) rfl); (try replace hc1 := Sep.Holds.cells hw (i := 1) rfl); (try replace hc2 := Sep.Holds.cells hw (i := 2) rfl); (try replace hc3 := Sep.Holds.cells hw (i := 3) rfl); (try replace hc4 := Sep.Holds.cells hw (i := 4) rfl); (try replace hc5 := Sep.Holds.cells hw (i := 5) rfl); (try replace hc6 := Sep.Holds.cells hw (i := 6) rfl)
                cases hit : itemP ⟨c0, c1, c2⟩ with
                | false =>
                  have Hp3 : Hid (readS b = (scr0, 7)) := Sep.hid (Hno.out (by
                    rintro ⟨hall, _⟩
                    have hk1 : (readI d M)[k]? = some ⟨c0, c1, c2⟩ := by
                      have h1 : (readI d (k + 1))[k]? = some ⟨c0, c1, c2⟩ := by
                        rw [Hsn.out, List.getElem?_append_right (by rw [readI_len]; exact Nat.le_refl _), readI_len, Nat.sub_self]; rfl
                      unfold readI at h1 ⊢
                      rw [List.getElem?_map, List.getElem?_range (by omega)] at h1 ⊢
                      exact h1
                    have := List.all_eq_true.1 hall _ (List.mem_of_getElem? hk1)
                    rw [hit] at this; cases this))
                  clear hit Hp2 Hno
                  go_wp2_with (first | (refine wpList_on rfl (wp_storeAll (vs := [.int .i64 0, .int .i64 0, .int .i64 0, .int .i64 0, .slice none 0 0, .slice none 0 0]) rfl rfl (by rfl) hw (i := 1) rfl rfl rfl (by simp [Value.oneCell']) ?_); intro w_ hw_; clear hw; have hw := hw_; clear hw_; (try simp only [List.map_cons, List.map_nil, List.getD_cons_zero, List.getD_cons_succ, List.getD_nil, List.set_cons_zero, List.set_cons_succ, List.cons_append, List.nil_append, Act.eval, Array.getD_eq_getD_getElem?, List.getElem?_toArray, List.getElem?_cons_succ, List.getElem?_cons_zero, Option.getD_some, Value.cells] at hw); (try simp (disch := first | (simp; done) | (simp; omega)) only [Sep.mid_set, Sep.mid_set2, Sep.mid_set0, Sep.mid_splice, Sep.mid_splice0, List.set_cons_zero, List.set_cons_succ] at hw); (try simp only [Sep.splice, List.take_succ_cons, List.take_zero, List.drop_succ_cons, List.drop_zero, List.length_cons, List.length_nil, Nat.reduceAdd, List.cons_append, List.nil_append] at hw); (try replace hc0 := Sep.Holds.cells hw (i := 0) rfl); (try replace hc1 := Sep.Holds.cells hw (i := 1) rfl); (try replace hc2 := Sep.Holds.cells hw (i := 2) rfl); (try replace hc3 := Sep.Holds.cells hw (i := 3) rfl); (try replace hc4 := Sep.Holds.cells hw (i := 4) rfl); (try replace hc5 := Sep.Holds.cells hw (i := 5) rfl); (try replace hc6 := Sep.Holds.cells hw (i := 6) rfl)))
                  refine bodyPost_ret (v := .tuple #[.agg #[.int .i64 0, .int .i64 0, .int .i64 0, .int .i64 0, .slice none 0 0, .slice none 0 0], .int .i64 7]) (res_cell_tmp (ty := 39) rfl rfl rfl hw (i := 1) rfl rfl) rfl ?_
                  exact HP.out _ _ (got_no Hp3.out (hw.sel [0] (by decide)))
                | true =>
                  have Hit := Sep.hid hit; clear hit
                  by_cases hk2 : (200 : Int) ≤ k
                  · have Hp3 : Hid (readS b = (scr0, 7)) := Sep.hid (Hno.out (by rintro ⟨_, h⟩; omega))
                    clear Hp2 Hno
                    go_wp2_with (first | (refine wpList_on rfl (wp_storeAll (vs := [.int .i64 0, .int .i64 0, .int .i64 0, .int .i64 0, .slice none 0 0, .slice none 0 0]) rfl rfl (by rfl) hw (i := 1) rfl rfl rfl (by simp [Value.oneCell']) ?_); intro w_ hw_; clear hw; have hw := hw_; clear hw_; (try simp only [List.map_cons, List.map_nil, List.getD_cons_zero, List.getD_cons_succ, List.getD_nil, List.set_cons_zero, List.set_cons_succ, List.cons_append, List.nil_append, Act.eval, Array.getD_eq_getD_getElem?, List.getElem?_toArray, List.getElem?_cons_succ, List.getElem?_cons_zero, Option.getD_some, Value.cells] at hw); (try simp (disch := first | (simp; done) | (simp; omega)) only [Sep.mid_set, Sep.mid_set2, Sep.mid_set0, Sep.mid_splice, Sep.mid_splice0, List.set_cons_zero, List.set_cons_succ] at hw); (try simp only [Sep.splice, List.take_succ_cons, List.take_zero, List.drop_succ_cons, List.drop_zero, List.length_cons, List.length_nil, Nat.reduceAdd, List.cons_append, List.nil_append] at hw); (try replace hc0 := Sep.Holds.cells hw (i := 0) rfl); (try replace hc1 := Sep.Holds.cells hw (i := 1) rfl); (try replace hc2 := Sep.Holds.cells hw (i := 2) rfl); (try replace hc3 := Sep.Holds.cells hw (i := 3) rfl); (try replace hc4 := Sep.Holds.cells hw (i := 4) rfl); (try replace hc5 := Sep.Holds.cells hw (i := 5) rfl); (try replace hc6 := Sep.Holds.cells hw (i := 6) rfl)))
                    refine bodyPost_ret (v := .tuple #[.agg #[.int .i64 0, .int .i64 0, .int .i64 0, .int .i64 0, .slice none 0 0, .slice none 0 0], .int .i64 7]) (res_cell_tmp (ty := 39) rfl rfl rfl hw (i := 1) rfl rfl) rfl ?_
                    exact HP.out _ _ (got_no Hp3.out (hw.sel [0] (by decide)))
                  · go_wp2_with (first | (refine wpList_on rfl (wp_bsl1 rfl rfl (by rfl) (by rfl) (by decide) hw ?_); intro b_ w_ hw_; clear hw; have hw := hw_; clear hw_; (try simp only [List.map_cons, List.map_nil, List.getD_cons_zero, List.getD_cons_succ, List.getD_nil, List.set_cons_zero, List.set_cons_succ, List.cons_append, List.nil_append, Act.eval, Array.getD_eq_getD_getElem?, List.getElem?_toArray, List.getElem?_cons_succ, List.getElem?_cons_zero, Option.getD_some, Value.cells] at hw); (try simp (disch := first | (simp; done) | (simp; omega)) only [Sep.mid_set, Sep.mid_set2, Sep.mid_set0, Sep.mid_splice, Sep.mid_splice0, List.set_cons_zero, List.set_cons_succ] at hw); (try simp only [Sep.splice, List.take_succ_cons, List.take_zero, List.drop_succ_cons, List.drop_zero, List.length_cons, List.length_nil, Nat.reduceAdd, List.cons_append, List.nil_append] at hw); (try replace hc0 := Sep.Holds.cells hw (i := 0) rfl); (try replace hc1 := Sep.Holds.cells hw (i := 1) rfl); (try replace hc2 := Sep.Holds.cells hw (i := 2) rfl); (try replace hc3 := Sep.Holds.cells hw (i := 3) rfl); (try replace hc4 := Sep.Holds.cells hw (i := 4) rfl); (try replace hc5 := Sep.Holds.cells hw (i := 5) rfl); (try replace hc6 := Sep.Holds.cells hw (i := 6) rfl)) | (at_builtin; refine wpList_on rfl (wp_appendPt (i := 5) (j := 7) rfl rfl hw rfl rfl rfl (by rfl) (by simp [Value.oneCell']) (by decide) (by rfl) (by (try unfold maxLen); omega) (by (try unfold maxLen); omega) ?_); intro bx2_ cap2_ off2_ w_ hcap2_ hw_; clear hw; have hw := hw_; clear hw_; (try simp only [List.map_cons, List.map_nil, List.getD_cons_zero, List.getD_cons_succ, List.getD_nil, List.set_cons_zero, List.set_cons_succ, List.cons_append, List.nil_append, Act.eval, Array.getD_eq_getD_getElem?, List.getElem?_toArray, List.getElem?_cons_succ, List.getElem?_cons_zero, Option.getD_some, Value.cells] at hw); (try simp (disch := first | (simp; done) | (simp; omega)) only [Sep.mid_set, Sep.mid_set2, Sep.mid_set0, Sep.mid_splice, Sep.mid_splice0, List.set_cons_zero, List.set_cons_succ] at hw); (try simp only [Sep.splice, List.take_succ_cons, List.take_zero, List.drop_succ_cons, List.drop_zero, List.length_cons, List.length_nil, Nat.reduceAdd, List.cons_append, List.nil_append] at hw); (try replace hc0 := Sep.Holds.cells hw (i := 0) rfl); (try replace hc1 := Sep.Holds.cells hw (i := 1) rfl); (try replace hc2 := Sep.Holds.cells hw (i := 2) rfl); (try replace hc3 := Sep.Holds.cells hw (i := 3) rfl); (try replace hc4 := Sep.Holds.cells hw (i := 4) rfl); (try replace hc5 := Sep.Holds.cells hw (i := 5) rfl); (try replace hc6 := Sep.Holds.cells hw (i := 6) rfl)) | (refine wpList_on rfl (wp_store1 (v := _) (off := 5) rfl rfl rfl hw (i := 2) rfl (show 5 < 6 by decide) rfl ?_); intro w_ hw_; clear hw; have hw := hw_; clear hw_; (try simp only [List.map_cons, List.map_nil, List.getD_cons_zero, List.getD_cons_succ, List.getD_nil, List.set_cons_zero, List.set_cons_succ, List.cons_append, List.nil_append, Act.eval, Array.getD_eq_getD_getElem?, List.getElem?_toArray, List.getElem?_cons_succ, List.getElem?_cons_zero, Option.getD_some, Value.cells] at hw); (try simp (disch := first | (simp; done) | (simp; omega)) only [Sep.mid_set, Sep.mid_set2, Sep.mid_set0, Sep.mid_splice, Sep.mid_splice0, List.set_cons_zero, List.set_cons_succ] at hw); (try simp only [Sep.splice, List.take_succ_cons, List.take_zero, List.drop_succ_cons, List.drop_zero, List.length_cons, List.length_nil, Nat.reduceAdd, List.cons_append, List.nil_append] at hw); (try replace hc0 := Sep.Holds.cells hw (i := 0) rfl); (try replace hc1 := Sep.Holds.cells hw (i := 1) rfl); (try replace hc2 := Sep.Holds.cells hw (i := 2) rfl); (try replace hc3 := Sep.Holds.cells hw (i := 3) rfl); (try replace hc4 := Sep.Holds.cells hw (i := 4) rfl); (try replace hc5 := Sep.Holds.cells hw (i := 5) rfl); (try replace hc6 := Sep.Holds.cells hw (i := 6) rfl)))
                    go_roundw
                    case rel =>
                      refine ⟨k + 1, cap2_, some ⟨bx2_, off2_, none⟩, congrArg (Value.int .i64) (by have := Hs.out; omega), Sep.hid (by have := HM.out; omega), by omega, Sep.hid (by rw [Hsn.out, List.all_append, Hall.out]; simp [Hit.out]), ?_⟩
                      rw [Hsn.out, encTs_snoc, ← HA.out]
                      exact hw.sel [0, 1, 2, 3, 4, 5] (by decide)
                    case measure => simp [intOf]; omega
            · have hkM : k = M := by have := Hs.out; have := HM.out; have := Hmz.out; have := Hkm.out; omega
              subst hkM
              have Hil := Sep.hid (readI_len d k)
              have Hp3 : Hid (readS b = (⟨q0, q1, q2, q3, ps, readI d k⟩, 0)) := Sep.hid (by
                have hi : itemsP d = (readI d k, 0) := by rw [Hi.out, if_pos ⟨Hall.out, hk200⟩]
                rw [Hp2.out, hi]; rfl)
              clear Hp2 Hno Hi Hall
              generalize readI d k = il at *
              go_wp2_with (first | (refine wpList_on rfl (wp_storeAll (vs := [.int .i64 q0, .int .i64 q1, .int .i64 q2, .int .i64 q3, .slice pa N pc, .slice ia k ic]) rfl rfl (by rfl) hw (i := 1) rfl rfl rfl (by simp [Value.oneCell']) ?_); intro w_ hw_; clear hw; have hw := hw_; clear hw_; (try simp only [List.map_cons, List.map_nil, List.getD_cons_zero, List.getD_cons_succ, List.getD_nil, List.set_cons_zero, List.set_cons_succ, List.cons_append, List.nil_append, Act.eval, Array.getD_eq_getD_getElem?, List.getElem?_toArray, List.getElem?_cons_succ, List.getElem?_cons_zero, Option.getD_some, Value.cells] at hw); (try simp (disch := first | (simp; done) | (simp; omega)) only [Sep.mid_set, Sep.mid_set2, Sep.mid_set0, Sep.mid_splice, Sep.mid_splice0, List.set_cons_zero, List.set_cons_succ] at hw); (try simp only [Sep.splice, List.take_succ_cons, List.take_zero, List.drop_succ_cons, List.drop_zero, List.length_cons, List.length_nil, Nat.reduceAdd, List.cons_append, List.nil_append] at hw); (try replace hc0 := Sep.Holds.cells hw (i := 0) rfl); (try replace hc1 := Sep.Holds.cells hw (i := 1) rfl); (try replace hc2 := Sep.Holds.cells hw (i := 2) rfl); (try replace hc3 := Sep.Holds.cells hw (i := 3) rfl); (try replace hc4 := Sep.Holds.cells hw (i := 4) rfl); (try replace hc5 := Sep.Holds.cells hw (i := 5) rfl); (try replace hc6 := Sep.Holds.cells hw (i := 6) rfl)))
              refine bodyPost_ret (v := .tuple #[.agg #[.int .i64 q0, .int .i64 q1, .int .i64 q2, .int .i64 q3, .slice pa N pc, .slice ia k ic], .int .i64 0]) (res_cell_tmp (ty := 39) rfl rfl rfl hw (i := 1) rfl rfl) rfl ?_
              refine HP.out _ _ ?_
              rw [Hp3.out]
              refine ⟨pa, pc, ia, ic, hs, by rw [Hhl.out, Hpl.out], ?_, ?_⟩
              · unfold scrV
                simp only
                rw [Hpl.out, Hil.out]
              · simp only
                unfold IsPs
                rw [Hpl.out, Hil.out]
                exact ((hw.sel [3, 4, 0, 5] (by decide)).group [_, _] [_, _]).sel [1, 0, 2] (by decide)
end Go.Proofs.YteinbojpmhblkaaDoor
/-
  Scripts and items that came in.
-/
namespace Go.Proofs.YteinbojpmhblkaaDoor
set_option linter.unusedSimpArgs false
set_option linter.unusedVariables false
open Go.ChangeShapes Go.WideShapes Go.ChangeAt Go.RowKit Go.Sep
set_option maxRecDepth 20000

variable {H : Type} {enc : TypeId × Value → H} {W : World}
def ItmsAt (e : World) (a : Option Addr) (l : List Itm) : Prop := ∀ (i : Nat) (d : Itm), l[i]? = some d → d.ok ∧ ∃ p : Addr, a = some p ∧ ∀ j c, (encT d)[j]? = some c → e.cell? ((p.add (i * 3)).add j) = some c
theorem flatT : flatK Tryd.prog 5 23 = some [some .i64, some .i64, some .i64] := by kernel_rfl
theorem cellsT : Tryd.prog.cellsOf 23 = 3 := by kernel_rfl
theorem flatR4 : flatK Tryd.prog 5 24 = some [some .i64, some .i64, some .i64, some .i64] := by kernel_rfl
theorem cellsR4 : Tryd.prog.cellsOf 24 = 4 := by kernel_rfl
theorem cellsP1 : Tryd.prog.cellsOf 57 = 1 := by kernel_rfl
theorem cellsP2 : Tryd.prog.cellsOf 25 = 1 := by kernel_rfl
theorem cellsI2 : Tryd.prog.cellsOf 26 = 1 := by kernel_rfl
theorem cellsS : Tryd.prog.cellsOf 28 = 6 := by kernel_rfl
theorem fitsT {cs : List Value} (h : fitsK cs [some .i64, some .i64, some .i64]) : ∃ d : Itm, d.ok ∧ cs = encT d := by
  obtain ⟨z0, cs0, rfl, w0, hh0⟩ := fitsK_cons h
  obtain ⟨z1, cs1, rfl, w1, hh1⟩ := fitsK_cons hh0
  obtain ⟨z2, cs2, rfl, w2, hh2⟩ := fitsK_cons hh1
  obtain rfl := fitsK_nil hh2
  exact ⟨⟨z0, z1, z2⟩, ⟨wf_i64 w0, wf_i64 w1, wf_i64 w2⟩, rfl⟩
theorem prog_in {fuel : Nat} {cs : List Value} {x : DataW H × List MemPlace} (h : DataW.trod enc Tryd.prog W 0 (fun _ => true) true fuel 57 cs = some x) :
    ∃ (a : Option Addr) (cap : Nat) (l : List Deed), cs = [.slice a l.length cap] ∧ l.length ≤ maxLen ∧ ActsAt W a l := by
  rcases Go.Deep.open_slice Tryd.underlying57 h with ⟨rfl, _⟩ | ⟨p, len, cap, m, q, D, Pl, rfl, hb, hl, hm, hmm, hx, hi⟩
  · exact ⟨none, 0, [], rfl, Nat.zero_le _, fun i d h => by cases h⟩
  · obtain ⟨l, hll, hA⟩ := exists_list (R := fun i (d : Deed) => d.ok ∧ ∃ p2 : Addr, some p = some p2 ∧ ∀ j c, (encA d)[j]? = some c → W.cell? ((p2.add (i * 4)).add j) = some c) len (fun i hil => by
      obtain ⟨cs', hc', ht'⟩ := hi i (by simp at hmm; omega)
      obtain ⟨_, hcl, hat⟩ := World.cells?_some hc'
      obtain ⟨d, hd, rfl⟩ := fitsA (trod_fits 5 q _ cs' _ _ flatA ht' (by rw [cellsA]; rfl))
      refine ⟨d, hd, p, rfl, fun j c hj => ?_⟩
      have := hat j (by rw [cellsA]; exact (List.getElem?_eq_some_iff.1 hj).1)
      rw [cellsA] at this
      rw [this]; exact hj)
    subst hll
    exact ⟨some p, cap, l, rfl, by omega, hA⟩
theorem items_in {fuel : Nat} {cs : List Value} {x : DataW H × List MemPlace} (h : DataW.trod enc Tryd.prog W 0 (fun _ => true) true fuel 26 cs = some x) :
    ∃ (a : Option Addr) (cap : Nat) (l : List Itm), cs = [.slice a l.length cap] ∧ l.length ≤ maxLen ∧ ItmsAt W a l := by
  rcases Go.Deep.open_slice Tryd.underlying26 h with ⟨rfl, _⟩ | ⟨p, len, cap, m, q, D, Pl, rfl, hb, hl, hm, hmm, hx, hi⟩
  · exact ⟨none, 0, [], rfl, Nat.zero_le _, fun i d h => by cases h⟩
  · obtain ⟨l, hll, hA⟩ := exists_list (R := fun i (d : Itm) => d.ok ∧ ∃ p2 : Addr, some p = some p2 ∧ ∀ j c, (encT d)[j]? = some c → W.cell? ((p2.add (i * 3)).add j) = some c) len (fun i hil => by
      obtain ⟨cs', hc', ht'⟩ := hi i (by simp at hmm; omega)
      obtain ⟨_, hcl, hat⟩ := World.cells?_some hc'
      obtain ⟨d, hd, rfl⟩ := fitsT (trod_fits 5 q _ cs' _ _ flatT ht' (by rw [cellsT]; rfl))
      refine ⟨d, hd, p, rfl, fun j c hj => ?_⟩
      have := hat j (by rw [cellsT]; exact (List.getElem?_eq_some_iff.1 hj).1)
      rw [cellsT] at this
      rw [this]; exact hj)
    subst hll
    exact ⟨some p, cap, l, rfl, by omega, hA⟩
/-- Programs that came in. -/
def ProgsAt (e : World) (a : Option Addr) (hs : List Hd) (ps : List (List Deed)) : Prop :=
  ∀ (k : Nat) (p : List Deed), ps[k]? = some p → ∃ h : Hd, hs[k]? = some h ∧ (∃ q : Addr, a = some q ∧ e.cell? (q.add k) = some (hdV h p)) ∧ ActsAt e h.1 p
theorem progs_in {fuel : Nat} {cs : List Value} {x : DataW H × List MemPlace} (h : DataW.trod enc Tryd.prog W 0 (fun _ => true) true fuel 25 cs = some x) :
    ∃ (a : Option Addr) (cap : Nat) (hs : List Hd) (ps : List (List Deed)), cs = [.slice a ps.length cap] ∧ ps.length ≤ maxLen ∧ ProgsAt W a hs ps := by
  rcases Go.Deep.open_slice Tryd.underlying25 h with ⟨rfl, _⟩ | ⟨p, len, cap, m, q, D, Pl, rfl, hb, hl, hm, hmm, hx, hi⟩
  · exact ⟨none, 0, [], [], rfl, Nat.zero_le _, fun i d h => by cases h⟩
  · obtain ⟨l, hll, hA⟩ := exists_list (R := fun i (d : Hd × List Deed) => (∃ p2 : Addr, some p = some p2 ∧ W.cell? (p2.add i) = some (hdV d.1 d.2)) ∧ ActsAt W d.1.1 d.2) len (fun i hil => by
      obtain ⟨cs', hc', ht'⟩ := hi i (by simp at hmm; omega)
      obtain ⟨_, hcl, hat⟩ := World.cells?_some hc'
      obtain ⟨a2, c2, l2, rfl, _, hacts⟩ := prog_in ht'
      refine ⟨((a2, c2), l2), ⟨p, rfl, ?_⟩, hacts⟩
      have h0 := hat 0 (by rw [cellsP1]; decide)
      rw [cellsP1, Nat.mul_one] at h0
      have e0 : (p.add i).add 0 = p.add i := by rw [Go.Deep.add_add, Nat.add_zero]
      rw [e0] at h0
      rw [h0]; rfl)
    subst hll
    refine ⟨some p, cap, l.map (·.1), l.map (·.2), by simp, by rw [List.length_map]; omega, fun k pp hk => ?_⟩
    rw [List.getElem?_map] at hk
    cases hl2 : l[k]? with
    | none => rw [hl2] at hk; cases hk
    | some d =>
      rw [hl2] at hk
      simp only [Option.map_some, Option.some.injEq] at hk
      subst hk
      obtain ⟨h1, h2⟩ := hA k d hl2
      exact ⟨d.1, by rw [List.getElem?_map, hl2]; rfl, h1, h2⟩
theorem open_script {v : Value} {d : DataW H} {ps : List MemPlace} {b0 : Nat} (hv : Value.okWide Tryd.prog W .any b0 28 v) (h : DataW.Trod enc Tryd.prog W 0 (fun _ => true) true 28 v d ps) :
    ∃ (s : Scr) (pa ia : Option Addr) (pc ic : Nat) (hs : List Hd), v = .agg (scrV s pa pc ia ic).toArray ∧ s.ok ∧ s.ps.length ≤ maxLen ∧ s.is.length ≤ maxLen ∧ ProgsAt W pa hs s.ps ∧ ItmsAt W ia s.is := by
  obtain ⟨cs, rfl, hsz⟩ := okWide_struct Tryd.underlying28 hv
  obtain ⟨fuel, hf⟩ := h
  obtain ⟨y0, y1, y2, n, _, hlen, h0, h1, h2⟩ := Go.Deep.trod_struct3 Tryd.underlying28 hf
  rw [cellsS] at hlen
  obtain ⟨l⟩ := cs
  simp only [Value.cells] at hlen h0 h1 h2
  match l, hlen with
  | [c0, c1, c2, c3, c4, c5], _ =>
    have h0' : DataW.trod enc Tryd.prog W 0 (fun _ => true) true n 24 [c0, c1, c2, c3] = some y0 := by simpa [cellsR4] using h0
    have h1' : DataW.trod enc Tryd.prog W 0 (fun _ => true) true n 25 [c4] = some y1 := by simpa [cellsP2] using h1
    have h2' : DataW.trod enc Tryd.prog W 0 (fun _ => true) true n 26 [c5] = some y2 := by simpa [cellsI2] using h2
    have hk := trod_fits 5 n _ _ _ _ flatR4 h0' (by rw [cellsR4]; rfl)
    obtain ⟨z0, cs0, e0, w0, hh0⟩ := fitsK_cons hk
    cases e0
    obtain ⟨z1, cs1, e1, w1, hh1⟩ := fitsK_cons hh0
    cases e1
    obtain ⟨z2, cs2, e2, w2, hh2⟩ := fitsK_cons hh1
    cases e2
    obtain ⟨z3, cs3, e3, w3, hh3⟩ := fitsK_cons hh2
    cases e3
    obtain ⟨pa, pc, hs, pp, ep, hpm, hP⟩ := progs_in h1'
    cases ep
    obtain ⟨ia, ic, il, ei, him, hI⟩ := items_in h2'
    cases ei
    refine ⟨⟨z0, z1, z2, z3, pp, il⟩, pa, ia, pc, ic, hs, rfl, ⟨⟨wf_i64 w0, wf_i64 w1, wf_i64 w2, wf_i64 w3⟩, ?_, ?_⟩, hpm, him, hP, hI⟩
    · intro p hp x hx
      obtain ⟨k, hk⟩ := List.getElem?_of_mem hp
      obtain ⟨j, hj⟩ := List.getElem?_of_mem hx
      obtain ⟨h, _, _, hA⟩ := hP k p hk
      exact (hA j x hj).1
    · intro x hx
      obtain ⟨k, hk⟩ := List.getElem?_of_mem hx
      exact (hI k x hk).1
theorem open_itm {v : Value} {d : DataW H} {ps : List MemPlace} {b0 : Nat} (hv : Value.okWide Tryd.prog W .any b0 23 v) (h : DataW.Trod enc Tryd.prog W 0 (fun _ => true) true 23 v d ps) :
    ∃ k : Itm, k.ok ∧ v = .agg (encT k).toArray := by
  obtain ⟨cs, rfl, _⟩ := okWide_struct Tryd.underlying23 hv
  obtain ⟨fuel, hf⟩ := h
  obtain ⟨k, hok, hk⟩ := fitsT (trod_fits 5 fuel 23 _ _ _ flatT hf (by rw [cellsT]; rfl))
  have : cs = (encT k).toArray := by
    apply Array.toList_inj.1
    simpa [Value.cells] using hk
  exact ⟨k, hok, by rw [this]⟩
theorem old_progs {e : World} {a : Option Addr} {hs : List Hd} {ps : List (List Deed)} (h : ProgsAt e a hs ps) : RdP e (Old e) a hs ps := by
  intro k p hp
  obtain ⟨hd, h1, ⟨q, hq, hc⟩, hA⟩ := h k p hp
  exact ⟨hd, h1, fun w L i hw hi => ⟨q, hq, old_cell hw hi hc⟩, old_acts hA⟩
theorem old_itms {e : World} {a : Option Addr} {l : List Itm} (h : ItmsAt e a l) : RdT e (Old e) a l := by
  intro w L i hw hi k x hx
  obtain ⟨_, p, hp, hc⟩ := h k x hx
  exact ⟨p, hp, fun j c hj => old_cell hw hi (hc j c hj)⟩
end Go.Proofs.YteinbojpmhblkaaDoor
/-
  The package's variable, as the program lays it.
-/
namespace Go.Proofs.YteinbojpmhblkaaDoor
set_option linter.unusedSimpArgs false
set_option linter.unusedVariables false
open Go.ChangeShapes Go.WideShapes Go.ChangeAt Go.RowKit Go.Sep
set_option maxRecDepth 20000

abbrev laidT : List (String × DataW Unit) := [("countermand/code.tops", Rows.laid_countermand_code_tops)]
theorem gTops : Tryd.prog.globalNamed "countermand/code.tops" = some 0 := by kernel_rfl
theorem tTops : (Tryd.prog.globals[0]?).map (·.type) = some 100 := by kernel_rfl
theorem door_met (os : Os) (args : Array Value) : laidMetH Tryd.prog laidT ((World.doorLaid Tryd.prog 400 os).forCall (fun _ _ => 0) ⟨#[], args, []⟩).memory :=
  laidMetH_of_parts3 (fuel := 8) (laidMet_of_run' 8 (by kernel_rfl) (by kernel_rfl)) (by kernel_rfl) (by kernel_rfl)
theorem tops_of_laid {W : World} (h : laidMetH Tryd.prog laidT W) : TopsAt W := by
  rw [MakeChecks.laidMetH_plain _ _ _ (by kernel_rfl)] at h
  obtain ⟨ps, ⟨g0, t0, cs0, f0, p0, q0, hg0, ht0, hv0, hd0, _, _⟩, _, _⟩ := h
  obtain rfl := Option.some.inj (gTops.symm.trans hg0)
  obtain rfl := Option.some.inj (tTops.symm.trans ht0)
  obtain ⟨xs, m1, rfl, hx1, hlen, hn3, hel⟩ := DataW.trod_array Tryd.underlying100 hd0
  have c3 : Tryd.prog.cellsOf 3 = 1 := by kernel_rfl
  have c64 : Tryd.prog.cellsOf 100 = 3 := by kernel_rfl
  have h0 := hel 0 (by decide)
  have h1 := hel 1 (by decide)
  have h2 := hel 2 (by decide)
  simp only [Prod.mk.injEq, DataW.agg.injEq, Rows.laid_countermand_code_tops] at hx1
  rw [c64] at hlen
  obtain ⟨l1⟩ := cs0
  match l1, hlen with
  | [a0, a1, a2], _ =>
    match xs, hn3, hx1, h0, h1, h2 with
    | [y0, y1, y2], _, hx1, h0, h1, h2 =>
      simp only [List.map_cons, List.map_nil, List.cons.injEq] at hx1
      obtain ⟨k0, e0, z0, _⟩ := DataW.trod_int Tryd.underlying3 (show DataW.trod _ Tryd.prog W 0 _ false m1 3 _ = some y0 from h0)
      obtain ⟨k1, e1, z1, _⟩ := DataW.trod_int Tryd.underlying3 (show DataW.trod _ Tryd.prog W 0 _ false m1 3 _ = some y1 from h1)
      obtain ⟨k2, e2, z2, _⟩ := DataW.trod_int Tryd.underlying3 (show DataW.trod _ Tryd.prog W 0 _ false m1 3 _ = some y2 from h2)
      rw [c3] at e0 e1 e2
      subst z0; subst z1; subst z2
      simp at hx1 e0 e1 e2
      have v0 := World.var?_cell hg0 hv0 0
      have v1 := World.var?_cell hg0 hv0 1
      have v2 := World.var?_cell hg0 hv0 2
      simp at v0 v1 v2
      exact ⟨by rw [v0, e0]; simp [hx1], by rw [v1, e1]; simp [hx1], by rw [v2, e2]; simp [hx1]⟩
end Go.Proofs.YteinbojpmhblkaaDoor
