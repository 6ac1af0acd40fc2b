/-
  RWOne: the walk.
-/
import Derived.Test.YtlngkjgoacelfaaRwGood
import Derived.Test.YtlngkjgoacelfaaMapI
import Derived.Test.YtlngkjgoacelfaaReads
import Derived.Deep.CutBlock
import Derived.Deep.DeepCutAuto
namespace Go.Proofs.Ytlngkjgoacelfaa
set_option linter.unusedSimpArgs false
set_option linter.unusedVariables false
open Go.RowKit Go.Sep Go.RingM

theorem take_snoc' {l : List Int} {k : Nat} {t : Int} (h : l[k]? = some t) : l.take k ++ [t] = l.take (k + 1) := by
  rw [List.take_add_one, h]; rfl
theorem nodup_split {a b all : List Int} {k : Nat} {t : Int} (h : all.Nodup) (he : ∃ r, all = a ++ b ++ r) (ht : b[k]? = some t) : t ∉ a ++ b.take k := by
  obtain ⟨r, rfl⟩ := he
  have h1 := (List.nodup_append.1 h).1
  have h2 : b = b.take k ++ (t :: b.drop (k + 1)) := by
    obtain ⟨hk, hk2⟩ := List.getElem?_eq_some_iff.1 ht
    rw [← hk2, ← List.drop_eq_getElem_cons hk, List.take_append_drop]
  rw [h2, ← List.append_assoc] at h1
  intro hm
  have := (List.nodup_append.1 h1).2.2 t hm t (by simp)
  exact this rfl
theorem one_pos {M : LM} (h : M.Ok) {x : Int} (hx : x ∈ M.wt ++ M.rd ++ M.wr ++ M.ww) : 0 ≤ x ∧ x < M.n := by
  simp only [List.mem_append] at hx
  rcases hx with ((hx | hx) | hx) | hx
  · exact h.pos x (.inr (.inr (.inr hx)))
  · exact h.pos x (.inr (.inr (.inl hx)))
  · exact h.pos x (.inl hx)
  · exact h.pos x (.inr (.inl hx))
theorem one_nodup {M : LM} (h : M.Ok) : (M.wt ++ M.rd ++ M.wr ++ M.ww).Nodup := by
  have hp : List.Perm (M.wr ++ M.ww ++ M.rd ++ M.wt) (M.wt ++ M.rd ++ M.wr ++ M.ww) := by
    rw [List.perm_iff_count]
    intro a
    simp only [List.count_append]; omega
  exact hp.nodup_iff.1 h.nd
theorem one_writer {M : LM} (h : M.Ok) : (M.wt = [] ∧ M.writer = -1) ∨ (0 ≤ M.writer ∧ M.wt = [M.writer]) := by
  cases hm : M.wt with
  | nil => exact .inl ⟨rfl, by unfold LM.writer; rw [hm]; rfl⟩
  | cons y l =>
    have h1 := h.one
    rw [hm] at h1
    have : l = [] := List.eq_nil_of_length_eq_zero (by simpa using h1)
    subst this
    have hy := (h.pos y (.inr (.inr (.inr (by rw [hm]; simp))))).1
    have hwr : M.writer = y := by unfold LM.writer; rw [hm]; rfl
    rw [hwr]
    exact .inr ⟨hy, rfl⟩
set_option maxRecDepth 20000 in
set_option maxHeartbeats 40000000 in
theorem rw_one_walk (e : World) (a0 : Option Addr) (cap0 : Nat) (l0 : List Deed) (hl0 : Hid (ActsAt e a0 l0)) (hlen0 : l0.length ≤ 9223372036854775807) :
    Calls Try.prog 4 #[.slice a0 l0.length cap0] e fun en w' => en = .returned (.bool true) ∧ Holds e w' [Old e] := by
  have hw := Holds.start e
  by_cases hlong : (120 : Int) < l0.length
  · refine Sep.calls_post ?_
    intro Post_ hPost_
    have HP := Sep.hid hPost_
    clear hPost_
    go_enter Try.func4, Try.ntmps4
    go_wp2_with fail
    refine (awake_calls e _ _ hw.focus0).mono ?_
    rintro en_ w_ ⟨rfl, hw_⟩
    clear hw; (try clear hc0); (try clear hc1); (try clear hc2); (try clear hc3); (try clear hc4); (try clear hc5); (try clear hc6); have hw := Holds.unfocus0 hw_; clear hw_
    (try simp only [List.map_cons, List.map_nil, List.getD_cons_zero, List.getD_cons_succ, List.getD_nil, List.set_cons_zero, List.set_cons_succ, List.cons_append, List.nil_append, Act.eval, Array.getD_eq_getD_getElem?, List.getElem?_toArray, List.getElem?_cons_succ, List.getElem?_cons_zero, Option.getD_some, Value.cells] at hw); (try simp (disch := first | (simp; done) | (simp; omega)) only [Sep.mid_set, Sep.mid_set2, Sep.mid_set0, Sep.mid_splice, Sep.mid_splice0, List.set_cons_zero, List.set_cons_succ] at hw); (try simp only [Sep.splice, List.take_succ_cons, List.take_zero, List.drop_succ_cons, List.drop_zero, List.length_cons, List.length_nil, Nat.reduceAdd, List.cons_append, List.nil_append] at hw)
    go_wp2_with fail
    exact HP.out _ _ ⟨rfl, hw.sel [0] (by decide)⟩
  generalize hlen' : l0.length = len at *
  have Hlen := Sep.hid hlen'; clear hlen'
  have hlong2 : len ≤ 120 := by omega
  refine Sep.calls_post ?_
  intro Post_ hPost_
  have HP := Sep.hid hPost_
  clear hPost_
  go_enter Try.func4, Try.ntmps4
  go_wp2_with fail
  refine (awake_calls e _ _ hw.focus0).mono ?_
  rintro en_ w_ ⟨rfl, hw_⟩
  clear hw; (try clear hc0); (try clear hc1); (try clear hc2); (try clear hc3); (try clear hc4); (try clear hc5); (try clear hc6); have hw := Holds.unfocus0 hw_; clear hw_
  (try simp only [List.map_cons, List.map_nil, List.getD_cons_zero, List.getD_cons_succ, List.getD_nil, List.set_cons_zero, List.set_cons_succ, List.cons_append, List.nil_append, Act.eval, Array.getD_eq_getD_getElem?, List.getElem?_toArray, List.getElem?_cons_succ, List.getElem?_cons_zero, Option.getD_some, Value.cells] at hw); (try simp (disch := first | (simp; done) | (simp; omega)) only [Sep.mid_set, Sep.mid_set2, Sep.mid_set0, Sep.mid_splice, Sep.mid_splice0, List.set_cons_zero, List.set_cons_succ] at hw); (try simp only [Sep.splice, List.take_succ_cons, List.take_zero, List.drop_succ_cons, List.drop_zero, List.length_cons, List.length_nil, Nat.reduceAdd, List.cons_append, List.nil_append] at hw)
  go_wp2_with fail
  refine (oNew_ok 20 (by decide) (by decide) e _ _ hw.focus0).mono ?_
  rintro en_ w_ ⟨p, rfl, hw_⟩
  clear hw; have hw := Holds.unfocus0 hw_; clear hw_
  (try simp only [List.map_cons, List.map_nil, List.getD_cons_zero, List.getD_cons_succ, List.getD_nil, List.set_cons_zero, List.set_cons_succ, List.cons_append, List.nil_append, Act.eval, Array.getD_eq_getD_getElem?, List.getElem?_toArray, List.getElem?_cons_succ, List.getElem?_cons_zero, Option.getD_some, Value.cells] at hw); (try simp (disch := first | (simp; done) | (simp; omega)) only [Sep.mid_set, Sep.mid_set2, Sep.mid_set0, Sep.mid_splice, Sep.mid_splice0, List.set_cons_zero, List.set_cons_succ] at hw); (try simp only [Sep.splice, List.take_succ_cons, List.take_zero, List.drop_succ_cons, List.drop_zero, List.length_cons, List.length_nil, Nat.reduceAdd, List.cons_append, List.nil_append] at hw)
  go_wp2_with fail
  have Hw0 := Sep.hid hw; clear hw
  (try clear hc0); (try clear hc1); (try clear hc2); (try clear hc3); (try clear hc4); (try clear hc5); (try clear hc6)
  go_loopw [32] (fun i wr => ∃ (q : Nat) (M : LM), q ≤ len ∧ i = .int .i64 q ∧ M.Good ∧ M.n = 20 ∧ Holds e wr [Old e, IsRW p M]) (fun i _ => len - (intOf i).toNat)
  case atStart => exact ⟨0, ⟨20, [], [], [], []⟩, Nat.zero_le _, rfl, ⟨fun _ => rfl, fun _ _ => ⟨rfl, rfl⟩, fun _ _ => rfl⟩, rfl, Hw0.out⟩
  case round =>
    clear Hw0
    obtain ⟨q, M, hq, rfl, hgood, hn, hw⟩ := hrel
    by_cases hlt : q < len
    · obtain ⟨d, hd⟩ : ∃ d, l0[q]? = some d := ⟨_, List.getElem?_eq_getElem (by rw [Hlen.out]; exact hlt)⟩
      obtain ⟨hdok, ad, rfl, hcell⟩ := hl0.out q d hd
      have Hcell := Sep.hid hcell; clear hcell hd hdok
      have hok := (rw_ok (i := 1) rfl hw).2
      obtain ⟨o, b, er, M', hb⟩ : ∃ o b er M', M.act d = (o, b, er, M') := ⟨_, _, _, _, rfl⟩
      have Hgood' : Hid (M'.Good ∧ M'.Ok ∧ M'.n = 20) := Sep.hid (by have h1 := good_act hgood d; have h2 := hok.act d; have h3 := (act_n M d).trans hn; rw [hb] at h1 h2 h3; exact ⟨h1, h2, h3⟩)
      have Hb := Sep.hid hb
      clear hb hgood hn hok
      go_wp2_with (first | ((with_reducible refine wpList_act (x := ?hx0x7) (y := ?hy0x7) (x1 := ?hx1x7) (x3 := ?hx3x7) (y3 := ?hy3x7) (cap := ?hcpx7) (vs := encA d) (q := q) (ad := ad) ti32 agg32 sl22 ?a1x7 ?a2x7 hlt hw (i := 0) ?a3x7 ?a4x7 ?a5x7 (encA_one d) Hcell.out ?b0x7 ?c0x7 ?b1x7 ?c1x7 ?d1x7 ?b2x7 ?c2x7 ?b3x7 ?c3x7 ?d3x7 ?f3x7 ?ggx7); (case b0x7 => rfl); (case b1x7 => rfl); (case b2x7 => rfl); (case b3x7 => rfl); (case a1x7 => rfl); (case a2x7 => rfl); (case a3x7 => rfl); (case a4x7 => rfl); (case a5x7 => rfl); (case c0x7 => rfl); (case c1x7 => rfl); (case d1x7 => rfl); (case c2x7 => rfl); (case c3x7 => (intro b; rfl)); (case d3x7 => (intro b; rfl)); (case f3x7 => (intro b; rfl)); intro bd w_ hw_; clear hw; have hw := hw_; clear hw_; (try simp only [List.map_cons, List.map_nil, List.getD_cons_zero, List.getD_cons_succ, List.getD_nil, List.set_cons_zero, List.set_cons_succ, List.cons_append, List.nil_append, Act.eval, Array.getD_eq_getD_getElem?, List.getElem?_toArray, List.getElem?_cons_succ, List.getElem?_cons_zero, Option.getD_some, Value.cells] at hw); (try simp (disch := first | (simp; done) | (simp; omega)) only [Sep.mid_set, Sep.mid_set2, Sep.mid_set0, Sep.mid_splice, Sep.mid_splice0, List.set_cons_zero, List.set_cons_succ] at hw); (try simp only [Sep.splice, List.take_succ_cons, List.take_zero, List.drop_succ_cons, List.drop_zero, List.length_cons, List.length_nil, Nat.reduceAdd, List.cons_append, List.nil_append] at hw); (try replace hc0 := Sep.Holds.cells hw (i := 0) rfl); (try replace hc1 := Sep.Holds.cells hw (i := 1) rfl); (try replace hc2 := Sep.Holds.cells hw (i := 2) rfl); (try replace hc3 := Sep.Holds.cells hw (i := 3) rfl); (try replace hc4 := Sep.Holds.cells hw (i := 4) rfl); (try replace hc5 := Sep.Holds.cells hw (i := 5) rfl); (try replace hc6 := Sep.Holds.cells hw (i := 6) rfl)) | (refine wpList_on rfl (wp_loadN (vs := encA d) rfl rfl hw (i := 2) rfl rfl (by intro j v hj; simpa using hj) ?_)))
      have hdo := fun w X hw => do_calls p M d e w X hw
      simp only [Hb.out] at hdo
      refine (hdo _ _ (hw.focus1 1 rfl)).mono ?_
      rintro en_ w_ ⟨ov, rfl, hw_⟩
      clear hw; (try clear hc0); (try clear hc1); (try clear hc2); (try clear hc3); (try clear hc4); (try clear hc5); (try clear hc6); have hw := Holds.unfocus1 1 (by simp) hw_; clear hw_ hdo Hb
      have hA : encA d = [.int .i64 d.f0, .int .i64 d.f1] := rfl
      rw [hA] at hw; clear hA
      (try simp only [List.map_cons, List.map_nil, List.getD_cons_zero, List.getD_cons_succ, List.getD_nil, List.set_cons_zero, List.set_cons_succ, List.cons_append, List.nil_append, Act.eval, Array.getD_eq_getD_getElem?, List.getElem?_toArray, List.getElem?_cons_succ, List.getElem?_cons_zero, Option.getD_some, Value.cells] at hw); (try simp (disch := first | (simp; done) | (simp; omega)) only [Sep.mid_set, Sep.mid_set2, Sep.mid_set0, Sep.mid_splice, Sep.mid_splice0, List.set_cons_zero, List.set_cons_succ] at hw); (try simp only [Sep.splice, List.take_succ_cons, List.take_zero, List.drop_succ_cons, List.drop_zero, List.length_cons, List.length_nil, Nat.reduceAdd, List.cons_append, List.nil_append] at hw)
      go_wp2_with fail
      refine (oReaders p M' e _ _ (hw.focus1 1 rfl)).mono ?_
      rintro en_ w_ ⟨u, rfl, hw_⟩
      clear hw; (try clear hc0); (try clear hc1); (try clear hc2); (try clear hc3); (try clear hc4); (try clear hc5); (try clear hc6); have hw := Holds.unfocus1 1 (by simp) hw_; clear hw_
      (try simp only [List.map_cons, List.map_nil, List.getD_cons_zero, List.getD_cons_succ, List.getD_nil, List.set_cons_zero, List.set_cons_succ, List.cons_append, List.nil_append, Act.eval, Array.getD_eq_getD_getElem?, List.getElem?_toArray, List.getElem?_cons_succ, List.getElem?_cons_zero, Option.getD_some, Value.cells] at hw); (try simp (disch := first | (simp; done) | (simp; omega)) only [Sep.mid_set, Sep.mid_set2, Sep.mid_set0, Sep.mid_splice, Sep.mid_splice0, List.set_cons_zero, List.set_cons_succ] at hw); (try simp only [Sep.splice, List.take_succ_cons, List.take_zero, List.drop_succ_cons, List.drop_zero, List.length_cons, List.length_nil, Nat.reduceAdd, List.cons_append, List.nil_append] at hw)
      go_wp2_with fail
      refine (oWriter p M' e _ _ (hw.focus1 1 rfl)).mono ?_
      rintro en_ w_ ⟨rfl, hw_⟩
      clear hw; have hw := Holds.unfocus1 1 (by simp) hw_; clear hw_
      (try simp only [List.map_cons, List.map_nil, List.getD_cons_zero, List.getD_cons_succ, List.getD_nil, List.set_cons_zero, List.set_cons_succ, List.cons_append, List.nil_append, Act.eval, Array.getD_eq_getD_getElem?, List.getElem?_toArray, List.getElem?_cons_succ, List.getElem?_cons_zero, Option.getD_some, Value.cells] at hw); (try simp (disch := first | (simp; done) | (simp; omega)) only [Sep.mid_set, Sep.mid_set2, Sep.mid_set0, Sep.mid_splice, Sep.mid_splice0, List.set_cons_zero, List.set_cons_succ] at hw); (try simp only [Sep.splice, List.take_succ_cons, List.take_zero, List.drop_succ_cons, List.drop_zero, List.length_cons, List.length_nil, Nat.reduceAdd, List.cons_append, List.nil_append] at hw)
      obtain ⟨wx, hwx⟩ : ∃ x, M'.writer = x := ⟨_, rfl⟩
      rw [hwx]
      have Hwx := Sep.hid hwx; clear hwx
      go_wp2_with fail
      refine (oWaiting p M' e _ _ (hw.focus1 1 rfl)).mono ?_
      rintro en_ w_ ⟨r1, w1, rfl, hw_⟩
      clear hw; have hw := Holds.unfocus1 1 (by simp) hw_; clear hw_
      (try simp only [List.map_cons, List.map_nil, List.getD_cons_zero, List.getD_cons_succ, List.getD_nil, List.set_cons_zero, List.set_cons_succ, List.cons_append, List.nil_append, Act.eval, Array.getD_eq_getD_getElem?, List.getElem?_toArray, List.getElem?_cons_succ, List.getElem?_cons_zero, Option.getD_some, Value.cells] at hw); (try simp (disch := first | (simp; done) | (simp; omega)) only [Sep.mid_set, Sep.mid_set2, Sep.mid_set0, Sep.mid_splice, Sep.mid_splice0, List.set_cons_zero, List.set_cons_succ] at hw); (try simp only [Sep.splice, List.take_succ_cons, List.take_zero, List.drop_succ_cons, List.drop_zero, List.length_cons, List.length_nil, Nat.reduceAdd, List.cons_append, List.nil_append] at hw)
      have hlens := rw_len (i := 1) rfl hw
      obtain ⟨n1, hn1⟩ : ∃ n, M'.rd.length = n := ⟨_, rfl⟩
      obtain ⟨n2, hn2⟩ : ∃ n, M'.wr.length = n := ⟨_, rfl⟩
      obtain ⟨n3, hn3⟩ : ∃ n, M'.ww.length = n := ⟨_, rfl⟩
      have hw : Holds e w_ [Old e, IsRW p M', pt bd [.int .i64 d.f0, .int .i64 d.f1] 32, IsInts ov o, Sl 3 1 u n1 (encI M'.rd), Sl 3 1 r1 n2 (encI M'.wr), Sl 3 1 w1 n3 (encI M'.ww)] := by
        rw [sl_ints (Sep.hid hn1), sl_ints (Sep.hid hn2), sl_ints (Sep.hid hn3)]; exact hw
      rw [hn1, hn2, hn3] at hlens
      obtain ⟨hm3, hm2, hm1⟩ := hlens
      have Hn : Hid (M'.rd.length = n1 ∧ M'.wr.length = n2 ∧ M'.ww.length = n3) := Sep.hid ⟨hn1, hn2, hn3⟩
      clear hn1 hn2 hn3
      obtain ⟨ua, uc, rfl⟩ := Sl.value (i := 4) rfl hw
      obtain ⟨ra, rc, rfl⟩ := Sl.value (i := 5) rfl hw
      obtain ⟨ya, yc, rfl⟩ := Sl.value (i := 6) rfl hw
      have Hwr := Sep.hid (one_writer Hgood'.out.2.1)
      have Hnd := Sep.hid (one_nodup Hgood'.out.2.1)
      (try replace hc0 := Sep.Holds.cells hw (i := 0) rfl); (try replace hc1 := Sep.Holds.cells hw (i := 1) rfl); (try replace hc2 := Sep.Holds.cells hw (i := 2) rfl); (try replace hc3 := Sep.Holds.cells hw (i := 3) rfl); (try replace hc4 := Sep.Holds.cells hw (i := 4) rfl); (try replace hc5 := Sep.Holds.cells hw (i := 5) rfl); (try replace hc6 := Sep.Holds.cells hw (i := 6) rfl)
      obtain ⟨fr, hfr⟩ : ∃ b : Bool, b = decide (wx < 0 ∧ n1 = 0) := ⟨_, rfl⟩
      have Hfr := Sep.hid hfr; clear hfr
      go_upto_region 14 with fail
      go_cut [11] (fun v wx' => v = .bool fr ∧ Holds e wx' [Old e, IsRW p M', pt bd [.int .i64 d.f0, .int .i64 d.f1] 32, IsInts ov o, Sl 3 1 (.slice ua n1 uc) n1 (encI M'.rd), Sl 3 1 (.slice ra n2 rc) n2 (encI M'.wr), Sl 3 1 (.slice ya n3 yc) n3 (encI M'.ww)])
      case first =>
        as_aux_lemma =>
        have hfr := Hfr.out
        by_cases hx : wx < 0
        · by_cases h1 : n1 = 0
          · rw [decide_eq_true ⟨hx, h1⟩] at hfr; subst hfr
            have h1q : ((n1 : Int) == 0) = true := by simp [h1]
            clear h1 Hfr
            go_wp2_with fail
            go_meet
            exact ⟨rfl, hw⟩
          · rw [decide_eq_false (fun h => h1 h.2)] at hfr; subst hfr
            have h1q : ((n1 : Int) == 0) = false := by simp [h1]
            clear h1 Hfr
            go_wp2_with fail
            go_meet
            exact ⟨rfl, hw⟩
        · rw [decide_eq_false (fun h => hx h.1)] at hfr; subst hfr
          clear Hfr
          go_wp2_with fail
          go_meet
          exact ⟨rfl, hw⟩
      clear hw; (try clear hc0); (try clear hc1); (try clear hc2); (try clear hc3); (try clear hc4); (try clear hc5); (try clear hc6)
      obtain ⟨rfl, hw⟩ := hcut
      go_upto_region 15 with fail
      go_cut [86] (fun v wx' => v = .bool false ∧ Holds e wx' [Old e, IsRW p M', pt bd [.int .i64 d.f0, .int .i64 d.f1] 32, IsInts ov o, Sl 3 1 (.slice ua n1 uc) n1 (encI M'.rd), Sl 3 1 (.slice ra n2 rc) n2 (encI M'.wr), Sl 3 1 (.slice ya n3 yc) n3 (encI M'.ww)])
      case first =>
        as_aux_lemma =>
        have hfr := Hfr.out
        rcases Hwr.out with ⟨h1, h2⟩ | ⟨h1, h2⟩
        · rw [Hwx.out] at h2
          have hx : wx < 0 := by omega
          clear h2
          by_cases h3 : M'.rd = []
          · obtain ⟨h4, h5⟩ := Hgood'.out.1.b h1 h3
            have q1 : n1 = 0 := by rw [← Hn.out.1, h3]; rfl
            have q2 : n2 = 0 := by rw [← Hn.out.2.1, h5]; rfl
            have q3 : n3 = 0 := by rw [← Hn.out.2.2, h4]; rfl
            have q2b : decide (0 < n2) = false := by simp [q2]
            have q3b : ((n3 : Int) == 0) = true := by simp [q3]
            have q4 : decide (0 < (n2 : Int) + (n3 : Int)) = false := by simp [q2, q3]
            have q5 : decide (0 < n2 + n3) = false := by simp [q2, q3]
            have q6 : IntKind.i64.wrap ((n2 : Int) + (n3 : Int)) = (n2 : Int) + (n3 : Int) := IntWalk.i64_in _ (by omega)
            have q7 : decide (0 < n1) = false := by simp [q1]
            clear q2 q3
            rw [decide_eq_true ⟨hx, q1⟩] at hfr; subst hfr
            clear h1 h3 h4 h5 Hfr q1
            go_wp2_with fail
            go_meet
            exact ⟨rfl, hw⟩
          · have q1 : ¬ n1 = 0 := by rw [← Hn.out.1]; simpa using h3
            rw [decide_eq_false (fun h => q1 h.2)] at hfr; subst hfr
            clear Hfr
            by_cases h6 : M'.ww = []
            · have h5 := Hgood'.out.1.c h1 h6
              have q2 : decide (0 < n2) = false := by rw [← Hn.out.2.1, h5]; simp
              have q3 : ((n3 : Int) == 0) = true := by rw [← Hn.out.2.2, h6]; rfl
              clear h1 h3 h5 h6 q1
              go_wp2_with fail
              go_meet
              exact ⟨rfl, hw⟩
            · have q3 : ((n3 : Int) == 0) = false := by rw [← Hn.out.2.2]; simpa using h6
              clear h1 h3 h6 q1
              go_wp2_with fail
              go_meet
              exact ⟨rfl, hw⟩
        · rw [Hwx.out] at h1 h2
          have q1 : decide (0 < n1) = false := by rw [← Hn.out.1, Hgood'.out.1.a (by rw [h2]; simp)]; simp
          rw [decide_eq_false (fun h => by omega)] at hfr; subst hfr
          clear h2 Hfr
          go_wp2_with fail
          go_meet
          exact ⟨rfl, hw⟩
      clear hw; (try clear hc0); (try clear hc1); (try clear hc2); (try clear hc3); (try clear hc4); (try clear hc5); (try clear hc6)
      obtain ⟨rfl, hw⟩ := hcut
      clear Hfr
      go_upto_if 89 with (refine wpList_on rfl (wp_newMap rfl hw ?_); intro m w_ hw_; clear hw; have hw := hw_; clear hw_; (try simp only [List.map_cons, List.map_nil, List.getD_cons_zero, List.getD_cons_succ, List.getD_nil, List.set_cons_zero, List.set_cons_succ, List.cons_append, List.nil_append, Act.eval, Array.getD_eq_getD_getElem?, List.getElem?_toArray, List.getElem?_cons_succ, List.getElem?_cons_zero, Option.getD_some, Value.cells] at hw); (try simp (disch := first | (simp; done) | (simp; omega)) only [Sep.mid_set, Sep.mid_set2, Sep.mid_set0, Sep.mid_splice, Sep.mid_splice0, List.set_cons_zero, List.set_cons_succ] at hw); (try simp only [Sep.splice, List.take_succ_cons, List.take_zero, List.drop_succ_cons, List.drop_zero, List.length_cons, List.length_nil, Nat.reduceAdd, List.cons_append, List.nil_append] at hw); (try replace hc0 := Sep.Holds.cells hw (i := 0) rfl); (try replace hc1 := Sep.Holds.cells hw (i := 1) rfl); (try replace hc2 := Sep.Holds.cells hw (i := 2) rfl); (try replace hc3 := Sep.Holds.cells hw (i := 3) rfl); (try replace hc4 := Sep.Holds.cells hw (i := 4) rfl); (try replace hc5 := Sep.Holds.cells hw (i := 5) rfl); (try replace hc6 := Sep.Holds.cells hw (i := 6) rfl))
      go_cut [] (fun wx' => Holds e wx' [Old e, IsRW p M', pt bd [.int .i64 d.f0, .int .i64 d.f1] 32, IsInts ov o, Sl 3 1 (.slice ua n1 uc) n1 (encI M'.rd), Sl 3 1 (.slice ra n2 rc) n2 (encI M'.wr), Sl 3 1 (.slice ya n3 yc) n3 (encI M'.ww), IsMap m .i64 (encF (once M'.wt))])
      case first =>
        as_aux_lemma =>
        rcases Hwr.out with ⟨h1, h2⟩ | ⟨h1, h2⟩
        · rw [Hwx.out] at h2
          have hx : wx < 0 := by omega
          clear h2
          have H1 : Hid (once M'.wt = fun _ => none) := Sep.hid (by rw [h1, once_nil])
          clear h1
          go_wp2_with fail
          go_meet
          rw [H1.out]; exact hw
        · rw [Hwx.out] at h1 h2
          have H1 : Hid (once M'.wt = setI (fun _ => none) wx (some 1)) := Sep.hid (by rw [h2, ← List.nil_append [wx], ← once_snoc, once_nil])
          clear h2
          go_wp2_with (first | (refine wpList_on rfl (wp_lookV (v := 0) (i := 7) rfl rfl rfl hw rfl rfl ?_)) | (refine wpList_on rfl (wp_setI (i := 7) rfl rfl rfl rfl hw rfl ?_); intro w_ hw_; clear hw; have hw := hw_; clear hw_; (try simp only [List.map_cons, List.map_nil, List.getD_cons_zero, List.getD_cons_succ, List.getD_nil, List.set_cons_zero, List.set_cons_succ, List.cons_append, List.nil_append, Act.eval, Array.getD_eq_getD_getElem?, List.getElem?_toArray, List.getElem?_cons_succ, List.getElem?_cons_zero, Option.getD_some, Value.cells] at hw); (try simp (disch := first | (simp; done) | (simp; omega)) only [Sep.mid_set, Sep.mid_set2, Sep.mid_set0, Sep.mid_splice, Sep.mid_splice0, List.set_cons_zero, List.set_cons_succ] at hw); (try simp only [Sep.splice, List.take_succ_cons, List.take_zero, List.drop_succ_cons, List.drop_zero, List.length_cons, List.length_nil, Nat.reduceAdd, List.cons_append, List.nil_append] at hw); (try replace hc0 := Sep.Holds.cells hw (i := 0) rfl); (try replace hc1 := Sep.Holds.cells hw (i := 1) rfl); (try replace hc2 := Sep.Holds.cells hw (i := 2) rfl); (try replace hc3 := Sep.Holds.cells hw (i := 3) rfl); (try replace hc4 := Sep.Holds.cells hw (i := 4) rfl); (try replace hc5 := Sep.Holds.cells hw (i := 5) rfl); (try replace hc6 := Sep.Holds.cells hw (i := 6) rfl)))
          go_meet
          rw [H1.out]; exact hw
      clear hw; (try clear hc0); (try clear hc1); (try clear hc2); (try clear hc3); (try clear hc4); (try clear hc5); (try clear hc6)
      have hw := hcut; clear hcut
      go_wp2_with fail
      have Hw1 := Sep.hid hw; clear hw
      go_loopw [98] (fun j wx' => ∃ k : Nat, k ≤ 3 ∧ j = .int .i64 k ∧ Holds e wx' [Old e, IsRW p M', pt bd [.int .i64 d.f0, .int .i64 d.f1] 32, IsInts ov o, Sl 3 1 (.slice ua n1 uc) n1 (encI M'.rd), Sl 3 1 (.slice ra n2 rc) n2 (encI M'.wr), Sl 3 1 (.slice ya n3 yc) n3 (encI M'.ww), IsMap m .i64 (encF (once (if k = 0 then M'.wt else if k = 1 then M'.wt ++ M'.rd else if k = 2 then M'.wt ++ M'.rd ++ M'.wr else M'.wt ++ M'.rd ++ M'.wr ++ M'.ww)))]) (fun j _ => 3 - (intOf j).toNat)
      case atStart => exact ⟨0, by omega, rfl, Hw1.out⟩
      case round =>
        clear Hw1
        obtain ⟨k, hk, rfl, hw⟩ := hrel
        obtain rfl | rfl | rfl | rfl : k = 0 ∨ k = 1 ∨ k = 2 ∨ k = 3 := by omega
        · replace hw : Holds e _ [Old e, IsRW p M', pt bd [.int .i64 d.f0, .int .i64 d.f1] 32, IsInts ov o, Sl 3 1 (.slice ua n1 uc) n1 (encI M'.rd), Sl 3 1 (.slice ra n2 rc) n2 (encI M'.wr), Sl 3 1 (.slice ya n3 yc) n3 (encI M'.ww), IsMap m .i64 (encF (once M'.wt))] := hw
          rw [show ((0 : Nat) : Int) = (0 : Int) from rfl]
          go_wp2_with fail
          refine upon_index (v := .slice ua n1 uc) Try.underlying51 (by decide) rfl ?_
          (try simp only [Act.put, List.setIfInBounds_toArray, List.set_cons_zero, List.set_cons_succ])
          go_wp2_with fail
          have Hw1 := Sep.hid hw; clear hw; (try clear hc0); (try clear hc1); (try clear hc2); (try clear hc3); (try clear hc4); (try clear hc5); (try clear hc6)
          go_loopw [103] (fun j wx' => ∃ k : Nat, k ≤ n1 ∧ j = .int .i64 k ∧ Holds e wx' [Old e, IsRW p M', pt bd [.int .i64 d.f0, .int .i64 d.f1] 32, IsInts ov o, Sl 3 1 (.slice ua n1 uc) n1 (encI M'.rd), Sl 3 1 (.slice ra n2 rc) n2 (encI M'.wr), Sl 3 1 (.slice ya n3 yc) n3 (encI M'.ww), IsMap m .i64 (encF (once (M'.wt ++ (M'.rd).take k)))]) (fun j _ => n1 - (intOf j).toNat)
          case atStart => exact ⟨0, Nat.zero_le _, rfl, by rw [List.take_zero, List.append_nil]; exact Hw1.out⟩
          case round =>
            as_aux_lemma =>
            clear Hw1
            obtain ⟨k, hk, rfl, hw⟩ := hrel
            by_cases hlk : k < n1
            · obtain ⟨t, ht⟩ : ∃ t, (M'.rd)[k]? = some t := ⟨_, List.getElem?_eq_getElem (by have := Hn.out; omega)⟩
              obtain ⟨bo, oo, rfl, go⟩ := num_at (i := 4) hw rfl ht
              have Hnew : Hid ((once (M'.wt ++ (M'.rd).take k) t).getD 0 = 0) := Sep.hid (once_new (nodup_split Hnd.out ⟨_, by rw [List.append_assoc]⟩ ht))
              have Htk : Hid ((M'.wt ++ (M'.rd).take k) ++ [t] = M'.wt ++ (M'.rd).take (k + 1)) := Sep.hid (by rw [List.append_assoc, take_snoc' ht])
              clear ht
              go_wp2_with (first | (refine wpList_on rfl (wp_lookV (i := 7) rfl rfl rfl hw rfl Hnew.out ?_)) | (refine wpList_on rfl (wp_setI (i := 7) rfl rfl rfl rfl hw rfl ?_); intro w_ hw_; clear hw; have hw := hw_; clear hw_; (try simp only [List.map_cons, List.map_nil, List.getD_cons_zero, List.getD_cons_succ, List.getD_nil, List.set_cons_zero, List.set_cons_succ, List.cons_append, List.nil_append, Act.eval, Array.getD_eq_getD_getElem?, List.getElem?_toArray, List.getElem?_cons_succ, List.getElem?_cons_zero, Option.getD_some, Value.cells] at hw); (try simp (disch := first | (simp; done) | (simp; omega)) only [Sep.mid_set, Sep.mid_set2, Sep.mid_set0, Sep.mid_splice, Sep.mid_splice0, List.set_cons_zero, List.set_cons_succ] at hw); (try simp only [Sep.splice, List.take_succ_cons, List.take_zero, List.drop_succ_cons, List.drop_zero, List.length_cons, List.length_nil, Nat.reduceAdd, List.cons_append, List.nil_append] at hw); (try replace hc0 := Sep.Holds.cells hw (i := 0) rfl); (try replace hc1 := Sep.Holds.cells hw (i := 1) rfl); (try replace hc2 := Sep.Holds.cells hw (i := 2) rfl); (try replace hc3 := Sep.Holds.cells hw (i := 3) rfl); (try replace hc4 := Sep.Holds.cells hw (i := 4) rfl); (try replace hc5 := Sep.Holds.cells hw (i := 5) rfl); (try replace hc6 := Sep.Holds.cells hw (i := 6) rfl)))
              go_roundw
              case rel => exact ⟨k + 1, by omega, by go_num, by rw [← Htk.out, ← once_snoc]; exact hw⟩
              case measure => simp [intOf]; omega
            · have Htk : Hid ((M'.rd).take k = M'.rd) := Sep.hid (List.take_of_length_le (by have := Hn.out; omega))
              rw [Htk.out] at hw
              go_wp2_with fail
              go_roundw
              case rel => exact ⟨1, by decide, rfl, hw⟩
              case measure => simp [intOf]
        · replace hw : Holds e _ [Old e, IsRW p M', pt bd [.int .i64 d.f0, .int .i64 d.f1] 32, IsInts ov o, Sl 3 1 (.slice ua n1 uc) n1 (encI M'.rd), Sl 3 1 (.slice ra n2 rc) n2 (encI M'.wr), Sl 3 1 (.slice ya n3 yc) n3 (encI M'.ww), IsMap m .i64 (encF (once (M'.wt ++ M'.rd)))] := hw
          rw [show ((1 : Nat) : Int) = (1 : Int) from rfl]
          go_wp2_with fail
          refine upon_index (v := .slice ra n2 rc) Try.underlying51 (by decide) rfl ?_
          (try simp only [Act.put, List.setIfInBounds_toArray, List.set_cons_zero, List.set_cons_succ])
          go_wp2_with fail
          have Hw1 := Sep.hid hw; clear hw; (try clear hc0); (try clear hc1); (try clear hc2); (try clear hc3); (try clear hc4); (try clear hc5); (try clear hc6)
          go_loopw [103] (fun j wx' => ∃ k : Nat, k ≤ n2 ∧ j = .int .i64 k ∧ Holds e wx' [Old e, IsRW p M', pt bd [.int .i64 d.f0, .int .i64 d.f1] 32, IsInts ov o, Sl 3 1 (.slice ua n1 uc) n1 (encI M'.rd), Sl 3 1 (.slice ra n2 rc) n2 (encI M'.wr), Sl 3 1 (.slice ya n3 yc) n3 (encI M'.ww), IsMap m .i64 (encF (once ((M'.wt ++ M'.rd) ++ (M'.wr).take k)))]) (fun j _ => n2 - (intOf j).toNat)
          case atStart => exact ⟨0, Nat.zero_le _, rfl, by rw [List.take_zero, List.append_nil]; exact Hw1.out⟩
          case round =>
            as_aux_lemma =>
            clear Hw1
            obtain ⟨k, hk, rfl, hw⟩ := hrel
            by_cases hlk : k < n2
            · obtain ⟨t, ht⟩ : ∃ t, (M'.wr)[k]? = some t := ⟨_, List.getElem?_eq_getElem (by have := Hn.out; omega)⟩
              obtain ⟨bo, oo, rfl, go⟩ := num_at (i := 5) hw rfl ht
              have Hnew : Hid ((once ((M'.wt ++ M'.rd) ++ (M'.wr).take k) t).getD 0 = 0) := Sep.hid (once_new (nodup_split Hnd.out ⟨_, rfl⟩ ht))
              have Htk : Hid (((M'.wt ++ M'.rd) ++ (M'.wr).take k) ++ [t] = (M'.wt ++ M'.rd) ++ (M'.wr).take (k + 1)) := Sep.hid (by rw [List.append_assoc, take_snoc' ht])
              clear ht
              go_wp2_with (first | (refine wpList_on rfl (wp_lookV (i := 7) rfl rfl rfl hw rfl Hnew.out ?_)) | (refine wpList_on rfl (wp_setI (i := 7) rfl rfl rfl rfl hw rfl ?_); intro w_ hw_; clear hw; have hw := hw_; clear hw_; (try simp only [List.map_cons, List.map_nil, List.getD_cons_zero, List.getD_cons_succ, List.getD_nil, List.set_cons_zero, List.set_cons_succ, List.cons_append, List.nil_append, Act.eval, Array.getD_eq_getD_getElem?, List.getElem?_toArray, List.getElem?_cons_succ, List.getElem?_cons_zero, Option.getD_some, Value.cells] at hw); (try simp (disch := first | (simp; done) | (simp; omega)) only [Sep.mid_set, Sep.mid_set2, Sep.mid_set0, Sep.mid_splice, Sep.mid_splice0, List.set_cons_zero, List.set_cons_succ] at hw); (try simp only [Sep.splice, List.take_succ_cons, List.take_zero, List.drop_succ_cons, List.drop_zero, List.length_cons, List.length_nil, Nat.reduceAdd, List.cons_append, List.nil_append] at hw); (try replace hc0 := Sep.Holds.cells hw (i := 0) rfl); (try replace hc1 := Sep.Holds.cells hw (i := 1) rfl); (try replace hc2 := Sep.Holds.cells hw (i := 2) rfl); (try replace hc3 := Sep.Holds.cells hw (i := 3) rfl); (try replace hc4 := Sep.Holds.cells hw (i := 4) rfl); (try replace hc5 := Sep.Holds.cells hw (i := 5) rfl); (try replace hc6 := Sep.Holds.cells hw (i := 6) rfl)))
              go_roundw
              case rel => exact ⟨k + 1, by omega, by go_num, by rw [← Htk.out, ← once_snoc]; exact hw⟩
              case measure => simp [intOf]; omega
            · have Htk : Hid ((M'.wr).take k = M'.wr) := Sep.hid (List.take_of_length_le (by have := Hn.out; omega))
              rw [Htk.out] at hw
              go_wp2_with fail
              go_roundw
              case rel => exact ⟨2, by decide, rfl, hw⟩
              case measure => simp [intOf]
        · replace hw : Holds e _ [Old e, IsRW p M', pt bd [.int .i64 d.f0, .int .i64 d.f1] 32, IsInts ov o, Sl 3 1 (.slice ua n1 uc) n1 (encI M'.rd), Sl 3 1 (.slice ra n2 rc) n2 (encI M'.wr), Sl 3 1 (.slice ya n3 yc) n3 (encI M'.ww), IsMap m .i64 (encF (once (M'.wt ++ M'.rd ++ M'.wr)))] := hw
          rw [show ((2 : Nat) : Int) = (2 : Int) from rfl]
          go_wp2_with fail
          refine upon_index (v := .slice ya n3 yc) Try.underlying51 (by decide) rfl ?_
          (try simp only [Act.put, List.setIfInBounds_toArray, List.set_cons_zero, List.set_cons_succ])
          go_wp2_with fail
          have Hw1 := Sep.hid hw; clear hw; (try clear hc0); (try clear hc1); (try clear hc2); (try clear hc3); (try clear hc4); (try clear hc5); (try clear hc6)
          go_loopw [103] (fun j wx' => ∃ k : Nat, k ≤ n3 ∧ j = .int .i64 k ∧ Holds e wx' [Old e, IsRW p M', pt bd [.int .i64 d.f0, .int .i64 d.f1] 32, IsInts ov o, Sl 3 1 (.slice ua n1 uc) n1 (encI M'.rd), Sl 3 1 (.slice ra n2 rc) n2 (encI M'.wr), Sl 3 1 (.slice ya n3 yc) n3 (encI M'.ww), IsMap m .i64 (encF (once ((M'.wt ++ M'.rd ++ M'.wr) ++ (M'.ww).take k)))]) (fun j _ => n3 - (intOf j).toNat)
          case atStart => exact ⟨0, Nat.zero_le _, rfl, by rw [List.take_zero, List.append_nil]; exact Hw1.out⟩
          case round =>
            as_aux_lemma =>
            clear Hw1
            obtain ⟨k, hk, rfl, hw⟩ := hrel
            by_cases hlk : k < n3
            · obtain ⟨t, ht⟩ : ∃ t, (M'.ww)[k]? = some t := ⟨_, List.getElem?_eq_getElem (by have := Hn.out; omega)⟩
              obtain ⟨bo, oo, rfl, go⟩ := num_at (i := 6) hw rfl ht
              have Hnew : Hid ((once ((M'.wt ++ M'.rd ++ M'.wr) ++ (M'.ww).take k) t).getD 0 = 0) := Sep.hid (once_new (nodup_split Hnd.out ⟨_, (List.append_nil _).symm⟩ ht))
              have Htk : Hid (((M'.wt ++ M'.rd ++ M'.wr) ++ (M'.ww).take k) ++ [t] = (M'.wt ++ M'.rd ++ M'.wr) ++ (M'.ww).take (k + 1)) := Sep.hid (by rw [List.append_assoc, take_snoc' ht])
              clear ht
              go_wp2_with (first | (refine wpList_on rfl (wp_lookV (i := 7) rfl rfl rfl hw rfl Hnew.out ?_)) | (refine wpList_on rfl (wp_setI (i := 7) rfl rfl rfl rfl hw rfl ?_); intro w_ hw_; clear hw; have hw := hw_; clear hw_; (try simp only [List.map_cons, List.map_nil, List.getD_cons_zero, List.getD_cons_succ, List.getD_nil, List.set_cons_zero, List.set_cons_succ, List.cons_append, List.nil_append, Act.eval, Array.getD_eq_getD_getElem?, List.getElem?_toArray, List.getElem?_cons_succ, List.getElem?_cons_zero, Option.getD_some, Value.cells] at hw); (try simp (disch := first | (simp; done) | (simp; omega)) only [Sep.mid_set, Sep.mid_set2, Sep.mid_set0, Sep.mid_splice, Sep.mid_splice0, List.set_cons_zero, List.set_cons_succ] at hw); (try simp only [Sep.splice, List.take_succ_cons, List.take_zero, List.drop_succ_cons, List.drop_zero, List.length_cons, List.length_nil, Nat.reduceAdd, List.cons_append, List.nil_append] at hw); (try replace hc0 := Sep.Holds.cells hw (i := 0) rfl); (try replace hc1 := Sep.Holds.cells hw (i := 1) rfl); (try replace hc2 := Sep.Holds.cells hw (i := 2) rfl); (try replace hc3 := Sep.Holds.cells hw (i := 3) rfl); (try replace hc4 := Sep.Holds.cells hw (i := 4) rfl); (try replace hc5 := Sep.Holds.cells hw (i := 5) rfl); (try replace hc6 := Sep.Holds.cells hw (i := 6) rfl)))
              go_roundw
              case rel => exact ⟨k + 1, by omega, by go_num, by rw [← Htk.out, ← once_snoc]; exact hw⟩
              case measure => simp [intOf]; omega
            · have Htk : Hid ((M'.ww).take k = M'.ww) := Sep.hid (List.take_of_length_le (by have := Hn.out; omega))
              rw [Htk.out] at hw
              go_wp2_with fail
              go_roundw
              case rel => exact ⟨3, by decide, rfl, hw⟩
              case measure => simp [intOf]
        · replace hw : Holds e _ [Old e, IsRW p M', pt bd [.int .i64 d.f0, .int .i64 d.f1] 32, IsInts ov o, Sl 3 1 (.slice ua n1 uc) n1 (encI M'.rd), Sl 3 1 (.slice ra n2 rc) n2 (encI M'.wr), Sl 3 1 (.slice ya n3 yc) n3 (encI M'.ww), IsMap m .i64 (encF (once (M'.wt ++ M'.rd ++ M'.wr ++ M'.ww)))] := hw
          rw [show ((3 : Nat) : Int) = (3 : Int) from rfl]
          obtain ⟨es, clock, hR, hw⟩ := hw.mapName (i := 7) rfl
          have HR := Sep.hid hR; clear hR
          (try simp only [List.map_cons, List.map_nil, List.getD_cons_zero, List.getD_cons_succ, List.getD_nil, List.set_cons_zero, List.set_cons_succ, List.cons_append, List.nil_append, Act.eval, Array.getD_eq_getD_getElem?, List.getElem?_toArray, List.getElem?_cons_succ, List.getElem?_cons_zero, Option.getD_some, Value.cells] at hw); (try simp (disch := first | (simp; done) | (simp; omega)) only [Sep.mid_set, Sep.mid_set2, Sep.mid_set0, Sep.mid_splice, Sep.mid_splice0, List.set_cons_zero, List.set_cons_succ] at hw); (try simp only [Sep.splice, List.take_succ_cons, List.take_zero, List.drop_succ_cons, List.drop_zero, List.length_cons, List.length_nil, Nat.reduceAdd, List.cons_append, List.nil_append] at hw)
          go_wp2_with (refine wpList_on rfl (wp_range (i := 7) rfl rfl hw rfl ?_); intro r_ w_ hw_; clear hw; have hw := hw_; clear hw_; (try simp only [List.map_cons, List.map_nil, List.getD_cons_zero, List.getD_cons_succ, List.getD_nil, List.set_cons_zero, List.set_cons_succ, List.cons_append, List.nil_append, Act.eval, Array.getD_eq_getD_getElem?, List.getElem?_toArray, List.getElem?_cons_succ, List.getElem?_cons_zero, Option.getD_some, Value.cells] at hw); (try simp (disch := first | (simp; done) | (simp; omega)) only [Sep.mid_set, Sep.mid_set2, Sep.mid_set0, Sep.mid_splice, Sep.mid_splice0, List.set_cons_zero, List.set_cons_succ] at hw); (try simp only [Sep.splice, List.take_succ_cons, List.take_zero, List.drop_succ_cons, List.drop_zero, List.length_cons, List.length_nil, Nat.reduceAdd, List.cons_append, List.nil_append] at hw); (try replace hc0 := Sep.Holds.cells hw (i := 0) rfl); (try replace hc1 := Sep.Holds.cells hw (i := 1) rfl); (try replace hc2 := Sep.Holds.cells hw (i := 2) rfl); (try replace hc3 := Sep.Holds.cells hw (i := 3) rfl); (try replace hc4 := Sep.Holds.cells hw (i := 4) rfl); (try replace hc5 := Sep.Holds.cells hw (i := 5) rfl); (try replace hc6 := Sep.Holds.cells hw (i := 6) rfl))
          have Hw1 := Sep.hid hw; clear hw; (try clear hc0); (try clear hc1); (try clear hc2); (try clear hc3); (try clear hc4); (try clear hc5); (try clear hc6)
          (try go_frame)
          go_loopw [] (fun wx' => ∃ (seen : Array Nat) (c0 : Nat), clock ≤ c0 ∧ Holds e wx' [Old e, IsRW p M', pto m (.map es clock), pto r_ (.mapIter (some m) clock seen c0)]) (fun wx' => iterLeft es r_ wx')
          case atStart => exact ⟨#[], clock, Nat.le_refl _, Hw1.out.sel [0, 1, 7, 8] (by decide)⟩
          case round =>
            as_aux_lemma =>
            clear Hw1
            obtain ⟨seen, c0, hc0, hw⟩ := hrel
            have Hob := Sep.hid (hw.iterLeft (es := es) (j := 3) rfl)
            go_wp2_with fail
            refine upon_next (i := 2) (j := 3) HR.out hc0 hw rfl rfl ?_ ?_
            · intro _
              go_wp2_with fail
              go_roundw
              case rel => exact ⟨q + 1, M', by omega, by go_num, Hgood'.out.1, Hgood'.out.2.2, hw.sel [0, 1] (by decide)⟩
              case measure => simp [intOf]; omega
            · intro t v bn w_ hf hcur hms hw_
              obtain ⟨x, rfl, hx⟩ := enc_some hf
              obtain ⟨hm, rfl⟩ := once_some hx
              obtain ⟨ht0, ht1⟩ := one_pos Hgood'.out.2.1 hm
              rw [Hgood'.out.2.2] at ht1
              have Hcur := Sep.hid hcur
              have Hms := Sep.hid hms
              clear hf hcur hms hx hm hc0
              clear hw; have hw := hw_; clear hw_; (try simp only [List.map_cons, List.map_nil, List.getD_cons_zero, List.getD_cons_succ, List.getD_nil, List.set_cons_zero, List.set_cons_succ, List.cons_append, List.nil_append, Act.eval, Array.getD_eq_getD_getElem?, List.getElem?_toArray, List.getElem?_cons_succ, List.getElem?_cons_zero, Option.getD_some, Value.cells] at hw); (try simp (disch := first | (simp; done) | (simp; omega)) only [Sep.mid_set, Sep.mid_set2, Sep.mid_set0, Sep.mid_splice, Sep.mid_splice0, List.set_cons_zero, List.set_cons_succ] at hw); (try simp only [Sep.splice, List.take_succ_cons, List.take_zero, List.drop_succ_cons, List.drop_zero, List.length_cons, List.length_nil, Nat.reduceAdd, List.cons_append, List.nil_append] at hw); (try replace hc0 := Sep.Holds.cells hw (i := 0) rfl); (try replace hc1 := Sep.Holds.cells hw (i := 1) rfl); (try replace hc2 := Sep.Holds.cells hw (i := 2) rfl); (try replace hc3 := Sep.Holds.cells hw (i := 3) rfl); (try replace hc4 := Sep.Holds.cells hw (i := 4) rfl); (try replace hc5 := Sep.Holds.cells hw (i := 5) rfl); (try replace hc6 := Sep.Holds.cells hw (i := 6) rfl)
              go_wp2_with (refine upon_entry (i := 2) (j := 3) HR.out hw rfl rfl Hcur.out ?_)
              go_roundw
              case rel => exact ⟨_, clock, Nat.le_refl _, hw⟩
              case measure =>
                have h2 := hw.iterLeft (es := es) (j := 3) rfl
                rw [Hob.out, h2]
                exact Hms.out
    · go_wp2_with fail
      exact HP.out _ _ ⟨rfl, hw.sel [0] (by decide)⟩
end Go.Proofs.Ytlngkjgoacelfaa
