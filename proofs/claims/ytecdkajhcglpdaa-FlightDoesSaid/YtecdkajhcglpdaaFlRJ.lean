/-
  The reference's flight: Joins, its parts lying open.
-/
import Derived.Test.YtecdkajhcglpdaaFlRI
namespace Go.Proofs.Ytecdkajhcglpdaa
set_option linter.unusedSimpArgs false
set_option linter.unusedVariables false
open Go.RowKit Go.Sep Go.RingM

set_option maxHeartbeats 4000000 in
theorem rJoinsAt (p n len cap : Nat) (a : Option Addr) (vs : List Value) (cs : List CallV) (t : Int) (Hlen : Hid (cs.length = len)) (Hvl : Hid (vs.length = cs.length)) (hcl : len ≤ 100000) (hjl : Hid (∀ c ∈ cs, c.joined.length ≤ 1000000)) (e w : World) (X : HProp) (hw : Holds e w [X, pt p [.slice a len cap, .int .i64 (n : Int)] 47, Sl 44 4 (.slice a len cap) len (encCs cs vs), sepL (joinedOf vs cs)]) :
    Calls Try.prog 20 #[.pointer (some ⟨p, 0, none⟩), .int .i64 t] w fun en w' => en = .returned (.int .i64 (joinsC cs t)) ∧ Holds e w' [X, pt p [.slice a len cap, .int .i64 (n : Int)] 47, Sl 44 4 (.slice a len cap) len (encCs cs vs), sepL (joinedOf vs cs)] := by
  have Hw1 := Sep.hid hw; clear hw
  refine Sep.calls_post ?_
  intro Post_ hPost_
  have HP := Sep.hid hPost_
  clear hPost_
  go_enter Try.func20, Try.ntmps20
  go_wp2_with fail
  go_loopw [5] (fun i wr => ∃ q : Nat, q ≤ len ∧ i = .int .i64 q ∧ Hid (∀ y ∈ cs.take q, decide (t ∈ y.joined) = false) ∧ Holds e wr [X, pt p [.slice a len cap, .int .i64 (n : Int)] 47, Sl 44 4 (.slice a len cap) len (encCs cs vs), sepL (joinedOf vs cs)]) (fun i _ => len - (intOf i).toNat)
  case atStart => exact ⟨0, Nat.zero_le _, rfl, Sep.hid (by simp), Hw1.out⟩
  case round =>
    clear Hw1
    obtain ⟨q, hq, rfl, Hno, hw⟩ := hrel
    by_cases hlt : q < len
    · obtain ⟨c, hc⟩ : ∃ c, cs[q]? = some c := ⟨_, List.getElem?_eq_getElem (by rw [Hlen.out]; exact hlt)⟩
      have Hc := Sep.hid hc; clear hc
      obtain ⟨ja, jc, hv, hw⟩ := jo_pick Hvl.out Hc.out hw
      have Hv := Sep.hid hv; clear hv
      obtain ⟨b, off, rfl, h0, h1, h2, h3⟩ := call_at (i := 2) hw rfl Hvl.out Hc.out Hv.out
      (try replace hc0 := Sep.Holds.cells hw (i := 0) rfl); (try replace hc1 := Sep.Holds.cells hw (i := 1) rfl); (try replace hc2 := Sep.Holds.cells hw (i := 2) rfl); (try replace hc3 := Sep.Holds.cells hw (i := 3) rfl); (try replace hc4 := Sep.Holds.cells hw (i := 4) rfl); (try replace hc5 := Sep.Holds.cells hw (i := 5) rfl); (try replace hc6 := Sep.Holds.cells hw (i := 6) rfl)
      go_wp2_with fail
      refine (in8_calls _ c.joined t (hjl.out c (List.mem_of_getElem? Hc.out)) e _ _ (hw.focus1 4 rfl)).mono ?_
      rintro en_ w_ ⟨he_, hw_⟩
      clear hw h0 h1 h2 h3; (try clear hc0); (try clear hc1); (try clear hc2); (try clear hc3); (try clear hc4); (try clear hc5); (try clear hc6); have hw := Holds.unfocus1 4 (by simp) hw_; clear hw_
      (try simp only [List.map_cons, List.map_nil, List.getD_cons_zero, List.getD_cons_succ, List.getD_nil, List.set_cons_zero, List.set_cons_succ, List.cons_append, List.nil_append, Act.eval, Array.getD_eq_getD_getElem?, List.getElem?_toArray, List.getElem?_cons_succ, List.getElem?_cons_zero, Option.getD_some, Value.cells] at hw); (try simp (disch := first | (simp; done) | (simp; omega)) only [Sep.mid_set, Sep.mid_set2, Sep.mid_set0, Sep.mid_splice, Sep.mid_splice0, List.set_cons_zero, List.set_cons_succ] at hw); (try simp only [Sep.splice, List.take_succ_cons, List.take_zero, List.drop_succ_cons, List.drop_zero, List.length_cons, List.length_nil, Nat.reduceAdd, List.cons_append, List.nil_append] at hw)
      obtain ⟨b2, off2, hb2, h0, h1, h2, h3⟩ := call_at (i := 2) hw rfl Hvl.out Hc.out Hv.out
      cases hb2
      (try replace hc0 := Sep.Holds.cells hw (i := 0) rfl); (try replace hc1 := Sep.Holds.cells hw (i := 1) rfl); (try replace hc2 := Sep.Holds.cells hw (i := 2) rfl); (try replace hc3 := Sep.Holds.cells hw (i := 3) rfl); (try replace hc4 := Sep.Holds.cells hw (i := 4) rfl); (try replace hc5 := Sep.Holds.cells hw (i := 5) rfl); (try replace hc6 := Sep.Holds.cells hw (i := 6) rfl)
      by_cases hin : t ∈ c.joined
      · rw [decide_eq_true hin] at he_; subst he_
        have Hf : Hid (joinsC cs t = c.of) := Sep.hid (by unfold joinsC; rw [find_at Hno.out Hc.out (by simp [hin])])
        clear hin
        go_wp2_with fail
        refine HP.out _ _ ⟨?_, ?_⟩
        · rw [Hf.out]; rfl
        · exact jo_back Hvl.out Hc.out Hv.out hw
      · rw [decide_eq_false hin] at he_; subst he_
        have Hno2 := Sep.hid (take_no Hno.out Hc.out (by simp [hin]))
        clear hin
        go_wp2_with fail
        go_roundw
        case rel => exact ⟨q + 1, by omega, by go_num, Hno2, jo_back Hvl.out Hc.out Hv.out hw⟩
        case measure => simp [intOf]; omega
    · have Hf : Hid (joinsC cs t = -1) := Sep.hid (by unfold joinsC; rw [find_no Hno.out (by rw [Hlen.out]; omega)])
      (try replace hc0 := Sep.Holds.cells hw (i := 0) rfl); (try replace hc1 := Sep.Holds.cells hw (i := 1) rfl); (try replace hc2 := Sep.Holds.cells hw (i := 2) rfl); (try replace hc3 := Sep.Holds.cells hw (i := 3) rfl); (try replace hc4 := Sep.Holds.cells hw (i := 4) rfl); (try replace hc5 := Sep.Holds.cells hw (i := 5) rfl); (try replace hc6 := Sep.Holds.cells hw (i := 6) rfl)
      go_wp2_with fail
      refine HP.out _ _ ⟨?_, ?_⟩
      · rw [Hf.out]; rfl
      · exact hw
end Go.Proofs.Ytecdkajhcglpdaa
