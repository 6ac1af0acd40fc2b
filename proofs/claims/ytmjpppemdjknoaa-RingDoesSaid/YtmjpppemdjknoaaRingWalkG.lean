/-
  The walk of an arena's Move.
-/
import Derived.Test.YtmjpppemdjknoaaRingWalkE
namespace Go.RingM
set_option linter.unusedSimpArgs false
set_option linter.unusedVariables false
def Ring.two (R : Ring) (f t : Nat) (a b : List Nat) : Ring := (R.setRow f a).setRow t b
theorem two_f {R : Ring} {f t : Nat} (hne : f ≠ t) (hf : f < R.rows.length) (a b : List Nat) : (R.two f t a b).rows[f]? = some a := by
  simp only [Ring.two, Ring.setRow]
  rw [List.getElem?_set_ne (fun h => hne h.symm), List.getElem?_set_self hf]
theorem two_t {R : Ring} {f t : Nat} (ht : t < R.rows.length) (a b : List Nat) : (R.two f t a b).rows[t]? = some b := by
  simp only [Ring.two, Ring.setRow]
  rw [List.getElem?_set_self (by simpa using ht)]
theorem two_setF {R : Ring} {f t : Nat} (hne : f ≠ t) (a b a' : List Nat) : (R.two f t a b).setRow f a' = R.two f t a' b := by
  simp only [Ring.two, Ring.setRow]
  rw [List.set_comm _ _ (fun h => hne h.symm), List.set_set]
theorem two_setT {R : Ring} {f t : Nat} (a b b' : List Nat) : (R.two f t a b).setRow t b' = R.two f t a b' := by
  simp only [Ring.two, Ring.setRow, List.set_set]
theorem two_self {R : Ring} {f t : Nat} {a b : List Nat} (hf : R.rows[f]? = some a) (ht : R.rows[t]? = some b) : R.two f t a b = R := by
  obtain ⟨h1, rfl⟩ := List.getElem?_eq_some_iff.1 hf
  obtain ⟨h2, rfl⟩ := List.getElem?_eq_some_iff.1 ht
  simp only [Ring.two, Ring.setRow, List.set_getElem_self]
def Ring.moveE (R : Ring) (f t : Int) : Int := if R.isRow f && R.isRow t then (if f = t then 1 else 0) else 3
def Ring.move (R : Ring) (f t : Int) : Ring := if R.moveE f t = 0 then R.two f.toNat t.toNat [] (R.row t ++ R.row f) else R
theorem first_nil {R : Ring} {f : Nat} (h : R.rows[f]? = some []) : R.first f = -1 := by unfold Ring.first; rw [Ring.row_of h]
theorem first_cons {R : Ring} {f y : Nat} {l : List Nat} (h : R.rows[f]? = some (y :: l)) : R.first f = (y : Int) := by unfold Ring.first; rw [Ring.row_of h]
theorem in_neg (R : Ring) : R.in_ (-1) = -1 := by simp [Ring.in_, Ring.isNode]
end Go.RingM
namespace Go.Proofs.Ytmjpppemdjknoaa
open Go.RowKit Go.Sep Go.RingM

def rowLen (p f : Nat) (w : World) : Nat :=
  match w.cell? ⟨p, 3, none⟩ with
  | some (.slice (some a) _ _) => (match w.cell? (a.add f) with | some (.int _ k) => k.toNat | _ => 0)
  | _ => 0
def isOne : Value → Nat
  | .bool true => 1
  | _ => 0
theorem rowLen_eq {p f : Nat} {R : Ring} {e w : World} {X : HProp} {l : List Nat} (hw : Holds e w [X, IsRing p R]) (hr : R.rows[f]? = some l) : rowLen p f w = l.length := by
  obtain ⟨x, nx, pv, hok, hw⟩ := IsRing.open_ hw
  have h1 := hw.cells (i := 1) rfl 3
  have h5 := hw.cells (i := 5) rfl f
  rw [longs_get hr] at h5
  have h3 : (ringCells R x)[3]? = some (.slice (some ⟨x.bl, 0, none⟩) R.rows.length R.rows.length) := rfl
  rw [h3] at h1
  have hadd : (⟨x.bl, 0, none⟩ : Addr).add f = ⟨x.bl, f, none⟩ := by unfold Addr.add; split <;> simp_all
  unfold rowLen
  rw [h1]
  simp only [hadd, h5, Int.toNat_natCast]
theorem ring_wf {p : Nat} {R : Ring} {e w : World} {X : HProp} (hw : Holds e w [X, IsRing p R]) : R.Wf := by
  obtain ⟨_, _, _, hok, _⟩ := IsRing.open_ hw; exact hok.wf

/-- What Take leaves of two rows. -/
theorem rTake2_calls (p : Nat) (R : Ring) (f t : Nat) (hne : f ≠ t) (hf : f < R.rows.length) (rest b : List Nat) (e w : World) (X : HProp) (hw : Holds e w [X, IsRing p (R.two f t rest b)]) :
    Calls Try.prog 14 #[.pointer (some ⟨p, 0, none⟩), .int .i64 (f : Int)] w fun en w' =>
      ∃ (n : Int) (is : Bool) (l : List Nat), en = .returned (.tuple #[.int .i64 n, .bool is]) ∧ Holds e w' [X, IsRing p (R.two f t l b)] ∧ rowLen p f w' = l.length ∧
        ((is = false ∧ rest = [] ∧ l = []) ∨ (∃ y : Nat, is = true ∧ rest = y :: l ∧ n = (y : Int) ∧ y < R.n ∧ (R.two f t l b).in_ y = -1)) := by
  refine (rTake_calls p _ f e w X hw).mono ?_
  rintro en w' ⟨rfl, hw'⟩
  have hr := two_f hne hf rest b
  have hW := ring_wf hw
  cases rest with
  | nil =>
    rw [first_nil hr, in_neg]
    rw [first_nil hr, Ring.drop_no (in_neg _)] at hw'
    exact ⟨_, _, [], rfl, hw', rowLen_eq hw' hr, .inl ⟨by simp, rfl, rfl⟩⟩
  | cons y l =>
    obtain ⟨h1, h2⟩ := Ring.drop_eq hW (l1 := []) (x := y) (l2 := l) hr
    rw [first_cons hr, h2, two_setF hne] at hw'
    rw [first_cons hr, h1]
    have hy : y < R.n := (hW.one f _ hr).2 y (by simp)
    have hin : (R.two f t l b).inOf y = -1 := by
      have := inOf_remove hW (l1 := []) hr (by rw [two_setF hne]; exact ring_wf hw') y
      rw [two_setF hne, if_pos rfl] at this
      exact this
    have hin2 : (R.two f t l b).in_ y = -1 := by
      have hy' : y < (R.two f t l b).n := hy
      simp [Ring.in_, Ring.isNode, hy', hin]
    refine ⟨_, _, l, rfl, hw', rowLen_eq hw' (two_f hne hf _ _), .inr ⟨y, ?_, rfl, rfl, hy, hin2⟩⟩
    simp only [Bool.not_eq_true', decide_eq_false_iff_not]; omega

set_option maxHeartbeats 4000000 in
theorem rMove_calls (p : Nat) (R : Ring) (f t : Int) (e w : World) (X : HProp) (hw : Holds e w [X, IsRing p R]) :
    Calls Try.prog 19 #[.pointer (some ⟨p, 0, none⟩), .int .i64 f, .int .i64 t] w fun en w' => en = .returned (.int .i64 (R.moveE f t)) ∧ Holds e w' [X, IsRing p (R.move f t)] := by
  obtain ⟨x, nx, pv, hok, hwo⟩ := IsRing.open_ hw
  have Hc := Sep.hid (hwo.cells (i := 1) rfl)
  clear hwo hok
  cases hf : R.isRow f with
  | false =>
    have e1 : R.moveE f t = 3 := by simp [Ring.moveE, hf]
    have e2 : R.move f t = R := by unfold Ring.move; rw [e1]; rfl
    rw [e1, e2]; clear e1 e2
    refine Sep.calls_post ?_
    intro Post_ hPost_
    have HP := Sep.hid hPost_
    clear hPost_
    go_enter Try.func19, Try.ntmps19
    go_wp2_with (go_at_call 35; refine (rRow_calls p R x f _ Hc.out).mono ?_; rintro _ w_ ⟨rfl, rfl⟩; rw [hf])
    exact HP.out _ _ ⟨rfl, hw⟩
  | true =>
    cases ht : R.isRow t with
    | false =>
      have e1 : R.moveE f t = 3 := by simp [Ring.moveE, ht]
      have e2 : R.move f t = R := by unfold Ring.move; rw [e1]; rfl
      rw [e1, e2]; clear e1 e2
      refine Sep.calls_post ?_
      intro Post_ hPost_
      have HP := Sep.hid hPost_
      clear hPost_
      go_enter Try.func19, Try.ntmps19
      go_wp2_with fail
      refine (rRow_calls p R x f _ Hc.out).mono ?_
      rintro _ w_ ⟨rfl, rfl⟩
      rw [hf]
      go_wp2_with fail
      refine (rRow_calls p R x t _ Hc.out).mono ?_
      rintro _ w_ ⟨rfl, rfl⟩
      rw [ht]
      go_wp2_with fail
      exact HP.out _ _ ⟨rfl, hw⟩
    | true =>
      by_cases hft : f = t
      · subst hft
        have e1 : R.moveE f f = 1 := by simp [Ring.moveE, hf]
        have e2 : R.move f f = R := by unfold Ring.move; rw [e1]; rfl
        rw [e1, e2]; clear e1 e2
        refine Sep.calls_post ?_
        intro Post_ hPost_
        have HP := Sep.hid hPost_
        clear hPost_
        go_enter Try.func19, Try.ntmps19
        go_wp2_with (go_at_call 35; refine (rRow_calls p R x f _ Hc.out).mono ?_; rintro _ w_ ⟨rfl, rfl⟩; rw [hf])
        exact HP.out _ _ ⟨rfl, hw⟩
      · have e1 : R.moveE f t = 0 := by simp [Ring.moveE, hf, ht, hft]
        have e2 : R.move f t = R.two f.toNat t.toNat [] (R.row t ++ R.row f) := by unfold Ring.move; rw [if_pos e1]
        rw [e1, e2]; clear e1 e2
        have hf' := hf; have ht' := ht
        simp only [Ring.isRow, Bool.and_eq_true, decide_eq_true_eq] at hf' ht'
        obtain ⟨f, rfl⟩ := Int.eq_ofNat_of_zero_le hf'.1
        obtain ⟨t, rfl⟩ := Int.eq_ofNat_of_zero_le ht'.1
        have hfl : f < R.rows.length := by omega
        have htl : t < R.rows.length := by omega
        have hne : f ≠ t := by omega
        clear hf' ht'
        obtain ⟨lf, hlf⟩ : ∃ l, R.rows[f]? = some l := ⟨_, List.getElem?_eq_getElem hfl⟩
        obtain ⟨lt, hlt⟩ : ∃ l, R.rows[t]? = some l := ⟨_, List.getElem?_eq_getElem htl⟩
        rw [Ring.row_of hlf, Ring.row_of hlt]
        simp only [Int.toNat_natCast]
        have hw0 : Holds e w [X, IsRing p (R.two f t lf lt)] := by rw [two_self hlf hlt]; exact hw
        clear hw
        have Hlf := Sep.hid hlf; have Hlt := Sep.hid hlt; clear hlf hlt
        have Hne := Sep.hid hne; have Hfl := Sep.hid hfl; have Htl := Sep.hid htl; clear hne hfl htl
        refine Sep.calls_post ?_
        intro Post_ hPost_
        have HP := Sep.hid hPost_
        clear hPost_
        go_enter Try.func19, Try.ntmps19
        go_wp2_with fail
        refine (rRow_calls p R x f _ Hc.out).mono ?_
        rintro _ w_ ⟨rfl, rfl⟩
        rw [hf]
        go_wp2_with fail
        refine (rRow_calls p R x t _ Hc.out).mono ?_
        rintro _ w_ ⟨rfl, rfl⟩
        rw [ht]
        go_wp2_with fail
        refine (rTake2_calls p R f t Hne.out Hfl.out lf lt e _ X hw0).mono ?_
        rintro en_ w_ ⟨n, is, l, rfl, hw, hlen, hcase⟩
        clear hw0
        have Hlen := Sep.hid hlen; have Hcase := Sep.hid hcase; clear hlen hcase
        go_wp2_with fail
        have Hw0 := Sep.hid hw; clear hw
        go_loopw [7, 8] (fun n is wr => ∃ (m : Int) (b : Bool) (done rest l : List Nat), n = .int .i64 m ∧ is = .bool b ∧ lf = done ++ rest ∧ Hid (rowLen p f wr = l.length) ∧ Hid ((b = false ∧ rest = [] ∧ l = []) ∨ (∃ y : Nat, b = true ∧ rest = y :: l ∧ m = (y : Int) ∧ y < R.n ∧ (R.two f t l (lt ++ done)).in_ y = -1)) ∧ Holds e wr [X, IsRing p (R.two f t l (lt ++ done))]) (fun _ is wr => rowLen p f wr + isOne is)
        case atStart => exact ⟨n, is, [], lf, l, rfl, rfl, rfl, Hlen, by rw [List.append_nil]; exact Hcase, by rw [List.append_nil]; exact Hw0.out⟩
        case round =>
          clear Hw0 Hlen Hcase
          obtain ⟨m, b, done, rest, l, rfl, rfl, hsp, Hlen, Hcase, hw⟩ := hrel
          have Hsp := Sep.hid hsp; clear hsp
          rcases Hcase.out with ⟨rfl, rfl, rfl⟩ | ⟨y, rfl, rfl, rfl, hy, hin⟩
          · go_wp2_with fail
            refine HP.out _ _ ⟨rfl, ?_⟩
            have e3 : lf = done := by have := Hsp.out; simpa using this
            rw [e3]
            exact hw
          · have hmay : (R.two f t l (lt ++ done)).mayE t y = 0 := by
              have h1 : (R.two f t l (lt ++ done)).isRow t = true := by
                have h2 : (R.two f t l (lt ++ done)).rows.length = R.rows.length := by simp [Ring.two, Ring.setRow]
                unfold Ring.isRow; rw [h2]; exact ht
              have h3 : (R.two f t l (lt ++ done)).isNode y = true := by
                have h4 : y < (R.two f t l (lt ++ done)).n := hy
                simp [Ring.isNode, h4]
              simp [Ring.mayE, h1, h3, hin]
            have hadd := Ring.add_eq hmay (Ring.row_of (two_t Htl.out l (lt ++ done))) false
            have Hadd := Sep.hid hadd
            clear hadd hmay hin Hcase
            go_wp2_with fail
            refine (rPut_calls p _ t y e _ X hw).mono ?_
            rintro en_ w_ ⟨rfl, hw_⟩
            clear hw
            have hw : Holds e w_ [X, IsRing p (R.two f t l (lt ++ (done ++ [y])))] := by
              rw [Hadd.out] at hw_
              simp only [Bool.false_eq_true, if_false, two_setT] at hw_
              rw [← List.append_assoc]; exact hw_
            clear hw_
            go_wp2_with fail
            refine (rTake2_calls p R f t Hne.out Hfl.out l (lt ++ (done ++ [y])) e _ X hw).mono ?_
            rintro en_ w_ ⟨n2, is2, l2, rfl, hw2, hlen2, hcase2⟩
            clear hw; have hw := hw2; clear hw2
            have Hlen2 := Sep.hid hlen2; have Hcase2 := Sep.hid hcase2; clear hlen2 hcase2
            go_wp2_with fail
            go_roundw
            case rel => exact ⟨n2, is2, done ++ [y], l, l2, rfl, rfl, by rw [Hsp.out]; simp, Hlen2, Hcase2, hw⟩
            case measure =>
              rw [Hlen2.out, Hlen.out]
              rcases Hcase2.out with ⟨h1, h2, h3⟩ | ⟨y2, h1, h2, _⟩
              · rw [h1, h2, h3]; simp [isOne]
              · rw [h1, h2]; simp [isOne]
end Go.Proofs.Ytmjpppemdjknoaa
