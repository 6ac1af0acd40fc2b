/-
  The reference's flight: Of, Led: what is found by reading.
-/
import Derived.Test.YtecdkajhcglpdaaFlRA
namespace Go.Proofs.Ytecdkajhcglpdaa
set_option linter.unusedSimpArgs false
set_option linter.unusedVariables false
open Go.RowKit Go.Sep Go.RingM

/-- What is read of a flight of the reference. -/
def CallAt (w : World) (a : Option Addr) (i : Nat) (c : CallV) : Prop := ∃ b off v, a = some ⟨b, off, none⟩ ∧ w.cell? ⟨b, off + i * 4, none⟩ = some (.int .i64 c.of) ∧ w.cell? ⟨b, off + i * 4 + 1, none⟩ = some (.int .i64 c.key) ∧ w.cell? ⟨b, off + i * 4 + 2, none⟩ = some (.bool c.gone) ∧ w.cell? ⟨b, off + i * 4 + 3, none⟩ = some v
theorem take_no {α : Type} {l : List α} {p : α → Bool} {k : Nat} {x : α} (h : ∀ y ∈ l.take k, p y = false) (hx : l[k]? = some x) (hp : p x = false) : ∀ y ∈ l.take (k + 1), p y = false := by
  intro y hy
  rw [List.take_add_one, hx] at hy
  rcases List.mem_append.1 hy with hy | hy
  · exact h y hy
  · simp at hy; rw [hy]; exact hp
theorem findIdx_at {α : Type} {l : List α} {p : α → Bool} {k : Nat} {x : α} (h : ∀ y ∈ l.take k, p y = false) (hx : l[k]? = some x) (hp : p x = true) : l.findIdx? p = some k := by
  obtain ⟨hk, hx2⟩ := List.getElem?_eq_some_iff.1 hx
  rw [List.findIdx?_eq_some_iff_getElem]
  refine ⟨hk, by rw [hx2]; exact hp, fun j hj => ?_⟩
  have := h l[j] (List.mem_iff_getElem?.2 ⟨j, by rw [List.getElem?_take, if_pos hj, List.getElem?_eq_getElem]⟩)
  simp [this]
theorem findIdx_no {α : Type} {l : List α} {p : α → Bool} {k : Nat} (h : ∀ y ∈ l.take k, p y = false) (hk : l.length ≤ k) : l.findIdx? p = none := by
  rw [List.findIdx?_eq_none_iff]
  rw [List.take_of_length_le hk] at h
  intro x hx; simpa using h x hx
set_option maxHeartbeats 4000000 in
theorem rOf (p n len cap : Nat) (a : Option Addr) (cs : List CallV) (k : Int) (hlen : Hid (cs.length = len)) (hl : len ≤ 100000) (w : World) (hp : w.cell? ⟨p, 0, none⟩ = some (.slice a len cap)) (hcs : Hid (∀ i c, cs[i]? = some c → CallAt w a i c)) :
    Calls Try.prog 14 #[.pointer (some ⟨p, 0, none⟩), .int .i64 k] w fun en w' => en = .returned (.int .i64 (ofI cs k)) ∧ w' = w := by
  refine Sep.calls_post ?_
  intro Post_ hPost_
  have HP := Sep.hid hPost_
  clear hPost_
  go_enter Try.func14, Try.ntmps14
  go_wp2_with fail
  go_loopw [5] (fun i wr => ∃ q : Nat, q ≤ len ∧ i = .int .i64 q ∧ Hid (∀ y ∈ cs.take q, (decide (y.key = k) && !y.gone) = false) ∧ wr = w) (fun i _ => len - (intOf i).toNat)
  case atStart => exact ⟨0, Nat.zero_le _, rfl, Sep.hid (by simp), rfl⟩
  case round =>
    obtain ⟨q, hq, rfl, Hno, rfl⟩ := hrel
    by_cases hlt : q < len
    · obtain ⟨c, hc⟩ : ∃ c, cs[q]? = some c := ⟨_, List.getElem?_eq_getElem (by rw [hlen.out]; exact hlt)⟩
      have Hc := Sep.hid hc; clear hc
      obtain ⟨b, off, v, rfl, h0, h1, h2, h3⟩ := hcs.out q c Hc.out
      by_cases hk : c.key = k
      · cases hg : c.gone with
        | false =>
          have Hf : Hid (ofI cs k = (q : Int)) := Sep.hid (by unfold ofI; rw [findIdx_at Hno.out Hc.out (by simp [hk, hg])])
          rw [hg] at h2; clear hg
          go_wp2_with fail
          refine HP.out _ _ ⟨?_, rfl⟩
          rw [Hf.out]; rfl
        | true =>
          have Hno2 := Sep.hid (take_no Hno.out Hc.out (by simp [hg]))
          rw [hg] at h2; clear hg
          go_wp2_with fail
          go_roundw
          case rel => exact ⟨q + 1, by omega, by go_num, Hno2, by trivial⟩
          case measure => simp [intOf]; omega
      · have Hno2 := Sep.hid (take_no Hno.out Hc.out (by simp [hk]))
        go_wp2_with fail
        go_roundw
        case rel => exact ⟨q + 1, by omega, by go_num, Hno2, by trivial⟩
        case measure => simp [intOf]; omega
    · have Hf : Hid (ofI cs k = -1) := Sep.hid (by unfold ofI; rw [findIdx_no Hno.out (by rw [hlen.out]; omega)])
      go_wp2_with fail
      refine HP.out _ _ ⟨?_, rfl⟩
      rw [Hf.out]; rfl
set_option maxHeartbeats 4000000 in
theorem rLed (p n len cap : Nat) (a : Option Addr) (cs : List CallV) (t : Int) (hlen : Hid (cs.length = len)) (hl : len ≤ 100000) (w : World) (hp : w.cell? ⟨p, 0, none⟩ = some (.slice a len cap)) (hcs : Hid (∀ i c, cs[i]? = some c → CallAt w a i c)) :
    Calls Try.prog 18 #[.pointer (some ⟨p, 0, none⟩), .int .i64 t] w fun en w' => en = .returned (.int .i64 (ledI cs t)) ∧ w' = w := by
  refine Sep.calls_post ?_
  intro Post_ hPost_
  have HP := Sep.hid hPost_
  clear hPost_
  go_enter Try.func18, Try.ntmps18
  go_wp2_with fail
  go_loopw [5] (fun i wr => ∃ q : Nat, q ≤ len ∧ i = .int .i64 q ∧ Hid (∀ y ∈ cs.take q, decide (y.of = t) = false) ∧ wr = w) (fun i _ => len - (intOf i).toNat)
  case atStart => exact ⟨0, Nat.zero_le _, rfl, Sep.hid (by simp), rfl⟩
  case round =>
    obtain ⟨q, hq, rfl, Hno, rfl⟩ := hrel
    by_cases hlt : q < len
    · obtain ⟨c, hc⟩ : ∃ c, cs[q]? = some c := ⟨_, List.getElem?_eq_getElem (by rw [hlen.out]; exact hlt)⟩
      have Hc := Sep.hid hc; clear hc
      obtain ⟨b, off, v, rfl, h0, h1, h2, h3⟩ := hcs.out q c Hc.out
      by_cases hk : c.of = t
      · have Hf : Hid (ledI cs t = (q : Int)) := Sep.hid (by unfold ledI; rw [findIdx_at Hno.out Hc.out (by simp [hk])])
        go_wp2_with fail
        refine HP.out _ _ ⟨?_, rfl⟩
        rw [Hf.out]; rfl
      · have Hno2 := Sep.hid (take_no Hno.out Hc.out (by simp [hk]))
        go_wp2_with fail
        go_roundw
        case rel => exact ⟨q + 1, by omega, by go_num, Hno2, by trivial⟩
        case measure => simp [intOf]; omega
    · have Hf : Hid (ledI cs t = -1) := Sep.hid (by unfold ledI; rw [findIdx_no Hno.out (by rw [hlen.out]; omega)])
      go_wp2_with fail
      refine HP.out _ _ ⟨?_, rfl⟩
      rw [Hf.out]; rfl
end Go.Proofs.Ytecdkajhcglpdaa
