/-
  The program's tree: how it lies in memory; what is found by reading.
-/
import Derived.Test.YtlegkikglpogkaaTreeMM
import Derived.Test.YtlegkikglpogkaaInts
import Derived.Test.YtlegkikglpogkaaNums
import Derived.Test.YtlegkikglpogkaaSepTab
import Derived.IntWalk
namespace Go.Proofs.Ytlegkikglpogkaa
set_option linter.unusedSimpArgs false
set_option linter.unusedVariables false
open Go.RowKit Go.Sep Go.TreeM

/-- A node with the row of who stands below it. -/
structure TN where
  nd : Nd
  kids : List Int
def tns (l : List Nd) : List TN := l.mapIdx fun i x => ⟨x, kidsRow l i⟩
def encN (x : TN) (v : Value) : List Value := [.int .i64 x.nd.over, .bool x.nd.cut, v]
def rowN (v : Value) (x : TN) : HProp := IsInts v x.kids
theorem encN_length (x : TN) (v : Value) : (encN x v).length = 3 := rfl
theorem tns_length (l : List Nd) : (tns l).length = l.length := by unfold tns; simp
theorem tns_get {l : List Nd} {k : Nat} {x : Nd} (h : l[k]? = some x) : (tns l)[k]? = some ⟨x, kidsRow l k⟩ := by unfold tns; rw [List.getElem?_mapIdx, h]; rfl
structure TNv where
  a : Option Addr
  cap : Nat
  vs : List Value
def treeParts (p : Nat) (T : Tree) (x : TNv) : List HProp := [pt p [.slice x.a T.l.length x.cap, .int .i64 T.most] 54, Sl 56 3 (.slice x.a T.l.length x.cap) T.l.length (tabC encN (tns T.l) x.vs), sepL (tabR rowN (tns T.l) x.vs), fct (x.vs.length = T.l.length)]
def IsTree (p : Nat) (T : Tree) : HProp := exL (treeParts p T)
/-- What is read of a node. -/
def NodeAt (w : World) (a : Option Addr) (k : Nat) (x : Nd) : Prop := ∃ b off v, a = some ⟨b, off, none⟩ ∧ w.cell? ⟨b, off + k * 3, none⟩ = some (.int .i64 x.over) ∧ w.cell? ⟨b, off + k * 3 + 1, none⟩ = some (.bool x.cut) ∧ w.cell? ⟨b, off + k * 3 + 2, none⟩ = some v
def NodesAt (w : World) (a : Option Addr) (l : List Nd) : Prop := ∀ k x, l[k]? = some x → NodeAt w a k x
theorem node_at {e w : World} {L : List HProp} {i n k ca : Nat} {a : Option Addr} {l : List Nd} {vs : List Value} {x : Nd} {v : Value} (hw : Holds e w L) (hi : L[i]? = some (Sl 56 3 (.slice a n ca) n (tabC encN (tns l) vs))) (hn : l.length = n) (hlen : vs.length = l.length) (hx : l[k]? = some x) (hv : vs[k]? = some v) :
    ∃ b off, a = some ⟨b, off, none⟩ ∧ w.cell? ⟨b, off + k * 3, none⟩ = some (.int .i64 x.over) ∧ w.cell? ⟨b, off + k * 3 + 1, none⟩ = some (.bool x.cut) ∧ w.cell? ⟨b, off + k * 3 + 2, none⟩ = some v := by
  have hk := (List.getElem?_eq_some_iff.1 hx).1
  obtain ⟨b, off, h1, h2⟩ := tab_at (k := k) encN_length hw hi (by omega) (by rw [hlen, tns_length]) (tns_get hx) hv
  exact ⟨b, off, h1, h2 0 (by omega), h2 1 (by omega), h2 2 (by omega)⟩
theorem nodes_at {e w : World} {L : List HProp} {i n ca : Nat} {a : Option Addr} {l : List Nd} {vs : List Value} (hw : Holds e w L) (hi : L[i]? = some (Sl 56 3 (.slice a n ca) n (tabC encN (tns l) vs))) (hn : l.length = n) (hlen : vs.length = l.length) : NodesAt w a l := by
  intro k x hx
  have hk := (List.getElem?_eq_some_iff.1 hx).1
  obtain ⟨b, off, h⟩ := node_at hw hi hn hlen hx (List.getElem?_eq_getElem (by rw [hlen]; exact hk))
  exact ⟨b, off, _, h⟩
set_option maxHeartbeats 1600000 in
theorem tThere (p len cap : Nat) (a : Option Addr) (l : List Nd) (n : Int) (hlen : Hid (l.length = len)) (w : World) (hp : w.cell? ⟨p, 0, none⟩ = some (.slice a len cap)) :
    Calls Try.prog 29 #[.pointer (some ⟨p, 0, none⟩), .int .i64 n] w fun en w' => en = .returned (.bool (there l n)) ∧ w' = w := by
  by_cases h0 : 0 ≤ n
  · by_cases h1 : n < len
    · have hb : there l n = true := there_iff.2 ⟨h0, by rw [hlen.out]; exact h1⟩
      rw [hb]; clear hb
      refine Sep.calls_post ?_
      intro Post_ hPost_
      have HP := Sep.hid hPost_
      clear hPost_
      go_enter Try.func29, Try.ntmps29
      go_wp2_with fail
      exact HP.out _ _ ⟨rfl, rfl⟩
    · have hb : there l n = false := by unfold there; rw [hlen.out]; simp; omega
      rw [hb]; clear hb
      refine Sep.calls_post ?_
      intro Post_ hPost_
      have HP := Sep.hid hPost_
      clear hPost_
      go_enter Try.func29, Try.ntmps29
      go_wp2_with fail
      exact HP.out _ _ ⟨rfl, rfl⟩
  · have hb : there l n = false := by unfold there; simp; omega
    rw [hb]; clear hb
    refine Sep.calls_post ?_
    intro Post_ hPost_
    have HP := Sep.hid hPost_
    clear hPost_
    go_enter Try.func29, Try.ntmps29
    go_wp2_with fail
    exact HP.out _ _ ⟨rfl, rfl⟩
theorem tLen (p len cap : Nat) (a : Option Addr) (w : World) (hp : w.cell? ⟨p, 0, none⟩ = some (.slice a len cap)) :
    Calls Try.prog 12 #[.pointer (some ⟨p, 0, none⟩)] w fun en w' => en = .returned (.int .i64 (len : Int)) ∧ w' = w := by
  refine Sep.calls_post ?_
  intro Post_ hPost_
  have HP := Sep.hid hPost_
  clear hPost_
  go_enter Try.func12, Try.ntmps12
  go_wp2_with fail
  exact HP.out _ _ ⟨rfl, rfl⟩
set_option maxHeartbeats 1600000 in
theorem tOver (p len cap : Nat) (a : Option Addr) (l : List Nd) (n : Int) (hlen : Hid (l.length = len)) (w : World) (hp : w.cell? ⟨p, 0, none⟩ = some (.slice a len cap)) (hns : Hid (NodesAt w a l)) :
    Calls Try.prog 13 #[.pointer (some ⟨p, 0, none⟩), .int .i64 n] w fun en w' => en = .returned (.int .i64 (overOf l n)) ∧ w' = w := by
  cases hb : there l n with
  | false =>
    rw [over_neg hb]
    have Hb := Sep.hid hb; clear hb
    refine Sep.calls_post ?_
    intro Post_ hPost_
    have HP := Sep.hid hPost_
    clear hPost_
    go_enter Try.func13, Try.ntmps13
    go_wp2_with fail
    refine (tThere p len cap a l n hlen _ hp).mono ?_
    rintro _ w_ ⟨rfl, rfl⟩
    rw [Hb.out]
    go_wp2_with fail
    exact HP.out _ _ ⟨rfl, rfl⟩
  | true =>
    obtain ⟨k, x, rfl, hk, hx, _⟩ := there_get hb
    rw [(get_there hx).2.2.1]
    obtain ⟨b, off, v, rfl, h0, h1, h2⟩ := hns.out k x hx
    rw [hlen.out] at hk
    have Hb := Sep.hid hb; clear hb hx
    refine Sep.calls_post ?_
    intro Post_ hPost_
    have HP := Sep.hid hPost_
    clear hPost_
    go_enter Try.func13, Try.ntmps13
    go_wp2_with fail
    refine (tThere p len cap _ l k hlen _ hp).mono ?_
    rintro _ w_ ⟨rfl, rfl⟩
    rw [Hb.out]
    go_wp2_with fail
    exact HP.out _ _ ⟨rfl, rfl⟩
set_option maxHeartbeats 1600000 in
theorem tCut (p len cap : Nat) (a : Option Addr) (l : List Nd) (n : Int) (hlen : Hid (l.length = len)) (w : World) (hp : w.cell? ⟨p, 0, none⟩ = some (.slice a len cap)) (hns : Hid (NodesAt w a l)) :
    Calls Try.prog 15 #[.pointer (some ⟨p, 0, none⟩), .int .i64 n] w fun en w' => en = .returned (.bool (cutOf l n)) ∧ w' = w := by
  cases hb : there l n with
  | false =>
    rw [cut_neg hb]
    have Hb := Sep.hid hb; clear hb
    refine Sep.calls_post ?_
    intro Post_ hPost_
    have HP := Sep.hid hPost_
    clear hPost_
    go_enter Try.func15, Try.ntmps15
    go_wp2_with fail
    refine (tThere p len cap a l n hlen _ hp).mono ?_
    rintro _ w_ ⟨rfl, rfl⟩
    rw [Hb.out]
    go_wp2_with fail
    exact HP.out _ _ ⟨rfl, rfl⟩
  | true =>
    obtain ⟨k, x, rfl, hk, hx, _⟩ := there_get hb
    rw [(get_there hx).2.2.2]
    obtain ⟨b, off, v, rfl, h0, h1, h2⟩ := hns.out k x hx
    rw [hlen.out] at hk
    have Hb := Sep.hid hb; clear hb hx
    refine Sep.calls_post ?_
    intro Post_ hPost_
    have HP := Sep.hid hPost_
    clear hPost_
    go_enter Try.func15, Try.ntmps15
    go_wp2_with fail
    refine (tThere p len cap _ l k hlen _ hp).mono ?_
    rintro _ w_ ⟨rfl, rfl⟩
    rw [Hb.out]
    go_wp2_with fail
    exact HP.out _ _ ⟨rfl, rfl⟩
end Go.Proofs.Ytlegkikglpogkaa
