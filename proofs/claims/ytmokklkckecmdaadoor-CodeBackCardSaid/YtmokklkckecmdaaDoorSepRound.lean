/-
  A range over a function, over what a world holds: the statement, one round, the call of yield, and how the function that holds the loop is left.
-/
import Derived.Test.YtmokklkckecmdaaDoorSepLaws
import Derived.RangeFuncLeaves
import Derived.RangeFuncRecord
import Derived.RangeFuncSeq
import Derived.TacticsIn
import Derived.Orders
namespace Go.Sep
set_option linter.unusedSimpArgs false
set_option linter.unusedVariables false
open Go.RowKit

/-- A fence that asks nothing (whatever the round). -/
structure Wide (F : Fence) : Prop where
  fn : ∀ f, F.fn f
  depth : F.depth = none
  calls : ∀ {n : Nat} {P : Program} {f : FuncId} {args : Array Value} {w : World} {R : Ending → World → Prop}, Calls P f args w R → CallsIn F n P f args w R
  rows : ∀ {n : Nat} {P : Program} {row : String} {args : Array Value} {w : World} {R : Value → World → Prop}, Rows P row args w R → RowsIn F n P row args w R

theorem rowsIn_wide {n : Nat} {P : Program} {row : String} {args : Array Value} {w : World} {R : Value → World → Prop} (h : Rows P row args w R) : RowsIn Fence.wide n P row args w R :=
  fun c cs _ => let ⟨v, w', r, s⟩ := h c cs; ⟨v, w', r, stepsIn_wide.2 s⟩
theorem Wide.wide : Wide Fence.wide := ⟨fun _ => trivial, rfl, fun h => callsIn_wide.2 h, fun h => rowsIn_wide h⟩
theorem Wide.round (r : Nat) : Wide (Fence.wide.inRound r) := ⟨fun _ => trivial, rfl, fun h => callsIn_wide.2 h, fun h => rowsIn_wide h⟩

def noDefer : Oper → Bool
  | { op := .defer _, .. } => false
  | _ => true
theorem noDefer.ne {o : Oper} (h : noDefer o = true) : ∀ c, o.op ≠ .defer c := by
  intro c hc
  obtain ⟨d, op, p, g⟩ := o
  simp only at hc
  subst hc
  simp [noDefer] at h

section
variable {P : Program} {ops : Array Oper} {Q : Exit → Act → World → Prop} {K : Act → World → Prop} {a : Act} {e w : World} {rest : List Oper} {o : Oper} {L : List HProp} {F : Fence} {n : Nat}

theorem uponIn_of {x : Result Next} (hF : Wide F) (h : o.upon P a K Q x) : o.uponIn F n P a K Q x := by
  unfold Oper.upon at h
  unfold Oper.uponIn
  have hd : F.depth.isSome = true → 1 ≤ n := by rw [hF.depth]; intro h; cases h
  split at h
  · exact h
  · exact h
  · exact h
  · exact ⟨hd, hF.calls h⟩
  · exact ⟨hd, hF.rows h⟩
  · exact h
  · exact h.elim
theorem wpIn_ofwp (hF : Wide F) (hd : noDefer o = true) (h : o.wp P a w K Q) : o.wpIn F n P a w K Q := by
  refine ⟨fun _ _ => hF.fn _, ?_⟩
  have e1 : o.semAt F.round a.eval = execOp a.eval o := by
    cases hr : F.round with
    | none => exact Oper.semAt_none _ _
    | some r => exact Oper.semAt_some r _ _ (noDefer.ne hd)
  rw [e1]
  exact uponIn_of hF h
theorem wpListIn_on (hF : Wide F) (hd : noDefer o = true) (hwant : Region.wanted o (yielded ops a.tmps) = true) (h : o.wp P a w (wpListIn F n P ops Q rest) Q) : wpListIn F n P ops Q (o :: rest) a w := by
  simp only [wpListIn, hwant, if_true]
  exact wpIn_ofwp hF hd h
/-- A row of operations, walked as everywhere. -/
theorem wpListIn_of (hF : Wide F) (hQ : ∀ a w, ¬ Q .outgrown a w) : ∀ {l : List Oper} {a : Act} {w : World}, l.all noDefer = true → wpList P ops Q l a w → wpListIn F n P ops Q l a w
  | [], _, _, _, h => h
  | o :: l, a, w, hd, h => by
    simp only [List.all_cons, Bool.and_eq_true] at hd
    simp only [wpList] at h
    simp only [wpListIn]
    split
    · rename_i hw
      rw [if_pos hw] at h
      rcases h with h | ⟨_, a', w', h⟩
      · refine wpIn_ofwp hF hd.1 ?_
        refine Oper.wp_mono ?_ h
        intro a w h
        exact wpListIn_of hF hQ hd.2 h
      · exact (hQ _ _ h).elim
    · rename_i hw
      rw [if_neg hw] at h
      exact ⟨fun _ _ => hF.fn _, wpListIn_of hF hQ hd.2 h⟩
end

/-- The loop's record. -/
abbrev recOf (fn : FuncId) (tmps : Array Value) (ps : Array Tmp) (assign body : Code) (D : Nat) (st : LoopState) (pe : Option Code) : Loop :=
  { state := st, pending := pe, fn, tmps, params := ps, assign, body, defers := D }
abbrev markOf (D : Nat) : Deferred := { target := .collected D, args := #[] }

section
variable {P : Program} {ops : Array Oper} {Q : Exit → Act → World → Prop} {K : Act → World → Prop} {a : Act} {e w : World} {rest : List Oper} {o : Oper} {L : List HProp} {F : Fence} {n : Nat}

theorem Holds.putObj {i b : Nat} {x : Obj} (hw : Holds e w L) (hi : L[i]? = some (pto b x)) (y : Obj) : Holds e (w.putObj b y) (L.set i (pto b y)) := by
  have hb : w.heap[b]? = some x := hw.read hi fun _ h => h
  have hlt := (Array.getElem?_eq_some_iff.1 hb).1
  exact hw.update hi (fun _ h => h) (fun h _ => by simp [pto]) (World.putObj_heap_same hlt) (fun c hc => World.putObj_heap_other hc) rfl rfl rfl World.putObj_size
theorem Holds.putEmp {i b : Nat} {x : Obj} (hw : Holds e w L) (hi : L[i]? = some (pto b x)) (y : Obj) : Holds e (w.putObj b y) (L.set i emp) := by
  have hil : i < L.length := (List.getElem?_eq_some_iff.1 hi).1
  have h := (hw.putObj hi y).imp (i := i) emp (List.getElem?_set_self hil) (fun _ _ => trivial)
  rwa [List.set_set] at h
theorem Holds.getObj {i b : Nat} {x : Obj} (hw : Holds e w L) (hi : L[i]? = some (pto b x)) : w.heap[b]? = some x := hw.read hi fun _ h => h

/-- The statement. -/
theorem wp_rangeFunc {g : Operand} {ps : Array Tmp} {assign body : Code} {gf : Nat} {lb : Array Value} (hg : a.eval g = .func (.func gf) #[] lb) (eg : ∀ args w, (callFunc gf args).run P w = .ok (.enter gf args) w) (hw : Holds e w L)
    (h : ∀ (fn l D : Nat) (rec : LoopState → Option Code → Loop) (w1 : World), rec = recOf fn a.tmps ps assign body D → Holds e w1 (L ++ [pto D (.deferred (some [])), pto l (.loop (rec .ready none))]) →
      CallsIn Fence.wide 9 P gf (#[.func (.yield l) #[] #[]] ++ lb) w1 fun en w3 => (∃ v, en = .returned v) ∧ ∃ (L' : List HProp) (i : Nat) (st : LoopState) (pe : Option Code),
        Holds e w3 L' ∧ L'[i]? = some (pto l (.loop (rec st pe))) ∧ st ≠ .busy ∧
        ∀ w4, Holds e w4 (L'.set i emp) → (match pe with | none => Q .normal { a with defers := markOf D :: a.defers } w4 | some c => c.wp P Q { a with defers := markOf D :: a.defers } w4)) :
    (Code.rangeFunc g ps assign body).wp P Q a w := by
  refine wpIn_wide (n := 10).1 (wpIn_rangeFunc ?_)
  intro fn _
  have h1 := (hw.alloc (.deferred (some []))).alloc (.loop (recOf fn a.tmps ps assign body w.heap.size .ready none))
  rw [World.size_alloc, List.append_assoc] at h1
  have he := run_enterLoop_outer (P := P) (w := w) fn a.tmps ps assign body
  obtain ⟨W1, hW1⟩ : ∃ W1, (w.alloc (.deferred (some []))).alloc (.loop (recOf fn a.tmps ps assign body w.heap.size .ready none)) = W1 := ⟨_, rfl⟩
  rw [hW1] at h1 he
  refine ⟨w.heap.size + 1, [markOf w.heap.size], W1, { target := .fn (.func gf) lb, args := #[.func (.yield (w.heap.size + 1)) #[] #[]] }, W1, gf, #[.func (.yield (w.heap.size + 1)) #[] #[]] ++ lb, W1, he, ?_, fun _ _ => trivial, ?_, fun h => (by cases h), ?_⟩
  · simp only [resolve, hg]
    simp [go_sem]
  · simp [invoke, go_sem, eg]
  · refine (h fn (w.heap.size + 1) w.heap.size _ _ rfl h1).mono ?_
    rintro en w3 ⟨⟨v, rfl⟩, L', i, st, pe, hw3, hi, hb, hk⟩
    refine ⟨pe, _, run_endLoop (hw3.getObj hi) hb, ?_⟩
    have h4 := hk _ (hw3.putEmp hi (.loop { recOf fn a.tmps ps assign body w.heap.size st pe with state := .exhausted }))
    cases pe with
    | none => exact h4
    | some c => exact wpIn_wide.2 h4

/-- How a round's body may be left. -/
def roundSep (e : World) (l : Nat) (rec : LoopState → Option Code → Loop) (R : Ending → World → Prop) : Exit → Act → World → Prop
  | .normal, _, w => ∃ (L : List HProp) (j : Nat), Holds e w L ∧ L[j]? = some (pto l (.loop (rec .busy none))) ∧ ∀ w', Holds e w' (L.set j (pto l (.loop (rec .ready none)))) → R (.returned (.bool true)) w'
  | .ret, _, w => ∃ (L : List HProp) (j : Nat), Holds e w L ∧ L[j]? = some (pto l (.loop (rec .busy none))) ∧ ∀ w', Holds e w' (L.set j (pto l (.loop (rec .done (some .ret))))) → R (.returned (.bool false)) w'
  | .exit x, _, w => ∃ (L : List HProp) (j : Nat), Holds e w L ∧ L[j]? = some (pto l (.loop (rec .busy none))) ∧ ∀ w', Holds e w' (L.set j (pto l (.loop (rec .done (some (.exit x)))))) → R (.returned (.bool false)) w'
  | .goto t, _, w => ∃ (L : List HProp) (j : Nat), Holds e w L ∧ L[j]? = some (pto l (.loop (rec .busy none))) ∧ ∀ w', Holds e w' (L.set j (pto l (.loop (rec .done (some (.goto t)))))) → R (.returned (.bool false)) w'
  | .panic _, _, _ => False
  | .outgrown, _, _ => False

/-- How the assignments to the loop's left sides end: with the round's body ahead. -/
def assignSep (e : World) (l : Nat) (rec : LoopState → Option Code → Loop) (body : Code) (P : Program) (n : Nat) (R : Ending → World → Prop) (a1 : Act) (w1 : World) : Prop :=
  ∃ (L1 : List HProp) (j : Nat), Holds e w1 L1 ∧ L1[j]? = some (pto l (.loop (rec .ready none))) ∧
    ∀ w2, Holds e w2 (L1.set j (pto l (.loop (rec .busy none)))) → body.wpIn (Fence.wide.inRound l) n P (roundSep e l rec R) a1 w2

/-- One call of yield. -/
theorem yield_at {i l fn D : Nat} {tmps args : Array Value} {ps : Array Tmp} {assign body : Code} {rec : LoopState → Option Code → Loop} {R : Ending → World → Prop} (hrec : rec = recOf fn tmps ps assign body D) (hw : Holds e w L) (hi : L[i]? = some (pto l (.loop (rec .ready none)))) (hs : args.size = ps.size)
    (h : assign.wpIn (Fence.wide.inRound l) n P (Exit.then (assignSep e l rec body P n R) (fun _ _ _ => False)) { tmps := (ps.zip args).foldl (fun t (p, v) => t.setIfInBounds p v) tmps, defers := [] } w) :
    YieldAt Fence.wide n P l args w R := by
  subst hrec
  have hy := run_yield (P := P) (args := args) (hw.getObj hi) hs
  refine ⟨fn, _, assign, body, hy, roundIn_of_wpIn trivial (wpIn_mono h ?_)⟩
  intro ex a1 w1 hq
  cases ex with
  | normal =>
    obtain ⟨L1, j, hw1, hj, hk⟩ := hq
    refine ⟨_, run_beginRound (hw1.getObj hj) rfl, wpIn_mono (hk _ (hw1.putObj hj _)) ?_⟩
    intro ex a3 w3 hp
    cases ex with
    | normal =>
      obtain ⟨L3, q, hw3, hq, hk3⟩ := hp
      exact ⟨_, _, run_endRound none (hw3.getObj hq), hk3 _ (hw3.putObj hq _)⟩
    | ret =>
      obtain ⟨L3, q, hw3, hq, hk3⟩ := hp
      exact ⟨_, _, run_endRound (some .ret) (hw3.getObj hq), hk3 _ (hw3.putObj hq _)⟩
    | exit id =>
      obtain ⟨L3, q, hw3, hq, hk3⟩ := hp
      exact ⟨_, _, run_endRound (some (.exit id)) (hw3.getObj hq), hk3 _ (hw3.putObj hq _)⟩
    | goto t =>
      obtain ⟨L3, q, hw3, hq, hk3⟩ := hp
      exact ⟨_, _, run_endRound (some (.goto t)) (hw3.getObj hq), hk3 _ (hw3.putObj hq _)⟩
    | panic _ => exact hp
    | outgrown => exact hp
  | _ => exact hq.elim

/-- The operation that calls yield. -/
theorem wpListIn_yield {f : Operand} {args : Array Operand} {ts : Array TypeId} {l : Nat} {vs : Array Value} {R : Ending → World → Prop} (hF : F = Fence.wide) (ho : o.op = .call { callee := .value f, args := args, argTypes := ts }) (hf : a.eval f = .func (.yield l) #[] #[])
    (hv : args.map a.eval = vs) (hwant : Region.wanted o (yielded ops a.tmps) = true) (hY : YieldAt Fence.wide (n - 1) P l vs w R) (h : ∀ en w', R en w' → ∃ v, en = .returned v ∧ wpListIn F n P ops Q rest (a.put o.dst v) w') :
    wpListIn F n P ops Q (o :: rest) a w := by
  subst hF
  simp only [wpListIn, hwant, if_true]
  refine ⟨fun _ _ => trivial, ?_⟩
  obtain ⟨fn, tmps, assign, body, hy, hR⟩ := hY
  have e1 : o.semAt Fence.wide.round a.eval = execOp a.eval o := Oper.semAt_none _ _
  rw [e1]
  unfold execOp
  subst hv
  have hr : (Sem.run P (do let d ← resolve a.eval { callee := .value f, args := args, argTypes := ts } o.type; invoke d.target d.args) w) = .ok (.round l fn tmps assign body) w := by
    simp only [resolve, hf, Deferred.ofValue, invoke, Sem.run_bind, Sem.run_pure, Result.andThen_ok]
    simpa using hy
  rw [ho]
  simp only [resolve, hf, Deferred.ofValue, invoke, Sem.run_bind, Sem.run_pure, Result.andThen_ok] at hr ⊢
  rw [hr]
  refine ⟨fun h => (by cases h), hR.mono ?_⟩
  intro en w' hen
  obtain ⟨v, rfl, hk⟩ := h en w' hen
  exact hk

/-- A function that holds a loop over a function: entered .. -/
theorem calls_of_wp_marks {f : FuncId} {fn : Func} {c : Code} {args : Array Value} {R : Ending → World → Prop} (hf : P.funcs[f]? = some fn) (hb : fn.body = some c)
    (h : c.wp P (bodyPostM Fence.wide 9 P fn R) { tmps := args ++ Array.replicate (fn.ntmps - args.size) undef, defers := [] } w) : Calls P f args w R :=
  callsIn_wide.1 (callsIn_of_wp_marks (n := 9) hf hb trivial (wpIn_wide.2 h))
/-- .. and left. -/
theorem leaves_mark {fn : Func} {tmps : Array Value} {R : Ending → World → Prop} {D i : Nat} (hw : Holds e w L) (hi : L[i]? = some (pto D (.deferred (some []))))
    (h : ∀ w', Holds e w' (L.set i emp) → ∃ v, (results fn tmps).run P w' = .ok v w' ∧ R (.returned v) w') : LeavesInM Fence.wide n P fn tmps R [markOf D] .returning w := by
  refine ⟨by simp, .inl ⟨D, _, rfl, run_takeDeferred (hw.getObj hi), ?_⟩⟩
  exact h _ (hw.putEmp hi _)
end

theorem callsIn_post {F : Fence} {n : Nat} {P : Program} {f : FuncId} {args : Array Value} {w : World} {Φ : Ending → World → Prop} (h : ∀ Post : Ending → World → Prop, (∀ en w', Φ en w' → Post en w') → CallsIn F n P f args w Post) : CallsIn F n P f args w Φ :=
  h Φ fun _ _ h => h

theorem res_cell1 {P : Program} {e w : World} {L : List HProp} {fn : Func} {p : Tmp} {ty : TypeId} {b i : Nat} {v : Value} {t : TypeId} {tmps : Array Value} [fl : Flat P ty] (h : fn.results = #[.cell p ty])
    (hp : tmps.getD p undef = .pointer (some ⟨b, 0, none⟩)) (hw : Holds e w L) (hi : L[i]? = some (pt b [v] t)) :
    (results fn tmps).run P w = .ok v w := by
  have hc : w.cell? ⟨b, 0, none⟩ = some v := by rw [hw.cells hi]; rfl
  have hf := Flat.run fl w
  have hp' : tmps[p]?.getD undef = .pointer (some ⟨b, 0, none⟩) := by simpa using hp
  have hr : (loadVar ty ⟨b, 0, none⟩).run P w = .ok v w := by
    simp [loadVar, Sem.run_bind, hf, Result.andThen, hc, Sem.run]
  simp [results, h, hp', asAddr, hr]
theorem callFunc_run {P : Program} {f : FuncId} (hb : HasBody P f) : ∀ args w, (callFunc f args).run P w = .ok (.enter f args) w := by
  obtain ⟨fn, hfn, hbody, hname⟩ := hb
  intro args w
  have h1 : fn.name ≠ "runtime.NumGoroutine" := by simpa using hname
  have h2 : fn.body ≠ none := by intro h0; simp [h0] at hbody
  simp [callFunc, hfn, h1, h2]

/-! A measure of which no cell tells: the least of those that fit. -/
theorem exists_min {G : Nat → Prop} (h : ∃ k, G k) : ∃ k, G k ∧ ∀ j, j < k → ¬ G j := by
  obtain ⟨k, hk⟩ := h
  induction k using Nat.strongRecOn with
  | _ k ih =>
    by_cases hj : ∃ j, j < k ∧ G j
    · obtain ⟨j, hjk, hj⟩ := hj; exact ih j hjk hj
    · exact ⟨k, hk, fun j hjk hj' => hj ⟨j, hjk, hj'⟩⟩
open Classical in
noncomputable def ghost (G : Nat → World → Prop) (w : World) : Nat := if h : ∃ k, G k w then (exists_min h).choose else 0
theorem ghost_spec {G : Nat → World → Prop} {w : World} {k : Nat} (h : G k w) : G (ghost G w) w := by
  have hx : ∃ k, G k w := ⟨k, h⟩
  unfold ghost
  rw [dif_pos hx]
  exact (exists_min hx).choose_spec.1
theorem ghost_le {G : Nat → World → Prop} {w : World} {k : Nat} (h : G k w) : ghost G w ≤ k := by
  have hx : ∃ k, G k w := ⟨k, h⟩
  unfold ghost
  rw [dif_pos hx]
  exact Nat.le_of_not_lt fun hlt => (exists_min hx).choose_spec.2 k hlt h
end Go.Sep
