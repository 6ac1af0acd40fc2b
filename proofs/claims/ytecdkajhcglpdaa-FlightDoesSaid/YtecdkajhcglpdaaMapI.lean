/-
  Maps from whole numbers to whole numbers that are held; how often numbers were seen.
-/
import Derived.Test.YtecdkajhcglpdaaTypes
import Derived.Test.YtecdkajhcglpdaaSepRange
namespace Go.Proofs.Ytecdkajhcglpdaa
set_option linter.unusedSimpArgs false
set_option linter.unusedVariables false
open Go.RowKit Go.Sep

def setI (f : Int → Option Int) (x : Int) (v : Option Int) : Int → Option Int := fun y => if y = x then v else f y
def encF (f : Int → Option Int) : Int → Option Value := fun x => (f x).map (Value.int .i64)
theorem setF_some (f : Int → Option Int) (x v : Int) : setF (encF f) x (some (.int .i64 v)) = encF (setI f x (some v)) := by
  funext y; unfold setF encF setI; split <;> rfl
theorem setF_none (f : Int → Option Int) (x : Int) : setF (encF f) x none = encF (setI f x none) := by
  funext y; unfold setF encF setI; split <;> rfl
theorem enc_getD (f : Int → Option Int) (q : Int) : (encF f q).getD (.int .i64 0) = .int .i64 ((f q).getD 0) := by unfold encF; cases f q <;> rfl
theorem enc_isSome (f : Int → Option Int) (q : Int) : (encF f q).isSome = (f q).isSome := by unfold encF; cases f q <;> rfl
theorem enc_some {f : Int → Option Int} {q : Int} {v : Value} (h : encF f q = some v) : ∃ n, v = .int .i64 n ∧ f q = some n := by
  unfold encF at h
  cases hf : f q with
  | none => rw [hf] at h; cases h
  | some n => rw [hf] at h; exact ⟨n, (Option.some.inj h).symm, rfl⟩
section
variable {P : Program} {ops : Array Oper} {Q : Exit → Act → World → Prop} {K : Act → World → Prop} {a : Act} {e w : World} {rest : List Oper} {o : Oper} {L : List HProp}
theorem wp_newMap {t : TypeId} (ho : o.op = .makeMap t none) (hw : Holds e w L)
    (h : ∀ r w', Holds e w' (L ++ [IsMap r .i64 (encF fun _ => none)]) → K (a.put o.dst (.map (some r))) w') : o.wp P a w K Q := wp_makeMap ho hw .i64 h
theorem wp_look {t kt el : TypeId} {kd : TypeDesc} {b : Nat} [mt : MpT P t kt el] [it : IntT P kt kd] [ti : TI P el (.int .i64 0) 1 b] {x y : Operand} {i r : Nat} {f : Int → Option Int} {q : Int}
    (ho : o.op = .lookup t x y false) (hx : a.eval x = .map (some r)) (hy : a.eval y = .int .i64 q) (hw : Holds e w L) (hi : L[i]? = some (IsMap r .i64 (encF f)))
    (h : K (a.put o.dst (.int .i64 ((f q).getD 0))) w) : o.wp P a w K Q :=
  wp_lookup ho hx hy hw hi (by rw [if_neg (by decide), enc_getD]; exact h)
theorem wp_lookV {t kt el : TypeId} {kd : TypeDesc} {b : Nat} [mt : MpT P t kt el] [it : IntT P kt kd] [ti : TI P el (.int .i64 0) 1 b] {x y : Operand} {i r : Nat} {f : Int → Option Int} {q v : Int}
    (ho : o.op = .lookup t x y false) (hx : a.eval x = .map (some r)) (hy : a.eval y = .int .i64 q) (hw : Holds e w L) (hi : L[i]? = some (IsMap r .i64 (encF f))) (hv : (f q).getD 0 = v)
    (h : K (a.put o.dst (.int .i64 v)) w) : o.wp P a w K Q := by
  subst hv; exact wp_look ho hx hy hw hi h
theorem wp_lookOk {t kt el : TypeId} {kd : TypeDesc} {b : Nat} [mt : MpT P t kt el] [it : IntT P kt kd] [ti : TI P el (.int .i64 0) 1 b] {x y : Operand} {i r : Nat} {f : Int → Option Int} {q : Int}
    (ho : o.op = .lookup t x y true) (hx : a.eval x = .map (some r)) (hy : a.eval y = .int .i64 q) (hw : Holds e w L) (hi : L[i]? = some (IsMap r .i64 (encF f)))
    (h : K (a.put o.dst (.tuple #[.int .i64 ((f q).getD 0), .bool (f q).isSome])) w) : o.wp P a w K Q :=
  wp_lookup ho hx hy hw hi (by rw [if_pos rfl, enc_getD, enc_isSome]; exact h)
theorem wp_lookOkV {t kt el : TypeId} {kd : TypeDesc} {b : Nat} [mt : MpT P t kt el] [it : IntT P kt kd] [ti : TI P el (.int .i64 0) 1 b] {x y : Operand} {i r : Nat} {f : Int → Option Int} {q v : Int} {s : Bool}
    (ho : o.op = .lookup t x y true) (hx : a.eval x = .map (some r)) (hy : a.eval y = .int .i64 q) (hw : Holds e w L) (hi : L[i]? = some (IsMap r .i64 (encF f))) (hv : (f q).getD 0 = v) (hs : (f q).isSome = s)
    (h : K (a.put o.dst (.tuple #[.int .i64 v, .bool s])) w) : o.wp P a w K Q := by
  subst hv; subst hs; exact wp_lookOk ho hx hy hw hi h
theorem run_lookup {t kt el : TypeId} {kd : TypeDesc} {z : Value} {n b : Nat} [mt : MpT P t kt el] [it : IntT P kt kd] [ti : TI P el z n b] {x y : Operand} {c : Bool} {i r : Nat} {k : IntKind} {f : Int → Option Value} {q : Int}
    (ho : o.op = .lookup t x y c) (hx : a.eval x = .map (some r)) (hy : a.eval y = .int k q) (hw : Holds e w L) (hi : L[i]? = some (IsMap r k f)) :
    (execOp a.eval o).run P w = .ok (.value (if c then .tuple #[(f q).getD z, .bool (f q).isSome] else (f q).getD z)) w := by
  obtain ⟨es, clock, R, hb⟩ := hw.mapAt hi
  have hr : (Instr.lookup t (.map (some r)) (.int k q) c).run P w = .ok (if c then .tuple #[(f q).getD z, .bool (f q).isSome] else (f q).getD z) w := by
    unfold Instr.lookup
    simp only [Sem.run_bind, run_underlying mt.out, Result.andThen_ok, Sem.run_pure, run_getMap hb, run_checkKey]
    rcases run_findKey (P := P) (kt := kt) R q w with ⟨hf, _, hr⟩ | ⟨l1, e', l2, _, _, _, hf, hr⟩
    · simp only [hr, Result.andThen_ok, Sem.run_bind, ti.zero_run, Sem.run_pure, hf]
      cases c <;> rfl
    · simp only [hr, Result.andThen_ok, Sem.run_bind, Sem.run_pure, hf]
      cases c <;> rfl
  unfold execOp
  simp only [ho, hx, hy, Sem.run_bind, Sem.run_pure, hr, Result.andThen_ok]
theorem run_look {t kt el : TypeId} {kd : TypeDesc} {b : Nat} [mt : MpT P t kt el] [it : IntT P kt kd] [ti : TI P el (.int .i64 0) 1 b] {x y : Operand} {i r : Nat} {f : Int → Option Int} {q : Int}
    (ho : o.op = .lookup t x y false) (hx : a.eval x = .map (some r)) (hy : a.eval y = .int .i64 q) (hw : Holds e w L) (hi : L[i]? = some (IsMap r .i64 (encF f))) :
    (execOp a.eval o).run P w = .ok (.value (.int .i64 ((f q).getD 0))) w := by
  rw [run_lookup (P := P) ho hx hy hw hi, if_neg (by decide), enc_getD]
theorem upon_lookV {t kt el : TypeId} {kd : TypeDesc} {b : Nat} [mt : MpT P t kt el] [it : IntT P kt kd] [ti : TI P el (.int .i64 0) 1 b] {i r : Nat} {f : Int → Option Int} {q v : Int}
    (hw : Holds e w L) (hi : L[i]? = some (IsMap r .i64 (encF f))) (hv : (f q).getD 0 = v) (h : K (a.put o.dst (.int .i64 v)) w) :
    o.upon P a K Q ((Sem.run P (Instr.lookup t (.map (some r)) (.int .i64 q) false) w).andThen fun a w' => .ok (.value a) w') := by
  have hr := run_look (P := P) (a := a) (o := { dst := none, op := .lookup t (.const (.map (some r))) (.const (.int .i64 q)) false, type := 0, pos := "", after := #[], guard := none }) rfl rfl rfl hw hi
  unfold execOp at hr
  have hr2 : (Instr.lookup t (.map (some r)) (.int .i64 q) false).run P w = .ok (.int .i64 ((f q).getD 0)) w := by
    cases hq : (Instr.lookup t (.map (some r)) (.int .i64 q) false).run P w with
    | ok x w2 =>
      simp only [Act.eval, Sem.run_bind, Sem.run_pure, hq, Result.andThen_ok, Result.ok.injEq, Next.value.injEq] at hr
      rw [hr.1, hr.2]
    | _ => simp [Act.eval, hq] at hr
  simp only [hr2, Result.andThen_ok, hv]
  exact h
theorem run_lookV {t kt el : TypeId} {kd : TypeDesc} {b : Nat} [mt : MpT P t kt el] [it : IntT P kt kd] [ti : TI P el (.int .i64 0) 1 b] {x y : Operand} {i r : Nat} {f : Int → Option Int} {q v : Int}
    (ho : o.op = .lookup t x y false) (hx : a.eval x = .map (some r)) (hy : a.eval y = .int .i64 q) (hw : Holds e w L) (hi : L[i]? = some (IsMap r .i64 (encF f))) (hv : (f q).getD 0 = v) :
    (execOp a.eval o).run P w = .ok (.value (.int .i64 v)) w := by
  subst hv; exact run_look ho hx hy hw hi
theorem wp_setI {t kt el : TypeId} {kd : TypeDesc} [mt : MpT P t kt el] [it : IntT P kt kd] {x y z : Operand} {i r : Nat} {f : Int → Option Int} {q v : Int}
    (ho : o.op = .mapUpdate t x y z) (hx : a.eval x = .map (some r)) (hy : a.eval y = .int .i64 q) (hz : a.eval z = .int .i64 v) (hw : Holds e w L) (hi : L[i]? = some (IsMap r .i64 (encF f)))
    (h : ∀ w', Holds e w' (L.set i (IsMap r .i64 (encF (setI f q (some v))))) → K (a.put o.dst undef) w') : o.wp P a w K Q :=
  wp_mapUpdate ho hx hy hz hw hi (by rw [setF_some]; exact h)
theorem wp_delI {t kt el t2 : TypeId} {kd : TypeDesc} [mt : MpT P t kt el] [it : IntT P kt kd] {x y : Operand} {i r : Nat} {f : Int → Option Int} {q : Int}
    (ho : o.op = .call { callee := .builtin .delete, args := #[x, y], argTypes := #[t, t2] }) (hx : a.eval x = .map (some r)) (hy : a.eval y = .int .i64 q) (hw : Holds e w L) (hi : L[i]? = some (IsMap r .i64 (encF f)))
    (h : ∀ w', Holds e w' (L.set i (IsMap r .i64 (encF (setI f q none)))) → K (a.put o.dst (.tuple #[])) w') : o.wp P a w K Q :=
  wp_mapDelete ho hx hy hw hi (by rw [setF_none]; exact h)
end
/-- Each number of a list was seen once. -/
def once (l : List Int) : Int → Option Int := fun y => if y ∈ l then some 1 else none
theorem once_nil : once [] = fun _ => none := by funext y; simp [once]
theorem once_new {l : List Int} {t : Int} (h : t ∉ l) : (once l t).getD 0 = 0 := by simp [once, h]
theorem once_snoc {l : List Int} {t : Int} : setI (once l) t (some 1) = once (l ++ [t]) := by
  funext y
  unfold setI once
  by_cases hy : y = t
  · simp [hy]
  · simp [hy]
theorem once_some {l : List Int} {t n : Int} (h : once l t = some n) : t ∈ l ∧ n = 1 := by
  unfold once at h
  split at h
  · rename_i hm; exact ⟨hm, (Option.some.inj h).symm⟩
  · cases h
theorem once_in {l : List Int} {t : Int} (h : t ∈ l) : (once l t).getD 0 = 1 := by simp [once, h]
theorem setI_at (f : Int → Option Int) (t v : Int) : ((setI f t (some v)) t).getD 0 = v := by simp [setI]
theorem take_snocI {l : List Int} {k : Nat} {t : Int} (h : l[k]? = some t) : l.take k ++ [t] = l.take (k + 1) := by
  rw [List.take_add_one, h]; rfl
theorem nodup_cut {a b all : List Int} {k : Nat} {t : Int} (h : all.Nodup) (he : ∃ r, all = a ++ b ++ r) (ht : b[k]? = some t) : t ∉ a ++ b.take k := by
  obtain ⟨r, rfl⟩ := he
  have h1 := (List.nodup_append.1 h).1
  have h2 : b = b.take k ++ (t :: b.drop (k + 1)) := by
    obtain ⟨hk, hk2⟩ := List.getElem?_eq_some_iff.1 ht
    rw [← hk2, ← List.drop_eq_getElem_cons hk, List.take_append_drop]
  rw [h2, ← List.append_assoc] at h1
  intro hm
  have := (List.nodup_append.1 h1).2.2 t hm t (by simp)
  exact this rfl
end Go.Proofs.Ytecdkajhcglpdaa
