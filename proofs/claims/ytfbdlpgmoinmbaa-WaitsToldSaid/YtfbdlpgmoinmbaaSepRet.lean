/-
  A function's results, three of them; numbers that wrap.
-/
import Derived.Test.YtfbdlpgmoinmbaaSepMore
import Derived.IntWalk
namespace Go.Sep
set_option linter.unusedSimpArgs false
set_option linter.unusedVariables false
theorem ret3 {P : Program} {fn : Func} {R : Ending → World → Prop} {a : Act} {w : World} {p q r : Tmp} {x y z : Value} (h : fn.results = #[.tmp p, .tmp q, .tmp r])
    (hp : a.tmps.getD p undef = x) (hq : a.tmps.getD q undef = y) (hr : a.tmps.getD r undef = z) (hd : a.defers = []) (hR : R (.returned (.tuple #[x, y, z])) w) : bodyPost P fn R .ret a w := by
  refine bodyPost_ret (v := .tuple #[x, y, z]) ?_ hd hR
  subst hp; subst hq; subst hr
  simp [results, h]
theorem i64_over (n : Int) (h : 9223372036854775807 < n ∧ n ≤ 18446744073709551614) : IntKind.i64.wrap n = n - 18446744073709551616 := by
  rw [IntKind.wrap_i64]; (try unfold wrap64); omega
end Go.Sep
