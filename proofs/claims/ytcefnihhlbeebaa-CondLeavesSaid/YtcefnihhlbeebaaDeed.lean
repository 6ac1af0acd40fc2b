/-
  An act, as plain data.
-/
import Derived.Test.YtcefnihhlbeebaaTypes
namespace Go.Proofs.Ytcefnihhlbeebaa
set_option linter.unusedSimpArgs false
set_option linter.unusedVariables false
structure Deed where
  f0 : Int
  f1 : Int
  f2 : Int
end Go.Proofs.Ytcefnihhlbeebaa
