/-
  An act, as plain data.
-/
import Derived.Test.YtefjgoiaheeikaaTypes
namespace Go.Proofs.Ytefjgoiaheeikaa
set_option linter.unusedSimpArgs false
set_option linter.unusedVariables false
structure Deed where
  f0 : Int
  f1 : Int
end Go.Proofs.Ytefjgoiaheeikaa
