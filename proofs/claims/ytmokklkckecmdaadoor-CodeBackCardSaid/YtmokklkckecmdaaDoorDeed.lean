/-
  An act, as plain data.
-/
import Derived.Test.YtmokklkckecmdaaDoorTypes
namespace Go.Proofs.YtmokklkckecmdaaDoor
set_option linter.unusedSimpArgs false
set_option linter.unusedVariables false
structure Deed where
  f0 : Int
  f1 : Int
  f2 : Int
  f3 : Int
  deriving DecidableEq
end Go.Proofs.YtmokklkckecmdaaDoor
