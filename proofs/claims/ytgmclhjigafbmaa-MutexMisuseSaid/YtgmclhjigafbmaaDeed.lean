/-
  An act, as plain data.
-/
import Derived.Test.YtgmclhjigafbmaaTypes
namespace Go.Proofs.Ytgmclhjigafbmaa
set_option linter.unusedSimpArgs false
set_option linter.unusedVariables false
structure Deed where
  f0 : Int
  f1 : Int
end Go.Proofs.Ytgmclhjigafbmaa
