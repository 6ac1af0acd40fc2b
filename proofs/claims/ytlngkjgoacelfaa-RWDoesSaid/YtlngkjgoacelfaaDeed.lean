/-
  An act, as plain data.
-/
import Derived.Test.YtlngkjgoacelfaaTypes
namespace Go.Proofs.Ytlngkjgoacelfaa
set_option linter.unusedSimpArgs false
set_option linter.unusedVariables false
structure Deed where
  f0 : Int
  f1 : Int
end Go.Proofs.Ytlngkjgoacelfaa
