/-
  An act, as it comes in: is it a root; is it cut; below whom.
-/
import Derived.Test.YtlegkikglpogkaaRows
namespace Go.Proofs.Ytlegkikglpogkaa
set_option linter.unusedSimpArgs false
set_option linter.unusedVariables false
structure Deed where
  f0 : Bool
  f1 : Bool
  f2 : Int
end Go.Proofs.Ytlegkikglpogkaa
