import Derived.Test.YtbcmkkphbkpapaaDoorZ1LexN
set_option linter.unusedVariables false
set_option linter.unusedSimpArgs false
namespace Go.Proofs.YtbcmkkphbkpapaaDoor
open Go.RowKit
structure Tk where
  kind : Nat
  text : List UInt8
  num : Nat
  start : Nat
end Go.Proofs.YtbcmkkphbkpapaaDoor
