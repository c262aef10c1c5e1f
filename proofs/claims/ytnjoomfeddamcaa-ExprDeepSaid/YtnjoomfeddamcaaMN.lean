/-
  Texts of one proof, laid together: K3.
-/
import Derived.Test.YtnjoomfeddamcaaME
set_option linter.unusedVariables false
set_option linter.unusedSimpArgs false
/-
  'known' of chapter 3 answers true.
-/
namespace Go.Proofs.Ytnjoomfeddamcaa
open Go.Ev
set_option maxRecDepth 1000000
theorem known3 (H : AHeap) : CallOk1 P 17 [] H (.bool true) H := callOk1_run (N := 10000) (n := 100) progOk (by kernel_rfl) H
end Go.Proofs.Ytnjoomfeddamcaa

