import Derived.Test.YtgeldfjpafimpaaPAllx0
import Derived.Test.YtgeldfjpafimpaaPAllx15
namespace Go.Proofs.Ytgeldfjpafimpaa.PAll
open Go.RowKit Go.Proofs.YtgeldfjpafimpaaW.PrintWords Go.Proofs.YtgeldfjpafimpaaW.PrintLast Go.Proofs.YtgeldfjpafimpaaW.PrintMore
set_option linter.unusedVariables false
set_option linter.unusedSimpArgs false
theorem plantHead : governorlaw16_head.f 40 = some true := by decide +kernel
theorem plantHeadk (k : Nat) : governorlaw16_head.f (40 + k) = some true := by
  induction k with
  | zero => exact plantHead
  | succ k ih => exact governorlaw16_head.mono (40 + k) true ih
end Go.Proofs.Ytgeldfjpafimpaa.PAll
