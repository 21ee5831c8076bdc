import Derived.Test.YtgeldfjpafimpaaPAllx0
import Derived.Test.YtgeldfjpafimpaaPAllx38
namespace Go.Proofs.Ytgeldfjpafimpaa.PAll
open Go.RowKit Go.Proofs.YtgeldfjpafimpaaW.PrintWords Go.Proofs.YtgeldfjpafimpaaW.PrintLast Go.Proofs.YtgeldfjpafimpaaW.PrintMore
set_option linter.unusedVariables false
set_option linter.unusedSimpArgs false
theorem polHead : governorlaw14_head.f 30 = some true := by decide +kernel
theorem polHeadk (k : Nat) : governorlaw14_head.f (30 + k) = some true := by
  induction k with
  | zero => exact polHead
  | succ k ih => exact governorlaw14_head.mono (30 + k) true ih
end Go.Proofs.Ytgeldfjpafimpaa.PAll
