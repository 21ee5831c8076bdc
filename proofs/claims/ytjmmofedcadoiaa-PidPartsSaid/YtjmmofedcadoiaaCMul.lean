import Derived.Test.YtjmmofedcadoiaaCBase
import Derived.Test.YtjmmofedcadoiaaPAllx0
import Derived.Test.YtjmmofedcadoiaaPAllx17
import Derived.Test.YtjmmofedcadoiaaPAllx18
import Derived.Test.YtjmmofedcadoiaaPAllx23
import Derived.Test.YtjmmofedcadoiaaPAllx26
namespace Go.Proofs.Ytjmmofedcadoiaa.PAll
open Go.RowKit Go.Proofs.YtjmmofedcadoiaaW.PrintWords Go.Proofs.YtjmmofedcadoiaaW.PrintLast Go.Proofs.YtjmmofedcadoiaaW.PrintMore
set_option linter.unusedVariables false
set_option linter.unusedSimpArgs false
theorem refMul_eq (a b : Int) : governorref08_Mul.f a b = fixed_Mul.f a b := by
  have hp := prod_in (satI_lo a) (satI_hi a) (satI_lo b) (satI_hi b)
  have hd := tdivB (b := 1000) (N := 1000000000000000000) hp.1 hp.2
  unfold governorref08_Mul.f fixed_Mul.f mulI
  simp only [refSat_eq, Option.bind_some]
  rw [wr (n := satI a * satI b) (by omega) (by omega), wr (by omega) (by omega)]
end Go.Proofs.Ytjmmofedcadoiaa.PAll
