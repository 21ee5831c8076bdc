/- The law PidTells (P12.1): what any numbers carry on, and how many more are wanted, are the document's. -/
import Derived.Test.YtjmmofedcadoiaaCPid
import Derived.Test.YtjmmofedcadoiaaPAllx0
import Derived.Test.YtjmmofedcadoiaaPAllx24
import Derived.Test.YtjmmofedcadoiaaPAllx25
import Derived.Test.YtjmmofedcadoiaaPAllx27
import Derived.Test.YtjmmofedcadoiaaPAllx28
import Derived.Test.YtjmmofedcadoiaaWkPidTells
namespace Go.Proofs.Ytjmmofedcadoiaa.Pure
open Go.RowKit Go.Proofs.Ytjmmofedcadoiaa.PAll Go.Proofs.YtjmmofedcadoiaaW.PrintWords Go.Proofs.YtjmmofedcadoiaaW.PrintLast Go.Proofs.YtjmmofedcadoiaaW.PrintMore
set_option linter.unusedVariables false
set_option linter.unusedSimpArgs false
theorem PidTells : governorlaw12_PidTells.Pure := by
  intro kp ki kd t s p h u _ _ _ _ _ _ _
  refine ⟨4, ?_⟩
  unfold governorlaw12_PidTells.f
  have hh : governorlaw12_head.f 4 = some true := pidHead 0
  have h1 : ∀ m t lb kp ki kd x lw s p h u, pid_Next.f 4 m t lb kp ki kd x lw s p h u = _ := pid_eq 0
  have h2 : ∀ m t lb kp ki kd x lw s p h u, governorref12_Next.f 4 m t lb kp ki kd x lw s p h u = _ := refPid_eq 3
  simp only [hh, governorlaw12_Of.f, h1, h2, Option.bind_some, reduceIte, beq_self_eq_true, Bool.and_self]
end Go.Proofs.Ytjmmofedcadoiaa.Pure
