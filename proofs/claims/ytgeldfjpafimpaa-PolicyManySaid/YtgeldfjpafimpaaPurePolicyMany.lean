/- The law PolicyMany (P14.1): more than there may be are taken as that, fewer than none as none, ahead of all else. -/
import Derived.Test.YtgeldfjpafimpaaCPolAll
import Derived.Test.YtgeldfjpafimpaaCPolHead
import Derived.Test.YtgeldfjpafimpaaCWords
import Derived.Test.YtgeldfjpafimpaaPAllx0
import Derived.Test.YtgeldfjpafimpaaPAllx55
import Derived.Test.YtgeldfjpafimpaaWkPolicyMany
namespace Go.Proofs.Ytgeldfjpafimpaa.Pure
open Go.RowKit Go.Proofs.Ytgeldfjpafimpaa.PAll Go.Proofs.YtgeldfjpafimpaaW.PrintWords Go.Proofs.YtgeldfjpafimpaaW.PrintLast Go.Proofs.YtgeldfjpafimpaaW.PrintMore
set_option linter.unusedVariables false
set_option linter.unusedSimpArgs false
theorem PolicyMany : governorlaw14_PolicyMany.Pure := by
  intro kd tg lb kp ki kdd pe ls s p h c u t
  intros
  refine ⟨30, ?_⟩
  unfold governorlaw14_PolicyMany.f
  obtain ⟨b, hb, hP⟩ := polRight_tells kd tg lb kp ki kdd pe ls 30 (by omega)
  rw [polHead, hb]
  simp only [Option.bind_some]
  cases b with
  | false => rfl
  | true =>
    have R := hP rfl
    have h1 := fun s p h c u t => polNext_eq R tg kp ki kdd s p h c u t 30 (by omega)
    have h2 := fun s p h c u t => polRef_eq R tg kp ki kdd s p h c u t 30 (by omega)
    simp only [reduceIte, h1, cl_cl0, cl0_cl0, Option.bind_some, beq_self_eq_true, Bool.and_self]
end Go.Proofs.Ytgeldfjpafimpaa.Pure
