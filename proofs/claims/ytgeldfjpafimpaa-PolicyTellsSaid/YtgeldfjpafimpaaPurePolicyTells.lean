/- The law PolicyTells (P14.1): what any policy that may be carries on, and wants, is the document's. -/
import Derived.Test.YtgeldfjpafimpaaCPolAll
import Derived.Test.YtgeldfjpafimpaaCPolHead
import Derived.Test.YtgeldfjpafimpaaCWords
import Derived.Test.YtgeldfjpafimpaaPAllx0
import Derived.Test.YtgeldfjpafimpaaPAllx37
import Derived.Test.YtgeldfjpafimpaaPAllx49
import Derived.Test.YtgeldfjpafimpaaPAllx50
import Derived.Test.YtgeldfjpafimpaaWkPolicyTells
namespace Go.Proofs.Ytgeldfjpafimpaa.Pure
open Go.RowKit Go.Proofs.Ytgeldfjpafimpaa.PAll Go.Proofs.YtgeldfjpafimpaaW.PrintWords Go.Proofs.YtgeldfjpafimpaaW.PrintLast Go.Proofs.YtgeldfjpafimpaaW.PrintMore
set_option linter.unusedVariables false
set_option linter.unusedSimpArgs false
theorem PolicyTells : governorlaw14_PolicyTells.Pure := by
  intro kd tg lb kp ki kdd pe ls s p h c u t
  intros
  refine ⟨30, ?_⟩
  unfold governorlaw14_PolicyTells.f
  obtain ⟨b, hb, hP⟩ := polRight_tells kd tg lb kp ki kdd pe ls 30 (by omega)
  rw [polHead, hb]
  simp only [Option.bind_some]
  cases b with
  | false => rfl
  | true =>
    have R := hP rfl
    have h1 := fun s p h c u t => polNext_eq R tg kp ki kdd s p h c u t 30 (by omega)
    have h2 := fun s p h c u t => polRef_eq R tg kp ki kdd s p h c u t 30 (by omega)
    simp only [reduceIte, h1, h2, Option.bind_some, beq_self_eq_true, Bool.and_self, policy_Zero.f, governorref14_Zero.f]
end Go.Proofs.Ytgeldfjpafimpaa.Pure
