/- The law PolicyBounds (P14.2, P14.3): never fewer than none, nor more than 1000, are wanted; only a policy by errors carries something on. -/
import Derived.Test.YtgeldfjpafimpaaCPolAll
import Derived.Test.YtgeldfjpafimpaaCPolHead
import Derived.Test.YtgeldfjpafimpaaCWords
import Derived.Test.YtgeldfjpafimpaaPAllx0
import Derived.Test.YtgeldfjpafimpaaPAllx25
import Derived.Test.YtgeldfjpafimpaaPAllx51
import Derived.Test.YtgeldfjpafimpaaWkPolicyBounds
namespace Go.Proofs.Ytgeldfjpafimpaa.Pure
open Go.RowKit Go.Proofs.Ytgeldfjpafimpaa.PAll Go.Proofs.YtgeldfjpafimpaaW.PrintWords Go.Proofs.YtgeldfjpafimpaaW.PrintLast Go.Proofs.YtgeldfjpafimpaaW.PrintMore
set_option linter.unusedVariables false
set_option linter.unusedSimpArgs false
theorem PolicyBounds : governorlaw14_PolicyBounds.Pure := by
  intro kd tg lb kp ki kdd pe ls s p h c u t
  intros
  refine ⟨30, ?_⟩
  unfold governorlaw14_PolicyBounds.f
  obtain ⟨b, hb, hP⟩ := polRight_tells kd tg lb kp ki kdd pe ls 30 (by omega)
  rw [polHead, hb]
  simp only [Option.bind_some]
  cases b with
  | false => rfl
  | true =>
    have R := hP rfl
    have h1 := fun s p h c u t => polNext_eq R tg kp ki kdd s p h c u t 30 (by omega)
    have h2 := fun s p h c u t => polRef_eq R tg kp ki kdd s p h c u t 30 (by omega)
    have i := polR_in R tg kp ki kdd s p h (cl0 c) u t (cl0_in c).1 (cl0_in c).2
    simp only [reduceIte, h1, Option.bind_some]
    rw [if_pos i.1, if_pos i.2]
    by_cases h3 : kd = 3
    · rw [if_pos h3]
    · rw [if_neg h3]
      have e : (polR kd tg lb kp ki kdd pe ls s p h (cl0 c) u t).1 = s ∧ (polR kd tg lb kp ki kdd pe ls s p h (cl0 c) u t).2.1 = p ∧ (polR kd tg lb kp ki kdd pe ls s p h (cl0 c) u t).2.2.1 = h := by
        unfold polR
        rw [if_neg h3]
        repeat' split
        all_goals exact ⟨rfl, rfl, rfl⟩
      rw [e.1, e.2.1, e.2.2]
      simp only [beq_self_eq_true, Bool.and_self]
end Go.Proofs.Ytgeldfjpafimpaa.Pure
