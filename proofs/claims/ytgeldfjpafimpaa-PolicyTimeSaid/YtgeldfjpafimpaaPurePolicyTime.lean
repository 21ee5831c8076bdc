/- The law PolicyTime (P14.1): of all kinds but one the time alters nothing; of that one the load, and how many there are. -/
import Derived.Test.YtgeldfjpafimpaaCPolAll
import Derived.Test.YtgeldfjpafimpaaCPolHead
import Derived.Test.YtgeldfjpafimpaaCWords
import Derived.Test.YtgeldfjpafimpaaPAllx0
import Derived.Test.YtgeldfjpafimpaaPAllx25
import Derived.Test.YtgeldfjpafimpaaPAllx33
import Derived.Test.YtgeldfjpafimpaaPAllx53
import Derived.Test.YtgeldfjpafimpaaWkPolicyTime
namespace Go.Proofs.Ytgeldfjpafimpaa.Pure
open Go.RowKit Go.Proofs.Ytgeldfjpafimpaa.PAll Go.Proofs.YtgeldfjpafimpaaW.PrintWords Go.Proofs.YtgeldfjpafimpaaW.PrintLast Go.Proofs.YtgeldfjpafimpaaW.PrintMore
set_option linter.unusedVariables false
set_option linter.unusedSimpArgs false
theorem PolicyTime : governorlaw14_PolicyTime.Pure := by
  intro kd tg lb kp ki kdd pe ls s p h c u t v
  intros
  refine ⟨30, ?_⟩
  unfold governorlaw14_PolicyTime.f
  obtain ⟨b, hb, hP⟩ := polRight_tells kd tg lb kp ki kdd pe ls 30 (by omega)
  rw [polHead, hb]
  simp only [Option.bind_some]
  cases b with
  | false => rfl
  | true =>
    have R := hP rfl
    have h1 := fun s p h c u t => polNext_eq R tg kp ki kdd s p h c u t 30 (by omega)
    have h2 := fun s p h c u t => polRef_eq R tg kp ki kdd s p h c u t 30 (by omega)
    simp only [reduceIte, h1, Option.bind_some]
    by_cases h4 : kd = 4
    · have e : ∀ c u, polR kd tg lb kp ki kdd pe ls s p h c u t = (s, p, h, backS ls (t % pe)) := fun c u => by
        unfold polR
        rw [if_neg (by omega), if_neg (by omega), if_neg (by omega), if_pos h4]
      rw [if_pos h4]
      simp only [e, reduceIte, beq_self_eq_true, Bool.and_self]
    · have e : polR kd tg lb kp ki kdd pe ls s p h (cl0 c) u v = polR kd tg lb kp ki kdd pe ls s p h (cl0 c) u t := by
        unfold polR
        rw [if_neg h4, if_neg h4]
      rw [if_neg h4, e]
      simp only [reduceIte, beq_self_eq_true, Bool.and_self]
end Go.Proofs.Ytgeldfjpafimpaa.Pure
