/- The law PolicyKinds (P14.1): each kind wants what its own layer says. -/
import Derived.Test.YtgeldfjpafimpaaCPolAll
import Derived.Test.YtgeldfjpafimpaaCPolHead
import Derived.Test.YtgeldfjpafimpaaCWords
import Derived.Test.YtgeldfjpafimpaaPAllx0
import Derived.Test.YtgeldfjpafimpaaPAllx25
import Derived.Test.YtgeldfjpafimpaaPAllx48
import Derived.Test.YtgeldfjpafimpaaPAllx52
import Derived.Test.YtgeldfjpafimpaaWkPolicyKinds
namespace Go.Proofs.Ytgeldfjpafimpaa.Pure
open Go.RowKit Go.Proofs.Ytgeldfjpafimpaa.PAll Go.Proofs.YtgeldfjpafimpaaW.PrintWords Go.Proofs.YtgeldfjpafimpaaW.PrintLast Go.Proofs.YtgeldfjpafimpaaW.PrintMore
set_option linter.unusedVariables false
set_option linter.unusedSimpArgs false
theorem PolicyKinds : governorlaw14_PolicyKinds.Pure := by
  intro kd tg lb kp ki kdd pe ls s p h c u t
  intro _ _ _ _ _ _ _ _ _ _ _ _ w16 _ _
  refine ⟨30, ?_⟩
  unfold governorlaw14_PolicyKinds.f
  obtain ⟨b, hb, hP⟩ := polRight_tells kd tg lb kp ki kdd pe ls 30 (by omega)
  rw [polHead, hb]
  simp only [Option.bind_some]
  cases b with
  | false => rfl
  | true =>
    have R := hP rfl
    have h1 := fun s p h c u t => polNext_eq R tg kp ki kdd s p h c u t 30 (by omega)
    have h2 := fun s p h c u t => polRef_eq R tg kp ki kdd s p h c u t 30 (by omega)
    have w := wfu16 w16
    have b := tmod_bounds (wrap64 c) 1001 (by omega)
    have b0 : 0 ≤ Int.tmod (wrap64 c) 1001 := by rw [wr (by omega) (by omega)]; exact Int.tmod_nonneg _ w.1
    generalize Int.tmod (wrap64 c) 1001 = d at b b0 ⊢
    have hd : cl0 d = d := cl0_same b0 (by omega)
    have hT := trackRef_eq 0 tg d u 30 (by omega)
    simp only [reduceIte, h1, hd, Option.bind_some]
    unfold polR
    by_cases k1 : kd = 1
    · simp only [if_pos k1, hT, clT_cl0, hd, Option.bind_some, beq_self_eq_true]
    · simp only [if_neg k1]
      by_cases k2 : kd = 2
      · simp only [if_pos k2, stepRef_eq (R.bands k2) d u 30 (by omega), stepWant_eq (bands_sorted (R.bands k2)), hd, Option.bind_some, beq_self_eq_true]
      · simp only [if_neg k2]
        by_cases k4 : kd = 4
        · have S := R.slots k4
          have k3 : ¬ kd = 3 := by omega
          have hS := schedRef_eq (t := t) S.n8 (k := 30) (by omega) S.p1 S.p2
          simp only [if_pos k4, if_neg k3, hS, Option.bind_some, beq_self_eq_true]
        · simp only [if_neg k4]
          by_cases k3 : kd = 3
          · have hp : ∀ m t lb kp ki kdd x lw s p h u, governorref12_Next.f 30 m t lb kp ki kdd x lw s p h u = _ := refPid_eq 29
            simp only [if_pos k3, hp, Option.bind_some, beq_self_eq_true, Bool.and_self, reduceIte, cl_cl0]
          · simp only [if_neg k3, reduceIte, beq_self_eq_true, Bool.and_self]
end Go.Proofs.Ytgeldfjpafimpaa.Pure
