/- The law PidBounds: behind any loads in a row what is carried on, and what more is wanted, are within bounds. -/
import Derived.Test.YtjmmofedcadoiaaCBase
import Derived.Test.YtjmmofedcadoiaaCPid
import Derived.Test.YtjmmofedcadoiaaPAllx0
import Derived.Test.YtjmmofedcadoiaaPAllx29
import Derived.Test.YtjmmofedcadoiaaWkPidBounds
namespace Go.Proofs.Ytjmmofedcadoiaa.Pure
open Go.RowKit Go.Proofs.Ytjmmofedcadoiaa.PAll Go.Proofs.YtjmmofedcadoiaaW.PrintWords Go.Proofs.YtjmmofedcadoiaaW.PrintLast Go.Proofs.YtjmmofedcadoiaaW.PrintMore
set_option linter.unusedVariables false
set_option linter.unusedSimpArgs false
theorem bounds_loop (us : List Int) (hl : us.length ≤ 900) (m t : Int) (lb : List S29) (kp ki kd x : Int) (lw : List S71) (d : Nat) : ∀ (k : Nat) (i s p : Int) (h : Bool), 0 ≤ i → i + (d : Int) = (us.length : Int) → d + 4 < k →
    governorlaw12_PidBounds.l0 k us true i m t lb kp ki kd x lw s p h = some true := by
  induction d with
  | zero =>
    intro k i s p h h0 hd hk
    obtain ⟨k, rfl⟩ : ∃ m, k = m + 1 := ⟨k - 1, by omega⟩
    simp only [governorlaw12_PidBounds.l0]
    rw [if_neg (by omega)]
  | succ d ih =>
    intro k i s p h h0 hd hk
    obtain ⟨k, rfl⟩ : ∃ m, k = m + 1 := ⟨k - 1, by omega⟩
    have hp := @pid_eqk k (by omega)
    simp only [governorlaw12_PidBounds.l0, hp, Option.bind_some, reduceIte]
    have e1 := errI_in t (rd us i)
    have e2 := sumI_in s (errI t (rd us i))
    have e3 := pidN_in kp ki kd (errI t (rd us i)) (sumI s (errI t (rd us i))) (chgI h p (errI t (rd us i)))
    rw [if_pos (by omega), if_pos h0, if_neg (by omega), if_neg (by omega), if_neg (by omega), if_neg (by omega), if_neg (by omega), if_neg (by omega), wr (n := i + 1) (by omega) (by omega)]
    exact ih k (i + 1) _ _ _ (by omega) (by omega) (by omega)
theorem PidBounds : governorlaw12_PidBounds.Pure := by
  intro m t lb kp ki kd x lw s p h us _ _ _ _ _ _ _ _ _ _ _ _ _ _
  refine ⟨1000 + 4, ?_⟩
  unfold governorlaw12_PidBounds.f
  rw [pidHead]
  simp only [Option.bind_some]
  by_cases c : (us.length : Int) > 900
  · rw [if_pos c]
  · rw [if_neg c]
    exact bounds_loop us (by omega) m t lb kp ki kd x lw us.length (1000 + 4) 0 s p h (by omega) (by omega) (by omega)
end Go.Proofs.Ytjmmofedcadoiaa.Pure
