/- The law PidSums: what is carried on is the sum of what was off, and the last of it; with no weights nothing is wanted. -/
import Derived.Test.YtjmmofedcadoiaaCAddSub
import Derived.Test.YtjmmofedcadoiaaCBase
import Derived.Test.YtjmmofedcadoiaaCPid
import Derived.Test.YtjmmofedcadoiaaPAllx0
import Derived.Test.YtjmmofedcadoiaaPAllx19
import Derived.Test.YtjmmofedcadoiaaPAllx20
import Derived.Test.YtjmmofedcadoiaaPAllx25
import Derived.Test.YtjmmofedcadoiaaPAllx33
import Derived.Test.YtjmmofedcadoiaaWkPidSums
namespace Go.Proofs.Ytjmmofedcadoiaa.Pure
open Go.RowKit Go.Proofs.Ytjmmofedcadoiaa.PAll Go.Proofs.YtjmmofedcadoiaaW.PrintWords Go.Proofs.YtjmmofedcadoiaaW.PrintLast Go.Proofs.YtjmmofedcadoiaaW.PrintMore
set_option linter.unusedVariables false
set_option linter.unusedSimpArgs false
theorem pidN_none (e s c : Int) : pidN 0 0 0 e s c = 0 := by
  unfold pidN pidW
  simp only [satI_0, mulI_0l, nearI_0, Int.add_zero]
  decide
theorem sums_loop (t : Int) (us : List Int) (hl : us.length ≤ 900) (d : Nat) : ∀ (k : Nat) (i s p : Int) (h : Bool), 0 ≤ i → i + (d : Int) = (us.length : Int) → d + 4 < k →
    governorlaw12_PidSums.l0 k t us true s i s p h = some true := by
  have hA : ∀ a b, fixed_Add.f a b = some (sumI a b) := fun _ _ => rfl
  have hS : ∀ a b, fixed_Sub.f a b = some (errI b a) := fun _ _ => rfl
  induction d with
  | zero =>
    intro k i s p h h0 hd hk
    obtain ⟨k, rfl⟩ : ∃ m, k = m + 1 := ⟨k - 1, by omega⟩
    simp only [governorlaw12_PidSums.l0]
    rw [if_neg (by omega)]
  | succ d ih =>
    intro k i s p h h0 hd hk
    obtain ⟨k, rfl⟩ : ∃ m, k = m + 1 := ⟨k - 1, by omega⟩
    have hp := @pid_eqk k (by omega)
    simp only [governorlaw12_PidSums.l0, governorlaw12_Of.f, hp, refSub_eq, refAdd_eq, hA, hS, Option.bind_some, pidN_none, reduceIte]
    rw [if_pos (by omega), if_pos h0, wr (n := i + 1) (by omega) (by omega)]
    exact ih k (i + 1) _ _ _ (by omega) (by omega) (by omega)
theorem PidSums : governorlaw12_PidSums.Pure := by
  intro t us _ _ _
  refine ⟨1000 + 4, ?_⟩
  unfold governorlaw12_PidSums.f
  rw [pidHead]
  simp only [Option.bind_some]
  by_cases c : (us.length : Int) > 900
  · rw [if_pos c]
  · rw [if_neg c]
    exact sums_loop t us (by omega) us.length (1000 + 4) 0 0 0 false (by omega) (by omega) (by omega)
end Go.Proofs.Ytjmmofedcadoiaa.Pure
