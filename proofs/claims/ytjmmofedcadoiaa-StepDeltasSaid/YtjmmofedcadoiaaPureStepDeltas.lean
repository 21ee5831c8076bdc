/- The law StepDeltas (P11.1): what is wanted is as many more, or fewer, as the band says, within bounds; without a band as many as there are: for every row of bands that may be, number of replicas and load. -/
import Derived.Test.YtjmmofedcadoiaaCBase
import Derived.Test.YtjmmofedcadoiaaCStep
import Derived.Test.YtjmmofedcadoiaaPAllx0
import Derived.Test.YtjmmofedcadoiaaPAllx14
import Derived.Test.YtjmmofedcadoiaaPAllx2
import Derived.Test.YtjmmofedcadoiaaPAllx3
import Derived.Test.YtjmmofedcadoiaaPAllx4
import Derived.Test.YtjmmofedcadoiaaWkStepDeltas
namespace Go.Proofs.Ytjmmofedcadoiaa.Pure
open Go.RowKit Go.Proofs.Ytjmmofedcadoiaa.PAll Go.Proofs.YtjmmofedcadoiaaW.PrintWords Go.Proofs.YtjmmofedcadoiaaW.PrintLast Go.Proofs.YtjmmofedcadoiaaW.PrintMore
set_option linter.unusedVariables false
set_option linter.unusedSimpArgs false
theorem StepDeltas : governorlaw11_StepDeltas.Pure := by
  intro l a u hl hs ha hu
  refine ⟨30, ?_⟩
  unfold governorlaw11_StepDeltas.f
  obtain ⟨b, hb, hP⟩ := stepRight_tells l 30 (by omega)
  rw [stepHead, hb]
  simp only [Option.bind_some]
  cases b with
  | false => rfl
  | true =>
    have R := hP rfl
    have a16 := wfu16 ha
    have S := bands_sorted R
    have hin := findS_in l u
    have hc := tmod_bounds a 1001 (by decide)
    have hc0 : 0 ≤ Int.tmod a 1001 := Int.tmod_nonneg _ a16.1
    rw [if_pos rfl, wr (n := a) (by omega) (by omega)]
    generalize Int.tmod a 1001 = c at hc hc0 ⊢
    simp only [reduceIte, stepWant_eq S, refFind_eq R u 30 (by omega), Option.bind_some]
    rw [cl0_same hc0 (by omega)]
    by_cases q : findS l u < 0
    · rw [if_pos q, if_neg (by omega)]; simp
    · rw [if_neg q, if_pos (by omega), if_pos hin.2, if_pos (by omega)]
      have e2 : ∀ n, mn (mx n 0) 1000 = cl0 n := fun n => by unfold cl0 mx mn; omega
      rw [e2]; simp
end Go.Proofs.Ytjmmofedcadoiaa.Pure
