/- The law StepTells (P11.1): the band of any load, of bands that may be, and how many are wanted, are the document's: for every row of bands, number of replicas and load. -/
import Derived.Test.YtjmmofedcadoiaaCStep
import Derived.Test.YtjmmofedcadoiaaPAllx0
import Derived.Test.YtjmmofedcadoiaaPAllx11
import Derived.Test.YtjmmofedcadoiaaWkStepTells
namespace Go.Proofs.Ytjmmofedcadoiaa.Pure
open Go.RowKit Go.Proofs.Ytjmmofedcadoiaa.PAll Go.Proofs.YtjmmofedcadoiaaW.PrintWords Go.Proofs.YtjmmofedcadoiaaW.PrintLast Go.Proofs.YtjmmofedcadoiaaW.PrintMore
set_option linter.unusedVariables false
set_option linter.unusedSimpArgs false
theorem StepTells : governorlaw11_StepTells.Pure := by
  intro l c u hl hs hc hu
  refine ⟨30, ?_⟩
  unfold governorlaw11_StepTells.f
  obtain ⟨b, hb, hP⟩ := stepRight_tells l 30 (by omega)
  rw [stepHead, hb]
  simp only [Option.bind_some]
  cases b with
  | false => rfl
  | true =>
    have R := hP rfl
    simp only [reduceIte, stepFind_eq (bands_sorted R), refFind_eq R u 30 (by omega), Option.bind_some, refWant_eq R c u 30 (by omega), stepWant_eq (bands_sorted R), beq_self_eq_true]
end Go.Proofs.Ytjmmofedcadoiaa.Pure
