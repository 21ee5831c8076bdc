/- The law StepEdges (P11.1): at the load where a band begins that one is found, just below it the one ahead: for every row of bands that may be, and every band. -/
import Derived.Test.YtjmmofedcadoiaaCBase
import Derived.Test.YtjmmofedcadoiaaCStep
import Derived.Test.YtjmmofedcadoiaaPAllx0
import Derived.Test.YtjmmofedcadoiaaPAllx13
import Derived.Test.YtjmmofedcadoiaaPAllx2
import Derived.Test.YtjmmofedcadoiaaWkStepEdges
namespace Go.Proofs.Ytjmmofedcadoiaa.Pure
open Go.RowKit Go.Proofs.Ytjmmofedcadoiaa.PAll Go.Proofs.YtjmmofedcadoiaaW.PrintWords Go.Proofs.YtjmmofedcadoiaaW.PrintLast Go.Proofs.YtjmmofedcadoiaaW.PrintMore
set_option linter.unusedVariables false
set_option linter.unusedSimpArgs false
theorem StepEdges : governorlaw11_StepEdges.Pure := by
  intro l a hl hs ha
  refine ⟨30, ?_⟩
  unfold governorlaw11_StepEdges.f
  obtain ⟨b, hb, hP⟩ := stepRight_tells l 30 (by omega)
  rw [stepHead, hb]
  simp only [Option.bind_some]
  cases b with
  | false => rfl
  | true =>
    have R := hP rfl
    have n1 := R.n1
    have n8 := R.n8
    have a8 := wfu8 ha
    have S := bands_sorted R
    have hk := tmod_bounds a (l.length : Int) (by omega)
    have hk0 : 0 ≤ Int.tmod a (l.length : Int) := Int.tmod_nonneg _ a8.1
    rw [if_pos rfl, wr (n := a) (by omega) (by omega)]
    generalize Int.tmod a (l.length : Int) = i at hk hk0 ⊢
    have hlo := R.lo i hk0 hk.2
    rw [wr (n := (rd_T29 l i).f0 - 1) (by omega) (by omega), wr (n := i - 1) (by omega) (by omega)]
    simp only [reduceIte, stepFind_eq S, Option.bind_some]
    rw [if_neg (by omega), if_pos hk0, if_pos hk.2]
    have e1 : findS l (rd_T29 l i).f0 = i := find_of S _ i (by omega) hk.2 (fun _ => Int.le_refl _) (fun h => by
      have := R.up (i + 1) (by omega) h
      rw [show i + 1 - 1 = i by omega] at this
      exact this)
    have e2 : findS l ((rd_T29 l i).f0 - 1) = i - 1 := find_of S _ (i - 1) (by omega) (by omega) (fun h => by
      have := R.up i (by omega) hk.2
      omega) (fun h => by rw [show i - 1 + 1 = i by omega]; omega)
    rw [if_pos e1, e2]
    simp
end Go.Proofs.Ytjmmofedcadoiaa.Pure
