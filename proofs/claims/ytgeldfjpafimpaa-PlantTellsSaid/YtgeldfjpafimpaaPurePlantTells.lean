/- The law PlantTells: what any step of a plant that may be leaves, and marks, is the document's: for every configuration, plant, number that is wanted and demand. -/
import Derived.Test.YtgeldfjpafimpaaCPlHead
import Derived.Test.YtgeldfjpafimpaaCPlant
import Derived.Test.YtgeldfjpafimpaaCPlant3
import Derived.Test.YtgeldfjpafimpaaCPlant4
import Derived.Test.YtgeldfjpafimpaaPAllx0
import Derived.Test.YtgeldfjpafimpaaPAllx11
import Derived.Test.YtgeldfjpafimpaaPAllx13
import Derived.Test.YtgeldfjpafimpaaPAllx15
import Derived.Test.YtgeldfjpafimpaaPAllx17
import Derived.Test.YtgeldfjpafimpaaPAllx20
import Derived.Test.YtgeldfjpafimpaaPAllx21
import Derived.Test.YtgeldfjpafimpaaWkPlantTells
namespace Go.Proofs.Ytgeldfjpafimpaa.Pure
open Go.RowKit Go.Proofs.Ytgeldfjpafimpaa.PAll Go.Proofs.YtgeldfjpafimpaaW.PrintWords Go.Proofs.YtgeldfjpafimpaaW.PrintLast Go.Proofs.YtgeldfjpafimpaaW.PrintMore
set_option linter.unusedVariables false
set_option linter.unusedSimpArgs false
theorem PlantTells : governorlaw16_PlantTells.Pure := by
  intro a0 a1 a2 a3 a4 a5 a6 a7 a8 a9 a10 a11 R l wt ut want dem
  intros
  refine ⟨59 + 1, ?_⟩
  unfold governorlaw16_PlantTells.f
  rw [show governorlaw16_head.f (59 + 1) = some true from plantHeadk 20, show governorref09_Conf.f a0 a1 a2 a3 a4 a5 a6 a7 a8 a9 a10 a11 = some (cfSize a0 a1 a2 && (cfPlant a3 a4 a5 a6 && cfJudge a7 a8 a9 a10 a11)) from rfl]
  simp only [Option.bind_some]
  by_cases hC : (cfSize a0 a1 a2 && (cfPlant a3 a4 a5 a6 && cfJudge a7 a8 a9 a10 a11)) = true
  · rw [if_pos hC]
    have C := conf_pl hC
    by_cases hl : (l.length : Int) > 8
    · rw [if_pos hl, governorlaw16_PlantTells.j0, if_pos rfl]
    · rw [if_neg hl]
      obtain ⟨b, hb, hP⟩ := right_tells R l wt ut (by omega) (59 + 1) (by omega)
      rw [hb]
      simp only [Option.bind_some]
      cases b with
      | false => rw [governorlaw16_PlantTells.j0]; rfl
      | true =>
        have P := hP.1 rfl
        have hlen := P.len
        have S := stS_spec P C want
        have hl2 := trimL_length (stS R l a5 want).2
        have hl3 := S.len
        rw [governorlaw16_PlantTells.j0, if_neg (by simp), rstep_eq P C want dem _ _ _ _ _ _ _ _ _ 59 (by omega), step_eq P C]
        simp only [Option.bind_some, reduceIte]
        rw [same_refl _ _ _ _ (by omega) 59 (by omega)]
        simp only [Option.bind_some, reduceIte]
        rw [if_pos (by simp), all_eq R l wt ut (by omega) 59 (by omega)]
        simp only [Option.bind_some]
        rw [refAll_eq R l wt ut (by omega) 59 (by omega)]
        simp only [Option.bind_some, reduceIte]
        unfold plant_New.f governorref16_New.f
        simp only [Option.bind_some]
        rw [clamp_eq0 want 1000 (by decide), same_refl _ _ _ _ (by simp) 59 (by simp)]
        rfl
  · rw [if_neg hC, governorlaw16_PlantTells.j0, if_pos rfl]
end Go.Proofs.Ytgeldfjpafimpaa.Pure
