/- The law PlantMany: behind a step there are as many as are wanted, and the plant may be; that is its cost. -/
import Derived.Test.YtgeldfjpafimpaaCBase
import Derived.Test.YtgeldfjpafimpaaCPlHead
import Derived.Test.YtgeldfjpafimpaaCPlant
import Derived.Test.YtgeldfjpafimpaaCPlant2
import Derived.Test.YtgeldfjpafimpaaCPlant3
import Derived.Test.YtgeldfjpafimpaaCPlant4
import Derived.Test.YtgeldfjpafimpaaPAllx0
import Derived.Test.YtgeldfjpafimpaaPAllx11
import Derived.Test.YtgeldfjpafimpaaPAllx15
import Derived.Test.YtgeldfjpafimpaaPAllx17
import Derived.Test.YtgeldfjpafimpaaPAllx22
import Derived.Test.YtgeldfjpafimpaaWkPlantMany
namespace Go.Proofs.Ytgeldfjpafimpaa.Pure
open Go.RowKit Go.Proofs.Ytgeldfjpafimpaa.PAll Go.Proofs.YtgeldfjpafimpaaW.PrintWords Go.Proofs.YtgeldfjpafimpaaW.PrintLast Go.Proofs.YtgeldfjpafimpaaW.PrintMore
set_option linter.unusedVariables false
set_option linter.unusedSimpArgs false
theorem PlantMany : governorlaw16_PlantMany.Pure := by
  intro a0 a1 a2 a3 a4 a5 a6 a7 a8 a9 a10 a11 R l wt ut want dem
  intro _ _ _ _ _ _ _ _ _ _ _ _ _ _ _ _ _ hwant _
  refine ⟨59 + 1, ?_⟩
  unfold governorlaw16_PlantMany.f
  rw [show governorlaw16_head.f (59 + 1) = some true from plantHeadk 20, show governorref09_Conf.f a0 a1 a2 a3 a4 a5 a6 a7 a8 a9 a10 a11 = some (cfSize a0 a1 a2 && (cfPlant a3 a4 a5 a6 && cfJudge a7 a8 a9 a10 a11)) from rfl]
  simp only [Option.bind_some]
  by_cases hC : (cfSize a0 a1 a2 && (cfPlant a3 a4 a5 a6 && cfJudge a7 a8 a9 a10 a11)) = true
  · rw [if_pos hC]
    have C := conf_pl hC
    by_cases hl : (l.length : Int) > 8
    · rw [if_pos hl, governorlaw16_PlantMany.j0, if_pos rfl]
    · rw [if_neg hl]
      obtain ⟨b, hb, hP⟩ := right_tells R l wt ut (by omega) (59 + 1) (by omega)
      rw [hb]
      simp only [Option.bind_some]
      cases b with
      | false => rw [governorlaw16_PlantMany.j0]; rfl
      | true =>
        have P := hP.1 rfl
        have hlen := P.len
        have S := stS_spec P C want
        have hl2 := trimL_length (stS R l a5 want).2
        have hl3 := S.len
        have hw := wf16 hwant
        have D := step_right P C want dem
        obtain ⟨b2, hb2, hP2⟩ := right_tells _ _ _ _ D.len 59 (by omega)
        obtain rfl := hP2.2 D
        rw [governorlaw16_PlantMany.j0, if_neg (by simp), wr (n := want) (by omega) (by omega), step_eq P C]
        simp only [Option.bind_some, reduceIte]
        rw [hb2]
        simp only [Option.bind_some, reduceIte]
        rw [all_eq _ _ _ _ (by omega) 59 (by omega)]
        simp only [Option.bind_some]
        rw [allL_eq (trimL_small S.sm) S.r0 (by have := S.r1; omega) (by omega), trimL_sum, S.all, show mn (mx want 0) 1000 = nW want from (clamp_eq0 _ _ (by decide)).symm, if_pos rfl, if_pos rfl]
        simp
  · rw [if_neg hC, governorlaw16_PlantMany.j0, if_pos rfl]
end Go.Proofs.Ytgeldfjpafimpaa.Pure
