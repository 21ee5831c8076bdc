/- The law PlantWork: what came was done, or waits: no more is done than can be, nor less than that while something waits. -/
import Derived.Test.YtgeldfjpafimpaaCBase
import Derived.Test.YtgeldfjpafimpaaCPlHead
import Derived.Test.YtgeldfjpafimpaaCPlant
import Derived.Test.YtgeldfjpafimpaaCPlant3
import Derived.Test.YtgeldfjpafimpaaCPlant4
import Derived.Test.YtgeldfjpafimpaaPAllx0
import Derived.Test.YtgeldfjpafimpaaPAllx15
import Derived.Test.YtgeldfjpafimpaaPAllx17
import Derived.Test.YtgeldfjpafimpaaPAllx24
import Derived.Test.YtgeldfjpafimpaaPAllx7
import Derived.Test.YtgeldfjpafimpaaPAllx8
import Derived.Test.YtgeldfjpafimpaaWkPlantWork
namespace Go.Proofs.Ytgeldfjpafimpaa.Pure
open Go.RowKit Go.Proofs.Ytgeldfjpafimpaa.PAll Go.Proofs.YtgeldfjpafimpaaW.PrintWords Go.Proofs.YtgeldfjpafimpaaW.PrintLast Go.Proofs.YtgeldfjpafimpaaW.PrintMore
set_option linter.unusedVariables false
set_option linter.unusedSimpArgs false
theorem PlantWork : governorlaw16_PlantWork.Pure := by
  intro a0 a1 a2 a3 a4 a5 a6 a7 a8 a9 a10 a11 R l wt ut want dem
  intros
  refine ⟨59 + 1, ?_⟩
  unfold governorlaw16_PlantWork.f
  rw [show governorlaw16_head.f (59 + 1) = some true from plantHeadk 20, show governorref09_Conf.f a0 a1 a2 a3 a4 a5 a6 a7 a8 a9 a10 a11 = some (cfSize a0 a1 a2 && (cfPlant a3 a4 a5 a6 && cfJudge a7 a8 a9 a10 a11)) from rfl]
  simp only [Option.bind_some]
  by_cases hC : (cfSize a0 a1 a2 && (cfPlant a3 a4 a5 a6 && cfJudge a7 a8 a9 a10 a11)) = true
  · rw [if_pos hC]
    have C := conf_pl hC
    by_cases hl : (l.length : Int) > 8
    · rw [if_pos hl]
    · rw [if_neg hl]
      obtain ⟨b, hb, hP⟩ := right_tells R l wt ut (by omega) (59 + 1) (by omega)
      rw [hb]
      simp only [Option.bind_some]
      cases b with
      | false => rfl
      | true =>
        have P := hP.1 rfl
        have hlen := P.len
        have S := stS_spec P C want
        have K := can_in P C want
        have T := todo_in P.w0 dem
        have hw0 := P.w0
        have hw1 := P.w1
        have hd := demI_in dem
        have ed : mn (mx dem 0) 1000000 = demI dem := (clamp_eq0 _ _ (by decide)).symm
        rw [if_pos rfl, step_eq P C]
        simp only [Option.bind_some, reduceIte]
        rw [ed, wr (n := wt + demI dem) (by omega) (by omega), show mn (wt + demI dem) 1000000000 = todoI wt dem from rfl, show (stS R l a5 want).1 * a4 = canI R l a5 want a4 from rfl, wr (n := canI R l a5 want a4) (by omega) (by omega)]
        have hU : utilI R l a5 want a4 wt dem = satI (divI (todoI wt dem) (canI R l a5 want a4)) := rfl
        have hW : waitI R l a5 want a4 wt dem = mx 0 (todoI wt dem - canI R l a5 want a4) := rfl
        rw [hU, hW]
        generalize canI R l a5 want a4 = can at K ⊢
        generalize todoI wt dem = todo at T ⊢
        have hwt : mx 0 (todo - can) = if todo ≤ can then 0 else todo - can := by unfold mx; (repeat' split) <;> omega
        rw [hwt]
        have fin : ¬ can = 0 → (satI (divI todo can) == mn (wrap64 (Int.tdiv (wrap64 (1000 * todo)) can)) 1000000000) = true := fun hn => by
          have hq : 0 ≤ todo * 1000 / can := Int.ediv_nonneg (by omega) (by omega)
          have hq2 : todo * 1000 / can ≤ todo * 1000 := Int.ediv_le_self _ (by omega)
          rw [wr (n := 1000 * todo) (by omega) (by omega), Int.mul_comm 1000 todo, tdiv_pos (by omega), wr (by omega) (by omega)]
          unfold divI
          rw [if_neg hn, tdiv_pos (by omega)]
          rw [beq_iff_eq]
          unfold satI mx mn
          (repeat' split) <;> omega
        by_cases c : todo ≤ can
        · rw [if_pos c, wr (by omega) (by omega), if_pos (by omega), if_pos (by omega), if_pos rfl]
          by_cases c0 : can = 0
          · rw [if_pos c0]
          · rw [if_neg c0, if_neg (by omega), fin c0]
        · rw [if_neg c, wr (by omega) (by omega), if_pos (by omega), if_pos (by omega), if_neg (by omega), if_pos (by omega)]
          by_cases c0 : can = 0
          · rw [if_pos c0]
          · rw [if_neg c0, if_neg (by omega), fin c0]
  · rw [if_neg hC]
end Go.Proofs.Ytgeldfjpafimpaa.Pure
