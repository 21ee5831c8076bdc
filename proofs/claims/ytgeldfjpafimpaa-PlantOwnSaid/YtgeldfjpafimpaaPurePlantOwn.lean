/- The law PlantOwn: what is handed in stays as it was, and what is handed out is one's own: what is written into the one's row alters nothing of the other's. -/
import Derived.Test.YtgeldfjpafimpaaCBase
import Derived.Test.YtgeldfjpafimpaaCPlHead
import Derived.Test.YtgeldfjpafimpaaCPlant
import Derived.Test.YtgeldfjpafimpaaCPlant4
import Derived.Test.YtgeldfjpafimpaaPAllx0
import Derived.Test.YtgeldfjpafimpaaPAllx11
import Derived.Test.YtgeldfjpafimpaaPAllx15
import Derived.Test.YtgeldfjpafimpaaPAllx17
import Derived.Test.YtgeldfjpafimpaaPAllx26
import Derived.Test.YtgeldfjpafimpaaWkPlantOwn
namespace Go.Proofs.Ytgeldfjpafimpaa.Pure
open Go.RowKit Go.Proofs.Ytgeldfjpafimpaa.PAll Go.Proofs.YtgeldfjpafimpaaW.PrintWords Go.Proofs.YtgeldfjpafimpaaW.PrintLast Go.Proofs.YtgeldfjpafimpaaW.PrintMore
set_option linter.unusedVariables false
set_option linter.unusedSimpArgs false
theorem own_loop (R2 : Int) (l2 : List Int) (wt2 ut2 : Int) (h2 : l2.length ≤ 8) (R wt ut : Int) : ∀ (d j : Nat) (l : List Int) (k : Nat), l.length = j + d → l.length ≤ 8 → d + 12 ≤ k →
    governorlaw16_PlantOwn.l0 k true (j : Int) R l wt ut R2 l2 wt2 ut2 R2 l2 wt2 ut2 = some true := by
  intro d
  induction d with
  | zero =>
    intro j l k h h8 hk
    obtain ⟨k, rfl⟩ : ∃ q, k = q + 1 := ⟨k - 1, by omega⟩
    rw [governorlaw16_PlantOwn.l0, if_neg (by omega), if_pos rfl, same_refl _ _ _ _ (by omega) k (by omega)]
    rfl
  | succ d ih =>
    intro j l k h h8 hk
    obtain ⟨k, rfl⟩ : ∃ q, k = q + 1 := ⟨k - 1, by omega⟩
    rw [governorlaw16_PlantOwn.l0, if_pos (by omega), if_pos (by omega)]
    have e : wrap64 ((j : Int) + 1) = ((j + 1 : Nat) : Int) := wr (by omega) (by omega)
    rw [e]
    exact ih (j + 1) _ k (by rw [List.length_set]; omega) (by rw [List.length_set]; omega) (by omega)
theorem PlantOwn : governorlaw16_PlantOwn.Pure := by
  intro a0 a1 a2 a3 a4 a5 a6 a7 a8 a9 a10 a11 R l wt ut want dem
  intros
  refine ⟨59 + 1, ?_⟩
  unfold governorlaw16_PlantOwn.f
  rw [show governorlaw16_head.f (59 + 1) = some true from plantHeadk 20, show governorref09_Conf.f a0 a1 a2 a3 a4 a5 a6 a7 a8 a9 a10 a11 = some (cfSize a0 a1 a2 && (cfPlant a3 a4 a5 a6 && cfJudge a7 a8 a9 a10 a11)) from rfl]
  simp only [Option.bind_some]
  by_cases hC : (cfSize a0 a1 a2 && (cfPlant a3 a4 a5 a6 && cfJudge a7 a8 a9 a10 a11)) = true
  · rw [if_pos hC]
    have C := conf_pl hC
    by_cases hl : (l.length : Int) > 8
    · rw [if_pos hl, governorlaw16_PlantOwn.j0, if_pos rfl]
    · rw [if_neg hl]
      obtain ⟨b, hb, hP⟩ := right_tells R l wt ut (by omega) (59 + 1) (by omega)
      rw [hb]
      simp only [Option.bind_some]
      cases b with
      | false => rw [governorlaw16_PlantOwn.j0]; rfl
      | true =>
        have P := hP.1 rfl
        have hlen := P.len
        have S := stS_spec P C want
        have hl2 := trimL_length (stS R l a5 want).2
        have hl3 := S.len
        rw [governorlaw16_PlantOwn.j0, if_neg (by simp)]
        simp only [Option.bind_some, List.length_nil, List.nil_append, Nat.zero_add]
        rw [if_pos (by omega), step_eq P C]
        simp only [Option.bind_some]
        rw [same_refl _ _ _ _ (by omega) 59 (by omega)]
        simp only [Option.bind_some, reduceIte]
        rw [if_pos (by omega)]
        exact own_loop _ _ _ _ (by omega) R wt ut l.length 0 l 59 (by omega) (by omega) (by omega)
  · rw [if_neg hC, governorlaw16_PlantOwn.j0, if_pos rfl]
end Go.Proofs.Ytgeldfjpafimpaa.Pure
