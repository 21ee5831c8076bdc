/- The law LimitTells (P15.1): how many any configuration that may be lets there be, of any that are wanted, is the document's: for every configuration, hold, number that is wanted, and time. -/
import Derived.Test.YtnipomnkjegebaaCLimit
import Derived.Test.YtnipomnkjegebaaPAllx0
import Derived.Test.YtnipomnkjegebaaPAllx16
import Derived.Test.YtnipomnkjegebaaPAllx21
import Derived.Test.YtnipomnkjegebaaPAllx23
import Derived.Test.YtnipomnkjegebaaPAllx24
import Derived.Test.YtnipomnkjegebaaPAllx25
import Derived.Test.YtnipomnkjegebaaWkLimitTells
namespace Go.Proofs.Ytnipomnkjegebaa.Pure
open Go.RowKit Go.Proofs.Ytnipomnkjegebaa.PAll Go.Proofs.YtnipomnkjegebaaW.PrintWords Go.Proofs.YtnipomnkjegebaaW.PrintLast Go.Proofs.YtnipomnkjegebaaW.PrintMore
set_option linter.unusedVariables false
set_option linter.unusedSimpArgs false
theorem LimitTells : governorlaw15_LimitTells.Pure := by
  intro a0 a1 a2 a3 a4 a5 a6 a7 a8 a9 a10 a11 b0 b1 b2 want now h0 h1 h2 h3 h4 h5 h6 h7 h8 h9 h10 h11 k0 k1 hw hn
  refine ⟨5, ?_⟩
  unfold governorlaw15_LimitTells.f
  rw [limitHead]
  simp only [governorref09_Conf.f, time_eq, Option.bind_some]
  by_cases hc : (cfSize a0 a1 a2 && (cfPlant a3 a4 a5 a6 && cfJudge a7 a8 a9 a10 a11)) = true
  · rw [if_pos hc]
    have C := conf_in hc
    by_cases ht : (decide (0 ≤ now) && decide (now ≤ 1099511627776)) = true
    · rw [if_pos ht]
      have t1 := time_in ht
      by_cases hl : (decide (0 ≤ b1) && decide (b1 ≤ 1099511627776)) = true
      · have t2 := time_in hl
        obtain ⟨c, l, gr, e, hN⟩ := limit_next (a4 := a4) (a5 := a5) (a6 := a6) (a7 := a7) (a8 := a8) (a9 := a9) (a10 := a10) (a11 := a11) (cur := b0) (last := b1) (grew := b2) (want := want) (now := now) C t1.1 (by omega) t2.1 (by omega)
        have e2 := ref_next C t1.1 (by omega) t2.1 (by omega) hN
        have e3 : mx a0 (mn b0 a1) = mn (mx b0 a0) a1 := by have := C.lh; unfold mx mn; omega
        rw [hl]
        simp only [governorlaw15_LimitTells.j0, limit_Into.f, governorref15_Into.f, governorref15_Next.f, e, e2, e3, Option.bind_some, Bool.not_true, reduceIte, Bool.false_eq_true, beq_self_eq_true, Bool.and_self]
      · rw [Bool.eq_false_iff.mpr hl]
        simp only [governorlaw15_LimitTells.j0, Bool.not_false, reduceIte]
    · rw [if_neg ht]
      simp only [governorlaw15_LimitTells.j0, reduceIte]
  · rw [if_neg hc]
    simp only [governorlaw15_LimitTells.j0, reduceIte]
end Go.Proofs.Ytnipomnkjegebaa.Pure
