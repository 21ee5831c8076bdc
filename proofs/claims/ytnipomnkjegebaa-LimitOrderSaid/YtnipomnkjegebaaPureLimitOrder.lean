/- The law LimitOrder (P15.1): more that are wanted are never fewer that there may be, of the same that there were: for every configuration that may be, hold, number and time. -/
import Derived.Test.YtnipomnkjegebaaCLimit
import Derived.Test.YtnipomnkjegebaaPAllx0
import Derived.Test.YtnipomnkjegebaaPAllx21
import Derived.Test.YtnipomnkjegebaaPAllx29
import Derived.Test.YtnipomnkjegebaaWkLimitOrder
namespace Go.Proofs.Ytnipomnkjegebaa.Pure
open Go.RowKit Go.Proofs.Ytnipomnkjegebaa.PAll Go.Proofs.YtnipomnkjegebaaW.PrintWords Go.Proofs.YtnipomnkjegebaaW.PrintLast Go.Proofs.YtnipomnkjegebaaW.PrintMore
set_option linter.unusedVariables false
set_option linter.unusedSimpArgs false
theorem LimitOrder : governorlaw15_LimitOrder.Pure := by
  intro a0 a1 a2 a3 a4 a5 a6 a7 a8 a9 a10 a11 b0 b1 b2 want more now h0 h1 h2 h3 h4 h5 h6 h7 h8 h9 h10 h11 k0 k1 hw hm hn
  refine ⟨5, ?_⟩
  unfold governorlaw15_LimitOrder.f
  rw [limitHead]
  simp only [governorref09_Conf.f, time_eq, Option.bind_some]
  by_cases hc : (cfSize a0 a1 a2 && (cfPlant a3 a4 a5 a6 && cfJudge a7 a8 a9 a10 a11)) = true
  · rw [if_pos hc]
    have C := conf_in hc
    by_cases hl : (decide (0 ≤ b1) && decide (b1 ≤ 1099511627776)) = true
    · have t2 := time_in hl
      have w16 := wf16 hw
      have m16 := wfu16 hm
      have n16 := wfu16 hn
      rw [hl]
      simp only [governorlaw15_LimitOrder.j0, Bool.not_true, reduceIte, Bool.false_eq_true]
      rw [wr (n := want) (by omega) (by omega), wr (n := more) (by omega) (by omega), wr (n := now) (by omega) (by omega), wr (n := want + more) (by omega) (by omega)]
      obtain ⟨c, l, gr, e, g, n, hg, hn', hN⟩ := limit_next (a4 := a4) (a5 := a5) (a6 := a6) (a7 := a7) (a8 := a8) (a9 := a9) (a10 := a10) (a11 := a11) (cur := b0) (last := b1) (grew := b2) (want := want) (now := now) C n16.1 (by omega) t2.1 (by omega)
      obtain ⟨c', l', gr', e', g', n', hg', hn'', hN'⟩ := limit_next (a4 := a4) (a5 := a5) (a6 := a6) (a7 := a7) (a8 := a8) (a9 := a9) (a10 := a10) (a11 := a11) (cur := b0) (last := b1) (grew := b2) (want := want + more) (now := now) C n16.1 (by omega) t2.1 (by omega)
      simp only [e, e', Option.bind_some]
      have eg : g = g' := by rw [hg, hg']
      have en : n ≤ n' := by rw [hn', hn'', eg]; unfold mx mn; omega
      have hle : c ≤ c' := by
        rcases hN with ⟨q1, q2, q3, q4⟩ | ⟨q1, q2, q3, q4, q5, q6⟩ | ⟨q1, q2, q3, q4, q5⟩ <;> rcases hN' with ⟨r1, r2, r3, r4⟩ | ⟨r1, r2, r3, r4, r5, r6⟩ | ⟨r1, r2, r3, r4, r5⟩ <;> first | omega | exact absurd q3 (r2 q2) | exact absurd r3 (q2 r2)
      rw [if_pos hle]
      by_cases hE : c = c'
      · rw [if_pos hE]
        have h2 : l = l' ∧ gr = gr' := by
          rcases hN with ⟨q1, q2, q3, q4⟩ | ⟨q1, q2, q3, q4, q5, q6⟩ | ⟨q1, q2, q3, q4, q5⟩ <;> rcases hN' with ⟨r1, r2, r3, r4⟩ | ⟨r1, r2, r3, r4, r5, r6⟩ | ⟨r1, r2, r3, r4, r5⟩
          all_goals first
            | exact ⟨by rw [q3, r3], by rw [q4, r4]⟩
            | exact ⟨by rw [q5, r5], by rw [q6, r6]⟩
            | exact ⟨by rw [q5, r4], by rw [q6, r5]⟩
            | exact ⟨by rw [q4, r5], by rw [q5, r6]⟩
            | exact ⟨by rw [q4, r4], by rw [q5, r5]⟩
            | omega
        rw [h2.1, h2.2, hE]
        simp
      · rw [if_neg hE]
    · rw [Bool.eq_false_iff.mpr hl]
      simp only [governorlaw15_LimitOrder.j0, Bool.not_false, reduceIte]
  · rw [if_neg hc]
    simp only [governorlaw15_LimitOrder.j0, reduceIte]
end Go.Proofs.Ytnipomnkjegebaa.Pure
