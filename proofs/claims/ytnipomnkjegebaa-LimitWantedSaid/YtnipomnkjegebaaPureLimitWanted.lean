/- The law LimitWanted (P15.4): what is wanted, where it may be, is held; there is never more, nor fewer, than what is wanted and what there was tell: for every configuration that may be, hold, number and time. -/
import Derived.Test.YtnipomnkjegebaaCLimit
import Derived.Test.YtnipomnkjegebaaPAllx0
import Derived.Test.YtnipomnkjegebaaPAllx16
import Derived.Test.YtnipomnkjegebaaPAllx21
import Derived.Test.YtnipomnkjegebaaPAllx28
import Derived.Test.YtnipomnkjegebaaWkLimitWanted
namespace Go.Proofs.Ytnipomnkjegebaa.Pure
open Go.RowKit Go.Proofs.Ytnipomnkjegebaa.PAll Go.Proofs.YtnipomnkjegebaaW.PrintWords Go.Proofs.YtnipomnkjegebaaW.PrintLast Go.Proofs.YtnipomnkjegebaaW.PrintMore
set_option linter.unusedVariables false
set_option linter.unusedSimpArgs false
theorem LimitWanted : governorlaw15_LimitWanted.Pure := by
  intro a0 a1 a2 a3 a4 a5 a6 a7 a8 a9 a10 a11 b0 b1 b2 want now h0 h1 h2 h3 h4 h5 h6 h7 h8 h9 h10 h11 k0 k1 hw hn
  refine ⟨9, ?_⟩
  unfold governorlaw15_LimitWanted.f
  rw [limitHead]
  simp only [governorref09_Conf.f, time_eq, Option.bind_some]
  by_cases hc : (cfSize a0 a1 a2 && (cfPlant a3 a4 a5 a6 && cfJudge a7 a8 a9 a10 a11)) = true
  · rw [if_pos hc]
    have C := conf_in hc
    obtain ⟨q1, q2, q3, q4, q5, q6, q7⟩ := id C
    by_cases hl : (decide (0 ≤ b1) && decide (b1 ≤ 1099511627776)) = true
    · have t2 := time_in hl
      have w16 := wf16 hw
      have n16 := wfu16 hn
      rw [hl]
      simp only [governorlaw15_LimitWanted.j0, Bool.not_true, Bool.false_eq_true, reduceIte]
      rw [wr (n := want) (by omega) (by omega), wr (n := now) (by omega) (by omega)]
      obtain ⟨c, l, g', e, g, n, hg, hn', hN⟩ := limit_next (a4 := a4) (a5 := a5) (a6 := a6) (a7 := a7) (a8 := a8) (a9 := a9) (a10 := a10) (a11 := a11) (cur := b0) (last := b1) (grew := b2) (want := want) (now := now) C n16.1 (by omega) (by omega) (by omega)
      rw [e]
      simp only [limit_Into.f, Option.bind_some]
      rw [← hg]
      obtain ⟨w, hw2⟩ : ∃ w, mn (mx want a0) a1 = w := ⟨_, rfl⟩
      rw [hw2]
      have hg1 : a0 ≤ g ∧ g ≤ a1 := by rw [hg]; unfold mx mn; omega
      have hw1 : a0 ≤ w ∧ w ≤ a1 := by rw [← hw2]; unfold mx mn; omega
      have hnw : (w - g ≤ a2 ∧ g - w ≤ a2 → n = w) ∧ (w < g → n ≤ g ∧ w ≤ n) ∧ (g ≤ w → g ≤ n ∧ n ≤ w) := by
        rw [hn', ← hw2]; unfold mx mn; omega
      clear hg hn' hw2
      rw [wr (n := w - g) (by omega) (by omega), wr (n := g - w) (by omega) (by omega)]
      -- the last two joins, told once
      have j3s : b2 = true → w < g → now - b1 < a3 → ∀ k, governorlaw15_LimitWanted.j3 (k + 1) true w true false g b1 b2 c l g' = some true := by
        intro s1 s2 s3 k
        simp only [governorlaw15_LimitWanted.j3, Bool.false_eq_true, reduceIte]
        rcases hN with ⟨r1, r2, r3, r4⟩ | ⟨r1, r2, r3, r4, r5, r6⟩ | ⟨r1, r2, r3, r4, r5⟩
        · omega
        · rw [r4, r5, r6]; simp
        · exact absurd s3 (r2 s1)
      have j3f : (¬ (w < g ∧ b2 = true ∧ now - b1 < a3)) → ∀ k, governorlaw15_LimitWanted.j3 (k + 1) true w false false g b1 b2 c l g' = some true := by
        intro s k
        simp only [governorlaw15_LimitWanted.j3, Bool.false_eq_true, reduceIte]
        have hcc : mn w g ≤ c ∧ c ≤ mx w g := by
          unfold mx mn
          rcases hN with ⟨r1, r2, r3, r4⟩ | ⟨r1, r2, r3, r4, r5, r6⟩ | ⟨r1, r2, r3, r4, r5⟩
          · omega
          · omega
          · omega
        rw [if_pos hcc.1, decide_eq_true hcc.2]
      have j2a : ∀ near, (near = true → w - g ≤ a2 ∧ g - w ≤ a2) → ∀ k, governorlaw15_LimitWanted.j1 (k + 1 + 1 + 1) now true w near a0 a1 a2 a3 a4 a5 a6 a7 a8 a9 a10 a11 g b1 b2 c l g' = some true := by
        intro near hnear k
        have fin : ¬ (w < g ∧ b2 = true ∧ now - b1 < a3) → governorlaw15_LimitWanted.j2 (k + 1 + 1) true w near false g b1 b2 c l g' = some true := by
          intro s
          simp only [governorlaw15_LimitWanted.j2, Bool.false_eq_true, reduceIte]
          by_cases hq : near = true
          · rw [if_pos hq]
            have hcw : c = w := by
              have := hnw.1 (hnear hq)
              rcases hN with ⟨r1, r2, r3, r4⟩ | ⟨r1, r2, r3, r4, r5, r6⟩ | ⟨r1, r2, r3, r4, r5⟩
              · omega
              · by_cases hlt : w < g
                · exact absurd ⟨hlt, r2, r3⟩ s
                · omega
              · omega
            rw [hcw, bne_self_eq_false]
            rw [hcw] at j3f
            exact j3f s k
          · rw [if_neg hq]
            exact j3f s k
        simp only [governorlaw15_LimitWanted.j1]
        rw [wr (n := now) (by omega) (by omega), wr (n := now - b1) (by omega) (by omega)]
        by_cases h1 : w < g
        · rw [if_pos h1]
          by_cases h2 : b2 = true
          · rw [if_pos h2]
            by_cases h3 : now - b1 < a3
            · rw [decide_eq_true h3]
              simp only [governorlaw15_LimitWanted.j2, reduceIte]
              by_cases hq : near = true
              · rw [if_pos hq]; exact j3s h2 h1 h3 k
              · rw [if_neg hq]; exact j3s h2 h1 h3 k
            · rw [decide_eq_false h3]; exact fin (fun h => h3 h.2.2)
          · rw [if_neg h2]; exact fin (fun h => h2 h.2.1)
        · rw [if_neg h1]; exact fin (fun h => h1 h.1)
      by_cases h5 : w - g ≤ a2
      · rw [if_pos h5]
        exact j2a _ (fun h => ⟨h5, of_decide_eq_true h⟩) 5
      · rw [if_neg h5]
        exact j2a _ (fun h => by cases h) 5
    · rw [Bool.eq_false_iff.mpr hl]
      simp only [governorlaw15_LimitWanted.j0, Bool.not_false, reduceIte]
  · rw [if_neg hc]
    simp only [governorlaw15_LimitWanted.j0, reduceIte]
end Go.Proofs.Ytnipomnkjegebaa.Pure
