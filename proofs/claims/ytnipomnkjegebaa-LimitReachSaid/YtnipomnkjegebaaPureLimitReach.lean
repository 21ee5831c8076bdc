/- The law LimitReach (P15.4): what is wanted on and on, at times that rise by more than Stable, comes to be held, where it may be, and stays: for every configuration that may be (of a Stable of at most 1000), hold and number. -/
import Derived.Test.YtnipomnkjegebaaCLimit
import Derived.Test.YtnipomnkjegebaaPAllx0
import Derived.Test.YtnipomnkjegebaaPAllx16
import Derived.Test.YtnipomnkjegebaaPAllx21
import Derived.Test.YtnipomnkjegebaaPAllx30
import Derived.Test.YtnipomnkjegebaaWkLimitReach
namespace Go.Proofs.Ytnipomnkjegebaa.Pure
open Go.RowKit Go.Proofs.Ytnipomnkjegebaa.PAll Go.Proofs.YtnipomnkjegebaaW.PrintWords Go.Proofs.YtnipomnkjegebaaW.PrintLast Go.Proofs.YtnipomnkjegebaaW.PrintMore
set_option linter.unusedVariables false
set_option linter.unusedSimpArgs false
theorem reach_loop {a0 a1 a2 a3 a4 a5 a6 a7 a8 a9 a10 a11 want into : Int} (C : ConfP a0 a1 a2 a3) (hs : a3 ≤ 1000) (w0 : -32768 ≤ want) (w1 : want ≤ 32767) (hin : mn (mx want a0) a1 = into) (d : Nat) : ∀ (k : Nat) (i now cur last : Int) (gr : Bool), i + (d : Int) = 1002 → 0 ≤ i → 2 * d < k → a0 ≤ cur → cur ≤ a1 → 0 ≤ last → last ≤ now → now ≤ 1099511627776 →
    (now = 1099511627776 ∨ cur = into ∨ (cur - into + i ≤ 1000 ∧ into - cur + i ≤ 1000)) →
    governorlaw15_LimitReach.l0 k want true into now i a0 a1 a2 a3 a4 a5 a6 a7 a8 a9 a10 a11 cur last gr = some true := by
  obtain ⟨q1, q2, q3, q4, q5, q6, q7⟩ := id C
  have hi1 : a0 ≤ into ∧ into ≤ a1 := by rw [← hin]; unfold mx mn; omega
  induction d with
  | zero =>
    intro k i now cur last gr hd h0 hk c0 c1 l0 l1 n1 hI
    obtain ⟨k, rfl⟩ : ∃ m, k = m + 1 := ⟨k - 1, by omega⟩
    simp only [governorlaw15_LimitReach.l0]
    rw [if_neg (by omega)]
    simp only [reduceIte]
    by_cases c : cur = into
    · rw [if_pos c]
    · rw [if_neg c]
      have : now = 1099511627776 := by omega
      rw [this]
      rfl
  | succ d ih =>
    intro k i now cur last gr hd h0 hk c0 c1 l0 l1 n1 hI
    obtain ⟨k, rfl⟩ : ∃ m, k = m + 1 + 1 := ⟨k - 2, by omega⟩
    simp only [governorlaw15_LimitReach.l0]
    rw [if_pos (by omega), wr (n := want) (by omega) (by omega), wr (n := now + a3) (by omega) (by omega), wr (n := now + a3 + 1) (by omega) (by omega)]
    obtain ⟨t, ht⟩ : ∃ t, mn (now + a3 + 1) 1099511627776 = t := ⟨_, rfl⟩
    rw [ht]
    have ht1 : (t = 1099511627776 ∨ t = now + a3 + 1) ∧ t ≤ 1099511627776 ∧ now ≤ t := by rw [← ht]; unfold mn; omega
    clear ht
    obtain ⟨c, l, g', e, g, n, hg, hn, hN⟩ := limit_next (a4 := a4) (a5 := a5) (a6 := a6) (a7 := a7) (a8 := a8) (a9 := a9) (a10 := a10) (a11 := a11) (cur := cur) (last := last) (grew := gr) (want := want) (now := t) C (by omega) (by omega) (by omega) (by omega)
    rw [e]
    simp only [Option.bind_some]
    have eg : g = cur := by rw [hg]; unfold mx mn; omega
    have hnw : (cur = into → n = into) ∧ (cur < into → cur < n ∧ n ≤ into) ∧ (into < cur → n < cur ∧ into ≤ n) := by
      rw [hn, eg, ← hin]; unfold mx mn; omega
    clear hn hg
    have hc : a0 ≤ c ∧ c ≤ a1 ∧ 0 ≤ l ∧ l ≤ t ∧ (cur = into → c = into) ∧ (t ≠ 1099511627776 → c = n) := by
      rcases hN with ⟨r1, r2, r3, r4⟩ | ⟨r1, r2, r3, r4, r5, r6⟩ | ⟨r1, r2, r3, r4, r5⟩ <;> omega
    have hI' : t = 1099511627776 ∨ c = into ∨ (c - into + (i + 1) ≤ 1000 ∧ into - c + (i + 1) ≤ 1000) := by omega
    have next := ih k (i + 1) t c l g' (by omega) (by omega) (by omega) (by omega) (by omega) (by omega) (by omega) (by omega) hI'
    have fin : governorlaw15_LimitReach.j2 (k + 1) want true into t i false a0 a1 a2 a3 a4 a5 a6 a7 a8 a9 a10 a11 cur last gr c l g' = some true := by
      simp only [governorlaw15_LimitReach.j2, Bool.false_eq_true, reduceIte]
      rw [wr (n := i + 1) (by omega) (by omega)]
      by_cases z : cur = into
      · rw [if_pos z, if_pos (hc.2.2.2.2.1 z)]; exact next
      · rw [if_neg z]; exact next
    by_cases c2 : c = cur
    · rw [if_pos c2]
      by_cases c3 : cur = into
      · rw [if_pos c3]; exact fin
      · rw [if_neg c3, decide_eq_false (by omega)]; exact fin
    · rw [if_neg c2]; exact fin
theorem LimitReach : governorlaw15_LimitReach.Pure := by
  intro a0 a1 a2 a3 a4 a5 a6 a7 a8 a9 a10 a11 b0 b1 b2 want h0 h1 h2 h3 h4 h5 h6 h7 h8 h9 h10 h11 k0 k1 hw
  refine ⟨3000, ?_⟩
  unfold governorlaw15_LimitReach.f
  rw [limitHead]
  simp only [governorref09_Conf.f, time_eq, Option.bind_some]
  by_cases hc : (cfSize a0 a1 a2 && (cfPlant a3 a4 a5 a6 && cfJudge a7 a8 a9 a10 a11)) = true
  · rw [if_pos hc]
    have C := conf_in hc
    obtain ⟨q1, q2, q3, q4, q5, q6, q7⟩ := id C
    by_cases hl : (decide (0 ≤ b1) && decide (b1 ≤ 1099511627776)) = true
    · have t2 := time_in hl
      have w16 := wf16 hw
      rw [if_pos hl]
      simp only [governorlaw15_LimitReach.j0]
      by_cases hg : a3 > 1000
      · rw [if_pos (decide_eq_true hg)]
      · rw [if_neg (by simpa using hg), wr (n := want) (by omega) (by omega)]
        simp only [limit_Into.f, Option.bind_some]
        have z0 : a0 ≤ mx a0 (mn b0 a1) := by unfold mx mn; omega
        have z1 : mx a0 (mn b0 a1) ≤ a1 := by unfold mx mn; omega
        have z2 : a0 ≤ mn (mx want a0) a1 := by unfold mx mn; omega
        have z3 : mn (mx want a0) a1 ≤ a1 := by unfold mx mn; omega
        exact reach_loop C (by omega) w16.1 w16.2 rfl 1002 2999 0 b1 _ b1 b2 (by omega) (Int.le_refl _) (by omega) z0 z1 t2.1 (Int.le_refl _) t2.2 (.inr (.inr ⟨by omega, by omega⟩))
    · rw [if_neg hl]
      simp only [governorlaw15_LimitReach.j0, reduceIte]
  · rw [if_neg hc]
    simp only [governorlaw15_LimitReach.j0, reduceIte]
end Go.Proofs.Ytnipomnkjegebaa.Pure
