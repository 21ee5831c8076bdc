/- The law LimitBounds (P15.2): never fewer than Min, nor more than Max, and never more than Rate more, or fewer, than there were: for every configuration that may be, hold, row of numbers that are wanted, and time. -/
import Derived.Test.YtnipomnkjegebaaCLimit
import Derived.Test.YtnipomnkjegebaaPAllx0
import Derived.Test.YtnipomnkjegebaaPAllx16
import Derived.Test.YtnipomnkjegebaaPAllx21
import Derived.Test.YtnipomnkjegebaaPAllx26
import Derived.Test.YtnipomnkjegebaaWkLimitBounds
namespace Go.Proofs.Ytnipomnkjegebaa.Pure
open Go.RowKit Go.Proofs.Ytnipomnkjegebaa.PAll Go.Proofs.YtnipomnkjegebaaW.PrintWords Go.Proofs.YtnipomnkjegebaaW.PrintLast Go.Proofs.YtnipomnkjegebaaW.PrintMore
set_option linter.unusedVariables false
set_option linter.unusedSimpArgs false
theorem bounds_loop {a0 a1 a2 a3 a4 a5 a6 a7 a8 a9 a10 a11 now : Int} (C : ConfP a0 a1 a2 a3) (n0 : 0 ≤ now) (n1 : now ≤ 65535) (ws : List Int) (hl : ws.length ≤ 300) (d : Nat) : ∀ (k : Nat) (i cur last : Int) (gr : Bool), 0 ≤ i → i + (d : Int) = (ws.length : Int) → d < k → a0 ≤ cur → cur ≤ a1 → 0 ≤ last → last ≤ 1099511627776 →
    governorlaw15_LimitBounds.l0 k ws now true i a0 a1 a2 a3 a4 a5 a6 a7 a8 a9 a10 a11 cur last gr = some true := by
  obtain ⟨q1, q2, q3, q4, q5, q6, q7⟩ := id C
  induction d with
  | zero =>
    intro k i cur last gr h0 hd hk c0 c1 l0 l1
    obtain ⟨k, rfl⟩ : ∃ m, k = m + 1 := ⟨k - 1, by omega⟩
    simp only [governorlaw15_LimitBounds.l0]
    rw [if_neg (by omega)]
  | succ d ih =>
    intro k i cur last gr h0 hd hk c0 c1 l0 l1
    obtain ⟨k, rfl⟩ : ∃ m, k = m + 1 := ⟨k - 1, by omega⟩
    simp only [governorlaw15_LimitBounds.l0]
    rw [if_pos (by omega), if_pos h0, wr (n := now) (by omega) (by omega), wr (n := now + i) (by omega) (by omega), wr (n := cur + a2) (by omega) (by omega), wr (n := cur - a2) (by omega) (by omega), wr (n := i + 1) (by omega) (by omega)]
    obtain ⟨c, l, g', e, g, n, hg, hn, hN⟩ := limit_next (a4 := a4) (a5 := a5) (a6 := a6) (a7 := a7) (a8 := a8) (a9 := a9) (a10 := a10) (a11 := a11) (cur := cur) (last := last) (grew := gr) (want := rd ws i) (now := now + i) C (by omega) (by omega) (by omega) (by omega)
    rw [e]
    simp only [Option.bind_some]
    have eg : g = cur := by rw [hg]; unfold mx mn; omega
    have en : a0 ≤ n ∧ n ≤ a1 ∧ n ≤ cur + a2 ∧ cur - a2 ≤ n := by rw [hn, eg]; unfold mx mn; omega
    have hc : a0 ≤ c ∧ c ≤ a1 ∧ c ≤ cur + a2 ∧ cur - a2 ≤ c ∧ 0 ≤ l ∧ l ≤ 1099511627776 := by
      rcases hN with ⟨r1, r2, r3, r4⟩ | ⟨r1, r2, r3, r4, r5, r6⟩ | ⟨r1, r2, r3, r4, r5⟩ <;> omega
    rw [if_neg (by omega), if_neg (by omega), if_neg (by omega), if_neg (by omega)]
    exact ih k (i + 1) c l g' (by omega) (by omega) (by omega) (by omega) (by omega) (by omega) (by omega)
theorem LimitBounds : governorlaw15_LimitBounds.Pure := by
  intro a0 a1 a2 a3 a4 a5 a6 a7 a8 a9 a10 a11 b0 b1 b2 ws now h0 h1 h2 h3 h4 h5 h6 h7 h8 h9 h10 h11 k0 k1 hw hws hn
  refine ⟨400, ?_⟩
  unfold governorlaw15_LimitBounds.f
  rw [limitHead]
  simp only [governorref09_Conf.f, time_eq, Option.bind_some]
  by_cases hc : (cfSize a0 a1 a2 && (cfPlant a3 a4 a5 a6 && cfJudge a7 a8 a9 a10 a11)) = true
  · rw [if_pos hc]
    have C := conf_in hc
    by_cases hl : (decide (0 ≤ b1) && decide (b1 ≤ 1099511627776)) = true
    · have t2 := time_in hl
      have n16 := wfu16 hn
      rw [if_pos hl]
      simp only [governorlaw15_LimitBounds.j0]
      by_cases hg : (ws.length : Int) > 300
      · rw [if_pos (decide_eq_true hg)]
      · rw [if_neg (by simpa using hg)]
        simp only [limit_Into.f, Option.bind_some]
        have q1 := C.l1
        have q2 := C.lh
        have hb := fun (a : Int) (ha0 : a0 ≤ a) (ha1 : a ≤ a1) => bounds_loop (a4 := a4) (a5 := a5) (a6 := a6) (a7 := a7) (a8 := a8) (a9 := a9) (a10 := a10) (a11 := a11) C n16.1 n16.2 ws (by omega) ws.length 398 0 a b1 b2 (Int.le_refl _) (by omega) (by omega) ha0 ha1 t2.1 t2.2
        have m0 : a0 ≤ mx a0 (mn b0 a1) := by unfold mx mn; omega
        have m1 : mx a0 (mn b0 a1) ≤ a1 := by unfold mx mn; omega
        rw [if_neg (by omega), if_neg (by omega)]
        simp only [reduceIte, bne_self_eq_false, Bool.false_eq_true]
        by_cases c1 : b0 ≥ a0
        · rw [if_pos c1]
          by_cases c2 : b0 ≤ a1
          · rw [if_pos c2]
            have e : mx a0 (mn b0 a1) = b0 := by unfold mx mn; omega
            rw [e]
            simp only [governorlaw15_LimitBounds.j1, beq_self_eq_true, Bool.not_true, Bool.or_self, Bool.false_eq_true, reduceIte]
            exact hb b0 (by omega) (by omega)
          · rw [if_neg c2]
            simp only [governorlaw15_LimitBounds.j1, Bool.false_eq_true, reduceIte]
            exact hb _ m0 m1
        · rw [if_neg c1]
          simp only [governorlaw15_LimitBounds.j1, Bool.false_eq_true, reduceIte]
          exact hb _ m0 m1
    · rw [if_neg hl]
      simp only [governorlaw15_LimitBounds.j0, reduceIte]
  · rw [if_neg hc]
    simp only [governorlaw15_LimitBounds.j0, reduceIte]
end Go.Proofs.Ytnipomnkjegebaa.Pure
