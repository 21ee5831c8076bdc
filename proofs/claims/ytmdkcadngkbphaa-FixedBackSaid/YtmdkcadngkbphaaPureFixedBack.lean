/- The law FixedBack (P8.1): what was divided, and is multiplied again, is no farther from 0, and less than a part of the divisor away, where nothing was too great: for all 32 bit numbers. -/
import Derived.Test.YtmdkcadngkbphaaCFixed
import Derived.Test.YtmdkcadngkbphaaCNum
import Derived.Test.YtmdkcadngkbphaaPAllx0
import Derived.Test.YtmdkcadngkbphaaPAllx1
import Derived.Test.YtmdkcadngkbphaaPAllx2
import Derived.Test.YtmdkcadngkbphaaPAllx29
import Derived.Test.YtmdkcadngkbphaaPAllx4
import Derived.Test.YtmdkcadngkbphaaWkFixedBack
namespace Go.Proofs.Ytmdkcadngkbphaa.Pure
open Go.RowKit Go.Proofs.Ytmdkcadngkbphaa.PAll Go.Proofs.YtmdkcadngkbphaaW.PrintWords Go.Proofs.YtmdkcadngkbphaaW.PrintLast Go.Proofs.YtmdkcadngkbphaaW.PrintMore
set_option linter.unusedVariables false
set_option linter.unusedSimpArgs false
theorem FixedBack : governorlaw08_FixedBack.Pure := by
  intro x y hx hy
  have x32 := wf32 hx
  have y32 := wf32 hy
  unfold governorlaw08_FixedBack.f
  have D : fixed_Div.f x y = some (satI (divI (satI x) (satI y))) := rfl
  rw [wr (n := x) (by omega) (by omega), wr (n := y) (by omega) (by omega)]
  simp only [fixedHead, D, right_eq, Option.bind_some]
  by_cases c : y = 0
  · rw [if_pos c]
  · rw [if_neg c]
    by_cases hrx : (decide (-1000000000 ≤ x) && decide (x ≤ 1000000000)) = true
    · rw [if_pos hrx]
      by_cases hry : (decide (-1000000000 ≤ y) && decide (y ≤ 1000000000)) = true
      · rw [if_pos hry]
        have rx : -1000000000 ≤ x ∧ x ≤ 1000000000 := by simpa using hrx
        have ry : -1000000000 ≤ y ∧ y ≤ 1000000000 := by simpa using hry
        rw [satI_in rx.1 rx.2, satI_in ry.1 ry.2]
        by_cases c1 : satI (divI x y) ≥ 1000000000
        · rw [if_pos c1]
        · rw [if_neg c1]
          by_cases c2 : satI (divI x y) ≤ -1000000000
          · rw [if_pos c2]
          · rw [if_neg c2]
            have hq : satI (divI x y) = Int.tdiv (x * 1000) y := by
              have e : divI x y = Int.tdiv (x * 1000) y := by unfold divI; rw [if_neg c]
              rw [e] at c1 c2 ⊢
              unfold satI mx mn at c1 c2 ⊢
              omega
            rw [hq]
            have hm := Int.tmod_add_mul_tdiv (x * 1000) y
            have hb : (0 < y → -y < Int.tmod (x * 1000) y ∧ Int.tmod (x * 1000) y < y) ∧ (y < 0 → y < Int.tmod (x * 1000) y ∧ Int.tmod (x * 1000) y < -y) := by
              refine ⟨fun h => tmod_bounds _ _ h, fun h => ?_⟩
              have := tmod_bounds (x * 1000) (-y) (by omega)
              rw [Int.tmod_neg] at this
              omega
            have hs : (0 ≤ x → 0 ≤ Int.tmod (x * 1000) y) ∧ (x ≤ 0 → Int.tmod (x * 1000) y ≤ 0) := by
              refine ⟨fun h => Int.tmod_nonneg _ (by omega), fun h => ?_⟩
              have := Int.tmod_nonneg (a := -(x * 1000)) y (by omega)
              rw [Int.neg_tmod] at this
              omega
            rw [Int.mul_comm (Int.tdiv (x * 1000) y) y]
            generalize Int.tmod (x * 1000) y = m at hm hb hs
            generalize y * Int.tdiv (x * 1000) y = P at hm ⊢
            have hmx : mx y (wrap64 (-y)) = if y < 0 then -y else y := by
              rw [wr (by omega) (by omega)]; unfold mx; by_cases q : y < 0
              · rw [if_pos (by omega), if_pos q]
              · rw [if_neg (by omega), if_neg q]
            rw [hmx]
            rw [wr (n := P) (by omega) (by omega), wr (n := 1000 * x) (by omega) (by omega), wr (n := 1000 * x - P) (by omega) (by omega)]
            have el : 1000 * x - P = m := by omega
            rw [el]
            obtain ⟨s, hsz⟩ : ∃ s, (if y < 0 then -y else y) = s := ⟨_, rfl⟩
            rw [hsz]
            have hs2 : -s < m ∧ m < s ∧ 0 < s ∧ s ≤ 1000000000 := by
              by_cases q : y < 0
              · rw [if_pos q] at hsz; omega
              · rw [if_neg q] at hsz; omega
            rw [wr (n := -s) (by omega) (by omega)]
            simp only [reduceIte]
            rw [if_pos hs2.2.1, if_pos hs2.1]
            by_cases c3 : m = 0
            · rw [if_pos c3]
            · rw [if_neg c3]
              by_cases c4 : x > 0
              · rw [decide_eq_true c4, decide_eq_true (by omega)]; rfl
              · rw [decide_eq_false c4, decide_eq_false (by omega)]; rfl
      · rw [if_neg hry]
    · rw [if_neg hrx]
end Go.Proofs.Ytmdkcadngkbphaa.Pure
