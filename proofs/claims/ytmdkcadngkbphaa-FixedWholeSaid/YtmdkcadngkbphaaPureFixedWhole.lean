/- The law FixedWhole (P8.1): Up is the least whole number that is not below, Near one that is at most half a part away, and there is none nearer: for every 64 bit number. -/
import Derived.Test.YtmdkcadngkbphaaCFixed
import Derived.Test.YtmdkcadngkbphaaCNum
import Derived.Test.YtmdkcadngkbphaaPAllx0
import Derived.Test.YtmdkcadngkbphaaPAllx1
import Derived.Test.YtmdkcadngkbphaaPAllx19
import Derived.Test.YtmdkcadngkbphaaPAllx20
import Derived.Test.YtmdkcadngkbphaaPAllx28
import Derived.Test.YtmdkcadngkbphaaWkFixedWhole
namespace Go.Proofs.Ytmdkcadngkbphaa.Pure
open Go.RowKit Go.Proofs.Ytmdkcadngkbphaa.PAll Go.Proofs.YtmdkcadngkbphaaW.PrintWords Go.Proofs.YtmdkcadngkbphaaW.PrintLast Go.Proofs.YtmdkcadngkbphaaW.PrintMore
set_option linter.unusedVariables false
set_option linter.unusedSimpArgs false
theorem FixedWhole : governorlaw08_FixedWhole.Pure := by
  intro a ha
  unfold governorlaw08_FixedWhole.f
  have N : fixed_Near.f a = some (nearI (satI a)) := rfl
  simp only [fixedHead, sat_eq, up_eq, N, Option.bind_some, reduceIte]
  have x0 := satI_lo a
  have x1 := satI_hi a
  generalize satI a = x at x0 x1 ⊢
  obtain ⟨u, hu⟩ : ∃ u, upI x = u := ⟨_, rfl⟩
  obtain ⟨n, hn⟩ : ∃ n, nearI x = n := ⟨_, rfl⟩
  rw [hu, hn]
  have hu2 : x ≤ 1000 * u ∧ 1000 * (u - 1) < x := by rw [← hu]; unfold upI; omega
  have hn2 : -500 ≤ 1000 * n - x ∧ 1000 * n - x ≤ 500 ∧ (1000 * n - x = 500 → x > 0) ∧ (1000 * n - x = -500 → x < 0) := by
    rw [nearI_lin x0 x1] at hn
    by_cases c : x < 0
    · rw [if_pos c] at hn; omega
    · rw [if_neg c] at hn; omega
  rw [wr (n := u - 1) (by omega) (by omega), wr (n := 1000 * u) (by omega) (by omega), wr (n := 1000 * (u - 1)) (by omega) (by omega), wr (n := 1000 * n) (by omega) (by omega), wr (n := 1000 * n - x) (by omega) (by omega)]
  rw [if_pos hu2.1, if_pos hu2.2, if_pos (by omega), if_pos (by omega)]
  by_cases c1 : 1000 * n - x = 500
  · rw [if_pos c1, if_pos (hn2.2.2.1 c1), if_neg (by omega)]
  · rw [if_neg c1]
    by_cases c2 : 1000 * n - x = -500
    · rw [if_pos c2, decide_eq_true (hn2.2.2.2 c2)]
    · rw [if_neg c2]
end Go.Proofs.Ytmdkcadngkbphaa.Pure
