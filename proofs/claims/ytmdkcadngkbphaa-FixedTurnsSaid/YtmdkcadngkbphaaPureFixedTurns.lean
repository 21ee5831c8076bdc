/- The law FixedTurns (P8.3): sums and products go in any order; what is turned around turns what comes of it: for all 64 bit numbers. -/
import Derived.Test.YtmdkcadngkbphaaCFixed
import Derived.Test.YtmdkcadngkbphaaCNum
import Derived.Test.YtmdkcadngkbphaaPAllx0
import Derived.Test.YtmdkcadngkbphaaPAllx1
import Derived.Test.YtmdkcadngkbphaaPAllx16
import Derived.Test.YtmdkcadngkbphaaPAllx17
import Derived.Test.YtmdkcadngkbphaaPAllx19
import Derived.Test.YtmdkcadngkbphaaPAllx2
import Derived.Test.YtmdkcadngkbphaaPAllx20
import Derived.Test.YtmdkcadngkbphaaPAllx26
import Derived.Test.YtmdkcadngkbphaaPAllx3
import Derived.Test.YtmdkcadngkbphaaPAllx4
import Derived.Test.YtmdkcadngkbphaaWkFixedTurns
namespace Go.Proofs.Ytmdkcadngkbphaa.Pure
open Go.RowKit Go.Proofs.Ytmdkcadngkbphaa.PAll Go.Proofs.YtmdkcadngkbphaaW.PrintWords Go.Proofs.YtmdkcadngkbphaaW.PrintLast Go.Proofs.YtmdkcadngkbphaaW.PrintMore
set_option linter.unusedVariables false
set_option linter.unusedSimpArgs false
theorem satI_neg (n : Int) : satI (-n) = -satI n := by unfold satI mx mn; omega
theorem mulI_neg (x y : Int) : mulI (-x) y = -mulI x y := by unfold mulI; rw [Int.neg_mul, Int.neg_tdiv]
theorem divI_neg (x y : Int) : divI (-x) y = -divI x y := by
  unfold divI
  by_cases c : y = 0
  · rw [if_pos c, if_pos c]
    by_cases c2 : x = 0
    · rw [if_pos (by omega), if_pos c2]; rfl
    · rw [if_neg (by omega), if_neg c2]; omega
  · rw [if_neg c, if_neg c, Int.neg_mul, Int.neg_tdiv]
theorem FixedTurns : governorlaw08_FixedTurns.Pure := by
  intro a b ha hb
  unfold governorlaw08_FixedTurns.f
  have A : ∀ u v, fixed_Add.f u v = some (satI (satI u + satI v)) := fun _ _ => rfl
  have S : ∀ u v, fixed_Sub.f u v = some (satI (satI u - satI v)) := fun _ _ => rfl
  have M : ∀ u v, fixed_Mul.f u v = some (satI (mulI (satI u) (satI v))) := fun _ _ => rfl
  have D : ∀ u v, fixed_Div.f u v = some (satI (divI (satI u) (satI v))) := fun _ _ => rfl
  have N : ∀ u, fixed_Near.f u = some (nearI (satI u)) := fun _ => rfl
  have ss : ∀ n, satI (satI n) = satI n := fun n => satI_in (satI_lo n) (satI_hi n)
  have a0 := satI_lo a
  have a1 := satI_hi a
  have b0 := satI_lo b
  have b1 := satI_hi b
  have w : ∀ n, wrap64 (-satI n) = -satI n := fun n => by have := satI_lo n; have := satI_hi n; exact wr (by omega) (by omega)
  have hnear : nearI (-satI a) = -nearI (satI a) ∧ -1000001 ≤ nearI (satI a) ∧ nearI (satI a) ≤ 1000001 := by
    rw [nearI_lin a0 a1, nearI_lin (by omega) (by omega)]
    by_cases c : satI a < 0
    · rw [if_pos c, if_neg (by omega)]; omega
    · rw [if_neg c]
      by_cases c2 : satI a = 0
      · rw [c2]; decide
      · rw [if_pos (by omega)]; omega
  have e1 : satI a - satI b = -(satI b - satI a) := by omega
  have e2 : -satI a + -satI b = -(satI a + satI b) := by omega
  have e3 : mulI (satI b) (satI a) = mulI (satI a) (satI b) := by unfold mulI; rw [Int.mul_comm]
  have e4 : mulI (satI a) (satI 1000) = satI a := by
    rw [show satI 1000 = 1000 from rfl]; unfold mulI; exact Int.mul_tdiv_cancel _ (by decide)
  have e5 : divI (satI a) (satI 1000) = satI a := by
    rw [show satI 1000 = 1000 from rfl]; unfold divI; rw [if_neg (by decide)]; exact Int.mul_tdiv_cancel _ (by decide)
  have e6 : satI a + -satI b = satI a - satI b := by omega
  have wn : wrap64 (-nearI (satI a)) = -nearI (satI a) := wr (by omega) (by omega)
  simp only [fixedHead, sat_eq, Option.bind_some, reduceIte, A, S, M, D, N, ss, w, satI_neg, mulI_neg, divI_neg, e2, e3, e4, e5, e6, hnear.1, wn, Int.add_comm (satI b) (satI a), beq_self_eq_true]
  rw [if_pos (by rw [e1, satI_neg])]
end Go.Proofs.Ytmdkcadngkbphaa.Pure
