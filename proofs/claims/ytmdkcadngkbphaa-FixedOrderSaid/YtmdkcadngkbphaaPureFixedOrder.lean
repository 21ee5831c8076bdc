/- The law FixedOrder (P8.3): sums, and products by what is not below 0, keep an order; so do whole numbers: for all 64 bit numbers. -/
import Derived.Test.YtmdkcadngkbphaaCFixed
import Derived.Test.YtmdkcadngkbphaaCNum
import Derived.Test.YtmdkcadngkbphaaPAllx0
import Derived.Test.YtmdkcadngkbphaaPAllx1
import Derived.Test.YtmdkcadngkbphaaPAllx16
import Derived.Test.YtmdkcadngkbphaaPAllx17
import Derived.Test.YtmdkcadngkbphaaPAllx19
import Derived.Test.YtmdkcadngkbphaaPAllx2
import Derived.Test.YtmdkcadngkbphaaPAllx20
import Derived.Test.YtmdkcadngkbphaaPAllx27
import Derived.Test.YtmdkcadngkbphaaPAllx3
import Derived.Test.YtmdkcadngkbphaaPAllx4
import Derived.Test.YtmdkcadngkbphaaWkFixedOrder
namespace Go.Proofs.Ytmdkcadngkbphaa.Pure
open Go.RowKit Go.Proofs.Ytmdkcadngkbphaa.PAll Go.Proofs.YtmdkcadngkbphaaW.PrintWords Go.Proofs.YtmdkcadngkbphaaW.PrintLast Go.Proofs.YtmdkcadngkbphaaW.PrintMore
set_option linter.unusedVariables false
set_option linter.unusedSimpArgs false
theorem satI_mono {m n : Int} (h : m ≤ n) : satI m ≤ satI n := by unfold satI mx mn; omega
theorem order_j0 {x y z : Int} (x0 : -1000000000 ≤ x) (x1 : x ≤ 1000000000) (y0 : -1000000000 ≤ y) (y1 : y ≤ 1000000000) (z0 : -1000000000 ≤ z) (z1 : z ≤ 1000000000) (h : x ≤ y) (k : Nat) : governorlaw08_FixedOrder.j0 (k + 1) true x y z false = some true := by
  have M : ∀ u v, fixed_Mul.f u v = some (satI (mulI (satI u) (satI v))) := fun _ _ => rfl
  have D : ∀ u v, fixed_Div.f u v = some (satI (divI (satI u) (satI v))) := fun _ _ => rfl
  simp only [governorlaw08_FixedOrder.j0, Bool.false_eq_true, reduceIte, M, D, Option.bind_some, satI_in x0 x1, satI_in y0 y1, satI_in z0 z1]
  by_cases c : z < 0
  · rw [if_pos c]
    have h1 : mulI y z ≤ mulI x z := tdiv_mono (by decide) (Int.mul_le_mul_of_nonpos_right h (by omega))
    rw [decide_eq_true (satI_mono h1)]
  · rw [if_neg c]
    have h1 : mulI x z ≤ mulI y z := tdiv_mono (by decide) (Int.mul_le_mul_of_nonneg_right h (by omega))
    have h2 : satI (divI x z) ≤ satI (divI y z) := by
      refine satI_mono ?_
      unfold divI
      by_cases hz : z = 0
      · rw [if_pos hz, if_pos hz]
        by_cases q1 : x = 0
        · rw [if_pos q1]
          by_cases q2 : y = 0
          · rw [if_pos q2]; omega
          · rw [if_neg q2]; omega
        · rw [if_neg q1]
          by_cases q2 : y = 0
          · rw [if_pos q2]; omega
          · rw [if_neg q2]; omega
      · rw [if_neg hz, if_neg hz]
        exact tdiv_mono (by omega) (by omega)
    rw [if_pos (satI_mono h1), decide_eq_true h2]
theorem FixedOrder : governorlaw08_FixedOrder.Pure := by
  intro a b c ha hb hc
  refine ⟨1, ?_⟩
  unfold governorlaw08_FixedOrder.f
  have A : ∀ u v, fixed_Add.f u v = some (satI (satI u + satI v)) := fun _ _ => rfl
  have S : ∀ u v, fixed_Sub.f u v = some (satI (satI u - satI v)) := fun _ _ => rfl
  have N : ∀ u, fixed_Near.f u = some (nearI (satI u)) := fun _ => rfl
  have hxy : satI (mn a b) ≤ satI (mx a b) := satI_mono (by unfold mx mn; omega)
  simp only [fixedHead, sat_eq, Option.bind_some, A, S, N, up_eq]
  have x0 := satI_lo (mn a b)
  have x1 := satI_hi (mn a b)
  have y0 := satI_lo (mx a b)
  have y1 := satI_hi (mx a b)
  have z0 := satI_lo c
  have z1 := satI_hi c
  generalize satI (mn a b) = x at x0 x1 hxy ⊢
  generalize satI (mx a b) = y at y0 y1 hxy ⊢
  generalize satI c = z at z0 z1 ⊢
  rw [satI_in x0 x1, satI_in y0 y1, satI_in z0 z1]
  have h1 : satI (x + z) ≤ satI (y + z) := satI_mono (by omega)
  have h2 : satI (z - y) ≤ satI (z - x) := satI_mono (by omega)
  have h3 : upI x ≤ upI y := by unfold upI; omega
  have h4 : nearI x ≤ nearI y := by
    rw [nearI_lin x0 x1, nearI_lin y0 y1]
    by_cases q1 : x < 0
    · rw [if_pos q1]
      by_cases q2 : y < 0
      · rw [if_pos q2]; omega
      · rw [if_neg q2]; omega
    · rw [if_neg q1, if_neg (by omega)]; omega
  rw [if_neg (by omega), if_neg (by omega), if_neg (by omega), decide_eq_false (by omega)]
  exact order_j0 x0 x1 y0 y1 z0 z1 hxy 0
end Go.Proofs.Ytmdkcadngkbphaa.Pure
