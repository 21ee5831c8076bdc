/- The law FixedBounds (P8.2): all that is answered is right, whatever is asked; what is clamped is within its bounds, if these are in order: for all 64 bit numbers. -/
import Derived.Test.YtmdkcadngkbphaaCFixed
import Derived.Test.YtmdkcadngkbphaaCNum
import Derived.Test.YtmdkcadngkbphaaPAllx0
import Derived.Test.YtmdkcadngkbphaaPAllx1
import Derived.Test.YtmdkcadngkbphaaPAllx16
import Derived.Test.YtmdkcadngkbphaaPAllx17
import Derived.Test.YtmdkcadngkbphaaPAllx19
import Derived.Test.YtmdkcadngkbphaaPAllx2
import Derived.Test.YtmdkcadngkbphaaPAllx20
import Derived.Test.YtmdkcadngkbphaaPAllx24
import Derived.Test.YtmdkcadngkbphaaPAllx25
import Derived.Test.YtmdkcadngkbphaaPAllx3
import Derived.Test.YtmdkcadngkbphaaPAllx4
import Derived.Test.YtmdkcadngkbphaaWkFixedBounds
namespace Go.Proofs.Ytmdkcadngkbphaa.Pure
open Go.RowKit Go.Proofs.Ytmdkcadngkbphaa.PAll Go.Proofs.YtmdkcadngkbphaaW.PrintWords Go.Proofs.YtmdkcadngkbphaaW.PrintLast Go.Proofs.YtmdkcadngkbphaaW.PrintMore
set_option linter.unusedVariables false
set_option linter.unusedSimpArgs false
theorem bounds_j0 (a b x : Int) (x0 : -1000000000 ≤ x) (x1 : x ≤ 1000000000) (k : Nat) : governorlaw08_FixedBounds.j0 (k + 1) a b true x true = some true := by
  have h0 := satI_lo a
  have h1 := satI_hi a
  have hA : fixed_Add.f a b = some (satI (satI a + satI b)) := rfl
  have hS : fixed_Sub.f a b = some (satI (satI a - satI b)) := rfl
  have hM : fixed_Mul.f a b = some (satI (mulI (satI a) (satI b))) := rfl
  have hD : fixed_Div.f a b = some (satI (divI (satI a) (satI b))) := rfl
  have hN : fixed_Near.f a = some (nearI (satI a)) := rfl
  have hu : governorlaw08_right.f (upI (satI a)) = some true := right_in (by unfold upI; omega) (by unfold upI; omega)
  have hn : governorlaw08_right.f (nearI (satI a)) = some true := by
    rw [nearI_lin h0 h1]
    by_cases c : satI a < 0
    · rw [if_pos c]; exact right_in (by omega) (by omega)
    · rw [if_neg c]; exact right_in (by omega) (by omega)
  simp only [governorlaw08_FixedBounds.j0, sat_eq, right_sat, hA, hS, hM, hD, right_in x0 x1, up_eq, hu, hN, hn, Option.bind_some, reduceIte]
  rw [right_eq]
  simp only [Option.bind_some]
  by_cases c : (decide (-1000000000 ≤ a) && decide (a ≤ 1000000000)) = true
  · rw [if_pos c]
    have c' : -1000000000 ≤ a ∧ a ≤ 1000000000 := by simpa using c
    rw [satI_in c'.1 c'.2]
    simp
  · rw [if_neg c]
theorem FixedBounds : governorlaw08_FixedBounds.Pure := by
  intro a b c ha hb hc
  refine ⟨1, ?_⟩
  unfold governorlaw08_FixedBounds.f
  simp only [fixedHead, sat_eq, clamp_eq, Option.bind_some]
  have a0 := satI_lo a
  have a1 := satI_hi a
  have b0 := satI_lo b
  have b1 := satI_hi b
  have c0 := satI_lo c
  have c1 := satI_hi c
  obtain ⟨x, hx⟩ : ∃ x, (if satI a < satI b then satI b else if satI a > satI c then satI c else satI a) = x := ⟨_, rfl⟩
  rw [hx]
  have hx2 : -1000000000 ≤ x ∧ x ≤ 1000000000 ∧ (¬ satI b > satI c → satI b ≤ x ∧ x ≤ satI c) := by
    by_cases h1 : satI a < satI b
    · rw [if_pos h1] at hx; omega
    · rw [if_neg h1] at hx
      by_cases h2 : satI a > satI c
      · rw [if_pos h2] at hx; omega
      · rw [if_neg h2] at hx; omega
  have J := bounds_j0 a b x hx2.1 hx2.2.1 0
  by_cases h : satI b > satI c
  · rw [if_pos h]; exact J
  · rw [if_neg h, if_pos (hx2.2.2 h).1, decide_eq_true (hx2.2.2 h).2]; exact J
end Go.Proofs.Ytmdkcadngkbphaa.Pure
