import Derived.Test.YtmdkcadngkbphaaCNum
import Derived.Test.YtmdkcadngkbphaaPAllx0
import Derived.Test.YtmdkcadngkbphaaPAllx1
import Derived.Test.YtmdkcadngkbphaaPAllx2
import Derived.Test.YtmdkcadngkbphaaPAllx3
import Derived.Test.YtmdkcadngkbphaaPAllx4
import Derived.Test.YtmdkcadngkbphaaPAllx6
import Derived.Test.YtmdkcadngkbphaaPAllx7
namespace Go.Proofs.Ytmdkcadngkbphaa.PAll
open Go.RowKit Go.Proofs.YtmdkcadngkbphaaW.PrintWords Go.Proofs.YtmdkcadngkbphaaW.PrintLast Go.Proofs.YtmdkcadngkbphaaW.PrintMore
set_option linter.unusedVariables false
set_option linter.unusedSimpArgs false
theorem trackHead : governorlaw10_head.f = some true := by decide +kernel
/-- How many are wanted, of a load times replicas P and a target t. -/
def FT (t P : Int) : Int := mn (upI (mn (mn P 1000000000 * 1000 / t) 1000000000)) 1000
def cl (n lo hi : Int) : Int := mn (mx n lo) hi
theorem into_eq (n lo hi : Int) (h : lo ≤ hi) : track_into_int.f n lo hi = some (cl n lo hi) := by
  unfold track_into_int.f cl mx mn
  by_cases h1 : n < lo
  · rw [if_pos h1]; congr 1; omega
  · rw [if_neg h1]
    by_cases h2 : n > hi
    · rw [if_pos h2]; congr 1; omega
    · rw [if_neg h2]; congr 1; omega
theorem into64_eq (n lo hi : Int) (h : lo ≤ hi) : track_into_int64.f n lo hi = some (cl n lo hi) := by
  unfold track_into_int64.f cl mx mn
  by_cases h1 : n < lo
  · rw [if_pos h1]; congr 1; omega
  · rw [if_neg h1]
    by_cases h2 : n > hi
    · rw [if_pos h2]; congr 1; omega
    · rw [if_neg h2]; congr 1; omega
theorem cl_in (n lo hi : Int) (h : lo ≤ hi) : lo ≤ cl n lo hi ∧ cl n lo hi ≤ hi := by unfold cl mx mn; omega
theorem FT_in {t P : Int} (ht : 1 ≤ t) (hP : 0 ≤ P) : 0 ≤ FT t P ∧ FT t P ≤ 1000 := by
  have h : 0 ≤ mn P 1000000000 * 1000 / t := Int.ediv_nonneg (by unfold mn; omega) (by omega)
  unfold FT
  generalize mn P 1000000000 * 1000 / t = d at h
  unfold upI mn
  omega
theorem want_eq (t c u : Int) : track_Want.f t c u = some (FT (cl t 1 1000000000) (cl c 0 1000 * cl u 0 1000000000)) := by
  have hc := cl_in c 0 1000 (by decide)
  have hu := cl_in u 0 1000000000 (by decide)
  have ht := cl_in t 1 1000000000 (by decide)
  unfold track_Want.f
  simp only [into_eq c 0 1000 (by decide), into64_eq u 0 1000000000 (by decide), into64_eq t 1 1000000000 (by decide), Option.bind_some]
  generalize cl c 0 1000 = x at hc ⊢
  generalize cl u 0 1000000000 = v at hu ⊢
  generalize cl t 1 1000000000 = s at ht ⊢
  have M : ∀ a b, fixed_Mul.f a b = some (satI (mulI (satI a) (satI b))) := fun _ _ => rfl
  have D : ∀ a b, fixed_Div.f a b = some (satI (divI (satI a) (satI b))) := fun _ _ => rfl
  have hP0 : 0 ≤ x * v := Int.mul_nonneg hc.1 hu.1
  have e1 : mulI (satI (1000 * x)) (satI v) = x * v := by
    rw [satI_in (by omega) (by omega), satI_in (by omega) (by omega)]
    unfold mulI
    rw [Int.mul_assoc, Int.mul_comm 1000 (x * v)]
    exact Int.mul_tdiv_cancel _ (by decide)
  rw [wr (n := 1000 * x) (by omega) (by omega)]
  simp only [M, D, Option.bind_some, e1, up_eq]
  generalize x * v = P at hP0 ⊢
  have e2 : satI P = mn P 1000000000 := by unfold satI mx mn; omega
  have e3 : 0 ≤ mn P 1000000000 ∧ mn P 1000000000 ≤ 1000000000 := by unfold mn; omega
  rw [e2, satI_in (n := mn P 1000000000) (by omega) (by omega), satI_in (n := s) (by omega) (by omega)]
  unfold divI
  rw [if_neg (by omega), tdiv_pos (by omega)]
  unfold FT
  have h : 0 ≤ mn P 1000000000 * 1000 / s := Int.ediv_nonneg (by omega) (by omega)
  generalize mn P 1000000000 * 1000 / s = d at h
  have e4 : satI d = mn d 1000000000 := by unfold satI mx mn; omega
  have e5 : satI (mn d 1000000000) = mn d 1000000000 := by unfold satI mx mn; omega
  rw [e4, e5, into_eq _ _ _ (by decide)]
  simp only [Option.bind_some]
  congr 1
  unfold cl upI mx mn
  omega
theorem FT_mono {t P Q : Int} (ht : 1 ≤ t) (h : P ≤ Q) : FT t P ≤ FT t Q := by
  have h1 : mn P 1000000000 * 1000 / t ≤ mn Q 1000000000 * 1000 / t := Int.ediv_le_ediv (by omega) (by unfold mn; omega)
  unfold FT
  generalize mn P 1000000000 * 1000 / t = d at h1 ⊢
  generalize mn Q 1000000000 * 1000 / t = e at h1 ⊢
  unfold upI mn
  omega
theorem FT_anti {s t P : Int} (hs : 1 ≤ s) (h : s ≤ t) (hP : 0 ≤ P) : FT t P ≤ FT s P := by
  have hp : 0 ≤ mn P 1000000000 * 1000 := by unfold mn; omega
  have h1 : mn P 1000000000 * 1000 / t ≤ mn P 1000000000 * 1000 / s := by
    refine (Int.le_ediv_iff_mul_le (by omega)).2 ?_
    have h2 := Int.mul_ediv_self_le (x := mn P 1000000000 * 1000) (k := t) (by omega)
    have h3 : 0 ≤ mn P 1000000000 * 1000 / t := Int.ediv_nonneg hp (by omega)
    have h4 : mn P 1000000000 * 1000 / t * s ≤ mn P 1000000000 * 1000 / t * t := Int.mul_le_mul_of_nonneg_left h h3
    rw [Int.mul_comm t] at h2
    omega
  unfold FT
  generalize mn P 1000000000 * 1000 / t = d at h1 ⊢
  generalize mn P 1000000000 * 1000 / s = e at h1 ⊢
  unfold upI mn
  omega
end Go.Proofs.Ytmdkcadngkbphaa.PAll
