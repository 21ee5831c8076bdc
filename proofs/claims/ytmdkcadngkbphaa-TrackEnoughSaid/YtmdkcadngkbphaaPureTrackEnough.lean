/- The law TrackEnough (P10.2): as many as are wanted, if these are not too many, would have no more than the load that is to be, but for what a thousandth cuts off, and one fewer more than that: for every target, number and load. -/
import Derived.Test.YtmdkcadngkbphaaCNum
import Derived.Test.YtmdkcadngkbphaaCTrack
import Derived.Test.YtmdkcadngkbphaaPAllx0
import Derived.Test.YtmdkcadngkbphaaPAllx13
import Derived.Test.YtmdkcadngkbphaaWkTrackEnough
namespace Go.Proofs.Ytmdkcadngkbphaa.Pure
open Go.RowKit Go.Proofs.Ytmdkcadngkbphaa.PAll Go.Proofs.YtmdkcadngkbphaaW.PrintWords Go.Proofs.YtmdkcadngkbphaaW.PrintLast Go.Proofs.YtmdkcadngkbphaaW.PrintMore
set_option linter.unusedVariables false
set_option linter.unusedSimpArgs false
theorem enough_FT {t P : Int} (t1 : 1 ≤ t) (hP : 0 ≤ P) (hP2 : P ≤ 1000000000) (h : FT t P < 1000) : 1000 * (FT t P * t) > 1000 * P - t ∧ (FT t P ≠ 0 → (FT t P - 1) * t < P) := by
  have e5 : mn P 1000000000 = P := by unfold mn; omega
  have hd0 : 0 ≤ P * 1000 / t := Int.ediv_nonneg (by omega) (by omega)
  have hlo := Int.mul_ediv_self_le (x := P * 1000) (k := t) (by omega)
  have hhi := Int.lt_mul_ediv_self_add (x := P * 1000) (k := t) (by omega)
  unfold FT at h ⊢
  rw [e5] at h ⊢
  generalize P * 1000 / t = d at hd0 hlo hhi h ⊢
  obtain ⟨n, hn⟩ : ∃ n, mn (upI (mn d 1000000000)) 1000 = n := ⟨_, rfl⟩
  rw [hn] at h ⊢
  have hn2 : d ≤ 1000 * n ∧ (n ≠ 0 → 1000 * (n - 1) < d) ∧ 0 ≤ n := by unfold upI mn at hn; omega
  have m1 : d * t ≤ 1000 * n * t := Int.mul_le_mul_of_nonneg_right hn2.1 (by omega)
  rw [Int.mul_comm t d] at hlo hhi
  rw [Int.mul_assoc] at m1
  refine ⟨by omega, fun h0 => ?_⟩
  have m2 : (1000 * (n - 1) + 1) * t ≤ d * t := Int.mul_le_mul_of_nonneg_right (by have := hn2.2.1 h0; omega) (by omega)
  rw [Int.add_mul, Int.mul_assoc, Int.one_mul] at m2
  omega
theorem TrackEnough : governorlaw10_TrackEnough.Pure := by
  intro a b d ha hb hd
  have a32 := wfu32 ha
  have b16 := wfu16 hb
  have d32 := wfu32 hd
  unfold governorlaw10_TrackEnough.f
  have h1 := tmod_bounds a 10000 (by decide)
  have h2 := tmod_bounds b 1001 (by decide)
  have h3 : 0 ≤ Int.tmod a 10000 := Int.tmod_nonneg _ a32.1
  have h4 : 0 ≤ Int.tmod b 1001 := Int.tmod_nonneg _ b16.1
  have h5 := tmod_bounds d 10000 (by decide)
  have h6 : 0 ≤ Int.tmod d 10000 := Int.tmod_nonneg _ d32.1
  rw [wr (n := a) (by omega) (by omega), wr (n := b) (by omega) (by omega), wr (n := d) (by omega) (by omega)]
  generalize Int.tmod b 1001 = c at h2 h4 ⊢
  generalize Int.tmod d 10000 = u at h5 h6 ⊢
  rw [wr (n := 1 + Int.tmod a 10000) (by omega) (by omega)]
  obtain ⟨t, ht⟩ : ∃ t, 1 + Int.tmod a 10000 = t := ⟨_, rfl⟩
  rw [ht]
  have t1 : 1 ≤ t ∧ t ≤ 10000 := by omega
  have ec : cl c 0 1000 = c := by unfold cl mx mn; omega
  have et1 : cl t 1 1000000000 = t := by unfold cl mx mn; omega
  have eu : cl u 0 1000000000 = u := by unfold cl mx mn; omega
  simp only [trackHead, want_eq, Option.bind_some, reduceIte, ec, et1, eu]
  have hP : 0 ≤ c * u := Int.mul_nonneg h4 h6
  have hP2 : c * u ≤ 1000 * 10000 := by
    have q1 : c * u ≤ 1000 * u := Int.mul_le_mul_of_nonneg_right (by omega) h6
    omega
  have hin := FT_in (t := t) t1.1 hP
  by_cases q : FT t (c * u) ≥ 1000
  · rw [if_pos q]
  · rw [if_neg q]
    have E := enough_FT t1.1 hP (by omega) (by omega)
    generalize FT t (c * u) = n at hin q E ⊢
    have hnt : 0 ≤ n * t ∧ n * t ≤ 10000000 := by
      refine ⟨Int.mul_nonneg hin.1 (by omega), ?_⟩
      have q1 : n * t ≤ 1000 * t := Int.mul_le_mul_of_nonneg_right (by omega) (by omega)
      omega
    have hmt : -10000 ≤ (n - 1) * t ∧ (n - 1) * t ≤ 10000000 := by rw [Int.sub_mul, Int.one_mul]; omega
    rw [wr (n := 1000 * n) (by omega) (by omega), wr (n := 1000 * n * t) (by rw [Int.mul_assoc]; omega) (by rw [Int.mul_assoc]; omega), wr (n := 1000 * c) (by omega) (by omega), wr (n := 1000 * c * u) (by rw [Int.mul_assoc]; omega) (by rw [Int.mul_assoc]; omega), wr (n := 1000 * c * u - t) (by rw [Int.mul_assoc]; omega) (by rw [Int.mul_assoc]; omega), wr (n := n - 1) (by omega) (by omega), wr (n := (n - 1) * t) (by omega) (by omega), wr (n := c * u) (by omega) (by omega), Int.mul_assoc 1000 n t, Int.mul_assoc 1000 c u]
    rw [if_pos E.1]
    by_cases q0 : n = 0
    · rw [if_pos q0]
    · rw [if_neg q0, decide_eq_true (E.2 q0)]
end Go.Proofs.Ytmdkcadngkbphaa.Pure
