/- The law TrackNothing (P10.1): without replicas, or without load, none are wanted; with both at least one, but where 1000 times both multiplied is below the target: for every target, number of replicas and load. -/
import Derived.Test.YtmdkcadngkbphaaCNum
import Derived.Test.YtmdkcadngkbphaaCTrack
import Derived.Test.YtmdkcadngkbphaaPAllx0
import Derived.Test.YtmdkcadngkbphaaPAllx14
import Derived.Test.YtmdkcadngkbphaaWkTrackNothing
namespace Go.Proofs.Ytmdkcadngkbphaa.Pure
open Go.RowKit Go.Proofs.Ytmdkcadngkbphaa.PAll Go.Proofs.YtmdkcadngkbphaaW.PrintWords Go.Proofs.YtmdkcadngkbphaaW.PrintLast Go.Proofs.YtmdkcadngkbphaaW.PrintMore
set_option linter.unusedVariables false
set_option linter.unusedSimpArgs false
theorem FT_zero {t P : Int} (t1 : 1 ≤ t) (t2 : t ≤ 1000000000) (hP : 0 ≤ P) : (FT t P = 0 ↔ 1000 * P < t) := by
  have hp : 0 ≤ mn P 1000000000 := by unfold mn; omega
  have hd0 : 0 ≤ mn P 1000000000 * 1000 / t := Int.ediv_nonneg (by omega) (by omega)
  have hz : mn P 1000000000 * 1000 / t < 1 ↔ mn P 1000000000 * 1000 < 1 * t := Int.ediv_lt_iff_lt_mul (by omega)
  have e : mn P 1000000000 * 1000 < 1 * t ↔ 1000 * P < t := by unfold mn; omega
  rw [← e, ← hz]
  unfold FT
  generalize mn P 1000000000 * 1000 / t = d at hd0
  unfold upI mn
  omega
theorem TrackNothing : governorlaw10_TrackNothing.Pure := by
  intro t c u h1 h2 h3
  unfold governorlaw10_TrackNothing.f
  have c64 := wf64 h2
  have u64 := wf64 h3
  have hc := cl_in c 0 1000 (by decide)
  have hu := cl_in u 0 1000000000 (by decide)
  have ht := cl_in t 1 1000000000 (by decide)
  simp only [trackHead, want_eq, Option.bind_some, reduceIte]
  have Z : FT (cl t 1 1000000000) 0 = 0 := (FT_zero ht.1 ht.2 (Int.le_refl _)).2 (by omega)
  by_cases q1 : c ≤ 0
  · rw [if_pos q1]
    have e : cl c 0 1000 = 0 := by unfold cl mx mn; omega
    rw [e, Int.zero_mul, Z]
    rfl
  · rw [if_neg q1]
    by_cases q2 : u ≤ 0
    · rw [if_pos q2]
      have e : cl u 0 1000000000 = 0 := by unfold cl mx mn; omega
      rw [e, Int.mul_zero, Z]
      rfl
    · rw [if_neg q2]
      have ec : cl c 0 1000 = mn c 1000 := by unfold cl mx mn; omega
      have eu : cl u 0 1000000000 = mn u 1000000000 := by unfold cl mx mn; omega
      have et : mn (mx t 1) 1000000000 = cl t 1 1000000000 := rfl
      rw [ec] at hc ⊢
      rw [eu] at hu ⊢
      rw [et]
      have hP : 0 ≤ mn c 1000 * mn u 1000000000 := Int.mul_nonneg hc.1 hu.1
      have hP2 : mn c 1000 * mn u 1000000000 ≤ 1000 * mn u 1000000000 := Int.mul_le_mul_of_nonneg_right hc.2 hu.1
      have hz := FT_zero ht.1 ht.2 hP
      rw [wr (n := 1000 * mn c 1000) (by omega) (by omega), Int.mul_assoc, wr (n := 1000 * (mn c 1000 * mn u 1000000000)) (by omega) (by omega)]
      by_cases q : FT (cl t 1 1000000000) (mn c 1000 * mn u 1000000000) = 0
      · rw [q, decide_eq_true (hz.1 q)]; rfl
      · rw [decide_eq_false (fun h => q (hz.2 h)), beq_eq_false_iff_ne.2 q]; rfl
end Go.Proofs.Ytmdkcadngkbphaa.Pure
