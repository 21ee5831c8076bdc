/- The law TrackGrows (P10.2): more load, or more replicas, want no fewer; a greater target wants no more; none is out of bounds: for every target, number of replicas, load and 16 bit number. -/
import Derived.Test.YtmdkcadngkbphaaCNum
import Derived.Test.YtmdkcadngkbphaaCTrack
import Derived.Test.YtmdkcadngkbphaaPAllx0
import Derived.Test.YtmdkcadngkbphaaPAllx11
import Derived.Test.YtmdkcadngkbphaaWkTrackGrows
namespace Go.Proofs.Ytmdkcadngkbphaa.Pure
open Go.RowKit Go.Proofs.Ytmdkcadngkbphaa.PAll Go.Proofs.YtmdkcadngkbphaaW.PrintWords Go.Proofs.YtmdkcadngkbphaaW.PrintLast Go.Proofs.YtmdkcadngkbphaaW.PrintMore
set_option linter.unusedVariables false
set_option linter.unusedSimpArgs false
theorem cl_mono {m n lo hi : Int} (h : m ≤ n) : cl m lo hi ≤ cl n lo hi := by unfold cl mx mn; omega
theorem TrackGrows : governorlaw10_TrackGrows.Pure := by
  intro t c u m h1 h2 h3 h4
  refine ⟨1, ?_⟩
  have t64 := wf64 h1
  have c64 := wf64 h2
  have u64 := wf64 h3
  have m16 := wfu16 h4
  unfold governorlaw10_TrackGrows.f
  have hc := cl_in c 0 1000 (by decide)
  have hu := cl_in u 0 1000000000 (by decide)
  have ht := cl_in t 1 1000000000 (by decide)
  have hP : 0 ≤ cl c 0 1000 * cl u 0 1000000000 := Int.mul_nonneg hc.1 hu.1
  have hin := FT_in (t := cl t 1 1000000000) ht.1 hP
  simp only [trackHead, want_eq, Option.bind_some]
  have big : governorlaw10_TrackGrows.j0 1 t c u m true (wrap64 m) (FT (cl t 1 1000000000) (cl c 0 1000 * cl u 0 1000000000)) true = some true := by
    simp only [governorlaw10_TrackGrows.j0, reduceIte]
    rw [if_pos hin.1, decide_eq_true hin.2]
  by_cases q1 : t > 1099511627776
  · rw [if_pos q1]; exact big
  · rw [if_neg q1]
    by_cases q2 : c > 1099511627776
    · rw [if_pos q2]; exact big
    · rw [if_neg q2]
      by_cases q3 : u > 1099511627776
      · rw [decide_eq_true q3]; exact big
      · rw [decide_eq_false q3]
        simp only [governorlaw10_TrackGrows.j0, Bool.false_eq_true, reduceIte, want_eq, Option.bind_some]
        rw [wr (n := m) (by omega) (by omega), wr (n := u + m) (by omega) (by omega), wr (n := c + m) (by omega) (by omega), wr (n := t + m) (by omega) (by omega)]
        have g1 := FT_mono (t := cl t 1 1000000000) ht.1 (Int.mul_le_mul_of_nonneg_left (cl_mono (lo := 0) (hi := 1000000000) (show u ≤ u + m by omega)) hc.1)
        have g2 := FT_mono (t := cl t 1 1000000000) ht.1 (Int.mul_le_mul_of_nonneg_right (cl_mono (lo := 0) (hi := 1000) (show c ≤ c + m by omega)) hu.1)
        have g3 := FT_anti (s := cl t 1 1000000000) ht.1 (cl_mono (lo := 1) (hi := 1000000000) (show t ≤ t + m by omega)) hP
        rw [if_pos hin.1, if_pos hin.2, if_pos g1, if_pos g2, decide_eq_true g3]
end Go.Proofs.Ytmdkcadngkbphaa.Pure
