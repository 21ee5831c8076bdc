/- The law TrackRests (P10.3): at the load that is to be as many are wanted as there are; at half of it at most so many, at twice at least: for every 32 bit target and 16 bit number. -/
import Derived.Test.YtmdkcadngkbphaaCNum
import Derived.Test.YtmdkcadngkbphaaCTrack
import Derived.Test.YtmdkcadngkbphaaPAllx0
import Derived.Test.YtmdkcadngkbphaaPAllx12
import Derived.Test.YtmdkcadngkbphaaWkTrackRests
namespace Go.Proofs.Ytmdkcadngkbphaa.Pure
open Go.RowKit Go.Proofs.Ytmdkcadngkbphaa.PAll Go.Proofs.YtmdkcadngkbphaaW.PrintWords Go.Proofs.YtmdkcadngkbphaaW.PrintLast Go.Proofs.YtmdkcadngkbphaaW.PrintMore
set_option linter.unusedVariables false
set_option linter.unusedSimpArgs false
theorem TrackRests : governorlaw10_TrackRests.Pure := by
  intro a b ha hb
  have a32 := wfu32 ha
  have b16 := wfu16 hb
  unfold governorlaw10_TrackRests.f
  have h1 := tmod_bounds a 10000 (by decide)
  have h2 := tmod_bounds b 1001 (by decide)
  have h3 : 0 ≤ Int.tmod a 10000 := Int.tmod_nonneg _ a32.1
  have h4 : 0 ≤ Int.tmod b 1001 := Int.tmod_nonneg _ b16.1
  rw [wr (n := a) (by omega) (by omega), wr (n := b) (by omega) (by omega)]
  generalize Int.tmod b 1001 = c at h2 h4 ⊢
  rw [wr (n := 1 + Int.tmod a 10000) (by omega) (by omega)]
  obtain ⟨t, ht⟩ : ∃ t, 1 + Int.tmod a 10000 = t := ⟨_, rfl⟩
  rw [ht]
  have t1 : 1 ≤ t ∧ t ≤ 10000 := by omega
  rw [wr (n := 2 * t) (by omega) (by omega), tdiv_pos (by omega), wr (n := t / 2) (by omega) (by omega)]
  have ec : cl c 0 1000 = c := by unfold cl mx mn; omega
  have et : cl t 0 1000000000 = t := by unfold cl mx mn; omega
  have et1 : cl t 1 1000000000 = t := by unfold cl mx mn; omega
  have e2 : cl (2 * t) 0 1000000000 = 2 * t := by unfold cl mx mn; omega
  have eh : cl (t / 2) 0 1000000000 = t / 2 := by unfold cl mx mn; omega
  simp only [trackHead, want_eq, Option.bind_some, reduceIte, ec, et, et1, e2, eh]
  have hP : 0 ≤ c * t := Int.mul_nonneg h4 (by omega)
  have hP2 : c * t ≤ 1000 * 10000 := by
    have q1 : c * t ≤ 1000 * t := Int.mul_le_mul_of_nonneg_right (by omega) (by omega)
    omega
  have key : FT t (c * t) = c := by
    unfold FT
    have e5 : mn (c * t) 1000000000 = c * t := by unfold mn; omega
    rw [e5, show c * t * 1000 = c * 1000 * t by rw [Int.mul_assoc, Int.mul_comm t 1000, ← Int.mul_assoc], Int.mul_ediv_cancel _ (by omega)]
    unfold upI mn
    omega
  have g1 := FT_mono (t := t) t1.1 (Int.mul_le_mul_of_nonneg_left (show t / 2 ≤ t by omega) h4)
  have g2 := FT_mono (t := t) t1.1 (Int.mul_le_mul_of_nonneg_left (show t ≤ 2 * t by omega) h4)
  rw [key] at g1 g2
  rw [if_pos key, if_pos g1, decide_eq_true g2]
end Go.Proofs.Ytmdkcadngkbphaa.Pure
