/- The law TrackTwice (P10.2): as many as are wanted want no more, of the load that they would have then: for every target, number and load. -/
import Derived.Test.YtmdkcadngkbphaaCNum
import Derived.Test.YtmdkcadngkbphaaCTrack
import Derived.Test.YtmdkcadngkbphaaPAllx0
import Derived.Test.YtmdkcadngkbphaaPAllx15
import Derived.Test.YtmdkcadngkbphaaWkTrackTwice
namespace Go.Proofs.Ytmdkcadngkbphaa.Pure
open Go.RowKit Go.Proofs.Ytmdkcadngkbphaa.PAll Go.Proofs.YtmdkcadngkbphaaW.PrintWords Go.Proofs.YtmdkcadngkbphaaW.PrintLast Go.Proofs.YtmdkcadngkbphaaW.PrintMore
set_option linter.unusedVariables false
set_option linter.unusedSimpArgs false
theorem TrackTwice : governorlaw10_TrackTwice.Pure := by
  intro a b d ha hb hd
  have a32 := wfu32 ha
  have b16 := wfu16 hb
  have d32 := wfu32 hd
  unfold governorlaw10_TrackTwice.f
  have h1 := tmod_bounds a 10000 (by decide)
  have h2 := tmod_bounds b 400 (by decide)
  have h3 : 0 ≤ Int.tmod a 10000 := Int.tmod_nonneg _ a32.1
  have h4 : 0 ≤ Int.tmod b 400 := Int.tmod_nonneg _ b16.1
  have h5 := tmod_bounds d 10000 (by decide)
  have h6 : 0 ≤ Int.tmod d 10000 := Int.tmod_nonneg _ d32.1
  rw [wr (n := a) (by omega) (by omega), wr (n := b) (by omega) (by omega), wr (n := d) (by omega) (by omega)]
  generalize Int.tmod d 10000 = u at h5 h6 ⊢
  rw [wr (n := 1 + Int.tmod a 10000) (by omega) (by omega), wr (n := 1 + Int.tmod b 400) (by omega) (by omega)]
  obtain ⟨t, ht⟩ : ∃ t, 1 + Int.tmod a 10000 = t := ⟨_, rfl⟩
  obtain ⟨c, hcc⟩ : ∃ c, 1 + Int.tmod b 400 = c := ⟨_, rfl⟩
  rw [ht, hcc]
  have t1 : 1 ≤ t ∧ t ≤ 10000 := by omega
  have c1 : 1 ≤ c ∧ c ≤ 400 := by omega
  have ec : cl c 0 1000 = c := by unfold cl mx mn; omega
  have et1 : cl t 1 1000000000 = t := by unfold cl mx mn; omega
  have eu : cl u 0 1000000000 = u := by unfold cl mx mn; omega
  simp only [trackHead, want_eq, Option.bind_some, reduceIte, ec, et1, eu]
  have hP : 0 ≤ c * u := Int.mul_nonneg (by omega) h6
  have hP2 : c * u ≤ 400 * 10000 := by
    have q1 : c * u ≤ 400 * u := Int.mul_le_mul_of_nonneg_right (by omega) h6
    omega
  have hin := FT_in (t := t) t1.1 hP
  by_cases q0 : FT t (c * u) = 0
  · rw [if_pos q0]
  · rw [if_neg q0]
    by_cases q1 : FT t (c * u) ≥ 1000
    · rw [if_pos q1]
    · rw [if_neg q1]
      obtain ⟨n, hn⟩ : ∃ n, FT t (c * u) = n := ⟨_, rfl⟩
      rw [hn] at q0 q1 hin ⊢
      rw [wr (n := c * u) (by omega) (by omega), tdiv_pos hP]
      have hd0 : 0 ≤ c * u / n := Int.ediv_nonneg hP hin.1
      have hlo := Int.mul_ediv_self_le (x := c * u) (k := n) q0
      have hdl : c * u / n ≤ c * u := Int.ediv_le_self _ hP
      rw [wr (n := c * u / n) (by omega) (by omega)]
      have en : cl n 0 1000 = n := by unfold cl mx mn; omega
      have ed : cl (c * u / n) 0 1000000000 = c * u / n := by unfold cl mx mn; omega
      rw [en, ed]
      have g := FT_mono (t := t) t1.1 hlo
      rw [hn] at g
      rw [decide_eq_true g]
end Go.Proofs.Ytmdkcadngkbphaa.Pure
