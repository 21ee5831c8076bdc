-- laid by a program of this session (tprint.py) out of the translation and of texts typed by hand; Lean checks it
import Derived.Test.YtgeldfjpafimpaaPAllx0
namespace Go.Proofs.Ytgeldfjpafimpaa.PAll
open Go.RowKit Go.Proofs.YtgeldfjpafimpaaW.PrintWords Go.Proofs.YtgeldfjpafimpaaW.PrintLast Go.Proofs.YtgeldfjpafimpaaW.PrintMore
attribute [local go_sem] max2_int min2_int max_two min_two max_three min_three max_four min_four   -- for this text's walks alone
set_option linter.unusedVariables false
set_option linter.unusedSimpArgs false

/-! ### fixed_Sat: function 41 -/
def satI (n : Int) : Int := mx (-1000000000) (mn 1000000000 n)
theorem satI_lo (n : Int) : -1000000000 ≤ satI n := by unfold satI mx mn; omega
theorem satI_hi (n : Int) : satI n ≤ 1000000000 := by unfold satI mx mn; omega
theorem satI_in {n : Int} (h0 : -1000000000 ≤ n) (h1 : n ≤ 1000000000) : satI n = n := by unfold satI mx mn; omega
def fixed_Sat.f (a0 : Int) : Option (Int) := some (satI a0)
set_option maxHeartbeats 2000000 in
theorem sat_any (n : Int) (w : World) : Calls Try.prog 41 #[.int .i64 n] w fun e w' => e = .returned (.int .i64 (satI n)) ∧ Drawn0 w w' := by
  obtain ⟨m, hm⟩ : ∃ m, mn 1000000000 n = m := ⟨_, rfl⟩
  have hm' : (if n < 1000000000 then n else 1000000000) = m := hm
  obtain ⟨s, hs⟩ : ∃ s, satI n = s := ⟨_, rfl⟩
  have hs' : (if -1000000000 < m then m else -1000000000) = s := by rw [← hs, ← hm]; rfl
  rw [hs]
  clear hm hs
  go_enter Try.func41, Try.ntmps41
  go_wp2
  go_ret
  exact ⟨rfl, by repeat (first | exact Drawn0.refl _ | apply Drawn0.step)⟩
theorem fixed_Sat.calls (a0 : Int) (r : Int) (w : World) (h : fixed_Sat.f a0 = some r) :
    Calls Try.prog 41 #[.int .i64 a0] w fun e w' => e = .returned (.int .i64 r) ∧ Drawn0 w w' := by
  obtain rfl := Option.some.inj h
  exact sat_any a0 w

end Go.Proofs.Ytgeldfjpafimpaa.PAll
