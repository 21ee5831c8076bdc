-- laid by a program of this session (tprint.py) out of the translation and of texts typed by hand; Lean checks it
import Derived.Test.YtgeldfjpafimpaaPAllx0
import Derived.Test.YtgeldfjpafimpaaPAllx3
namespace Go.Proofs.Ytgeldfjpafimpaa.PAll
open Go.RowKit Go.Proofs.YtgeldfjpafimpaaW.PrintWords Go.Proofs.YtgeldfjpafimpaaW.PrintLast Go.Proofs.YtgeldfjpafimpaaW.PrintMore
attribute [local go_sem] max2_int min2_int max_two min_two max_three min_three max_four min_four   -- for this text's walks alone
set_option linter.unusedVariables false
set_option linter.unusedSimpArgs false

/-! ### fixed_signed: function 88 -/
def nearI (n : Int) : Int := if n < 0 then -(Int.tdiv (-n + 500) 1000) else Int.tdiv (n + 500) 1000
set_option maxHeartbeats 2000000 in
theorem near1_any (n : Int) (w : World) (h0 : 0 ≤ n) (h1 : n ≤ 1000000000) : Calls Try.prog 89 #[.int .i64 n] w fun e w' => e = .returned (.int .i64 (Int.tdiv (n + 500) 1000)) ∧ Drawn0 w w' := by
  have e : Int.tdiv (n + 500) 1000 = (n + 500) / 1000 := Int.tdiv_eq_ediv_of_nonneg (by omega)
  rw [e]
  clear e
  go_enter Try.func89, Try.ntmps89
  go_wp2
  go_ret
  exact ⟨rfl, Drawn0.refl _⟩
set_option maxHeartbeats 4000000 in
theorem signed_any (n : Int) (w : World) : Calls Try.prog 88 #[.int .i64 n, .func (.func 89) #[] #[]] w fun e w' => e = .returned (.int .i64 (nearI (satI n))) ∧ Drawn0 w w' := by
  have h1 := satI_lo n
  have h2 := satI_hi n
  by_cases c : satI n < 0
  · have e : nearI (satI n) = -(Int.tdiv (-satI n + 500) 1000) := by unfold nearI; rw [if_pos c]
    rw [e]
    clear e
    have h3 : 0 ≤ Int.tdiv (-satI n + 500) 1000 := Int.tdiv_nonneg (by omega) (by omega)
    have h4 : Int.tdiv (-satI n + 500) 1000 ≤ 1000000 := by rw [Int.tdiv_eq_ediv_of_nonneg (by omega)]; omega
    go_enter Try.func88, Try.ntmps88
    go_wp2_with (first | (go_at_call 41; refine (sat_any n _).mono ?_; rintro e w' ⟨rfl, ⟨_, rfl⟩⟩) | (refine (near1_any _ _ (by omega) (by omega)).mono ?_; rintro e w' ⟨rfl, ⟨_, rfl⟩⟩))
    go_ret
    exact ⟨rfl, by repeat (first | exact Drawn0.refl _ | apply Drawn0.step)⟩
  · have e : nearI (satI n) = Int.tdiv (satI n + 500) 1000 := by unfold nearI; rw [if_neg c]
    rw [e]
    clear e
    have cb : decide (satI n < 0) = false := decide_eq_false c
    have c2 : 0 ≤ satI n := by omega
    clear c
    go_enter Try.func88, Try.ntmps88
    go_wp2_with (first | (go_at_call 41; refine (sat_any n _).mono ?_; rintro e w' ⟨rfl, ⟨_, rfl⟩⟩) | (refine (near1_any _ _ (by omega) (by omega)).mono ?_; rintro e w' ⟨rfl, ⟨_, rfl⟩⟩))
    go_ret
    exact ⟨rfl, by repeat (first | exact Drawn0.refl _ | apply Drawn0.step)⟩

end Go.Proofs.Ytgeldfjpafimpaa.PAll
