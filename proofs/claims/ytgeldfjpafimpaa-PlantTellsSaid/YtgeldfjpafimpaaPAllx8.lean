-- laid by a program of this session (tprint.py) out of the translation and of texts typed by hand; Lean checks it
import Derived.Test.YtgeldfjpafimpaaPAllx0
import Derived.Test.YtgeldfjpafimpaaPAllx7
namespace Go.Proofs.Ytgeldfjpafimpaa.PAll
open Go.RowKit Go.Proofs.YtgeldfjpafimpaaW.PrintWords Go.Proofs.YtgeldfjpafimpaaW.PrintLast Go.Proofs.YtgeldfjpafimpaaW.PrintMore
attribute [local go_sem] max2_int min2_int max_two min_two max_three min_three max_four min_four   -- for this text's walks alone
set_option linter.unusedVariables false
set_option linter.unusedSimpArgs false

/-! ### fixed_two: function 57 -/
def mulI (a b : Int) : Int := Int.tdiv (a * b) 1000
def divI (a b : Int) : Int := if b = 0 then (if a = 0 then 0 else a * 1000000000) else Int.tdiv (a * 1000) b
theorem prod_in {a b : Int} (a0 : -1000000000 ≤ a) (a1 : a ≤ 1000000000) (b0 : -1000000000 ≤ b) (b1 : b ≤ 1000000000) : -1000000000000000000 ≤ a * b ∧ a * b ≤ 1000000000000000000 := by
  by_cases ha : 0 ≤ a
  · have h1 := Int.mul_le_mul_of_nonneg_left b1 ha
    have h2 := Int.mul_le_mul_of_nonneg_left b0 ha
    omega
  · have h1 := Int.mul_le_mul_of_nonneg_left b1 (show 0 ≤ -a by omega)
    have h2 := Int.mul_le_mul_of_nonneg_left b0 (show 0 ≤ -a by omega)
    rw [Int.neg_mul, Int.neg_mul] at h1 h2
    omega
/-- What 'two' asks of what it does. -/
def Does (f : Nat) (D : Int → Int → Int) : Prop := ∀ a b (w : World), -1000000000 ≤ a → a ≤ 1000000000 → -1000000000 ≤ b → b ≤ 1000000000 → Calls Try.prog f #[.int .i64 a, .int .i64 b] w fun e w' => e = .returned (.int .i64 (D a b)) ∧ Drawn0 w w'
theorem Does.run {f : Nat} {D : Int → Int → Int} (h : Does f D) (a b : Int) (w : World) (a0 : -1000000000 ≤ a) (a1 : a ≤ 1000000000) (b0 : -1000000000 ≤ b) (b1 : b ≤ 1000000000) : Calls Try.prog f #[.int .i64 a, .int .i64 b] w fun e w' => e = .returned (.int .i64 (D a b)) ∧ Drawn0 w w' := h a b w a0 a1 b0 b1
set_option maxHeartbeats 2000000 in
theorem two_any (f : Nat) (D : Int → Int → Int) (hD : Does f D) (hE : ∀ (args : Array Value) (W : World), (callFunc f args).run Try.prog W = .ok (.enter f args) W) (a b : Int) (w : World) : Calls Try.prog 57 #[.int .i64 a, .int .i64 b, .func (.func f) #[] #[]] w fun e w' => e = .returned (.int .i64 (satI (D (satI a) (satI b)))) ∧ Drawn0 w w' := by
  have h1 := satI_lo a
  have h2 := satI_hi a
  have h3 := satI_lo b
  have h4 := satI_hi b
  go_enter Try.func57, Try.ntmps57
  go_wp2_with (first | (go_at_call 41; (with_reducible refine (sat_any a _).mono ?_); rintro e w' ⟨rfl, ⟨_, rfl⟩⟩) | (go_at_call 41; (with_reducible refine (sat_any b _).mono ?_); rintro e w' ⟨rfl, ⟨_, rfl⟩⟩) | (go_at_call 41; (with_reducible refine (sat_any _ _).mono ?_); rintro e w' ⟨rfl, ⟨_, rfl⟩⟩) | ((with_reducible refine (Does.run hD _ _ _ h1 h2 h3 h4).mono ?_); rintro e w' ⟨rfl, ⟨_, rfl⟩⟩))
  go_ret
  exact ⟨rfl, by repeat (first | exact Drawn0.refl _ | apply Drawn0.step)⟩

end Go.Proofs.Ytgeldfjpafimpaa.PAll
