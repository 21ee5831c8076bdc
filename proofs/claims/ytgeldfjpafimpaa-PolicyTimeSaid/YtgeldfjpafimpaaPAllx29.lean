-- laid by a program of this session (tprint.py) out of the translation and of texts typed by hand; Lean checks it
import Derived.Test.YtgeldfjpafimpaaPAllx0
import Derived.Test.YtgeldfjpafimpaaPAllx3
import Derived.Test.YtgeldfjpafimpaaPAllx28
namespace Go.Proofs.Ytgeldfjpafimpaa.PAll
open Go.RowKit Go.Proofs.YtgeldfjpafimpaaW.PrintWords Go.Proofs.YtgeldfjpafimpaaW.PrintLast Go.Proofs.YtgeldfjpafimpaaW.PrintMore
attribute [local go_sem] max2_int min2_int max_two min_two max_three min_three max_four min_four   -- for this text's walks alone
set_option linter.unusedVariables false
set_option linter.unusedSimpArgs false

/-! ### fixed_Near: function 80 -/
def fixed_Near.f (a0 : Int) : Option (Int) := some (nearI (satI a0))
set_option maxHeartbeats 2000000 in
theorem fixed_Near.calls (a0 : Int) (r : Int) (w : World) (h : fixed_Near.f a0 = some r) :
    Calls Try.prog 80 #[.int .i64 a0] w fun e w' => e = .returned (.int .i64 r) ∧ Drawn0 w w' := by
  obtain rfl := Option.some.inj h
  clear h
  go_enter Try.func80, Try.ntmps80
  go_wp2_with (go_at_call 88; refine (signed_any a0 _).mono ?_; rintro e w' ⟨rfl, ⟨_, rfl⟩⟩)
  go_ret
  exact ⟨rfl, by repeat (first | exact Drawn0.refl _ | apply Drawn0.step)⟩

end Go.Proofs.Ytgeldfjpafimpaa.PAll
