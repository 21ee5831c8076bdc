-- laid by a program of this session (tprint.py) out of the translation and of texts typed by hand; Lean checks it
import Derived.Test.YtgeldfjpafimpaaPAllx0
import Derived.Test.YtgeldfjpafimpaaPAllx3
import Derived.Test.YtgeldfjpafimpaaPAllx4
import Derived.Shelf.Abstract
namespace Go.Proofs.Ytgeldfjpafimpaa.PAll
open Go.RowKit Go.Proofs.YtgeldfjpafimpaaW.PrintWords Go.Proofs.YtgeldfjpafimpaaW.PrintLast Go.Proofs.YtgeldfjpafimpaaW.PrintMore
attribute [local go_sem] max2_int min2_int max_two min_two max_three min_three max_four min_four   -- for this text's walks alone
set_option linter.unusedVariables false
set_option linter.unusedSimpArgs false

/-! ### fixed_Sub: function 79 -/
set_option maxHeartbeats 2000000 in
theorem does_sub : Does 87 (fun a b => a - b) := by
  intro a b w a0 a1 b0 b1
  go_enter Try.func87, Try.ntmps87
  go_wp2
  go_ret
  exact ⟨rfl, Drawn0.refl _⟩
def fixed_Sub.f (a0 : Int) (a1 : Int) : Option (Int) := some (satI (satI a0 - satI a1))
set_option maxHeartbeats 2000000 in
theorem fixed_Sub.calls (a0 : Int) (a1 : Int) (r : Int) (w : World) (h : fixed_Sub.f a0 a1 = some r) :
    Calls Try.prog 79 #[.int .i64 a0, .int .i64 a1] w fun e w' => e = .returned (.int .i64 r) ∧ Drawn0 w w' := by
  obtain rfl := Option.some.inj h
  clear h
  go_enter Try.func79, Try.ntmps79
  go_wp2_with (go_at_call 57; refine (two_any _ _ does_sub (enters_of Try.func87 (by kernel_rfl) rfl) a0 a1 _).mono ?_; rintro e w' ⟨rfl, ⟨_, rfl⟩⟩)
  go_ret
  exact ⟨rfl, by repeat (first | exact Drawn0.refl _ | apply Drawn0.step)⟩

end Go.Proofs.Ytgeldfjpafimpaa.PAll
