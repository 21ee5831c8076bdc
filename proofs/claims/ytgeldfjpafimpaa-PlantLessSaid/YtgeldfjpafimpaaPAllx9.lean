-- laid by a program of this session (tprint.py) out of the translation and of texts typed by hand; Lean checks it
import Derived.Test.YtgeldfjpafimpaaPAllx0
import Derived.Test.YtgeldfjpafimpaaPAllx7
import Derived.Test.YtgeldfjpafimpaaPAllx8
import Derived.Shelf.Abstract
namespace Go.Proofs.Ytgeldfjpafimpaa.PAll
open Go.RowKit Go.Proofs.YtgeldfjpafimpaaW.PrintWords Go.Proofs.YtgeldfjpafimpaaW.PrintLast Go.Proofs.YtgeldfjpafimpaaW.PrintMore
attribute [local go_sem] max2_int min2_int max_two min_two max_three min_three max_four min_four   -- for this text's walks alone
set_option linter.unusedVariables false
set_option linter.unusedSimpArgs false

/-! ### fixed_Add: function 40 -/
set_option maxHeartbeats 2000000 in
theorem does_add : Does 58 (fun a b => a + b) := by
  intro a b w a0 a1 b0 b1
  go_enter Try.func58, Try.ntmps58
  go_wp2
  go_ret
  exact ⟨rfl, Drawn0.refl _⟩
def fixed_Add.f (a0 : Int) (a1 : Int) : Option (Int) := some (satI (satI a0 + satI a1))
set_option maxHeartbeats 2000000 in
theorem fixed_Add.calls (a0 : Int) (a1 : Int) (r : Int) (w : World) (h : fixed_Add.f a0 a1 = some r) :
    Calls Try.prog 40 #[.int .i64 a0, .int .i64 a1] w fun e w' => e = .returned (.int .i64 r) ∧ Drawn0 w w' := by
  obtain rfl := Option.some.inj h
  clear h
  go_enter Try.func40, Try.ntmps40
  go_wp2_with (go_at_call 57; refine (two_any _ _ does_add (enters_of Try.func58 (by kernel_rfl) rfl) a0 a1 _).mono ?_; rintro e w' ⟨rfl, ⟨_, rfl⟩⟩)
  go_ret
  exact ⟨rfl, by repeat (first | exact Drawn0.refl _ | apply Drawn0.step)⟩

end Go.Proofs.Ytgeldfjpafimpaa.PAll
