-- laid by a program of this session (tprint.py) out of the translation and of texts typed by hand; Lean checks it
import Derived.Test.YtgeldfjpafimpaaPAllx0
import Derived.Test.YtgeldfjpafimpaaPAllx7
import Derived.Test.YtgeldfjpafimpaaPAllx8
import Derived.Shelf.Abstract
namespace Go.Proofs.Ytgeldfjpafimpaa.PAll
open Go.RowKit Go.Proofs.YtgeldfjpafimpaaW.PrintWords Go.Proofs.YtgeldfjpafimpaaW.PrintLast Go.Proofs.YtgeldfjpafimpaaW.PrintMore
attribute [local go_sem] max2_int min2_int max_two min_two max_three min_three max_four min_four   -- for this text's walks alone
set_option linter.unusedVariables false
set_option linter.unusedSimpArgs false

/-! ### fixed_Div: function 42 -/
theorem tdiv_in {x b N : Int} (h0 : -N ≤ x) (h1 : x ≤ N) : -N ≤ Int.tdiv x b ∧ Int.tdiv x b ≤ N := by
  have h := Int.natAbs_tdiv x b
  have h2 : (Int.tdiv x b).natAbs ≤ x.natAbs := by rw [h]; exact Nat.div_le_self _ _
  omega
set_option maxHeartbeats 2000000 in
theorem does_div : Does 59 divI := by
  intro a b w a0 a1 b0 b1
  by_cases c : b = 0
  · subst c
    by_cases c2 : a = 0
    · subst c2
      go_enter Try.func59, Try.ntmps59
      go_wp2
      go_ret
      exact ⟨rfl, Drawn0.refl _⟩
    · have c2b : (a == 0) = false := beq_eq_false_iff_ne.mpr c2
      have e : divI a 0 = a * 1000000000 := by unfold divI; rw [if_pos rfl, if_neg c2]
      rw [e]
      clear e c2
      go_enter Try.func59, Try.ntmps59
      go_wp2
      go_ret
      exact ⟨rfl, Drawn0.refl _⟩
  · have cb : (b != 0) = true := bne_iff_ne.mpr c
    have cb' : (b == 0) = false := beq_eq_false_iff_ne.mpr c
    have e : divI a b = Int.tdiv (a * 1000) b := by unfold divI; rw [if_neg c]
    have hne := Aside0.mk c
    have hin := tdiv_in (b := b) (N := 1000000000000) (show -1000000000000 ≤ a * 1000 by omega) (by omega)
    have hw := Aside0.mk (show wrap64 (Int.tdiv (a * 1000) b) = Int.tdiv (a * 1000) b by unfold wrap64; omega)
    clear hin
    rw [e]
    clear e
    go_enter Try.func59, Try.ntmps59
    go_wp2
    go_ret
    exact ⟨congrArg (fun x => Ending.returned (.int .i64 x)) hw.out, Drawn0.refl _⟩
def fixed_Div.f (a0 : Int) (a1 : Int) : Option (Int) := some (satI (divI (satI a0) (satI a1)))
set_option maxHeartbeats 2000000 in
theorem fixed_Div.calls (a0 : Int) (a1 : Int) (r : Int) (w : World) (h : fixed_Div.f a0 a1 = some r) :
    Calls Try.prog 42 #[.int .i64 a0, .int .i64 a1] w fun e w' => e = .returned (.int .i64 r) ∧ Drawn0 w w' := by
  obtain rfl := Option.some.inj h
  clear h
  go_enter Try.func42, Try.ntmps42
  go_wp2_with (go_at_call 57; refine (two_any _ _ does_div (enters_of Try.func59 (by kernel_rfl) rfl) a0 a1 _).mono ?_; rintro e w' ⟨rfl, ⟨_, rfl⟩⟩)
  go_ret
  exact ⟨rfl, by repeat (first | exact Drawn0.refl _ | apply Drawn0.step)⟩

end Go.Proofs.Ytgeldfjpafimpaa.PAll
