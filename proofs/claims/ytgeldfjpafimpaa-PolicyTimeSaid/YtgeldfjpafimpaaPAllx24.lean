-- laid by a program of this session (tprint.py) out of the translation and of texts typed by hand; Lean checks it
import Derived.Test.YtgeldfjpafimpaaPAllx0
import Derived.Test.YtgeldfjpafimpaaPAllx23
namespace Go.Proofs.Ytgeldfjpafimpaa.PAll
open Go.RowKit Go.Proofs.YtgeldfjpafimpaaW.PrintWords Go.Proofs.YtgeldfjpafimpaaW.PrintLast Go.Proofs.YtgeldfjpafimpaaW.PrintMore
attribute [local go_sem] max2_int min2_int max_two min_two max_three min_three max_four min_four   -- for this text's walks alone
set_option linter.unusedVariables false
set_option linter.unusedSimpArgs false

/-! ### step_Find: function 78 -/
def step_Find.f (l0 : List (S83)) (a1 : Int) : Option (Int) := if SortedS l0 then some (findS l0 a1) else none
theorem findS_in (l : List S83) (u : Int) : -1 ≤ findS l u ∧ findS l u < (l.length : Int) := by
  have := List.length_filter_le (fun b : S83 => decide (b.f0 ≤ u)) l
  unfold findS
  omega
set_option maxHeartbeats 2000000 in
theorem step_Find.calls (A0 : Option Addr) (c0 : Nat) (l0 : List (S83)) (a1 : Int) (r : Int) (w : World) (hr0 : Kd.C k83 w A0 l0.length l0) (hc0 : l0.length ≤ c0) (h : step_Find.f l0 a1 = some r) :
    Calls Try.prog 78 #[.slice A0 l0.length c0, .int .i64 a1] w fun e w' => e = .returned (.int .i64 r) ∧ Below w.heap.size w w' := by
  unfold step_Find.f at h
  by_cases hs0 : SortedS l0
  · rw [if_pos hs0] at h
    obtain rfl := Option.some.inj h
    clear h
    have hl := hs0.1
    have hs := Aside0.mk hs0
    have HR := Aside0.mk hr0
    have hi := findS_in l0 a1
    have h1 : -1 ≤ findS l0 a1 := hi.1
    have h2 : findS l0 a1 ≤ 1000 := by omega
    clear hs0 hr0 hi
    go_enter Try.func78, Try.ntmps78
    go_wp2_with (go_at_call 85; refine (bs_any A0 c0 l0 a1 _ HR.out hs.out).mono ?_; rintro e w' ⟨rfl, hb⟩)
    go_ret
    exact ⟨rfl, hb⟩
  · rw [if_neg hs0] at h
    cases h

end Go.Proofs.Ytgeldfjpafimpaa.PAll
