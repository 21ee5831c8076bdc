-- laid by a program of this session (tprint.py) out of the translation and of texts typed by hand; Lean checks it
import Derived.Test.YtgeldfjpafimpaaPAllx0
import Derived.Test.YtgeldfjpafimpaaPAllx23
import Derived.Test.YtgeldfjpafimpaaPAllx24
namespace Go.Proofs.Ytgeldfjpafimpaa.PAll
open Go.RowKit Go.Proofs.YtgeldfjpafimpaaW.PrintWords Go.Proofs.YtgeldfjpafimpaaW.PrintLast Go.Proofs.YtgeldfjpafimpaaW.PrintMore
attribute [local go_sem] max2_int min2_int max_two min_two max_three min_three max_four min_four   -- for this text's walks alone
set_option linter.unusedVariables false
set_option linter.unusedSimpArgs false

/-! ### step_Want: function 67 -/
def cl0 (n : Int) : Int := mx 0 (mn n 1000)
def step_Want.f (l0 : List (S83)) (a1 : Int) (a2 : Int) : Option (Int) := if SortedS l0 then some (if findS l0 a2 ≥ 0 then cl0 (wrap64 (cl0 a1 + (rd_T83 l0 (findS l0 a2)).f1)) else cl0 a1) else none
set_option maxHeartbeats 2000000 in
theorem stepInto_any (n : Int) (w : World) : Calls Try.prog 77 #[.int .i64 n] w fun e w' => e = .returned (.int .i64 (cl0 n)) ∧ Drawn0 w w' := by
  obtain ⟨m, hm⟩ : ∃ m, mn n 1000 = m := ⟨_, rfl⟩
  have hm' : (if 1000 < n then 1000 else n) = m := hm
  obtain ⟨s, hs⟩ : ∃ s, cl0 n = s := ⟨_, rfl⟩
  have hs' : (if 0 < m then m else 0) = s := by rw [← hs, ← hm]; rfl
  rw [hs]
  clear hm hs
  go_enter Try.func77, Try.ntmps77
  go_wp2
  go_ret
  exact ⟨rfl, by repeat (first | exact Drawn0.refl _ | apply Drawn0.step)⟩
set_option maxHeartbeats 4000000 in
set_option maxRecDepth 100000 in
theorem step_Want.calls (A0 : Option Addr) (c0 : Nat) (l0 : List (S83)) (a1 : Int) (a2 : Int) (r : Int) (w : World) (hr0 : Kd.C k83 w A0 l0.length l0) (hc0 : l0.length ≤ c0) (h : step_Want.f l0 a1 a2 = some r) :
    Calls Try.prog 67 #[.slice A0 l0.length c0, .int .i64 a1, .int .i64 a2] w fun e w' => e = .returned (.int .i64 r) ∧ Below w.heap.size w w' := by
  have hu := Try.underlying83
  unfold step_Want.f at h
  by_cases hs0 : SortedS l0
  · rw [if_pos hs0] at h
    obtain ⟨i, hi⟩ : ∃ i, findS l0 a2 = i := ⟨_, rfl⟩
    have hin := findS_in l0 a2
    rw [hi] at h hin
    have hf := Aside0.mk (show step_Find.f l0 a2 = some i by unfold step_Find.f; rw [if_pos hs0, hi])
    have hr := Option.some.inj h
    have HR := Aside0.mk hr0
    have HC := Aside0.mk hc0
    have hl := hs0.1
    clear h hs0 hr0 hi hc0
    by_cases c : i ≥ 0
    · rw [if_pos c] at hr
      have hr' := Aside0.mk hr
      clear hr
      have c' : 0 ≤ i := c
      have hil : i < (l0.length : Int) := hin.2
      clear hin c
      go_enter Try.func67, Try.ntmps67
      go_wp2_with (first
        | (go_at_call 77; (with_reducible refine (stepInto_any a1 _).mono ?_); rintro e w' ⟨rfl, ⟨nd, rfl⟩⟩)
        | (go_at_call 78; refine (step_Find.calls A0 c0 l0 a2 i _ (Kd.C_below HR.out (pw_below_drewN (Below.refl _ w) nd)) HC.out hf.out).mono ?_; rintro e w1 ⟨rfl, hb⟩; have hbb := Aside0.mk (Below.trans (pw_below_drewN (Below.refl _ w) nd) hb); have hr1 := Kd.C_below HR.out hbb.out; obtain ⟨ad, e, hx0, hx1⟩ := at_T83 hr1 i c' hil; cases e)
        | (go_at_call 77; (with_reducible refine (stepInto_any _ _).mono ?_); rintro e w' ⟨rfl, ⟨nd2, rfl⟩⟩))
      go_ret
      exact ⟨by rw [← hr'.out]; rfl, pw_below_drewN hbb.out _⟩
    · rw [if_neg c] at hr
      subst hr
      have hi1 : i = -1 := by omega
      subst hi1
      clear c hin
      go_enter Try.func67, Try.ntmps67
      go_wp2_with (first
        | (go_at_call 77; (with_reducible refine (stepInto_any a1 _).mono ?_); rintro e w' ⟨rfl, ⟨nd, rfl⟩⟩)
        | (go_at_call 78; refine (step_Find.calls A0 c0 l0 a2 (-1) _ (Kd.C_below HR.out (pw_below_drewN (Below.refl _ w) nd)) HC.out hf.out).mono ?_; rintro e w1 ⟨rfl, hb⟩; have hbb := Aside0.mk (Below.trans (pw_below_drewN (Below.refl _ w) nd) hb)))
      go_ret
      exact ⟨rfl, hbb.out⟩
  · rw [if_neg hs0] at h
    cases h

end Go.Proofs.Ytgeldfjpafimpaa.PAll
