-- laid by a program of this session (tprint.py) out of the translation and of texts typed by hand; Lean checks it
import Derived.Test.YtgeldfjpafimpaaPAllx0
namespace Go.Proofs.Ytgeldfjpafimpaa.PAll
open Go.RowKit Go.Proofs.YtgeldfjpafimpaaW.PrintWords Go.Proofs.YtgeldfjpafimpaaW.PrintLast Go.Proofs.YtgeldfjpafimpaaW.PrintMore
attribute [local go_sem] max2_int min2_int max_two min_two max_three min_three max_four min_four   -- for this text's walks alone
set_option linter.unusedVariables false
set_option linter.unusedSimpArgs false

/-! ### governorref09_none: function 61 -/
def noneB (tg kp ki kd pe lb ls : Int) (a1 a2 a3 a4 : Bool) : Bool := (!a1 || tg == 0) && ((!a2 || lb == 0) && ((!a3 || (kp == 0 && (ki == 0 && kd == 0))) && (!a4 || (pe == 0 && ls == 0))))
def governorref09_none.f (a0_0 : Int) (a0_1 : Int) (l0_2 : List (S83)) (a0_3 : Int) (a0_4 : Int) (a0_5 : Int) (a0_6 : Int) (l0_7 : List (S71)) (a1 : Bool) (a2 : Bool) (a3 : Bool) (a4 : Bool) : Option (Bool) :=
  some (noneB a0_1 a0_3 a0_4 a0_5 a0_6 (l0_2.length : Int) (l0_7.length : Int) a1 a2 a3 a4)
theorem nB1 (a : Bool) (x : Int) : a = false ∨ (a = true ∧ (x == 0) = true) ∨ (a = true ∧ (x == 0) = false) := by
  cases a <;> cases (x == 0) <;> simp
theorem nB2 (a : Bool) (x y : Int) : a = false ∨ (a = true ∧ (x == 0) = true ∧ (y == 0) = true) ∨ (a = true ∧ (x == 0) = true ∧ (y == 0) = false) ∨ (a = true ∧ (x == 0) = false) := by
  cases a <;> cases (x == 0) <;> cases (y == 0) <;> simp
theorem nB3 (a : Bool) (x y z : Int) : a = false ∨ (a = true ∧ (x == 0) = true ∧ (y == 0) = true ∧ (z == 0) = true) ∨ (a = true ∧ (x == 0) = true ∧ (y == 0) = true ∧ (z == 0) = false) ∨ (a = true ∧ (x == 0) = true ∧ (y == 0) = false) ∨ (a = true ∧ (x == 0) = false) := by
  cases a <;> cases (x == 0) <;> cases (y == 0) <;> cases (z == 0) <;> simp
set_option maxHeartbeats 8000000 in
set_option maxRecDepth 100000 in
theorem governorref09_none.calls (a0_0 : Int) (a0_1 : Int) (A0_2 : Option Addr) (c0_2 : Nat) (l0_2 : List (S83)) (a0_3 : Int) (a0_4 : Int) (a0_5 : Int) (a0_6 : Int) (A0_7 : Option Addr) (c0_7 : Nat) (l0_7 : List (S71)) (a1 : Bool) (a2 : Bool) (a3 : Bool) (a4 : Bool) (r : Bool) (w : World) (hr0_2 : Kd.C k83 w A0_2 l0_2.length l0_2) (hc0_2 : l0_2.length ≤ c0_2) (hr0_7 : Kd.C k71 w A0_7 l0_7.length l0_7) (hc0_7 : l0_7.length ≤ c0_7) (h : governorref09_none.f a0_0 a0_1 l0_2 a0_3 a0_4 a0_5 a0_6 l0_7 a1 a2 a3 a4 = some r) :
    Calls Try.prog 61 #[.agg #[.int .i64 a0_0, .int .i64 a0_1, .slice A0_2 l0_2.length c0_2, .int .i64 a0_3, .int .i64 a0_4, .int .i64 a0_5, .int .i64 a0_6, .slice A0_7 l0_7.length c0_7], .bool a1, .bool a2, .bool a3, .bool a4] w fun e w' => e = .returned (.bool r) ∧ Below w.heap.size w w' := by
  have hu45 := Try.underlying45
  obtain rfl := Option.some.inj h
  clear h hr0_2 hc0_2 hr0_7 hc0_7
  have HB := Aside0.mk (Below.refl w.heap.size w)
  rcases nB1 a1 a0_1 with rfl | ⟨rfl, q1⟩ | ⟨rfl, q1⟩
  rotate_left 2
  · go_enter Try.func61, Try.ntmps61; go_wp2; go_ret; exact ⟨by first | rfl | simp [noneB, *], by repeat (first | (with_reducible first | exact HB.out | apply below_alloc | apply pw_below_drewN | apply below_drew1) | exact HB.out)⟩
  all_goals
    rcases nB1 a2 (l0_2.length : Int) with rfl | ⟨rfl, q2⟩ | ⟨rfl, q2⟩
    rotate_left 2
    · go_enter Try.func61, Try.ntmps61; go_wp2; go_ret; exact ⟨by first | rfl | simp [noneB, *], by repeat (first | (with_reducible first | exact HB.out | apply below_alloc | apply pw_below_drewN | apply below_drew1) | exact HB.out)⟩
    all_goals
      rcases nB3 a3 a0_3 a0_4 a0_5 with rfl | ⟨rfl, q3, q4, q5⟩ | ⟨rfl, q3, q4, q5⟩ | ⟨rfl, q3, q4⟩ | ⟨rfl, q3⟩
      rotate_left 2
      · go_enter Try.func61, Try.ntmps61; go_wp2; go_ret; exact ⟨by first | rfl | simp [noneB, *], by repeat (first | (with_reducible first | exact HB.out | apply below_alloc | apply pw_below_drewN | apply below_drew1) | exact HB.out)⟩
      · go_enter Try.func61, Try.ntmps61; go_wp2; go_ret; exact ⟨by first | rfl | simp [noneB, *], by repeat (first | (with_reducible first | exact HB.out | apply below_alloc | apply pw_below_drewN | apply below_drew1) | exact HB.out)⟩
      · go_enter Try.func61, Try.ntmps61; go_wp2; go_ret; exact ⟨by first | rfl | simp [noneB, *], by repeat (first | (with_reducible first | exact HB.out | apply below_alloc | apply pw_below_drewN | apply below_drew1) | exact HB.out)⟩
      all_goals
        rcases nB2 a4 a0_6 (l0_7.length : Int) with rfl | ⟨rfl, q6, q7⟩ | ⟨rfl, q6, q7⟩ | ⟨rfl, q6⟩
        all_goals (go_enter Try.func61, Try.ntmps61; go_wp2; go_ret; exact ⟨by first | rfl | simp [noneB, *], by repeat (first | (with_reducible first | exact HB.out | apply below_alloc | apply pw_below_drewN | apply below_drew1) | exact HB.out)⟩)

end Go.Proofs.Ytgeldfjpafimpaa.PAll
