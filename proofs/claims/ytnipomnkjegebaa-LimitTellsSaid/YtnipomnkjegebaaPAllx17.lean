-- laid by a program of this session (tprint.py) out of the translation and of texts typed by hand; Lean checks it
import Derived.Test.YtnipomnkjegebaaPAllx0
namespace Go.Proofs.Ytnipomnkjegebaa.PAll
open Go.RowKit Go.Proofs.YtnipomnkjegebaaW.PrintWords Go.Proofs.YtnipomnkjegebaaW.PrintLast Go.Proofs.YtnipomnkjegebaaW.PrintMore
attribute [local go_sem] max2_int min2_int max_two min_two max_three min_three max_four min_four   -- for this text's walks alone
set_option linter.unusedVariables false
set_option linter.unusedSimpArgs false

/-! ### limit_within: function 32 -/
def limit_within.f (a0 : Int) (a1_0 : Int) (a1_1 : Int) (a1_2 : Int) (a1_3 : Int) : Option (Int) := some (mx a1_2 (mn (mx a1_0 (mn a0 a1_1)) a1_3))
def limStep (n a b c d : Int) (k : Int) : Int := if k = 0 then n else if k = 1 then mx a (mn n b) else mx c (mn (mx a (mn n b)) d)
set_option maxHeartbeats 2000000 in
set_option maxRecDepth 100000 in
theorem limit_within.calls (a0 : Int) (a1_0 : Int) (a1_1 : Int) (a1_2 : Int) (a1_3 : Int) (r : Int) (w : World) (h : limit_within.f a0 a1_0 a1_1 a1_2 a1_3 = some r) :
    Calls Try.prog 32 #[.int .i64 a0, .agg #[.int .i64 a1_0, .int .i64 a1_1, .int .i64 a1_2, .int .i64 a1_3]] w fun e w' => e = .returned (.int .i64 r) ∧ Below w.heap.size w w' := by
  have hu64 := Try.underlying64
  have hu63 := Try.underlying63
  have hx0 : ∀ W, (Instr.index 64 (.agg #[.int .i64 a1_0, .int .i64 a1_1, .int .i64 a1_2, .int .i64 a1_3]) (.int .i64 0)).run Try.prog W = .ok (.agg #[.int .i64 a1_0, .int .i64 a1_1]) W := fun W => by rfl
  have hx1 : ∀ W, (Instr.index 64 (.agg #[.int .i64 a1_0, .int .i64 a1_1, .int .i64 a1_2, .int .i64 a1_3]) (.int .i64 1)).run Try.prog W = .ok (.agg #[.int .i64 a1_2, .int .i64 a1_3]) W := fun W => by rfl
  obtain rfl := Option.some.inj h
  clear h
  go_enter Try.func32, Try.ntmps32
  go_wp2
  go_loopw [0, 8] (fun v i wr => ∃ (k x : Int), 0 ≤ k ∧ k ≤ 2 ∧ i = .int .i64 k ∧ v = .int .i64 x ∧ Aside0 (x = limStep a0 a1_0 a1_1 a1_2 a1_3 k) ∧ Below w.heap.size w wr) (fun _ i _ => (2 - intOf i).toNat)
  case atStart => exact ⟨0, a0, by omega, by omega, rfl, rfl, ⟨rfl⟩, (Below.refl _ w).alloc (Nat.le_refl _) _⟩
  case round =>
    obtain ⟨k, x, hk0, hk2, rfl, rfl, hx, hb⟩ := hrel
    have hbs := hb.size
    rcases (by omega : k = 0 ∨ k = 1 ∨ k = 2) with rfl | rfl | rfl
    · go_wp2
      go_roundw
      case rel => exact ⟨1, mx a1_0 (mn a0 a1_1), by omega, by omega, by first | rfl | simp, by first | rfl | (rw [hx.out]; rfl), ⟨rfl⟩, hb.alloc hbs _⟩
      case measure => simp [intOf]
    · go_wp2
      go_roundw
      case rel => exact ⟨2, mx a1_2 (mn (mx a1_0 (mn a0 a1_1)) a1_3), by omega, by omega, by first | rfl | simp, by first | rfl | (rw [hx.out]; rfl), ⟨rfl⟩, hb.alloc hbs _⟩
      case measure => simp [intOf]
    · go_wp2
      go_ret
      exact ⟨by rw [hx.out]; rfl, hb⟩

end Go.Proofs.Ytnipomnkjegebaa.PAll
