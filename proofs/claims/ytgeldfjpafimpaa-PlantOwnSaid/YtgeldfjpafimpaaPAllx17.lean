-- laid by a program of this session (tprint.py) out of the translation and of texts typed by hand; Lean checks it
import Derived.Test.YtgeldfjpafimpaaPAllx0
import Derived.Test.YtgeldfjpafimpaaPAllx16
namespace Go.Proofs.Ytgeldfjpafimpaa.PAll
open Go.RowKit Go.Proofs.YtgeldfjpafimpaaW.PrintWords Go.Proofs.YtgeldfjpafimpaaW.PrintLast Go.Proofs.YtgeldfjpafimpaaW.PrintMore
attribute [local go_sem] max2_int min2_int max_two min_two max_three min_three max_four min_four   -- for this text's walks alone
set_option linter.unusedVariables false
set_option linter.unusedSimpArgs false

/-! ### governorref09_Conf: function 16 -/
def wB (n lo hi : Int) : Bool := decide (lo ≤ n) && decide (n ≤ hi)
def cfSize (a0 a1 a2 : Int) : Bool := decide (1 ≤ a0) && (decide (a0 ≤ a1) && (decide (a1 ≤ 1000) && (decide (1 ≤ a2) && decide (a2 ≤ 1000))))
def cfPlant (a3 a4 a5 a6 : Int) : Bool := wB a3 0 1099511627776 && (wB a4 1 1000000 && (decide (0 ≤ a5) && (decide (a5 ≤ 8) && wB a6 0 1000000000)))
def cfJudge (a7 a8 a9 a10 a11 : Int) : Bool := decide (1 ≤ a7) && (decide (a7 ≤ 32) && (wB a8 0 1000000000 && (decide (0 ≤ a9) && (decide (a9 ≤ 32) && (decide (1 ≤ a10) && (decide (a10 ≤ 32) && (decide (0 ≤ a11) && decide (a11 ≤ 32))))))))
def governorref09_Conf.f (a0_0 : Int) (a0_1 : Int) (a0_2 : Int) (a0_3 : Int) (a0_4 : Int) (a0_5 : Int) (a0_6 : Int) (a0_7 : Int) (a0_8 : Int) (a0_9 : Int) (a0_10 : Int) (a0_11 : Int) : Option (Bool) :=
  some (cfSize a0_0 a0_1 a0_2 && (cfPlant a0_3 a0_4 a0_5 a0_6 && cfJudge a0_7 a0_8 a0_9 a0_10 a0_11))
theorem wB_any (n lo hi : Int) (w : World) : Calls Try.prog 36 #[.int .i64 n, .int .i64 lo, .int .i64 hi] w fun e w' => e = .returned (.bool (wB n lo hi)) ∧ Drawn0 w w' :=
  governorref09_within.calls n lo hi (wB n lo hi) w (by unfold governorref09_within.f wB; by_cases h : lo ≤ n <;> simp [h])
theorem wB_t {n lo hi : Int} (h : wB n lo hi = true) (w : World) : Calls Try.prog 36 #[.int .i64 n, .int .i64 lo, .int .i64 hi] w fun e w' => e = .returned (.bool true) ∧ Drawn0 w w' := h ▸ wB_any n lo hi w
theorem wB_f {n lo hi : Int} (h : wB n lo hi = false) (w : World) : Calls Try.prog 36 #[.int .i64 n, .int .i64 lo, .int .i64 hi] w fun e w' => e = .returned (.bool false) ∧ Drawn0 w w' := h ▸ wB_any n lo hi w
set_option maxHeartbeats 4000000 in
set_option maxRecDepth 100000 in
theorem governorref09_Conf.calls (a0_0 : Int) (a0_1 : Int) (a0_2 : Int) (a0_3 : Int) (a0_4 : Int) (a0_5 : Int) (a0_6 : Int) (a0_7 : Int) (a0_8 : Int) (a0_9 : Int) (a0_10 : Int) (a0_11 : Int) (r : Bool) (w : World) (h : governorref09_Conf.f a0_0 a0_1 a0_2 a0_3 a0_4 a0_5 a0_6 a0_7 a0_8 a0_9 a0_10 a0_11 = some r) :
    Calls Try.prog 16 #[.agg #[.int .i64 a0_0, .int .i64 a0_1, .int .i64 a0_2, .int .i64 a0_3, .int .i64 a0_4, .int .i64 a0_5, .int .i64 a0_6, .int .i64 a0_7, .int .i64 a0_8, .int .i64 a0_9, .int .i64 a0_10, .int .i64 a0_11]] w fun e w' => e = .returned (.bool r) ∧ Below w.heap.size w w' := by
  have hu37 := Try.underlying23
  obtain rfl := Option.some.inj h
  clear h
  go_enter Try.func16, Try.ntmps16
  go_upto_region 1 with (fail)
  go_cut [3] (fun s wx => s = .bool (cfSize a0_0 a0_1 a0_2) ∧ Drawn0 (w.alloc (.cells #[.int .i64 a0_0, .int .i64 a0_1, .int .i64 a0_2, .int .i64 a0_3, .int .i64 a0_4, .int .i64 a0_5, .int .i64 a0_6, .int .i64 a0_7, .int .i64 a0_8, .int .i64 a0_9, .int .i64 a0_10, .int .i64 a0_11] 23)) wx)
  case first =>
    cases c0 : decide (1 ≤ a0_0)
    case false => (go_wp2; go_meet; exact ⟨by simp [cfSize, *], by repeat (first | exact Drawn0.refl _ | apply Drawn0.step)⟩)
    case true =>
      cases c1 : decide (a0_0 ≤ a0_1)
      case false => (go_wp2; go_meet; exact ⟨by simp [cfSize, *], by repeat (first | exact Drawn0.refl _ | apply Drawn0.step)⟩)
      case true =>
        cases c2 : decide (a0_1 ≤ 1000)
        case false => (go_wp2; go_meet; exact ⟨by simp [cfSize, *], by repeat (first | exact Drawn0.refl _ | apply Drawn0.step)⟩)
        case true =>
          cases c3 : decide (1 ≤ a0_2)
          case false => (go_wp2; go_meet; exact ⟨by simp [cfSize, *], by repeat (first | exact Drawn0.refl _ | apply Drawn0.step)⟩)
          case true =>
            cases c4 : decide (a0_2 ≤ 1000)
            case false => (go_wp2; go_meet; exact ⟨by simp [cfSize, *], by repeat (first | exact Drawn0.refl _ | apply Drawn0.step)⟩)
            case true =>
              (go_wp2; go_meet; exact ⟨by simp [cfSize, *], by repeat (first | exact Drawn0.refl _ | apply Drawn0.step)⟩)
  case rest =>
    obtain ⟨rfl, ⟨n1, rfl⟩⟩ := hcut
    go_upto_region 2 with (fail)
    go_cut [4] (fun s wx => s = .bool (cfPlant a0_3 a0_4 a0_5 a0_6) ∧ Drawn0 (w.alloc (.cells #[.int .i64 a0_0, .int .i64 a0_1, .int .i64 a0_2, .int .i64 a0_3, .int .i64 a0_4, .int .i64 a0_5, .int .i64 a0_6, .int .i64 a0_7, .int .i64 a0_8, .int .i64 a0_9, .int .i64 a0_10, .int .i64 a0_11] 23)) wx)
    case first =>
      cases c0 : wB a0_3 0 1099511627776
      case false => (go_wp2_with (first | (go_at_call 36; (with_reducible refine (wB_t (by assumption) _).mono ?_); rintro e w' ⟨rfl, ⟨_, rfl⟩⟩) | (go_at_call 36; (with_reducible refine (wB_f (by assumption) _).mono ?_); rintro e w' ⟨rfl, ⟨_, rfl⟩⟩)); go_meet; exact ⟨by simp [cfPlant, *], by repeat (first | exact Drawn0.refl _ | apply Drawn0.step)⟩)
      case true =>
        cases c1 : wB a0_4 1 1000000
        case false => (go_wp2_with (first | (go_at_call 36; (with_reducible refine (wB_t (by assumption) _).mono ?_); rintro e w' ⟨rfl, ⟨_, rfl⟩⟩) | (go_at_call 36; (with_reducible refine (wB_f (by assumption) _).mono ?_); rintro e w' ⟨rfl, ⟨_, rfl⟩⟩)); go_meet; exact ⟨by simp [cfPlant, *], by repeat (first | exact Drawn0.refl _ | apply Drawn0.step)⟩)
        case true =>
          cases c2 : decide (0 ≤ a0_5)
          case false => (go_wp2_with (first | (go_at_call 36; (with_reducible refine (wB_t (by assumption) _).mono ?_); rintro e w' ⟨rfl, ⟨_, rfl⟩⟩) | (go_at_call 36; (with_reducible refine (wB_f (by assumption) _).mono ?_); rintro e w' ⟨rfl, ⟨_, rfl⟩⟩)); go_meet; exact ⟨by simp [cfPlant, *], by repeat (first | exact Drawn0.refl _ | apply Drawn0.step)⟩)
          case true =>
            cases c3 : decide (a0_5 ≤ 8)
            case false => (go_wp2_with (first | (go_at_call 36; (with_reducible refine (wB_t (by assumption) _).mono ?_); rintro e w' ⟨rfl, ⟨_, rfl⟩⟩) | (go_at_call 36; (with_reducible refine (wB_f (by assumption) _).mono ?_); rintro e w' ⟨rfl, ⟨_, rfl⟩⟩)); go_meet; exact ⟨by simp [cfPlant, *], by repeat (first | exact Drawn0.refl _ | apply Drawn0.step)⟩)
            case true =>
              cases c4 : wB a0_6 0 1000000000
              case false => (go_wp2_with (first | (go_at_call 36; (with_reducible refine (wB_t (by assumption) _).mono ?_); rintro e w' ⟨rfl, ⟨_, rfl⟩⟩) | (go_at_call 36; (with_reducible refine (wB_f (by assumption) _).mono ?_); rintro e w' ⟨rfl, ⟨_, rfl⟩⟩)); go_meet; exact ⟨by simp [cfPlant, *], by repeat (first | exact Drawn0.refl _ | apply Drawn0.step)⟩)
              case true =>
                (go_wp2_with (first | (go_at_call 36; (with_reducible refine (wB_t (by assumption) _).mono ?_); rintro e w' ⟨rfl, ⟨_, rfl⟩⟩) | (go_at_call 36; (with_reducible refine (wB_f (by assumption) _).mono ?_); rintro e w' ⟨rfl, ⟨_, rfl⟩⟩)); go_meet; exact ⟨by simp [cfPlant, *], by repeat (first | exact Drawn0.refl _ | apply Drawn0.step)⟩)
    case rest =>
      obtain ⟨rfl, ⟨n2, rfl⟩⟩ := hcut
      go_upto_region 3 with (fail)
      go_cut [5] (fun s wx => s = .bool (cfJudge a0_7 a0_8 a0_9 a0_10 a0_11) ∧ Drawn0 (w.alloc (.cells #[.int .i64 a0_0, .int .i64 a0_1, .int .i64 a0_2, .int .i64 a0_3, .int .i64 a0_4, .int .i64 a0_5, .int .i64 a0_6, .int .i64 a0_7, .int .i64 a0_8, .int .i64 a0_9, .int .i64 a0_10, .int .i64 a0_11] 23)) wx)
      case first =>
        cases c0 : decide (1 ≤ a0_7)
        case false => (go_wp2_with (first | (go_at_call 36; (with_reducible refine (wB_t (by assumption) _).mono ?_); rintro e w' ⟨rfl, ⟨_, rfl⟩⟩) | (go_at_call 36; (with_reducible refine (wB_f (by assumption) _).mono ?_); rintro e w' ⟨rfl, ⟨_, rfl⟩⟩)); go_meet; exact ⟨by simp [cfJudge, *], by repeat (first | exact Drawn0.refl _ | apply Drawn0.step)⟩)
        case true =>
          cases c1 : decide (a0_7 ≤ 32)
          case false => (go_wp2_with (first | (go_at_call 36; (with_reducible refine (wB_t (by assumption) _).mono ?_); rintro e w' ⟨rfl, ⟨_, rfl⟩⟩) | (go_at_call 36; (with_reducible refine (wB_f (by assumption) _).mono ?_); rintro e w' ⟨rfl, ⟨_, rfl⟩⟩)); go_meet; exact ⟨by simp [cfJudge, *], by repeat (first | exact Drawn0.refl _ | apply Drawn0.step)⟩)
          case true =>
            cases c2 : wB a0_8 0 1000000000
            case false => (go_wp2_with (first | (go_at_call 36; (with_reducible refine (wB_t (by assumption) _).mono ?_); rintro e w' ⟨rfl, ⟨_, rfl⟩⟩) | (go_at_call 36; (with_reducible refine (wB_f (by assumption) _).mono ?_); rintro e w' ⟨rfl, ⟨_, rfl⟩⟩)); go_meet; exact ⟨by simp [cfJudge, *], by repeat (first | exact Drawn0.refl _ | apply Drawn0.step)⟩)
            case true =>
              cases c3 : decide (0 ≤ a0_9)
              case false => (go_wp2_with (first | (go_at_call 36; (with_reducible refine (wB_t (by assumption) _).mono ?_); rintro e w' ⟨rfl, ⟨_, rfl⟩⟩) | (go_at_call 36; (with_reducible refine (wB_f (by assumption) _).mono ?_); rintro e w' ⟨rfl, ⟨_, rfl⟩⟩)); go_meet; exact ⟨by simp [cfJudge, *], by repeat (first | exact Drawn0.refl _ | apply Drawn0.step)⟩)
              case true =>
                cases c4 : decide (a0_9 ≤ 32)
                case false => (go_wp2_with (first | (go_at_call 36; (with_reducible refine (wB_t (by assumption) _).mono ?_); rintro e w' ⟨rfl, ⟨_, rfl⟩⟩) | (go_at_call 36; (with_reducible refine (wB_f (by assumption) _).mono ?_); rintro e w' ⟨rfl, ⟨_, rfl⟩⟩)); go_meet; exact ⟨by simp [cfJudge, *], by repeat (first | exact Drawn0.refl _ | apply Drawn0.step)⟩)
                case true =>
                  cases c5 : decide (1 ≤ a0_10)
                  case false => (go_wp2_with (first | (go_at_call 36; (with_reducible refine (wB_t (by assumption) _).mono ?_); rintro e w' ⟨rfl, ⟨_, rfl⟩⟩) | (go_at_call 36; (with_reducible refine (wB_f (by assumption) _).mono ?_); rintro e w' ⟨rfl, ⟨_, rfl⟩⟩)); go_meet; exact ⟨by simp [cfJudge, *], by repeat (first | exact Drawn0.refl _ | apply Drawn0.step)⟩)
                  case true =>
                    cases c6 : decide (a0_10 ≤ 32)
                    case false => (go_wp2_with (first | (go_at_call 36; (with_reducible refine (wB_t (by assumption) _).mono ?_); rintro e w' ⟨rfl, ⟨_, rfl⟩⟩) | (go_at_call 36; (with_reducible refine (wB_f (by assumption) _).mono ?_); rintro e w' ⟨rfl, ⟨_, rfl⟩⟩)); go_meet; exact ⟨by simp [cfJudge, *], by repeat (first | exact Drawn0.refl _ | apply Drawn0.step)⟩)
                    case true =>
                      cases c7 : decide (0 ≤ a0_11)
                      case false => (go_wp2_with (first | (go_at_call 36; (with_reducible refine (wB_t (by assumption) _).mono ?_); rintro e w' ⟨rfl, ⟨_, rfl⟩⟩) | (go_at_call 36; (with_reducible refine (wB_f (by assumption) _).mono ?_); rintro e w' ⟨rfl, ⟨_, rfl⟩⟩)); go_meet; exact ⟨by simp [cfJudge, *], by repeat (first | exact Drawn0.refl _ | apply Drawn0.step)⟩)
                      case true =>
                        cases c8 : decide (a0_11 ≤ 32)
                        case false => (go_wp2_with (first | (go_at_call 36; (with_reducible refine (wB_t (by assumption) _).mono ?_); rintro e w' ⟨rfl, ⟨_, rfl⟩⟩) | (go_at_call 36; (with_reducible refine (wB_f (by assumption) _).mono ?_); rintro e w' ⟨rfl, ⟨_, rfl⟩⟩)); go_meet; exact ⟨by simp [cfJudge, *], by repeat (first | exact Drawn0.refl _ | apply Drawn0.step)⟩)
                        case true =>
                          (go_wp2_with (first | (go_at_call 36; (with_reducible refine (wB_t (by assumption) _).mono ?_); rintro e w' ⟨rfl, ⟨_, rfl⟩⟩) | (go_at_call 36; (with_reducible refine (wB_f (by assumption) _).mono ?_); rintro e w' ⟨rfl, ⟨_, rfl⟩⟩)); go_meet; exact ⟨by simp [cfJudge, *], by repeat (first | exact Drawn0.refl _ | apply Drawn0.step)⟩)
      case rest =>
        obtain ⟨rfl, ⟨n3, rfl⟩⟩ := hcut
        cases b1 : cfSize a0_0 a0_1 a0_2
        case false => (go_wp2; go_ret; exact ⟨by simp [*], by repeat (first | exact (Below.refl _ w).alloc (Nat.le_refl _) _ | apply pw_below_drewN)⟩)
        case true =>
          cases b2 : cfPlant a0_3 a0_4 a0_5 a0_6
          case false => (go_wp2; go_ret; exact ⟨by simp [*], by repeat (first | exact (Below.refl _ w).alloc (Nat.le_refl _) _ | apply pw_below_drewN)⟩)
          case true => (go_wp2; go_ret; exact ⟨by simp [*], by repeat (first | exact (Below.refl _ w).alloc (Nat.le_refl _) _ | apply pw_below_drewN)⟩)

end Go.Proofs.Ytgeldfjpafimpaa.PAll
