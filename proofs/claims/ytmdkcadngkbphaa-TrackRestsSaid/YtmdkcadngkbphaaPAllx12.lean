-- laid by a program of this session (tprint.py) out of the translation and of texts typed by hand; Lean checks it
import Derived.Test.YtmdkcadngkbphaaPAllx0
import Derived.Test.YtmdkcadngkbphaaPAllx6
import Derived.Test.YtmdkcadngkbphaaPAllx7
namespace Go.Proofs.Ytmdkcadngkbphaa.PAll
open Go.RowKit Go.Proofs.YtmdkcadngkbphaaW.PrintWords Go.Proofs.YtmdkcadngkbphaaW.PrintLast Go.Proofs.YtmdkcadngkbphaaW.PrintMore
attribute [local go_sem] max2_int min2_int max_two min_two max_three min_three max_four min_four   -- for this text's walks alone
set_option linter.unusedVariables false
set_option linter.unusedSimpArgs false

/-! ### governorlaw10_TrackRests: function 5 -/
def governorlaw10_TrackRests.f (a0 : Int) (a1 : Int) : Option (Bool) := (governorlaw10_head.f).bind fun t133 => (if t133 = true then ((track_Want.f (wrap64 (1 + (Int.tmod (wrap64 (a0)) 10000))) (Int.tmod (wrap64 (a1)) 1001) (wrap64 (1 + (Int.tmod (wrap64 (a0)) 10000)))).bind fun t134 => (if t134 = (Int.tmod (wrap64 (a1)) 1001) then ((track_Want.f (wrap64 (1 + (Int.tmod (wrap64 (a0)) 10000))) (Int.tmod (wrap64 (a1)) 1001) (wrap64 (Int.tdiv (wrap64 (1 + (Int.tmod (wrap64 (a0)) 10000))) 2))).bind fun t135 => (if t135 ≤ (Int.tmod (wrap64 (a1)) 1001) then ((track_Want.f (wrap64 (1 + (Int.tmod (wrap64 (a0)) 10000))) (Int.tmod (wrap64 (a1)) 1001) (wrap64 (2 * (wrap64 (1 + (Int.tmod (wrap64 (a0)) 10000)))))).bind fun t136 => (some (decide (t136 ≥ (Int.tmod (wrap64 (a1)) 1001))))) else (some false))) else (some false))) else (some false))
set_option maxHeartbeats 8000000 in
set_option maxRecDepth 100000 in
theorem governorlaw10_TrackRests.calls (a0 : Int) (a1 : Int) (r : Bool) (w : World) (hrT : r = true) (h : governorlaw10_TrackRests.f a0 a1 = some r) :
    Calls Try.prog 5 #[.int .u32 a0, .int .u16 a1] w fun e w' => e = .returned (.bool r) ∧ Drawn0 w w' := by
  have HRT := Aside0.mk hrT
  clear hrT
  have H : ((governorlaw10_head.f).bind fun t133 => (if t133 = true then ((track_Want.f (wrap64 (1 + (Int.tmod (wrap64 (a0)) 10000))) (Int.tmod (wrap64 (a1)) 1001) (wrap64 (1 + (Int.tmod (wrap64 (a0)) 10000)))).bind fun t134 => (if t134 = (Int.tmod (wrap64 (a1)) 1001) then ((track_Want.f (wrap64 (1 + (Int.tmod (wrap64 (a0)) 10000))) (Int.tmod (wrap64 (a1)) 1001) (wrap64 (Int.tdiv (wrap64 (1 + (Int.tmod (wrap64 (a0)) 10000))) 2))).bind fun t135 => (if t135 ≤ (Int.tmod (wrap64 (a1)) 1001) then ((track_Want.f (wrap64 (1 + (Int.tmod (wrap64 (a0)) 10000))) (Int.tmod (wrap64 (a1)) 1001) (wrap64 (2 * (wrap64 (1 + (Int.tmod (wrap64 (a0)) 10000)))))).bind fun t136 => (some (decide (t136 ≥ (Int.tmod (wrap64 (a1)) 1001))))) else (some false))) else (some false))) else (some false))) = some r := h
  clear h
  replace H := Option.bind_eq_some_iff.mp H
  obtain ⟨t133, A30, H⟩ := H
  replace H : (if t133 = true then ((track_Want.f (wrap64 (1 + (Int.tmod (wrap64 (a0)) 10000))) (Int.tmod (wrap64 (a1)) 1001) (wrap64 (1 + (Int.tmod (wrap64 (a0)) 10000)))).bind fun t134 => (if t134 = (Int.tmod (wrap64 (a1)) 1001) then ((track_Want.f (wrap64 (1 + (Int.tmod (wrap64 (a0)) 10000))) (Int.tmod (wrap64 (a1)) 1001) (wrap64 (Int.tdiv (wrap64 (1 + (Int.tmod (wrap64 (a0)) 10000))) 2))).bind fun t135 => (if t135 ≤ (Int.tmod (wrap64 (a1)) 1001) then ((track_Want.f (wrap64 (1 + (Int.tmod (wrap64 (a0)) 10000))) (Int.tmod (wrap64 (a1)) 1001) (wrap64 (2 * (wrap64 (1 + (Int.tmod (wrap64 (a0)) 10000)))))).bind fun t136 => (some (decide (t136 ≥ (Int.tmod (wrap64 (a1)) 1001))))) else (some false))) else (some false))) else (some false)) = some r := H
  have A3 := Aside0.mk A30
  clear A30
  by_cases c4 : t133 = true
  · subst c4
    have H1 : ((track_Want.f (wrap64 (1 + (Int.tmod (wrap64 (a0)) 10000))) (Int.tmod (wrap64 (a1)) 1001) (wrap64 (1 + (Int.tmod (wrap64 (a0)) 10000)))).bind fun t134 => (if t134 = (Int.tmod (wrap64 (a1)) 1001) then ((track_Want.f (wrap64 (1 + (Int.tmod (wrap64 (a0)) 10000))) (Int.tmod (wrap64 (a1)) 1001) (wrap64 (Int.tdiv (wrap64 (1 + (Int.tmod (wrap64 (a0)) 10000))) 2))).bind fun t135 => (if t135 ≤ (Int.tmod (wrap64 (a1)) 1001) then ((track_Want.f (wrap64 (1 + (Int.tmod (wrap64 (a0)) 10000))) (Int.tmod (wrap64 (a1)) 1001) (wrap64 (2 * (wrap64 (1 + (Int.tmod (wrap64 (a0)) 10000)))))).bind fun t136 => (some (decide (t136 ≥ (Int.tmod (wrap64 (a1)) 1001))))) else (some false))) else (some false))) = some r := by rw [if_pos rfl] at H; exact H
    clear H
    have H := H1
    clear H1
    replace H := Option.bind_eq_some_iff.mp H
    obtain ⟨t134, A50, H⟩ := H
    replace H : (if t134 = (Int.tmod (wrap64 (a1)) 1001) then ((track_Want.f (wrap64 (1 + (Int.tmod (wrap64 (a0)) 10000))) (Int.tmod (wrap64 (a1)) 1001) (wrap64 (Int.tdiv (wrap64 (1 + (Int.tmod (wrap64 (a0)) 10000))) 2))).bind fun t135 => (if t135 ≤ (Int.tmod (wrap64 (a1)) 1001) then ((track_Want.f (wrap64 (1 + (Int.tmod (wrap64 (a0)) 10000))) (Int.tmod (wrap64 (a1)) 1001) (wrap64 (2 * (wrap64 (1 + (Int.tmod (wrap64 (a0)) 10000)))))).bind fun t136 => (some (decide (t136 ≥ (Int.tmod (wrap64 (a1)) 1001))))) else (some false))) else (some false)) = some r := H
    have A5 := Aside0.mk A50
    clear A50
    by_cases c6 : t134 = (Int.tmod (wrap64 (a1)) 1001)
    · rw [if_pos c6] at H
      have c6b0 : (t134 == (Int.tmod (wrap64 (a1)) 1001)) = true := beq_iff_eq.mpr c6
      have c6b1 : (t134 != (Int.tmod (wrap64 (a1)) 1001)) = false := bne_eq_false_iff_eq.mpr c6
      clear c6
      replace H := Option.bind_eq_some_iff.mp H
      obtain ⟨t135, A70, H⟩ := H
      replace H : (if t135 ≤ (Int.tmod (wrap64 (a1)) 1001) then ((track_Want.f (wrap64 (1 + (Int.tmod (wrap64 (a0)) 10000))) (Int.tmod (wrap64 (a1)) 1001) (wrap64 (2 * (wrap64 (1 + (Int.tmod (wrap64 (a0)) 10000)))))).bind fun t136 => (some (decide (t136 ≥ (Int.tmod (wrap64 (a1)) 1001))))) else (some false)) = some r := H
      have A7 := Aside0.mk A70
      clear A70
      by_cases c8 : t135 ≤ (Int.tmod (wrap64 (a1)) 1001)
      · rw [if_pos c8] at H
        have c8b0 : decide (t135 ≤ (Int.tmod (wrap64 (a1)) 1001)) = true := decide_eq_true c8
        clear c8
        replace H := Option.bind_eq_some_iff.mp H
        obtain ⟨t136, A90, H⟩ := H
        replace H : (some (decide (t136 ≥ (Int.tmod (wrap64 (a1)) 1001)))) = some r := H
        have A9 := Aside0.mk A90
        clear A90
        obtain rfl := Option.some.inj H
        go_enter Try.func5, Try.ntmps5
        go_wp2_with (first | ((with_reducible refine gate_callee (f := 15) rfl ?_); refine goesL_ (some 8) rfl rfl Try.func15 (by kernel_rfl) rfl #[] rfl (by (try simp only [List.map_toArray, List.map_cons, List.map_nil]); first | done | rfl | (simp only [List.length_drop, List.length_take]; rfl)) ?_; (with_reducible refine (governorlaw10_head.calls  true _ A3.out).mono ?_); rintro e w' ⟨rfl, ⟨nd, rfl⟩⟩; refine ⟨_, rfl, ?_⟩) | (go_at_call 16; (with_reducible refine (track_Want.calls (wrap64 (1 + (Int.tmod (wrap64 (a0)) 10000))) (Int.tmod (wrap64 (a1)) 1001) (wrap64 (1 + (Int.tmod (wrap64 (a0)) 10000))) t134 _ A5.out).mono ?_); rintro e w' ⟨rfl, ⟨nd, rfl⟩⟩) | (go_at_call 16; (with_reducible refine (track_Want.calls (wrap64 (1 + (Int.tmod (wrap64 (a0)) 10000))) (Int.tmod (wrap64 (a1)) 1001) (wrap64 (Int.tdiv (wrap64 (1 + (Int.tmod (wrap64 (a0)) 10000))) 2)) t135 _ A7.out).mono ?_); rintro e w' ⟨rfl, ⟨nd, rfl⟩⟩) | (go_at_call 16; (with_reducible refine (track_Want.calls (wrap64 (1 + (Int.tmod (wrap64 (a0)) 10000))) (Int.tmod (wrap64 (a1)) 1001) (wrap64 (2 * (wrap64 (1 + (Int.tmod (wrap64 (a0)) 10000))))) t136 _ A9.out).mono ?_); rintro e w' ⟨rfl, ⟨nd, rfl⟩⟩))
        go_ret
        exact ⟨by first | rfl | (simp; done) | (simp [*]; done), by repeat (first | exact Drawn0.refl _ | apply Drawn0.step)⟩
      · rw [if_neg c8] at H
        have c8b0 : decide (t135 ≤ (Int.tmod (wrap64 (a1)) 1001)) = false := decide_eq_false c8
        clear c8
        exact absurd (Option.some.inj H) (by rw [HRT.out]; decide)
    · rw [if_neg c6] at H
      have c6b0 : (t134 == (Int.tmod (wrap64 (a1)) 1001)) = false := beq_eq_false_iff_ne.mpr c6
      have c6b1 : (t134 != (Int.tmod (wrap64 (a1)) 1001)) = true := bne_iff_ne.mpr c6
      exact absurd (Option.some.inj H) (by rw [HRT.out]; decide)
  · replace c4 := Bool.eq_false_iff.mpr c4
    subst c4
    have H1 : (some false) = some r := by rw [if_neg (show ¬ (false = true) by decide)] at H; exact H
    clear H
    have H := H1
    clear H1
    exact absurd (Option.some.inj H) (by rw [HRT.out]; decide)

end Go.Proofs.Ytmdkcadngkbphaa.PAll
