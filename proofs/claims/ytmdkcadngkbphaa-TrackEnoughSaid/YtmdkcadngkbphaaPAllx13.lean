-- laid by a program of this session (tprint.py) out of the translation and of texts typed by hand; Lean checks it
import Derived.Test.YtmdkcadngkbphaaPAllx0
import Derived.Test.YtmdkcadngkbphaaPAllx6
import Derived.Test.YtmdkcadngkbphaaPAllx7
namespace Go.Proofs.Ytmdkcadngkbphaa.PAll
open Go.RowKit Go.Proofs.YtmdkcadngkbphaaW.PrintWords Go.Proofs.YtmdkcadngkbphaaW.PrintLast Go.Proofs.YtmdkcadngkbphaaW.PrintMore
attribute [local go_sem] max2_int min2_int max_two min_two max_three min_three max_four min_four   -- for this text's walks alone
set_option linter.unusedVariables false
set_option linter.unusedSimpArgs false

/-! ### governorlaw10_TrackEnough: function 6 -/
def governorlaw10_TrackEnough.f (a0 : Int) (a1 : Int) (a2 : Int) : Option (Bool) := (governorlaw10_head.f).bind fun t137 => ((track_Want.f (wrap64 (1 + (Int.tmod (wrap64 (a0)) 10000))) (Int.tmod (wrap64 (a1)) 1001) (Int.tmod (wrap64 (a2)) 10000)).bind fun t138 => (if t138 ≥ 1000 then (some t137) else (if t137 = true then (if (wrap64 ((wrap64 (1000 * t138)) * (wrap64 (1 + (Int.tmod (wrap64 (a0)) 10000))))) > (wrap64 ((wrap64 ((wrap64 (1000 * (Int.tmod (wrap64 (a1)) 1001))) * (Int.tmod (wrap64 (a2)) 10000))) - (wrap64 (1 + (Int.tmod (wrap64 (a0)) 10000))))) then (if t138 = 0 then (some true) else (some (decide ((wrap64 ((wrap64 (t138 - 1)) * (wrap64 (1 + (Int.tmod (wrap64 (a0)) 10000))))) < (wrap64 ((Int.tmod (wrap64 (a1)) 1001) * (Int.tmod (wrap64 (a2)) 10000))))))) else (some false)) else (some false))))
set_option maxHeartbeats 8000000 in
set_option maxRecDepth 100000 in
theorem governorlaw10_TrackEnough.calls (a0 : Int) (a1 : Int) (a2 : Int) (r : Bool) (w : World) (hrT : r = true) (h : governorlaw10_TrackEnough.f a0 a1 a2 = some r) :
    Calls Try.prog 6 #[.int .u32 a0, .int .u16 a1, .int .u32 a2] w fun e w' => e = .returned (.bool r) ∧ Drawn0 w w' := by
  have HRT := Aside0.mk hrT
  clear hrT
  have H : ((governorlaw10_head.f).bind fun t137 => ((track_Want.f (wrap64 (1 + (Int.tmod (wrap64 (a0)) 10000))) (Int.tmod (wrap64 (a1)) 1001) (Int.tmod (wrap64 (a2)) 10000)).bind fun t138 => (if t138 ≥ 1000 then (some t137) else (if t137 = true then (if (wrap64 ((wrap64 (1000 * t138)) * (wrap64 (1 + (Int.tmod (wrap64 (a0)) 10000))))) > (wrap64 ((wrap64 ((wrap64 (1000 * (Int.tmod (wrap64 (a1)) 1001))) * (Int.tmod (wrap64 (a2)) 10000))) - (wrap64 (1 + (Int.tmod (wrap64 (a0)) 10000))))) then (if t138 = 0 then (some true) else (some (decide ((wrap64 ((wrap64 (t138 - 1)) * (wrap64 (1 + (Int.tmod (wrap64 (a0)) 10000))))) < (wrap64 ((Int.tmod (wrap64 (a1)) 1001) * (Int.tmod (wrap64 (a2)) 10000))))))) else (some false)) else (some false))))) = some r := h
  clear h
  replace H := Option.bind_eq_some_iff.mp H
  obtain ⟨t137, A40, H⟩ := H
  replace H : ((track_Want.f (wrap64 (1 + (Int.tmod (wrap64 (a0)) 10000))) (Int.tmod (wrap64 (a1)) 1001) (Int.tmod (wrap64 (a2)) 10000)).bind fun t138 => (if t138 ≥ 1000 then (some t137) else (if t137 = true then (if (wrap64 ((wrap64 (1000 * t138)) * (wrap64 (1 + (Int.tmod (wrap64 (a0)) 10000))))) > (wrap64 ((wrap64 ((wrap64 (1000 * (Int.tmod (wrap64 (a1)) 1001))) * (Int.tmod (wrap64 (a2)) 10000))) - (wrap64 (1 + (Int.tmod (wrap64 (a0)) 10000))))) then (if t138 = 0 then (some true) else (some (decide ((wrap64 ((wrap64 (t138 - 1)) * (wrap64 (1 + (Int.tmod (wrap64 (a0)) 10000))))) < (wrap64 ((Int.tmod (wrap64 (a1)) 1001) * (Int.tmod (wrap64 (a2)) 10000))))))) else (some false)) else (some false)))) = some r := H
  have A4 := Aside0.mk A40
  clear A40
  replace H := Option.bind_eq_some_iff.mp H
  obtain ⟨t138, A50, H⟩ := H
  replace H : (if t138 ≥ 1000 then (some t137) else (if t137 = true then (if (wrap64 ((wrap64 (1000 * t138)) * (wrap64 (1 + (Int.tmod (wrap64 (a0)) 10000))))) > (wrap64 ((wrap64 ((wrap64 (1000 * (Int.tmod (wrap64 (a1)) 1001))) * (Int.tmod (wrap64 (a2)) 10000))) - (wrap64 (1 + (Int.tmod (wrap64 (a0)) 10000))))) then (if t138 = 0 then (some true) else (some (decide ((wrap64 ((wrap64 (t138 - 1)) * (wrap64 (1 + (Int.tmod (wrap64 (a0)) 10000))))) < (wrap64 ((Int.tmod (wrap64 (a1)) 1001) * (Int.tmod (wrap64 (a2)) 10000))))))) else (some false)) else (some false))) = some r := H
  have A5 := Aside0.mk A50
  clear A50
  by_cases c6 : t138 ≥ 1000
  · rw [if_pos c6] at H
    have c6b0 : decide (1000 ≤ t138) = true := decide_eq_true c6
    clear c6
    obtain rfl := Option.some.inj H
    go_enter Try.func6, Try.ntmps6
    go_wp2_with (first | ((with_reducible refine gate_callee (f := 15) rfl ?_); refine goesL_ (some 12) rfl rfl Try.func15 (by kernel_rfl) rfl #[] rfl (by (try simp only [List.map_toArray, List.map_cons, List.map_nil]); first | done | rfl | (simp only [List.length_drop, List.length_take]; rfl)) ?_; (with_reducible refine (governorlaw10_head.calls  t137 _ A4.out).mono ?_); rintro e w' ⟨rfl, ⟨nd, rfl⟩⟩; refine ⟨_, rfl, ?_⟩) | ((with_reducible refine gate_callee (f := 16) rfl ?_); refine goesL_ (some 26) rfl rfl Try.func16 (by kernel_rfl) rfl #[.int .i64 (wrap64 (1 + (Int.tmod (wrap64 (a0)) 10000))), .int .i64 (Int.tmod (wrap64 (a1)) 1001), .int .i64 (Int.tmod (wrap64 (a2)) 10000)] rfl (by (try simp only [List.map_toArray, List.map_cons, List.map_nil]); first | done | rfl | (simp only [List.length_drop, List.length_take]; rfl)) ?_; (with_reducible refine (track_Want.calls (wrap64 (1 + (Int.tmod (wrap64 (a0)) 10000))) (Int.tmod (wrap64 (a1)) 1001) (Int.tmod (wrap64 (a2)) 10000) t138 _ A5.out).mono ?_); rintro e w' ⟨rfl, ⟨nd, rfl⟩⟩; refine ⟨_, rfl, ?_⟩))
    go_ret
    exact ⟨by first | rfl | (simp; done) | (simp [*]; done), by repeat (first | exact Drawn0.refl _ | apply Drawn0.step)⟩
  · rw [if_neg c6] at H
    have c6b0 : decide (1000 ≤ t138) = false := decide_eq_false c6
    clear c6
    by_cases c7 : t137 = true
    · subst c7
      have H1 : (if (wrap64 ((wrap64 (1000 * t138)) * (wrap64 (1 + (Int.tmod (wrap64 (a0)) 10000))))) > (wrap64 ((wrap64 ((wrap64 (1000 * (Int.tmod (wrap64 (a1)) 1001))) * (Int.tmod (wrap64 (a2)) 10000))) - (wrap64 (1 + (Int.tmod (wrap64 (a0)) 10000))))) then (if t138 = 0 then (some true) else (some (decide ((wrap64 ((wrap64 (t138 - 1)) * (wrap64 (1 + (Int.tmod (wrap64 (a0)) 10000))))) < (wrap64 ((Int.tmod (wrap64 (a1)) 1001) * (Int.tmod (wrap64 (a2)) 10000))))))) else (some false)) = some r := by rw [if_pos rfl] at H; exact H
      clear H
      have H := H1
      clear H1
      by_cases c8 : (wrap64 ((wrap64 (1000 * t138)) * (wrap64 (1 + (Int.tmod (wrap64 (a0)) 10000))))) > (wrap64 ((wrap64 ((wrap64 (1000 * (Int.tmod (wrap64 (a1)) 1001))) * (Int.tmod (wrap64 (a2)) 10000))) - (wrap64 (1 + (Int.tmod (wrap64 (a0)) 10000)))))
      · rw [if_pos c8] at H
        have c8b0 : decide ((wrap64 ((wrap64 ((wrap64 (1000 * (Int.tmod (wrap64 (a1)) 1001))) * (Int.tmod (wrap64 (a2)) 10000))) - (wrap64 (1 + (Int.tmod (wrap64 (a0)) 10000))))) < (wrap64 ((wrap64 (1000 * t138)) * (wrap64 (1 + (Int.tmod (wrap64 (a0)) 10000)))))) = true := decide_eq_true c8
        clear c8
        by_cases c9 : t138 = 0
        · rw [if_pos c9] at H
          have c9b0 : (t138 == 0) = true := beq_iff_eq.mpr c9
          have c9b1 : (t138 != 0) = false := bne_eq_false_iff_eq.mpr c9
          clear c9
          obtain rfl := Option.some.inj H
          go_enter Try.func6, Try.ntmps6
          go_wp2_with (first | ((with_reducible refine gate_callee (f := 15) rfl ?_); refine goesL_ (some 12) rfl rfl Try.func15 (by kernel_rfl) rfl #[] rfl (by (try simp only [List.map_toArray, List.map_cons, List.map_nil]); first | done | rfl | (simp only [List.length_drop, List.length_take]; rfl)) ?_; (with_reducible refine (governorlaw10_head.calls  true _ A4.out).mono ?_); rintro e w' ⟨rfl, ⟨nd, rfl⟩⟩; refine ⟨_, rfl, ?_⟩) | ((with_reducible refine gate_callee (f := 16) rfl ?_); refine goesL_ (some 26) rfl rfl Try.func16 (by kernel_rfl) rfl #[.int .i64 (wrap64 (1 + (Int.tmod (wrap64 (a0)) 10000))), .int .i64 (Int.tmod (wrap64 (a1)) 1001), .int .i64 (Int.tmod (wrap64 (a2)) 10000)] rfl (by (try simp only [List.map_toArray, List.map_cons, List.map_nil]); first | done | rfl | (simp only [List.length_drop, List.length_take]; rfl)) ?_; (with_reducible refine (track_Want.calls (wrap64 (1 + (Int.tmod (wrap64 (a0)) 10000))) (Int.tmod (wrap64 (a1)) 1001) (Int.tmod (wrap64 (a2)) 10000) t138 _ A5.out).mono ?_); rintro e w' ⟨rfl, ⟨nd, rfl⟩⟩; refine ⟨_, rfl, ?_⟩))
          go_ret
          exact ⟨by first | rfl | (simp; done) | (simp [*]; done), by repeat (first | exact Drawn0.refl _ | apply Drawn0.step)⟩
        · rw [if_neg c9] at H
          have c9b0 : (t138 == 0) = false := beq_eq_false_iff_ne.mpr c9
          have c9b1 : (t138 != 0) = true := bne_iff_ne.mpr c9
          obtain rfl := Option.some.inj H
          go_enter Try.func6, Try.ntmps6
          go_wp2_with (first | ((with_reducible refine gate_callee (f := 15) rfl ?_); refine goesL_ (some 12) rfl rfl Try.func15 (by kernel_rfl) rfl #[] rfl (by (try simp only [List.map_toArray, List.map_cons, List.map_nil]); first | done | rfl | (simp only [List.length_drop, List.length_take]; rfl)) ?_; (with_reducible refine (governorlaw10_head.calls  true _ A4.out).mono ?_); rintro e w' ⟨rfl, ⟨nd, rfl⟩⟩; refine ⟨_, rfl, ?_⟩) | ((with_reducible refine gate_callee (f := 16) rfl ?_); refine goesL_ (some 26) rfl rfl Try.func16 (by kernel_rfl) rfl #[.int .i64 (wrap64 (1 + (Int.tmod (wrap64 (a0)) 10000))), .int .i64 (Int.tmod (wrap64 (a1)) 1001), .int .i64 (Int.tmod (wrap64 (a2)) 10000)] rfl (by (try simp only [List.map_toArray, List.map_cons, List.map_nil]); first | done | rfl | (simp only [List.length_drop, List.length_take]; rfl)) ?_; (with_reducible refine (track_Want.calls (wrap64 (1 + (Int.tmod (wrap64 (a0)) 10000))) (Int.tmod (wrap64 (a1)) 1001) (Int.tmod (wrap64 (a2)) 10000) t138 _ A5.out).mono ?_); rintro e w' ⟨rfl, ⟨nd, rfl⟩⟩; refine ⟨_, rfl, ?_⟩))
          go_ret
          exact ⟨by first | rfl | (simp; done) | (simp [*]; done), by repeat (first | exact Drawn0.refl _ | apply Drawn0.step)⟩
      · rw [if_neg c8] at H
        have c8b0 : decide ((wrap64 ((wrap64 ((wrap64 (1000 * (Int.tmod (wrap64 (a1)) 1001))) * (Int.tmod (wrap64 (a2)) 10000))) - (wrap64 (1 + (Int.tmod (wrap64 (a0)) 10000))))) < (wrap64 ((wrap64 (1000 * t138)) * (wrap64 (1 + (Int.tmod (wrap64 (a0)) 10000)))))) = false := decide_eq_false c8
        clear c8
        exact absurd (Option.some.inj H) (by rw [HRT.out]; decide)
    · replace c7 := Bool.eq_false_iff.mpr c7
      subst c7
      have H1 : (some false) = some r := by rw [if_neg (show ¬ (false = true) by decide)] at H; exact H
      clear H
      have H := H1
      clear H1
      exact absurd (Option.some.inj H) (by rw [HRT.out]; decide)

end Go.Proofs.Ytmdkcadngkbphaa.PAll
