-- laid by a program of this session (tprint.py) out of the translation and of texts typed by hand; Lean checks it
import Derived.Test.YtmdkcadngkbphaaPAllx0
import Derived.Test.YtmdkcadngkbphaaPAllx6
import Derived.Test.YtmdkcadngkbphaaPAllx7
namespace Go.Proofs.Ytmdkcadngkbphaa.PAll
open Go.RowKit Go.Proofs.YtmdkcadngkbphaaW.PrintWords Go.Proofs.YtmdkcadngkbphaaW.PrintLast Go.Proofs.YtmdkcadngkbphaaW.PrintMore
attribute [local go_sem] max2_int min2_int max_two min_two max_three min_three max_four min_four   -- for this text's walks alone
set_option linter.unusedVariables false
set_option linter.unusedSimpArgs false

/-! ### governorlaw10_TrackTwice: function 8 -/
def governorlaw10_TrackTwice.f (a0 : Int) (a1 : Int) (a2 : Int) : Option (Bool) := (governorlaw10_head.f).bind fun t141 => ((track_Want.f (wrap64 (1 + (Int.tmod (wrap64 (a0)) 10000))) (wrap64 (1 + (Int.tmod (wrap64 (a1)) 400))) (Int.tmod (wrap64 (a2)) 10000)).bind fun t142 => (if t142 = 0 then (some t141) else (if t142 ≥ 1000 then (some t141) else (if t141 = true then ((track_Want.f (wrap64 (1 + (Int.tmod (wrap64 (a0)) 10000))) t142 (wrap64 (Int.tdiv (wrap64 ((wrap64 (1 + (Int.tmod (wrap64 (a1)) 400))) * (Int.tmod (wrap64 (a2)) 10000))) t142))).bind fun t143 => (some (decide (t143 ≤ t142)))) else (some false)))))
set_option maxHeartbeats 8000000 in
set_option maxRecDepth 100000 in
theorem governorlaw10_TrackTwice.calls (a0 : Int) (a1 : Int) (a2 : Int) (r : Bool) (w : World) (hrT : r = true) (h : governorlaw10_TrackTwice.f a0 a1 a2 = some r) :
    Calls Try.prog 8 #[.int .u32 a0, .int .u16 a1, .int .u32 a2] w fun e w' => e = .returned (.bool r) ∧ Drawn0 w w' := by
  have HRT := Aside0.mk hrT
  clear hrT
  have H : ((governorlaw10_head.f).bind fun t141 => ((track_Want.f (wrap64 (1 + (Int.tmod (wrap64 (a0)) 10000))) (wrap64 (1 + (Int.tmod (wrap64 (a1)) 400))) (Int.tmod (wrap64 (a2)) 10000)).bind fun t142 => (if t142 = 0 then (some t141) else (if t142 ≥ 1000 then (some t141) else (if t141 = true then ((track_Want.f (wrap64 (1 + (Int.tmod (wrap64 (a0)) 10000))) t142 (wrap64 (Int.tdiv (wrap64 ((wrap64 (1 + (Int.tmod (wrap64 (a1)) 400))) * (Int.tmod (wrap64 (a2)) 10000))) t142))).bind fun t143 => (some (decide (t143 ≤ t142)))) else (some false)))))) = some r := h
  clear h
  replace H := Option.bind_eq_some_iff.mp H
  obtain ⟨t141, A40, H⟩ := H
  replace H : ((track_Want.f (wrap64 (1 + (Int.tmod (wrap64 (a0)) 10000))) (wrap64 (1 + (Int.tmod (wrap64 (a1)) 400))) (Int.tmod (wrap64 (a2)) 10000)).bind fun t142 => (if t142 = 0 then (some t141) else (if t142 ≥ 1000 then (some t141) else (if t141 = true then ((track_Want.f (wrap64 (1 + (Int.tmod (wrap64 (a0)) 10000))) t142 (wrap64 (Int.tdiv (wrap64 ((wrap64 (1 + (Int.tmod (wrap64 (a1)) 400))) * (Int.tmod (wrap64 (a2)) 10000))) t142))).bind fun t143 => (some (decide (t143 ≤ t142)))) else (some false))))) = some r := H
  have A4 := Aside0.mk A40
  clear A40
  replace H := Option.bind_eq_some_iff.mp H
  obtain ⟨t142, A50, H⟩ := H
  replace H : (if t142 = 0 then (some t141) else (if t142 ≥ 1000 then (some t141) else (if t141 = true then ((track_Want.f (wrap64 (1 + (Int.tmod (wrap64 (a0)) 10000))) t142 (wrap64 (Int.tdiv (wrap64 ((wrap64 (1 + (Int.tmod (wrap64 (a1)) 400))) * (Int.tmod (wrap64 (a2)) 10000))) t142))).bind fun t143 => (some (decide (t143 ≤ t142)))) else (some false)))) = some r := H
  have A5 := Aside0.mk A50
  clear A50
  by_cases c6 : t142 = 0
  · rw [if_pos c6] at H
    have c6b0 : (t142 == 0) = true := beq_iff_eq.mpr c6
    have c6b1 : (t142 != 0) = false := bne_eq_false_iff_eq.mpr c6
    clear c6
    obtain rfl := Option.some.inj H
    go_enter Try.func8, Try.ntmps8
    go_wp2_with (first | ((with_reducible refine gate_callee (f := 15) rfl ?_); refine goesL_ (some 12) rfl rfl Try.func15 (by kernel_rfl) rfl #[] rfl (by (try simp only [List.map_toArray, List.map_cons, List.map_nil]); first | done | rfl | (simp only [List.length_drop, List.length_take]; rfl)) ?_; (with_reducible refine (governorlaw10_head.calls  t141 _ A4.out).mono ?_); rintro e w' ⟨rfl, ⟨nd, rfl⟩⟩; refine ⟨_, rfl, ?_⟩) | ((with_reducible refine gate_callee (f := 16) rfl ?_); refine goesL_ (some 27) rfl rfl Try.func16 (by kernel_rfl) rfl #[.int .i64 (wrap64 (1 + (Int.tmod (wrap64 (a0)) 10000))), .int .i64 (wrap64 (1 + (Int.tmod (wrap64 (a1)) 400))), .int .i64 (Int.tmod (wrap64 (a2)) 10000)] rfl (by (try simp only [List.map_toArray, List.map_cons, List.map_nil]); first | done | rfl | (simp only [List.length_drop, List.length_take]; rfl)) ?_; (with_reducible refine (track_Want.calls (wrap64 (1 + (Int.tmod (wrap64 (a0)) 10000))) (wrap64 (1 + (Int.tmod (wrap64 (a1)) 400))) (Int.tmod (wrap64 (a2)) 10000) t142 _ A5.out).mono ?_); rintro e w' ⟨rfl, ⟨nd, rfl⟩⟩; refine ⟨_, rfl, ?_⟩))
    go_ret
    exact ⟨by first | rfl | (simp; done) | (simp [*]; done), by repeat (first | exact Drawn0.refl _ | apply Drawn0.step)⟩
  · rw [if_neg c6] at H
    have c6b0 : (t142 == 0) = false := beq_eq_false_iff_ne.mpr c6
    have c6b1 : (t142 != 0) = true := bne_iff_ne.mpr c6
    by_cases c7 : t142 ≥ 1000
    · rw [if_pos c7] at H
      have c7b0 : decide (1000 ≤ t142) = true := decide_eq_true c7
      clear c7
      obtain rfl := Option.some.inj H
      go_enter Try.func8, Try.ntmps8
      go_wp2_with (first | ((with_reducible refine gate_callee (f := 15) rfl ?_); refine goesL_ (some 12) rfl rfl Try.func15 (by kernel_rfl) rfl #[] rfl (by (try simp only [List.map_toArray, List.map_cons, List.map_nil]); first | done | rfl | (simp only [List.length_drop, List.length_take]; rfl)) ?_; (with_reducible refine (governorlaw10_head.calls  t141 _ A4.out).mono ?_); rintro e w' ⟨rfl, ⟨nd, rfl⟩⟩; refine ⟨_, rfl, ?_⟩) | ((with_reducible refine gate_callee (f := 16) rfl ?_); refine goesL_ (some 27) rfl rfl Try.func16 (by kernel_rfl) rfl #[.int .i64 (wrap64 (1 + (Int.tmod (wrap64 (a0)) 10000))), .int .i64 (wrap64 (1 + (Int.tmod (wrap64 (a1)) 400))), .int .i64 (Int.tmod (wrap64 (a2)) 10000)] rfl (by (try simp only [List.map_toArray, List.map_cons, List.map_nil]); first | done | rfl | (simp only [List.length_drop, List.length_take]; rfl)) ?_; (with_reducible refine (track_Want.calls (wrap64 (1 + (Int.tmod (wrap64 (a0)) 10000))) (wrap64 (1 + (Int.tmod (wrap64 (a1)) 400))) (Int.tmod (wrap64 (a2)) 10000) t142 _ A5.out).mono ?_); rintro e w' ⟨rfl, ⟨nd, rfl⟩⟩; refine ⟨_, rfl, ?_⟩))
      go_ret
      exact ⟨by first | rfl | (simp; done) | (simp [*]; done), by repeat (first | exact Drawn0.refl _ | apply Drawn0.step)⟩
    · rw [if_neg c7] at H
      have c7b0 : decide (1000 ≤ t142) = false := decide_eq_false c7
      clear c7
      by_cases c8 : t141 = true
      · subst c8
        have H1 : ((track_Want.f (wrap64 (1 + (Int.tmod (wrap64 (a0)) 10000))) t142 (wrap64 (Int.tdiv (wrap64 ((wrap64 (1 + (Int.tmod (wrap64 (a1)) 400))) * (Int.tmod (wrap64 (a2)) 10000))) t142))).bind fun t143 => (some (decide (t143 ≤ t142)))) = some r := by rw [if_pos rfl] at H; exact H
        clear H
        have H := H1
        clear H1
        replace H := Option.bind_eq_some_iff.mp H
        obtain ⟨t143, A90, H⟩ := H
        replace H : (some (decide (t143 ≤ t142))) = some r := H
        have A9 := Aside0.mk A90
        clear A90
        obtain rfl := Option.some.inj H
        go_enter Try.func8, Try.ntmps8
        go_wp2_with (first | ((with_reducible refine gate_callee (f := 15) rfl ?_); refine goesL_ (some 12) rfl rfl Try.func15 (by kernel_rfl) rfl #[] rfl (by (try simp only [List.map_toArray, List.map_cons, List.map_nil]); first | done | rfl | (simp only [List.length_drop, List.length_take]; rfl)) ?_; (with_reducible refine (governorlaw10_head.calls  true _ A4.out).mono ?_); rintro e w' ⟨rfl, ⟨nd, rfl⟩⟩; refine ⟨_, rfl, ?_⟩) | ((with_reducible refine gate_callee (f := 16) rfl ?_); refine goesL_ (some 27) rfl rfl Try.func16 (by kernel_rfl) rfl #[.int .i64 (wrap64 (1 + (Int.tmod (wrap64 (a0)) 10000))), .int .i64 (wrap64 (1 + (Int.tmod (wrap64 (a1)) 400))), .int .i64 (Int.tmod (wrap64 (a2)) 10000)] rfl (by (try simp only [List.map_toArray, List.map_cons, List.map_nil]); first | done | rfl | (simp only [List.length_drop, List.length_take]; rfl)) ?_; (with_reducible refine (track_Want.calls (wrap64 (1 + (Int.tmod (wrap64 (a0)) 10000))) (wrap64 (1 + (Int.tmod (wrap64 (a1)) 400))) (Int.tmod (wrap64 (a2)) 10000) t142 _ A5.out).mono ?_); rintro e w' ⟨rfl, ⟨nd, rfl⟩⟩; refine ⟨_, rfl, ?_⟩) | (go_at_call 16; (with_reducible refine (track_Want.calls (wrap64 (1 + (Int.tmod (wrap64 (a0)) 10000))) t142 (wrap64 (Int.tdiv (wrap64 ((wrap64 (1 + (Int.tmod (wrap64 (a1)) 400))) * (Int.tmod (wrap64 (a2)) 10000))) t142)) t143 _ A9.out).mono ?_); rintro e w' ⟨rfl, ⟨nd, rfl⟩⟩))
        go_ret
        exact ⟨by first | rfl | (simp; done) | (simp [*]; done), by repeat (first | exact Drawn0.refl _ | apply Drawn0.step)⟩
      · replace c8 := Bool.eq_false_iff.mpr c8
        subst c8
        have H1 : (some false) = some r := by rw [if_neg (show ¬ (false = true) by decide)] at H; exact H
        clear H
        have H := H1
        clear H1
        exact absurd (Option.some.inj H) (by rw [HRT.out]; decide)

end Go.Proofs.Ytmdkcadngkbphaa.PAll
