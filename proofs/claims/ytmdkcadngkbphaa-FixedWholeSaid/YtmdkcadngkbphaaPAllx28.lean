-- laid by a program of this session (tprint.py) out of the translation and of texts typed by hand; Lean checks it
import Derived.Test.YtmdkcadngkbphaaPAllx0
import Derived.Test.YtmdkcadngkbphaaPAllx1
import Derived.Test.YtmdkcadngkbphaaPAllx5
import Derived.Test.YtmdkcadngkbphaaPAllx20
import Derived.Test.YtmdkcadngkbphaaPAllx21
namespace Go.Proofs.Ytmdkcadngkbphaa.PAll
open Go.RowKit Go.Proofs.YtmdkcadngkbphaaW.PrintWords Go.Proofs.YtmdkcadngkbphaaW.PrintLast Go.Proofs.YtmdkcadngkbphaaW.PrintMore
attribute [local go_sem] max2_int min2_int max_two min_two max_three min_three max_four min_four   -- for this text's walks alone
set_option linter.unusedVariables false
set_option linter.unusedSimpArgs false

/-! ### governorlaw08_FixedWhole: function 13 -/
def governorlaw08_FixedWhole.f (a0 : Int) : Option (Bool) := (governorlaw08_head.f).bind fun t254 => ((fixed_Sat.f a0).bind fun t255 => ((fixed_Up.f a0).bind fun t256 => ((fixed_Near.f a0).bind fun t257 => (if t254 = true then (if (wrap64 (1000 * t256)) ≥ t255 then (if (wrap64 (1000 * (wrap64 (t256 - 1)))) < t255 then (if (wrap64 ((wrap64 (1000 * t257)) - t255)) ≥ (-500) then (if (wrap64 ((wrap64 (1000 * t257)) - t255)) ≤ 500 then (if (wrap64 ((wrap64 (1000 * t257)) - t255)) = 500 then (if t255 > 0 then (if (wrap64 ((wrap64 (1000 * t257)) - t255)) = (-500) then (some (decide (t255 < 0))) else (some true)) else (some false)) else (if (wrap64 ((wrap64 (1000 * t257)) - t255)) = (-500) then (some (decide (t255 < 0))) else (some true))) else (some false)) else (some false)) else (some false)) else (some false)) else (some false)))))
set_option maxHeartbeats 8000000 in
set_option maxRecDepth 100000 in
theorem governorlaw08_FixedWhole.calls (a0 : Int) (r : Bool) (w : World) (hrT : r = true) (h : governorlaw08_FixedWhole.f a0 = some r) :
    Calls Try.prog 13 #[.int .i64 a0] w fun e w' => e = .returned (.bool r) ∧ Drawn0 w w' := by
  have HRT := Aside0.mk hrT
  clear hrT
  have H : ((governorlaw08_head.f).bind fun t254 => ((fixed_Sat.f a0).bind fun t255 => ((fixed_Up.f a0).bind fun t256 => ((fixed_Near.f a0).bind fun t257 => (if t254 = true then (if (wrap64 (1000 * t256)) ≥ t255 then (if (wrap64 (1000 * (wrap64 (t256 - 1)))) < t255 then (if (wrap64 ((wrap64 (1000 * t257)) - t255)) ≥ (-500) then (if (wrap64 ((wrap64 (1000 * t257)) - t255)) ≤ 500 then (if (wrap64 ((wrap64 (1000 * t257)) - t255)) = 500 then (if t255 > 0 then (if (wrap64 ((wrap64 (1000 * t257)) - t255)) = (-500) then (some (decide (t255 < 0))) else (some true)) else (some false)) else (if (wrap64 ((wrap64 (1000 * t257)) - t255)) = (-500) then (some (decide (t255 < 0))) else (some true))) else (some false)) else (some false)) else (some false)) else (some false)) else (some false)))))) = some r := h
  clear h
  replace H := Option.bind_eq_some_iff.mp H
  obtain ⟨t254, A20, H⟩ := H
  replace H : ((fixed_Sat.f a0).bind fun t255 => ((fixed_Up.f a0).bind fun t256 => ((fixed_Near.f a0).bind fun t257 => (if t254 = true then (if (wrap64 (1000 * t256)) ≥ t255 then (if (wrap64 (1000 * (wrap64 (t256 - 1)))) < t255 then (if (wrap64 ((wrap64 (1000 * t257)) - t255)) ≥ (-500) then (if (wrap64 ((wrap64 (1000 * t257)) - t255)) ≤ 500 then (if (wrap64 ((wrap64 (1000 * t257)) - t255)) = 500 then (if t255 > 0 then (if (wrap64 ((wrap64 (1000 * t257)) - t255)) = (-500) then (some (decide (t255 < 0))) else (some true)) else (some false)) else (if (wrap64 ((wrap64 (1000 * t257)) - t255)) = (-500) then (some (decide (t255 < 0))) else (some true))) else (some false)) else (some false)) else (some false)) else (some false)) else (some false))))) = some r := H
  have A2 := Aside0.mk A20
  clear A20
  replace H := Option.bind_eq_some_iff.mp H
  obtain ⟨t255, A30, H⟩ := H
  replace H : ((fixed_Up.f a0).bind fun t256 => ((fixed_Near.f a0).bind fun t257 => (if t254 = true then (if (wrap64 (1000 * t256)) ≥ t255 then (if (wrap64 (1000 * (wrap64 (t256 - 1)))) < t255 then (if (wrap64 ((wrap64 (1000 * t257)) - t255)) ≥ (-500) then (if (wrap64 ((wrap64 (1000 * t257)) - t255)) ≤ 500 then (if (wrap64 ((wrap64 (1000 * t257)) - t255)) = 500 then (if t255 > 0 then (if (wrap64 ((wrap64 (1000 * t257)) - t255)) = (-500) then (some (decide (t255 < 0))) else (some true)) else (some false)) else (if (wrap64 ((wrap64 (1000 * t257)) - t255)) = (-500) then (some (decide (t255 < 0))) else (some true))) else (some false)) else (some false)) else (some false)) else (some false)) else (some false)))) = some r := H
  have A3 := Aside0.mk A30
  clear A30
  replace H := Option.bind_eq_some_iff.mp H
  obtain ⟨t256, A40, H⟩ := H
  replace H : ((fixed_Near.f a0).bind fun t257 => (if t254 = true then (if (wrap64 (1000 * t256)) ≥ t255 then (if (wrap64 (1000 * (wrap64 (t256 - 1)))) < t255 then (if (wrap64 ((wrap64 (1000 * t257)) - t255)) ≥ (-500) then (if (wrap64 ((wrap64 (1000 * t257)) - t255)) ≤ 500 then (if (wrap64 ((wrap64 (1000 * t257)) - t255)) = 500 then (if t255 > 0 then (if (wrap64 ((wrap64 (1000 * t257)) - t255)) = (-500) then (some (decide (t255 < 0))) else (some true)) else (some false)) else (if (wrap64 ((wrap64 (1000 * t257)) - t255)) = (-500) then (some (decide (t255 < 0))) else (some true))) else (some false)) else (some false)) else (some false)) else (some false)) else (some false))) = some r := H
  have A4 := Aside0.mk A40
  clear A40
  replace H := Option.bind_eq_some_iff.mp H
  obtain ⟨t257, A50, H⟩ := H
  replace H : (if t254 = true then (if (wrap64 (1000 * t256)) ≥ t255 then (if (wrap64 (1000 * (wrap64 (t256 - 1)))) < t255 then (if (wrap64 ((wrap64 (1000 * t257)) - t255)) ≥ (-500) then (if (wrap64 ((wrap64 (1000 * t257)) - t255)) ≤ 500 then (if (wrap64 ((wrap64 (1000 * t257)) - t255)) = 500 then (if t255 > 0 then (if (wrap64 ((wrap64 (1000 * t257)) - t255)) = (-500) then (some (decide (t255 < 0))) else (some true)) else (some false)) else (if (wrap64 ((wrap64 (1000 * t257)) - t255)) = (-500) then (some (decide (t255 < 0))) else (some true))) else (some false)) else (some false)) else (some false)) else (some false)) else (some false)) = some r := H
  have A5 := Aside0.mk A50
  clear A50
  by_cases c6 : t254 = true
  · subst c6
    have H1 : (if (wrap64 (1000 * t256)) ≥ t255 then (if (wrap64 (1000 * (wrap64 (t256 - 1)))) < t255 then (if (wrap64 ((wrap64 (1000 * t257)) - t255)) ≥ (-500) then (if (wrap64 ((wrap64 (1000 * t257)) - t255)) ≤ 500 then (if (wrap64 ((wrap64 (1000 * t257)) - t255)) = 500 then (if t255 > 0 then (if (wrap64 ((wrap64 (1000 * t257)) - t255)) = (-500) then (some (decide (t255 < 0))) else (some true)) else (some false)) else (if (wrap64 ((wrap64 (1000 * t257)) - t255)) = (-500) then (some (decide (t255 < 0))) else (some true))) else (some false)) else (some false)) else (some false)) else (some false)) = some r := by rw [if_pos rfl] at H; exact H
    clear H
    have H := H1
    clear H1
    by_cases c7 : (wrap64 (1000 * t256)) ≥ t255
    · rw [if_pos c7] at H
      have c7b0 : decide (t255 ≤ (wrap64 (1000 * t256))) = true := decide_eq_true c7
      clear c7
      by_cases c8 : (wrap64 (1000 * (wrap64 (t256 - 1)))) < t255
      · rw [if_pos c8] at H
        have c8b0 : decide ((wrap64 (1000 * (wrap64 (t256 - 1)))) < t255) = true := decide_eq_true c8
        clear c8
        by_cases c9 : (wrap64 ((wrap64 (1000 * t257)) - t255)) ≥ (-500)
        · rw [if_pos c9] at H
          have c9b0 : decide ((-500) ≤ (wrap64 ((wrap64 (1000 * t257)) - t255))) = true := decide_eq_true c9
          clear c9
          by_cases c10 : (wrap64 ((wrap64 (1000 * t257)) - t255)) ≤ 500
          · rw [if_pos c10] at H
            have c10b0 : decide ((wrap64 ((wrap64 (1000 * t257)) - t255)) ≤ 500) = true := decide_eq_true c10
            clear c10
            by_cases c11 : (wrap64 ((wrap64 (1000 * t257)) - t255)) = 500
            · rw [if_pos c11] at H
              have c11b0 : ((wrap64 ((wrap64 (1000 * t257)) - t255)) == 500) = true := beq_iff_eq.mpr c11
              have c11b1 : ((wrap64 ((wrap64 (1000 * t257)) - t255)) != 500) = false := bne_eq_false_iff_eq.mpr c11
              clear c11
              by_cases c12 : t255 > 0
              · rw [if_pos c12] at H
                have c12b0 : decide (0 < t255) = true := decide_eq_true c12
                clear c12
                by_cases c13 : (wrap64 ((wrap64 (1000 * t257)) - t255)) = (-500)
                · rw [if_pos c13] at H
                  have c13b0 : ((wrap64 ((wrap64 (1000 * t257)) - t255)) == (-500)) = true := beq_iff_eq.mpr c13
                  have c13b1 : ((wrap64 ((wrap64 (1000 * t257)) - t255)) != (-500)) = false := bne_eq_false_iff_eq.mpr c13
                  clear c13
                  obtain rfl := Option.some.inj H
                  go_enter Try.func13, Try.ntmps13
                  go_wp2_with (first | ((with_reducible refine gate_callee (f := 18) rfl ?_); refine goesL_ (some 8) rfl rfl Try.func18 (by kernel_rfl) rfl #[] rfl (by (try simp only [List.map_toArray, List.map_cons, List.map_nil]); first | done | rfl | (simp only [List.length_drop, List.length_take]; rfl)) ?_; (with_reducible refine (governorlaw08_head.calls  true _ A2.out).mono ?_); rintro e w' ⟨rfl, ⟨nd, rfl⟩⟩; refine ⟨_, rfl, ?_⟩) | ((with_reducible refine gate_callee (f := 19) rfl ?_); refine goesL_ (some 10) rfl rfl Try.func19 (by kernel_rfl) rfl #[.int .i64 a0] rfl (by (try simp only [List.map_toArray, List.map_cons, List.map_nil]); first | done | rfl | (simp only [List.length_drop, List.length_take]; rfl)) ?_; (with_reducible refine (fixed_Sat.calls a0 t255 _ A3.out).mono ?_); rintro e w' ⟨rfl, ⟨nd, rfl⟩⟩; refine ⟨_, rfl, ?_⟩) | ((with_reducible refine gate_callee (f := 31) rfl ?_); refine goesL_ (some 12) rfl rfl Try.func31 (by kernel_rfl) rfl #[.int .i64 a0] rfl (by (try simp only [List.map_toArray, List.map_cons, List.map_nil]); first | done | rfl | (simp only [List.length_drop, List.length_take]; rfl)) ?_; (with_reducible refine (fixed_Up.calls a0 t256 _ A4.out).mono ?_); rintro e w' ⟨rfl, ⟨nd, rfl⟩⟩; refine ⟨_, rfl, ?_⟩) | ((with_reducible refine gate_callee (f := 33) rfl ?_); refine goesL_ (some 14) rfl rfl Try.func33 (by kernel_rfl) rfl #[.int .i64 a0] rfl (by (try simp only [List.map_toArray, List.map_cons, List.map_nil]); first | done | rfl | (simp only [List.length_drop, List.length_take]; rfl)) ?_; (with_reducible refine (fixed_Near.calls a0 t257 _ A5.out).mono ?_); rintro e w' ⟨rfl, ⟨nd, rfl⟩⟩; refine ⟨_, rfl, ?_⟩))
                  go_ret
                  exact ⟨by first | rfl | (simp; done) | (simp [*]; done), by repeat (first | exact Drawn0.refl _ | apply Drawn0.step)⟩
                · rw [if_neg c13] at H
                  have c13b0 : ((wrap64 ((wrap64 (1000 * t257)) - t255)) == (-500)) = false := beq_eq_false_iff_ne.mpr c13
                  have c13b1 : ((wrap64 ((wrap64 (1000 * t257)) - t255)) != (-500)) = true := bne_iff_ne.mpr c13
                  obtain rfl := Option.some.inj H
                  go_enter Try.func13, Try.ntmps13
                  go_wp2_with (first | ((with_reducible refine gate_callee (f := 18) rfl ?_); refine goesL_ (some 8) rfl rfl Try.func18 (by kernel_rfl) rfl #[] rfl (by (try simp only [List.map_toArray, List.map_cons, List.map_nil]); first | done | rfl | (simp only [List.length_drop, List.length_take]; rfl)) ?_; (with_reducible refine (governorlaw08_head.calls  true _ A2.out).mono ?_); rintro e w' ⟨rfl, ⟨nd, rfl⟩⟩; refine ⟨_, rfl, ?_⟩) | ((with_reducible refine gate_callee (f := 19) rfl ?_); refine goesL_ (some 10) rfl rfl Try.func19 (by kernel_rfl) rfl #[.int .i64 a0] rfl (by (try simp only [List.map_toArray, List.map_cons, List.map_nil]); first | done | rfl | (simp only [List.length_drop, List.length_take]; rfl)) ?_; (with_reducible refine (fixed_Sat.calls a0 t255 _ A3.out).mono ?_); rintro e w' ⟨rfl, ⟨nd, rfl⟩⟩; refine ⟨_, rfl, ?_⟩) | ((with_reducible refine gate_callee (f := 31) rfl ?_); refine goesL_ (some 12) rfl rfl Try.func31 (by kernel_rfl) rfl #[.int .i64 a0] rfl (by (try simp only [List.map_toArray, List.map_cons, List.map_nil]); first | done | rfl | (simp only [List.length_drop, List.length_take]; rfl)) ?_; (with_reducible refine (fixed_Up.calls a0 t256 _ A4.out).mono ?_); rintro e w' ⟨rfl, ⟨nd, rfl⟩⟩; refine ⟨_, rfl, ?_⟩) | ((with_reducible refine gate_callee (f := 33) rfl ?_); refine goesL_ (some 14) rfl rfl Try.func33 (by kernel_rfl) rfl #[.int .i64 a0] rfl (by (try simp only [List.map_toArray, List.map_cons, List.map_nil]); first | done | rfl | (simp only [List.length_drop, List.length_take]; rfl)) ?_; (with_reducible refine (fixed_Near.calls a0 t257 _ A5.out).mono ?_); rintro e w' ⟨rfl, ⟨nd, rfl⟩⟩; refine ⟨_, rfl, ?_⟩))
                  go_ret
                  exact ⟨by first | rfl | (simp; done) | (simp [*]; done), by repeat (first | exact Drawn0.refl _ | apply Drawn0.step)⟩
              · rw [if_neg c12] at H
                have c12b0 : decide (0 < t255) = false := decide_eq_false c12
                clear c12
                exact absurd (Option.some.inj H) (by rw [HRT.out]; decide)
            · rw [if_neg c11] at H
              have c11b0 : ((wrap64 ((wrap64 (1000 * t257)) - t255)) == 500) = false := beq_eq_false_iff_ne.mpr c11
              have c11b1 : ((wrap64 ((wrap64 (1000 * t257)) - t255)) != 500) = true := bne_iff_ne.mpr c11
              by_cases c14 : (wrap64 ((wrap64 (1000 * t257)) - t255)) = (-500)
              · rw [if_pos c14] at H
                have c14b0 : ((wrap64 ((wrap64 (1000 * t257)) - t255)) == (-500)) = true := beq_iff_eq.mpr c14
                have c14b1 : ((wrap64 ((wrap64 (1000 * t257)) - t255)) != (-500)) = false := bne_eq_false_iff_eq.mpr c14
                clear c14
                obtain rfl := Option.some.inj H
                go_enter Try.func13, Try.ntmps13
                go_wp2_with (first | ((with_reducible refine gate_callee (f := 18) rfl ?_); refine goesL_ (some 8) rfl rfl Try.func18 (by kernel_rfl) rfl #[] rfl (by (try simp only [List.map_toArray, List.map_cons, List.map_nil]); first | done | rfl | (simp only [List.length_drop, List.length_take]; rfl)) ?_; (with_reducible refine (governorlaw08_head.calls  true _ A2.out).mono ?_); rintro e w' ⟨rfl, ⟨nd, rfl⟩⟩; refine ⟨_, rfl, ?_⟩) | ((with_reducible refine gate_callee (f := 19) rfl ?_); refine goesL_ (some 10) rfl rfl Try.func19 (by kernel_rfl) rfl #[.int .i64 a0] rfl (by (try simp only [List.map_toArray, List.map_cons, List.map_nil]); first | done | rfl | (simp only [List.length_drop, List.length_take]; rfl)) ?_; (with_reducible refine (fixed_Sat.calls a0 t255 _ A3.out).mono ?_); rintro e w' ⟨rfl, ⟨nd, rfl⟩⟩; refine ⟨_, rfl, ?_⟩) | ((with_reducible refine gate_callee (f := 31) rfl ?_); refine goesL_ (some 12) rfl rfl Try.func31 (by kernel_rfl) rfl #[.int .i64 a0] rfl (by (try simp only [List.map_toArray, List.map_cons, List.map_nil]); first | done | rfl | (simp only [List.length_drop, List.length_take]; rfl)) ?_; (with_reducible refine (fixed_Up.calls a0 t256 _ A4.out).mono ?_); rintro e w' ⟨rfl, ⟨nd, rfl⟩⟩; refine ⟨_, rfl, ?_⟩) | ((with_reducible refine gate_callee (f := 33) rfl ?_); refine goesL_ (some 14) rfl rfl Try.func33 (by kernel_rfl) rfl #[.int .i64 a0] rfl (by (try simp only [List.map_toArray, List.map_cons, List.map_nil]); first | done | rfl | (simp only [List.length_drop, List.length_take]; rfl)) ?_; (with_reducible refine (fixed_Near.calls a0 t257 _ A5.out).mono ?_); rintro e w' ⟨rfl, ⟨nd, rfl⟩⟩; refine ⟨_, rfl, ?_⟩))
                go_ret
                exact ⟨by first | rfl | (simp; done) | (simp [*]; done), by repeat (first | exact Drawn0.refl _ | apply Drawn0.step)⟩
              · rw [if_neg c14] at H
                have c14b0 : ((wrap64 ((wrap64 (1000 * t257)) - t255)) == (-500)) = false := beq_eq_false_iff_ne.mpr c14
                have c14b1 : ((wrap64 ((wrap64 (1000 * t257)) - t255)) != (-500)) = true := bne_iff_ne.mpr c14
                obtain rfl := Option.some.inj H
                go_enter Try.func13, Try.ntmps13
                go_wp2_with (first | ((with_reducible refine gate_callee (f := 18) rfl ?_); refine goesL_ (some 8) rfl rfl Try.func18 (by kernel_rfl) rfl #[] rfl (by (try simp only [List.map_toArray, List.map_cons, List.map_nil]); first | done | rfl | (simp only [List.length_drop, List.length_take]; rfl)) ?_; (with_reducible refine (governorlaw08_head.calls  true _ A2.out).mono ?_); rintro e w' ⟨rfl, ⟨nd, rfl⟩⟩; refine ⟨_, rfl, ?_⟩) | ((with_reducible refine gate_callee (f := 19) rfl ?_); refine goesL_ (some 10) rfl rfl Try.func19 (by kernel_rfl) rfl #[.int .i64 a0] rfl (by (try simp only [List.map_toArray, List.map_cons, List.map_nil]); first | done | rfl | (simp only [List.length_drop, List.length_take]; rfl)) ?_; (with_reducible refine (fixed_Sat.calls a0 t255 _ A3.out).mono ?_); rintro e w' ⟨rfl, ⟨nd, rfl⟩⟩; refine ⟨_, rfl, ?_⟩) | ((with_reducible refine gate_callee (f := 31) rfl ?_); refine goesL_ (some 12) rfl rfl Try.func31 (by kernel_rfl) rfl #[.int .i64 a0] rfl (by (try simp only [List.map_toArray, List.map_cons, List.map_nil]); first | done | rfl | (simp only [List.length_drop, List.length_take]; rfl)) ?_; (with_reducible refine (fixed_Up.calls a0 t256 _ A4.out).mono ?_); rintro e w' ⟨rfl, ⟨nd, rfl⟩⟩; refine ⟨_, rfl, ?_⟩) | ((with_reducible refine gate_callee (f := 33) rfl ?_); refine goesL_ (some 14) rfl rfl Try.func33 (by kernel_rfl) rfl #[.int .i64 a0] rfl (by (try simp only [List.map_toArray, List.map_cons, List.map_nil]); first | done | rfl | (simp only [List.length_drop, List.length_take]; rfl)) ?_; (with_reducible refine (fixed_Near.calls a0 t257 _ A5.out).mono ?_); rintro e w' ⟨rfl, ⟨nd, rfl⟩⟩; refine ⟨_, rfl, ?_⟩))
                go_ret
                exact ⟨by first | rfl | (simp; done) | (simp [*]; done), by repeat (first | exact Drawn0.refl _ | apply Drawn0.step)⟩
          · rw [if_neg c10] at H
            have c10b0 : decide ((wrap64 ((wrap64 (1000 * t257)) - t255)) ≤ 500) = false := decide_eq_false c10
            clear c10
            exact absurd (Option.some.inj H) (by rw [HRT.out]; decide)
        · rw [if_neg c9] at H
          have c9b0 : decide ((-500) ≤ (wrap64 ((wrap64 (1000 * t257)) - t255))) = false := decide_eq_false c9
          clear c9
          exact absurd (Option.some.inj H) (by rw [HRT.out]; decide)
      · rw [if_neg c8] at H
        have c8b0 : decide ((wrap64 (1000 * (wrap64 (t256 - 1)))) < t255) = false := decide_eq_false c8
        clear c8
        exact absurd (Option.some.inj H) (by rw [HRT.out]; decide)
    · rw [if_neg c7] at H
      have c7b0 : decide (t255 ≤ (wrap64 (1000 * t256))) = false := decide_eq_false c7
      clear c7
      exact absurd (Option.some.inj H) (by rw [HRT.out]; decide)
  · replace c6 := Bool.eq_false_iff.mpr c6
    subst c6
    have H1 : (some false) = some r := by rw [if_neg (show ¬ (false = true) by decide)] at H; exact H
    clear H
    have H := H1
    clear H1
    exact absurd (Option.some.inj H) (by rw [HRT.out]; decide)

end Go.Proofs.Ytmdkcadngkbphaa.PAll
