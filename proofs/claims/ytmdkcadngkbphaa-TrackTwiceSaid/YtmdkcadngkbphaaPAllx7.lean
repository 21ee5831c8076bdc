-- laid by a program of this session (tprint.py) out of the translation and of texts typed by hand; Lean checks it
import Derived.Test.YtmdkcadngkbphaaPAllx0
import Derived.Test.YtmdkcadngkbphaaPAllx6
namespace Go.Proofs.Ytmdkcadngkbphaa.PAll
open Go.RowKit Go.Proofs.YtmdkcadngkbphaaW.PrintWords Go.Proofs.YtmdkcadngkbphaaW.PrintLast Go.Proofs.YtmdkcadngkbphaaW.PrintMore
attribute [local go_sem] max2_int min2_int max_two min_two max_three min_three max_four min_four   -- for this text's walks alone
set_option linter.unusedVariables false
set_option linter.unusedSimpArgs false

/-! ### governorlaw10_head: function 15 -/
def governorlaw10_head.f  : Option (Bool) := (track_Want.f 600 4 900).bind fun t109 => (if t109 = 6 then ((track_Want.f 600 4 901).bind fun t110 => (if t110 = 7 then ((track_Want.f 600 0 900).bind fun t111 => (if t111 = 0 then ((track_Want.f 1 1000 1000).bind fun t112 => (if t112 = 1000 then ((track_Want.f 0 (-3) 5).bind fun t113 => (if t113 = 0 then ((track_Want.f 700 7 0).bind fun t114 => (some (t114 == 0))) else (some false))) else (some false))) else (some false))) else (some false))) else (some false))
set_option maxHeartbeats 8000000 in
set_option maxRecDepth 100000 in
theorem governorlaw10_head.calls  (r : Bool) (w : World) (h : governorlaw10_head.f  = some r) :
    Calls Try.prog 15 #[] w fun e w' => e = .returned (.bool r) ∧ Drawn0 w w' := by
  have HRT := Aside0.mk (Option.some.inj (h.symm.trans (show governorlaw10_head.f = some true by decide +kernel)))
  have H : ((track_Want.f 600 4 900).bind fun t109 => (if t109 = 6 then ((track_Want.f 600 4 901).bind fun t110 => (if t110 = 7 then ((track_Want.f 600 0 900).bind fun t111 => (if t111 = 0 then ((track_Want.f 1 1000 1000).bind fun t112 => (if t112 = 1000 then ((track_Want.f 0 (-3) 5).bind fun t113 => (if t113 = 0 then ((track_Want.f 700 7 0).bind fun t114 => (some (t114 == 0))) else (some false))) else (some false))) else (some false))) else (some false))) else (some false))) = some r := h
  clear h
  replace H := Option.bind_eq_some_iff.mp H
  obtain ⟨t109, A10, H⟩ := H
  replace H : (if t109 = 6 then ((track_Want.f 600 4 901).bind fun t110 => (if t110 = 7 then ((track_Want.f 600 0 900).bind fun t111 => (if t111 = 0 then ((track_Want.f 1 1000 1000).bind fun t112 => (if t112 = 1000 then ((track_Want.f 0 (-3) 5).bind fun t113 => (if t113 = 0 then ((track_Want.f 700 7 0).bind fun t114 => (some (t114 == 0))) else (some false))) else (some false))) else (some false))) else (some false))) else (some false)) = some r := H
  have A1 := Aside0.mk A10
  clear A10
  by_cases c2 : t109 = 6
  · rw [if_pos c2] at H
    have c2b0 : (t109 == 6) = true := beq_iff_eq.mpr c2
    have c2b1 : (t109 != 6) = false := bne_eq_false_iff_eq.mpr c2
    clear c2
    replace H := Option.bind_eq_some_iff.mp H
    obtain ⟨t110, A30, H⟩ := H
    replace H : (if t110 = 7 then ((track_Want.f 600 0 900).bind fun t111 => (if t111 = 0 then ((track_Want.f 1 1000 1000).bind fun t112 => (if t112 = 1000 then ((track_Want.f 0 (-3) 5).bind fun t113 => (if t113 = 0 then ((track_Want.f 700 7 0).bind fun t114 => (some (t114 == 0))) else (some false))) else (some false))) else (some false))) else (some false)) = some r := H
    have A3 := Aside0.mk A30
    clear A30
    by_cases c4 : t110 = 7
    · rw [if_pos c4] at H
      have c4b0 : (t110 == 7) = true := beq_iff_eq.mpr c4
      have c4b1 : (t110 != 7) = false := bne_eq_false_iff_eq.mpr c4
      clear c4
      replace H := Option.bind_eq_some_iff.mp H
      obtain ⟨t111, A50, H⟩ := H
      replace H : (if t111 = 0 then ((track_Want.f 1 1000 1000).bind fun t112 => (if t112 = 1000 then ((track_Want.f 0 (-3) 5).bind fun t113 => (if t113 = 0 then ((track_Want.f 700 7 0).bind fun t114 => (some (t114 == 0))) else (some false))) else (some false))) else (some false)) = some r := H
      have A5 := Aside0.mk A50
      clear A50
      by_cases c6 : t111 = 0
      · rw [if_pos c6] at H
        have c6b0 : (t111 == 0) = true := beq_iff_eq.mpr c6
        have c6b1 : (t111 != 0) = false := bne_eq_false_iff_eq.mpr c6
        clear c6
        replace H := Option.bind_eq_some_iff.mp H
        obtain ⟨t112, A70, H⟩ := H
        replace H : (if t112 = 1000 then ((track_Want.f 0 (-3) 5).bind fun t113 => (if t113 = 0 then ((track_Want.f 700 7 0).bind fun t114 => (some (t114 == 0))) else (some false))) else (some false)) = some r := H
        have A7 := Aside0.mk A70
        clear A70
        by_cases c8 : t112 = 1000
        · rw [if_pos c8] at H
          have c8b0 : (t112 == 1000) = true := beq_iff_eq.mpr c8
          have c8b1 : (t112 != 1000) = false := bne_eq_false_iff_eq.mpr c8
          clear c8
          replace H := Option.bind_eq_some_iff.mp H
          obtain ⟨t113, A90, H⟩ := H
          replace H : (if t113 = 0 then ((track_Want.f 700 7 0).bind fun t114 => (some (t114 == 0))) else (some false)) = some r := H
          have A9 := Aside0.mk A90
          clear A90
          by_cases c10 : t113 = 0
          · rw [if_pos c10] at H
            have c10b0 : (t113 == 0) = true := beq_iff_eq.mpr c10
            have c10b1 : (t113 != 0) = false := bne_eq_false_iff_eq.mpr c10
            clear c10
            replace H := Option.bind_eq_some_iff.mp H
            obtain ⟨t114, A110, H⟩ := H
            replace H : (some (t114 == 0)) = some r := H
            have A11 := Aside0.mk A110
            clear A110
            obtain rfl := Option.some.inj H
            go_enter Try.func15, Try.ntmps15
            go_wp2_with (first | ((with_reducible refine gate_callee (f := 16) rfl ?_); refine goesL_ (some 1) rfl rfl Try.func16 (by kernel_rfl) rfl #[.int .i64 600, .int .i64 4, .int .i64 900] rfl (by (try simp only [List.map_toArray, List.map_cons, List.map_nil]); first | done | rfl | (simp only [List.length_drop, List.length_take]; rfl)) ?_; (with_reducible refine (track_Want.calls 600 4 900 t109 _ A1.out).mono ?_); rintro e w' ⟨rfl, ⟨nd, rfl⟩⟩; refine ⟨_, rfl, ?_⟩) | (go_at_call 16; (with_reducible refine (track_Want.calls 600 4 901 t110 _ A3.out).mono ?_); rintro e w' ⟨rfl, ⟨nd, rfl⟩⟩) | (go_at_call 16; (with_reducible refine (track_Want.calls 600 0 900 t111 _ A5.out).mono ?_); rintro e w' ⟨rfl, ⟨nd, rfl⟩⟩) | (go_at_call 16; (with_reducible refine (track_Want.calls 1 1000 1000 t112 _ A7.out).mono ?_); rintro e w' ⟨rfl, ⟨nd, rfl⟩⟩) | (go_at_call 16; (with_reducible refine (track_Want.calls 0 (-3) 5 t113 _ A9.out).mono ?_); rintro e w' ⟨rfl, ⟨nd, rfl⟩⟩) | (go_at_call 16; (with_reducible refine (track_Want.calls 700 7 0 t114 _ A11.out).mono ?_); rintro e w' ⟨rfl, ⟨nd, rfl⟩⟩))
            go_ret
            exact ⟨by first | rfl | (simp; done) | (simp [*]; done), by repeat (first | exact Drawn0.refl _ | apply Drawn0.step)⟩
          · rw [if_neg c10] at H
            have c10b0 : (t113 == 0) = false := beq_eq_false_iff_ne.mpr c10
            have c10b1 : (t113 != 0) = true := bne_iff_ne.mpr c10
            exact absurd (Option.some.inj H) (by rw [HRT.out]; decide)
        · rw [if_neg c8] at H
          have c8b0 : (t112 == 1000) = false := beq_eq_false_iff_ne.mpr c8
          have c8b1 : (t112 != 1000) = true := bne_iff_ne.mpr c8
          exact absurd (Option.some.inj H) (by rw [HRT.out]; decide)
      · rw [if_neg c6] at H
        have c6b0 : (t111 == 0) = false := beq_eq_false_iff_ne.mpr c6
        have c6b1 : (t111 != 0) = true := bne_iff_ne.mpr c6
        exact absurd (Option.some.inj H) (by rw [HRT.out]; decide)
    · rw [if_neg c4] at H
      have c4b0 : (t110 == 7) = false := beq_eq_false_iff_ne.mpr c4
      have c4b1 : (t110 != 7) = true := bne_iff_ne.mpr c4
      exact absurd (Option.some.inj H) (by rw [HRT.out]; decide)
  · rw [if_neg c2] at H
    have c2b0 : (t109 == 6) = false := beq_eq_false_iff_ne.mpr c2
    have c2b1 : (t109 != 6) = true := bne_iff_ne.mpr c2
    exact absurd (Option.some.inj H) (by rw [HRT.out]; decide)

end Go.Proofs.Ytmdkcadngkbphaa.PAll
