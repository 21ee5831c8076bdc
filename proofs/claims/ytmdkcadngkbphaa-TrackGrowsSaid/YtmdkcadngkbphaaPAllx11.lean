-- laid by a program of this session (tprint.py) out of the translation and of texts typed by hand; Lean checks it
import Derived.Test.YtmdkcadngkbphaaPAllx0
import Derived.Test.YtmdkcadngkbphaaPAllx6
import Derived.Test.YtmdkcadngkbphaaPAllx7
namespace Go.Proofs.Ytmdkcadngkbphaa.PAll
open Go.RowKit Go.Proofs.YtmdkcadngkbphaaW.PrintWords Go.Proofs.YtmdkcadngkbphaaW.PrintLast Go.Proofs.YtmdkcadngkbphaaW.PrintMore
attribute [local go_sem] max2_int min2_int max_two min_two max_three min_three max_four min_four   -- for this text's walks alone
set_option linter.unusedVariables false
set_option linter.unusedSimpArgs false

/-! ### governorlaw10_TrackGrows: function 4 -/
def governorlaw10_TrackGrows.j0 : Nat → Int → Int → Int → Int → Bool → Int → Int → Bool → Option (Bool)
  | 0, _, _, _, _, _, _, _, _ => none
  | k + 1, x0, x1, x2, x3, x9, x10, x11, x28 => if x28 = true then (if x9 = true then (if x11 ≥ 0 then (some (decide (x11 ≤ 1000))) else (some false)) else (some false)) else (if x9 = true then (if x11 ≥ 0 then (if x11 ≤ 1000 then ((track_Want.f x0 x1 (wrap64 (x2 + x10))).bind fun t130 => (if t130 ≥ x11 then ((track_Want.f x0 (wrap64 (x1 + (wrap64 (x3)))) x2).bind fun t131 => (if t131 ≥ x11 then ((track_Want.f (wrap64 (x0 + x10)) x1 x2).bind fun t132 => (some (decide (t132 ≤ x11)))) else (some false))) else (some false))) else (some false)) else (some false)) else (some false))
def governorlaw10_TrackGrows.f (k : Nat) (a0 : Int) (a1 : Int) (a2 : Int) (a3 : Int) : Option (Bool) := (governorlaw10_head.f).bind fun t128 => ((track_Want.f a0 a1 a2).bind fun t129 => (if a0 > 1099511627776 then (governorlaw10_TrackGrows.j0 k a0 a1 a2 a3 t128 (wrap64 (a3)) t129 true) else (if a1 > 1099511627776 then (governorlaw10_TrackGrows.j0 k a0 a1 a2 a3 t128 (wrap64 (a3)) t129 true) else (governorlaw10_TrackGrows.j0 k a0 a1 a2 a3 t128 (wrap64 (a3)) t129 (decide (a2 > 1099511627776))))))
theorem governorlaw10_TrackGrows.mono_l : ∀ k, (∀ y0 y1 y2 y3 y4 y5 y6 y7, LeO (governorlaw10_TrackGrows.j0 k y0 y1 y2 y3 y4 y5 y6 y7) (governorlaw10_TrackGrows.j0 (k + 1) y0 y1 y2 y3 y4 y5 y6 y7))
  | 0 => fun _ _ _ _ _ _ _ _ r h => by simp [governorlaw10_TrackGrows.j0] at h
  | k + 1 => by
    have ih0 := governorlaw10_TrackGrows.mono_l k
    · intro y0 y1 y2 y3 y4 y5 y6 y7
      unfold governorlaw10_TrackGrows.j0
      repeat' first
      | (with_reducible exact ih0 _ _ _ _ _ _ _ _)
      | (with_reducible exact LeO.refl _)
      | (with_reducible exact LeO.none _)
      | (with_reducible refine LeO.ite ?_ ?_)
      | (with_reducible refine LeO.bind ?_ (fun _ => ?_))
      | exact ih0 _ _ _ _ _ _ _ _
      | exact LeO.none _
      | refine LeO.ite ?_ ?_
      | refine LeO.bind ?_ (fun _ => ?_)
theorem governorlaw10_TrackGrows.mono : ∀ a0 a1 a2 a3 k, LeO (governorlaw10_TrackGrows.f k a0 a1 a2 a3) (governorlaw10_TrackGrows.f (k + 1) a0 a1 a2 a3) := by
  intro a0 a1 a2 a3 k
  have ih0 := governorlaw10_TrackGrows.mono_l k
  unfold governorlaw10_TrackGrows.f
  repeat' first
      | (with_reducible exact ih0 _ _ _ _ _ _ _ _)
      | (with_reducible exact LeO.refl _)
      | (with_reducible exact LeO.none _)
      | (with_reducible refine LeO.ite ?_ ?_)
      | (with_reducible refine LeO.bind ?_ (fun _ => ?_))
      | exact ih0 _ _ _ _ _ _ _ _
      | exact LeO.none _
      | refine LeO.ite ?_ ?_
      | refine LeO.bind ?_ (fun _ => ?_)
set_option maxHeartbeats 8000000 in
set_option maxRecDepth 100000 in
theorem governorlaw10_TrackGrows.calls (k : Nat) (a0 : Int) (a1 : Int) (a2 : Int) (a3 : Int) (r : Bool) (w : World) (hrT : r = true) (h : governorlaw10_TrackGrows.f k a0 a1 a2 a3 = some r) :
    Calls Try.prog 4 #[.int .i64 a0, .int .i64 a1, .int .i64 a2, .int .u16 a3] w fun e w' => e = .returned (.bool r) ∧ Drawn0 w w' := by
  have HRT := Aside0.mk hrT
  clear hrT
  have H : ((governorlaw10_head.f).bind fun t128 => ((track_Want.f a0 a1 a2).bind fun t129 => (if a0 > 1099511627776 then (governorlaw10_TrackGrows.j0 k a0 a1 a2 a3 t128 (wrap64 (a3)) t129 true) else (if a1 > 1099511627776 then (governorlaw10_TrackGrows.j0 k a0 a1 a2 a3 t128 (wrap64 (a3)) t129 true) else (governorlaw10_TrackGrows.j0 k a0 a1 a2 a3 t128 (wrap64 (a3)) t129 (decide (a2 > 1099511627776))))))) = some r := h
  clear h
  replace H := Option.bind_eq_some_iff.mp H
  obtain ⟨t128, A50, H⟩ := H
  replace H : ((track_Want.f a0 a1 a2).bind fun t129 => (if a0 > 1099511627776 then (governorlaw10_TrackGrows.j0 k a0 a1 a2 a3 t128 (wrap64 (a3)) t129 true) else (if a1 > 1099511627776 then (governorlaw10_TrackGrows.j0 k a0 a1 a2 a3 t128 (wrap64 (a3)) t129 true) else (governorlaw10_TrackGrows.j0 k a0 a1 a2 a3 t128 (wrap64 (a3)) t129 (decide (a2 > 1099511627776)))))) = some r := H
  have A5 := Aside0.mk A50
  clear A50
  replace H := Option.bind_eq_some_iff.mp H
  obtain ⟨t129, A60, H⟩ := H
  replace H : (if a0 > 1099511627776 then (governorlaw10_TrackGrows.j0 k a0 a1 a2 a3 t128 (wrap64 (a3)) t129 true) else (if a1 > 1099511627776 then (governorlaw10_TrackGrows.j0 k a0 a1 a2 a3 t128 (wrap64 (a3)) t129 true) else (governorlaw10_TrackGrows.j0 k a0 a1 a2 a3 t128 (wrap64 (a3)) t129 (decide (a2 > 1099511627776))))) = some r := H
  have A6 := Aside0.mk A60
  clear A60
  have HC7 := Aside0.mk H
  clear H
  go_enter Try.func4, Try.ntmps4
  go_upto_region 4 with (first | ((with_reducible refine gate_callee (f := 15) rfl ?_); refine goesL_ (some 12) rfl rfl Try.func15 (by kernel_rfl) rfl #[] rfl (by (try simp only [List.map_toArray, List.map_cons, List.map_nil]); first | done | rfl | (simp only [List.length_drop, List.length_take]; rfl)) ?_; (with_reducible refine (governorlaw10_head.calls  t128 _ A5.out).mono ?_); rintro e w' ⟨rfl, ⟨nd, rfl⟩⟩; refine ⟨_, rfl, ?_⟩) | ((with_reducible refine gate_callee (f := 16) rfl ?_); refine goesL_ (some 18) rfl rfl Try.func16 (by kernel_rfl) rfl #[.int .i64 a0, .int .i64 a1, .int .i64 a2] rfl (by (try simp only [List.map_toArray, List.map_cons, List.map_nil]); first | done | rfl | (simp only [List.length_drop, List.length_take]; rfl)) ?_; (with_reducible refine (track_Want.calls a0 a1 a2 t129 _ A6.out).mono ?_); rintro e w' ⟨rfl, ⟨nd, rfl⟩⟩; refine ⟨_, rfl, ?_⟩))
  (try simp only [Act.put, List.setIfInBounds_toArray, List.set_cons_zero, List.set_cons_succ])
  go_cut [28] (fun v28 wc => ∃ (kq : Nat) (x28_6 : Bool), v28 = .bool x28_6 ∧ Aside0 (governorlaw10_TrackGrows.j0 kq a0 a1 a2 a3 t128 (wrap64 (a3)) t129 x28_6 = some r) ∧ Aside0 (kq ≤ k) ∧ Drawn0 w wc)
  case first =>
    have H := HC7.out
    clear HC7
    by_cases c8 : a0 > 1099511627776
    · rw [if_pos c8] at H
      have c8b0 : decide (1099511627776 < a0) = true := decide_eq_true c8
      clear c8
      (first | rw [c8b0] | (simp only [i64_w, i32_w]; rw [c8b0]) | skip)
      have H' := Aside0.mk H
      clear H
      go_wp2
      go_meet
      case rel => exact ⟨_, (true), (by first | rfl | (simp; done) | (simp [*]; done)), H', ⟨by first | omega | exact Nat.le_refl _⟩, by repeat (first | exact Drawn0.refl _ | apply Drawn0.step)⟩
    · rw [if_neg c8] at H
      have c8b0 : decide (1099511627776 < a0) = false := decide_eq_false c8
      clear c8
      (first | rw [c8b0] | (simp only [i64_w, i32_w]; rw [c8b0]) | skip)
      by_cases c9 : a1 > 1099511627776
      · rw [if_pos c9] at H
        have c9b0 : decide (1099511627776 < a1) = true := decide_eq_true c9
        clear c9
        have H' := Aside0.mk H
        clear H
        go_wp2
        go_meet
        case rel => exact ⟨_, (true), (by first | rfl | (simp; done) | (simp [*]; done)), H', ⟨by first | omega | exact Nat.le_refl _⟩, by repeat (first | exact Drawn0.refl _ | apply Drawn0.step)⟩
      · rw [if_neg c9] at H
        have c9b0 : decide (1099511627776 < a1) = false := decide_eq_false c9
        clear c9
        have H' := Aside0.mk H
        clear H
        go_wp2
        go_meet
        case rel => exact ⟨_, (decide (a2 > 1099511627776)), (by first | rfl | (simp; done) | (simp [*]; done)), H', ⟨by first | omega | exact Nat.le_refl _⟩, by repeat (first | exact Drawn0.refl _ | apply Drawn0.step)⟩
  case rest =>
    clear HC7
    try clear c1
    try clear p2
    try clear c4
    try clear p6
    try clear c8
    try clear c8b0
    try clear c9
    try clear c9b0
    obtain ⟨kq, x28_6, rfl, HA, HJ6, ⟨mc6, rfl⟩⟩ := hcut
    cases kq with
    | zero => exact absurd HA.out (by simp [governorlaw10_TrackGrows.j0])
    | succ kj6 =>
      have H := HA.out
      clear HA
      simp only [governorlaw10_TrackGrows.j0] at H
      by_cases c10 : x28_6 = true
      · subst c10
        have H1 : (if t128 = true then (if t129 ≥ 0 then (some (decide (t129 ≤ 1000))) else (some false)) else (some false)) = some r := by rw [if_pos rfl] at H; exact H
        clear H
        have H := H1
        clear H1
        by_cases c11 : t128 = true
        · subst c11
          have H1 : (if t129 ≥ 0 then (some (decide (t129 ≤ 1000))) else (some false)) = some r := by rw [if_pos rfl] at H; exact H
          clear H
          have H := H1
          clear H1
          by_cases c12 : t129 ≥ 0
          · rw [if_pos c12] at H
            have c12b0 : decide (0 ≤ t129) = true := decide_eq_true c12
            clear c12
            obtain rfl := Option.some.inj H
            go_wp2
            go_ret
            exact ⟨by first | rfl | (simp; done) | (simp [*]; done), by repeat (first | exact Drawn0.refl _ | apply Drawn0.step)⟩
          · rw [if_neg c12] at H
            have c12b0 : decide (0 ≤ t129) = false := decide_eq_false c12
            clear c12
            exact absurd (Option.some.inj H) (by rw [HRT.out]; decide)
        · replace c11 := Bool.eq_false_iff.mpr c11
          subst c11
          have H1 : (some false) = some r := by rw [if_neg (show ¬ (false = true) by decide)] at H; exact H
          clear H
          have H := H1
          clear H1
          exact absurd (Option.some.inj H) (by rw [HRT.out]; decide)
      · replace c10 := Bool.eq_false_iff.mpr c10
        subst c10
        have H1 : (if t128 = true then (if t129 ≥ 0 then (if t129 ≤ 1000 then ((track_Want.f a0 a1 (wrap64 (a2 + (wrap64 (a3))))).bind fun t130 => (if t130 ≥ t129 then ((track_Want.f a0 (wrap64 (a1 + (wrap64 (a3)))) a2).bind fun t131 => (if t131 ≥ t129 then ((track_Want.f (wrap64 (a0 + (wrap64 (a3)))) a1 a2).bind fun t132 => (some (decide (t132 ≤ t129)))) else (some false))) else (some false))) else (some false)) else (some false)) else (some false)) = some r := by rw [if_neg (show ¬ (false = true) by decide)] at H; exact H
        clear H
        have H := H1
        clear H1
        by_cases c13 : t128 = true
        · subst c13
          have H1 : (if t129 ≥ 0 then (if t129 ≤ 1000 then ((track_Want.f a0 a1 (wrap64 (a2 + (wrap64 (a3))))).bind fun t130 => (if t130 ≥ t129 then ((track_Want.f a0 (wrap64 (a1 + (wrap64 (a3)))) a2).bind fun t131 => (if t131 ≥ t129 then ((track_Want.f (wrap64 (a0 + (wrap64 (a3)))) a1 a2).bind fun t132 => (some (decide (t132 ≤ t129)))) else (some false))) else (some false))) else (some false)) else (some false)) = some r := by rw [if_pos rfl] at H; exact H
          clear H
          have H := H1
          clear H1
          by_cases c14 : t129 ≥ 0
          · rw [if_pos c14] at H
            have c14b0 : decide (0 ≤ t129) = true := decide_eq_true c14
            clear c14
            by_cases c15 : t129 ≤ 1000
            · rw [if_pos c15] at H
              have c15b0 : decide (t129 ≤ 1000) = true := decide_eq_true c15
              clear c15
              replace H := Option.bind_eq_some_iff.mp H
              obtain ⟨t130, A160, H⟩ := H
              replace H : (if t130 ≥ t129 then ((track_Want.f a0 (wrap64 (a1 + (wrap64 (a3)))) a2).bind fun t131 => (if t131 ≥ t129 then ((track_Want.f (wrap64 (a0 + (wrap64 (a3)))) a1 a2).bind fun t132 => (some (decide (t132 ≤ t129)))) else (some false))) else (some false)) = some r := H
              have A16 := Aside0.mk A160
              clear A160
              by_cases c17 : t130 ≥ t129
              · rw [if_pos c17] at H
                have c17b0 : decide (t129 ≤ t130) = true := decide_eq_true c17
                clear c17
                replace H := Option.bind_eq_some_iff.mp H
                obtain ⟨t131, A180, H⟩ := H
                replace H : (if t131 ≥ t129 then ((track_Want.f (wrap64 (a0 + (wrap64 (a3)))) a1 a2).bind fun t132 => (some (decide (t132 ≤ t129)))) else (some false)) = some r := H
                have A18 := Aside0.mk A180
                clear A180
                by_cases c19 : t131 ≥ t129
                · rw [if_pos c19] at H
                  have c19b0 : decide (t129 ≤ t131) = true := decide_eq_true c19
                  clear c19
                  replace H := Option.bind_eq_some_iff.mp H
                  obtain ⟨t132, A200, H⟩ := H
                  replace H : (some (decide (t132 ≤ t129))) = some r := H
                  have A20 := Aside0.mk A200
                  clear A200
                  obtain rfl := Option.some.inj H
                  go_wp2_with (first | (go_at_call 16; (with_reducible refine (track_Want.calls a0 a1 (wrap64 (a2 + (wrap64 (a3)))) t130 _ A16.out).mono ?_); rintro e w' ⟨rfl, ⟨nd, rfl⟩⟩) | (go_at_call 16; (with_reducible refine (track_Want.calls a0 (wrap64 (a1 + (wrap64 (a3)))) a2 t131 _ A18.out).mono ?_); rintro e w' ⟨rfl, ⟨nd, rfl⟩⟩) | (go_at_call 16; (with_reducible refine (track_Want.calls (wrap64 (a0 + (wrap64 (a3)))) a1 a2 t132 _ A20.out).mono ?_); rintro e w' ⟨rfl, ⟨nd, rfl⟩⟩))
                  go_ret
                  exact ⟨by first | rfl | (simp; done) | (simp [*]; done), by repeat (first | exact Drawn0.refl _ | apply Drawn0.step)⟩
                · rw [if_neg c19] at H
                  have c19b0 : decide (t129 ≤ t131) = false := decide_eq_false c19
                  clear c19
                  exact absurd (Option.some.inj H) (by rw [HRT.out]; decide)
              · rw [if_neg c17] at H
                have c17b0 : decide (t129 ≤ t130) = false := decide_eq_false c17
                clear c17
                exact absurd (Option.some.inj H) (by rw [HRT.out]; decide)
            · rw [if_neg c15] at H
              have c15b0 : decide (t129 ≤ 1000) = false := decide_eq_false c15
              clear c15
              exact absurd (Option.some.inj H) (by rw [HRT.out]; decide)
          · rw [if_neg c14] at H
            have c14b0 : decide (0 ≤ t129) = false := decide_eq_false c14
            clear c14
            exact absurd (Option.some.inj H) (by rw [HRT.out]; decide)
        · replace c13 := Bool.eq_false_iff.mpr c13
          subst c13
          have H1 : (some false) = some r := by rw [if_neg (show ¬ (false = true) by decide)] at H; exact H
          clear H
          have H := H1
          clear H1
          exact absurd (Option.some.inj H) (by rw [HRT.out]; decide)

end Go.Proofs.Ytmdkcadngkbphaa.PAll
