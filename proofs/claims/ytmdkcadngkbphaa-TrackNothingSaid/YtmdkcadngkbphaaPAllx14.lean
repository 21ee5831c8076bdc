-- laid by a program of this session (tprint.py) out of the translation and of texts typed by hand; Lean checks it
import Derived.Test.YtmdkcadngkbphaaPAllx0
import Derived.Test.YtmdkcadngkbphaaPAllx6
import Derived.Test.YtmdkcadngkbphaaPAllx7
namespace Go.Proofs.Ytmdkcadngkbphaa.PAll
open Go.RowKit Go.Proofs.YtmdkcadngkbphaaW.PrintWords Go.Proofs.YtmdkcadngkbphaaW.PrintLast Go.Proofs.YtmdkcadngkbphaaW.PrintMore
attribute [local go_sem] max2_int min2_int max_two min_two max_three min_three max_four min_four   -- for this text's walks alone
set_option linter.unusedVariables false
set_option linter.unusedSimpArgs false

/-! ### governorlaw10_TrackNothing: function 7 -/
def governorlaw10_TrackNothing.f (a0 : Int) (a1 : Int) (a2 : Int) : Option (Bool) := (governorlaw10_head.f).bind fun t139 => ((track_Want.f a0 a1 a2).bind fun t140 => (if a1 ≤ 0 then (if t139 = true then (some (t140 == 0)) else (some false)) else (if a2 ≤ 0 then (if t139 = true then (some (t140 == 0)) else (some false)) else (if t139 = true then (some ((t140 == 0) == (decide ((wrap64 ((wrap64 (1000 * (mn a1 1000))) * (mn a2 1000000000))) < (mn (mx a0 1) 1000000000))))) else (some false)))))
set_option maxHeartbeats 8000000 in
set_option maxRecDepth 100000 in
theorem governorlaw10_TrackNothing.calls (a0 : Int) (a1 : Int) (a2 : Int) (r : Bool) (w : World) (hrT : r = true) (h : governorlaw10_TrackNothing.f a0 a1 a2 = some r) :
    Calls Try.prog 7 #[.int .i64 a0, .int .i64 a1, .int .i64 a2] w fun e w' => e = .returned (.bool r) ∧ Below w.heap.size w w' := by
  have HB := Aside0.mk (Below.refl w.heap.size w)
  have HRT := Aside0.mk hrT
  clear hrT
  have H : ((governorlaw10_head.f).bind fun t139 => ((track_Want.f a0 a1 a2).bind fun t140 => (if a1 ≤ 0 then (if t139 = true then (some (t140 == 0)) else (some false)) else (if a2 ≤ 0 then (if t139 = true then (some (t140 == 0)) else (some false)) else (if t139 = true then (some ((t140 == 0) == (decide ((wrap64 ((wrap64 (1000 * (mn a1 1000))) * (mn a2 1000000000))) < (mn (mx a0 1) 1000000000))))) else (some false)))))) = some r := h
  clear h
  replace H := Option.bind_eq_some_iff.mp H
  obtain ⟨t139, A40, H⟩ := H
  replace H : ((track_Want.f a0 a1 a2).bind fun t140 => (if a1 ≤ 0 then (if t139 = true then (some (t140 == 0)) else (some false)) else (if a2 ≤ 0 then (if t139 = true then (some (t140 == 0)) else (some false)) else (if t139 = true then (some ((t140 == 0) == (decide ((wrap64 ((wrap64 (1000 * (mn a1 1000))) * (mn a2 1000000000))) < (mn (mx a0 1) 1000000000))))) else (some false))))) = some r := H
  have A4 := Aside0.mk A40
  clear A40
  replace H := Option.bind_eq_some_iff.mp H
  obtain ⟨t140, A50, H⟩ := H
  replace H : (if a1 ≤ 0 then (if t139 = true then (some (t140 == 0)) else (some false)) else (if a2 ≤ 0 then (if t139 = true then (some (t140 == 0)) else (some false)) else (if t139 = true then (some ((t140 == 0) == (decide ((wrap64 ((wrap64 (1000 * (mn a1 1000))) * (mn a2 1000000000))) < (mn (mx a0 1) 1000000000))))) else (some false)))) = some r := H
  have A5 := Aside0.mk A50
  clear A50
  by_cases c6 : a1 ≤ 0
  · rw [if_pos c6] at H
    have c6b0 : decide (a1 ≤ 0) = true := decide_eq_true c6
    clear c6
    by_cases c7 : t139 = true
    · subst c7
      have H1 : (some (t140 == 0)) = some r := by rw [if_pos rfl] at H; exact H
      clear H
      have H := H1
      clear H1
      obtain rfl := Option.some.inj H
      go_enter Try.func7, Try.ntmps7
      go_wp2_with (first | ((with_reducible refine gate_callee (f := 15) rfl ?_); refine goesL_ (some 10) rfl rfl Try.func15 (by kernel_rfl) rfl #[] rfl (by (try simp only [List.map_toArray, List.map_cons, List.map_nil]); first | done | rfl | (simp only [List.length_drop, List.length_take]; rfl)) ?_; (with_reducible refine (governorlaw10_head.calls  true _ A4.out).mono ?_); rintro e w' ⟨rfl, ⟨nd, rfl⟩⟩; refine ⟨_, rfl, ?_⟩) | ((with_reducible refine gate_callee (f := 16) rfl ?_); refine goesL_ (some 14) rfl rfl Try.func16 (by kernel_rfl) rfl #[.int .i64 a0, .int .i64 a1, .int .i64 a2] rfl (by (try simp only [List.map_toArray, List.map_cons, List.map_nil]); first | done | rfl | (simp only [List.length_drop, List.length_take]; rfl)) ?_; (with_reducible refine (track_Want.calls a0 a1 a2 t140 _ A5.out).mono ?_); rintro e w' ⟨rfl, ⟨nd, rfl⟩⟩; refine ⟨_, rfl, ?_⟩))
      go_ret
      exact ⟨by first | rfl | (simp [errW_none, errW_some] <;> rfl) | (simp [*, errW_none, errW_some] <;> rfl), by repeat (first | (with_reducible first | exact HB.out | apply below_alloc | apply pw_below_drewN | apply below_drew1) | exact HB.out)⟩
    · replace c7 := Bool.eq_false_iff.mpr c7
      subst c7
      have H1 : (some false) = some r := by rw [if_neg (show ¬ (false = true) by decide)] at H; exact H
      clear H
      have H := H1
      clear H1
      exact absurd (Option.some.inj H) (by rw [HRT.out]; decide)
  · rw [if_neg c6] at H
    have c6b0 : decide (a1 ≤ 0) = false := decide_eq_false c6
    clear c6
    by_cases c8 : a2 ≤ 0
    · rw [if_pos c8] at H
      have c8b0 : decide (a2 ≤ 0) = true := decide_eq_true c8
      clear c8
      by_cases c9 : t139 = true
      · subst c9
        have H1 : (some (t140 == 0)) = some r := by rw [if_pos rfl] at H; exact H
        clear H
        have H := H1
        clear H1
        obtain rfl := Option.some.inj H
        go_enter Try.func7, Try.ntmps7
        go_wp2_with (first | ((with_reducible refine gate_callee (f := 15) rfl ?_); refine goesL_ (some 10) rfl rfl Try.func15 (by kernel_rfl) rfl #[] rfl (by (try simp only [List.map_toArray, List.map_cons, List.map_nil]); first | done | rfl | (simp only [List.length_drop, List.length_take]; rfl)) ?_; (with_reducible refine (governorlaw10_head.calls  true _ A4.out).mono ?_); rintro e w' ⟨rfl, ⟨nd, rfl⟩⟩; refine ⟨_, rfl, ?_⟩) | ((with_reducible refine gate_callee (f := 16) rfl ?_); refine goesL_ (some 14) rfl rfl Try.func16 (by kernel_rfl) rfl #[.int .i64 a0, .int .i64 a1, .int .i64 a2] rfl (by (try simp only [List.map_toArray, List.map_cons, List.map_nil]); first | done | rfl | (simp only [List.length_drop, List.length_take]; rfl)) ?_; (with_reducible refine (track_Want.calls a0 a1 a2 t140 _ A5.out).mono ?_); rintro e w' ⟨rfl, ⟨nd, rfl⟩⟩; refine ⟨_, rfl, ?_⟩))
        go_ret
        exact ⟨by first | rfl | (simp [errW_none, errW_some] <;> rfl) | (simp [*, errW_none, errW_some] <;> rfl), by repeat (first | (with_reducible first | exact HB.out | apply below_alloc | apply pw_below_drewN | apply below_drew1) | exact HB.out)⟩
      · replace c9 := Bool.eq_false_iff.mpr c9
        subst c9
        have H1 : (some false) = some r := by rw [if_neg (show ¬ (false = true) by decide)] at H; exact H
        clear H
        have H := H1
        clear H1
        exact absurd (Option.some.inj H) (by rw [HRT.out]; decide)
    · rw [if_neg c8] at H
      have c8b0 : decide (a2 ≤ 0) = false := decide_eq_false c8
      clear c8
      obtain ⟨ji10, hji10⟩ : ∃ j_ : Int, (mn a1 1000) = j_ := ⟨_, rfl⟩
      replace H : (if t139 = true then (some ((t140 == 0) == (decide ((wrap64 ((wrap64 (1000 * (ji10))) * (mn a2 1000000000))) < (mn (mx a0 1) 1000000000))))) else (some false)) = some r := by first | (rw [hji10] at H; exact H) | (simp only [hji10] at H ⊢; exact H)
      (try rw [hji10] at A4)
      (try rw [hji10] at A5)
      (try (have hji10h : ji10 ≤ 1000 := by (rw [← hji10]; unfold mn; (repeat' split) <;> omega)))
      (try (have hji10g : ji10 ≤ 64 := by omega))
      have hji10_ : (if 1000 < a1 then 1000 else a1) = ji10 := hji10
      obtain ⟨ji11, hji11⟩ : ∃ j_ : Int, (mn a2 1000000000) = j_ := ⟨_, rfl⟩
      replace H : (if t139 = true then (some ((t140 == 0) == (decide ((wrap64 ((wrap64 (1000 * (ji10))) * (ji11))) < (mn (mx a0 1) 1000000000))))) else (some false)) = some r := by first | (rw [hji11] at H; exact H) | (simp only [hji11] at H ⊢; exact H)
      (try rw [hji11] at A4)
      (try rw [hji11] at A5)
      (try (have hji11h : ji11 ≤ 1000000000 := by (rw [← hji11]; unfold mn; (repeat' split) <;> omega)))
      (try (have hji11g : ji11 ≤ 64 := by omega))
      have hji11_ : (if 1000000000 < a2 then 1000000000 else a2) = ji11 := hji11
      by_cases c12 : t139 = true
      · subst c12
        have H1 : (some ((t140 == 0) == (decide ((wrap64 ((wrap64 (1000 * (ji10))) * (ji11))) < (mn (mx a0 1) 1000000000))))) = some r := by rw [if_pos rfl] at H; exact H
        clear H
        have H := H1
        clear H1
        obtain ⟨ji13, hji13⟩ : ∃ j_ : Int, (mx a0 1) = j_ := ⟨_, rfl⟩
        replace H : (some ((t140 == 0) == (decide ((wrap64 ((wrap64 (1000 * (ji10))) * (ji11))) < (mn (ji13) 1000000000))))) = some r := by first | (rw [hji13] at H; exact H) | (simp only [hji13] at H ⊢; exact H)
        (try rw [hji13] at A4)
        (try rw [hji13] at A5)
        (try (have hji13l : 1 ≤ ji13 := by (rw [← hji13]; unfold mx; (repeat' split) <;> omega)))
        (try (have hji13m : 0 ≤ ji13 := by omega))
        have hji13_ : (if a0 < 1 then 1 else a0) = ji13 := hji13
        obtain ⟨ji14, hji14⟩ : ∃ j_ : Int, (mn (ji13) 1000000000) = j_ := ⟨_, rfl⟩
        replace H : (some ((t140 == 0) == (decide ((wrap64 ((wrap64 (1000 * (ji10))) * (ji11))) < (ji14))))) = some r := by first | (rw [hji14] at H; exact H) | (simp only [hji14] at H ⊢; exact H)
        (try rw [hji14] at A4)
        (try rw [hji14] at A5)
        have hji14_ : (if 1000000000 < (ji13) then 1000000000 else (ji13)) = ji14 := hji14
        obtain rfl := Option.some.inj H
        go_enter Try.func7, Try.ntmps7
        go_wp2_with (first | ((with_reducible refine gate_callee (f := 15) rfl ?_); refine goesL_ (some 10) rfl rfl Try.func15 (by kernel_rfl) rfl #[] rfl (by (try simp only [List.map_toArray, List.map_cons, List.map_nil]); first | done | rfl | (simp only [List.length_drop, List.length_take]; rfl)) ?_; (with_reducible refine (governorlaw10_head.calls  true _ A4.out).mono ?_); rintro e w' ⟨rfl, ⟨nd, rfl⟩⟩; refine ⟨_, rfl, ?_⟩) | ((with_reducible refine gate_callee (f := 16) rfl ?_); refine goesL_ (some 14) rfl rfl Try.func16 (by kernel_rfl) rfl #[.int .i64 a0, .int .i64 a1, .int .i64 a2] rfl (by (try simp only [List.map_toArray, List.map_cons, List.map_nil]); first | done | rfl | (simp only [List.length_drop, List.length_take]; rfl)) ?_; (with_reducible refine (track_Want.calls a0 a1 a2 t140 _ A5.out).mono ?_); rintro e w' ⟨rfl, ⟨nd, rfl⟩⟩; refine ⟨_, rfl, ?_⟩))
        go_ret
        exact ⟨by first | rfl | (simp [errW_none, errW_some] <;> rfl) | (simp only [← hji10, ← hji11, ← hji13, ← hji14]; first | rfl | (simp [errW_none, errW_some] <;> rfl)) | (simp [*, errW_none, errW_some] <;> rfl), by repeat (first | (with_reducible first | exact HB.out | apply below_alloc | apply pw_below_drewN | apply below_drew1) | exact HB.out)⟩
      · replace c12 := Bool.eq_false_iff.mpr c12
        subst c12
        have H1 : (some false) = some r := by rw [if_neg (show ¬ (false = true) by decide)] at H; exact H
        clear H
        have H := H1
        clear H1
        exact absurd (Option.some.inj H) (by rw [HRT.out]; decide)

end Go.Proofs.Ytmdkcadngkbphaa.PAll
