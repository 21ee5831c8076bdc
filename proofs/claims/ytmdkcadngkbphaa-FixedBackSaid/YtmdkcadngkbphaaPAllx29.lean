-- laid by a program of this session (tprint.py) out of the translation and of texts typed by hand; Lean checks it
import Derived.Test.YtmdkcadngkbphaaPAllx0
import Derived.Test.YtmdkcadngkbphaaPAllx4
import Derived.Test.YtmdkcadngkbphaaPAllx21
import Derived.Test.YtmdkcadngkbphaaPAllx24
namespace Go.Proofs.Ytmdkcadngkbphaa.PAll
open Go.RowKit Go.Proofs.YtmdkcadngkbphaaW.PrintWords Go.Proofs.YtmdkcadngkbphaaW.PrintLast Go.Proofs.YtmdkcadngkbphaaW.PrintMore
attribute [local go_sem] max2_int min2_int max_two min_two max_three min_three max_four min_four   -- for this text's walks alone
set_option linter.unusedVariables false
set_option linter.unusedSimpArgs false

/-! ### governorlaw08_FixedBack: function 14 -/
def governorlaw08_FixedBack.f (a0 : Int) (a1 : Int) : Option (Bool) := (governorlaw08_head.f).bind fun t258 => ((fixed_Div.f (wrap64 (a0)) (wrap64 (a1))).bind fun t259 => (if (wrap64 (a1)) = 0 then (some t258) else ((governorlaw08_right.f (wrap64 (a0))).bind fun t260 => (if t260 = true then ((governorlaw08_right.f (wrap64 (a1))).bind fun t261 => (if t261 = true then (if t259 ≥ 1000000000 then (some t258) else (if t259 ≤ (-1000000000) then (some t258) else (if t258 = true then (if (wrap64 ((wrap64 (1000 * (wrap64 (a0)))) - (wrap64 (t259 * (wrap64 (a1)))))) < (mx (wrap64 (a1)) (wrap64 (-(wrap64 (a1))))) then (if (wrap64 ((wrap64 (1000 * (wrap64 (a0)))) - (wrap64 (t259 * (wrap64 (a1)))))) > (wrap64 (-(mx (wrap64 (a1)) (wrap64 (-(wrap64 (a1))))))) then (if (wrap64 ((wrap64 (1000 * (wrap64 (a0)))) - (wrap64 (t259 * (wrap64 (a1)))))) = 0 then (some true) else (some ((decide ((wrap64 ((wrap64 (1000 * (wrap64 (a0)))) - (wrap64 (t259 * (wrap64 (a1)))))) > 0)) == (decide ((wrap64 (a0)) > 0))))) else (some false)) else (some false)) else (some false)))) else (some t258))) else (some t258)))))
set_option maxHeartbeats 8000000 in
set_option maxRecDepth 100000 in
theorem governorlaw08_FixedBack.calls (a0 : Int) (a1 : Int) (r : Bool) (w : World) (hrT : r = true) (h : governorlaw08_FixedBack.f a0 a1 = some r) :
    Calls Try.prog 14 #[.int .i32 a0, .int .i32 a1] w fun e w' => e = .returned (.bool r) ∧ Below w.heap.size w w' := by
  have HB := Aside0.mk (Below.refl w.heap.size w)
  have HRT := Aside0.mk hrT
  clear hrT
  have H : ((governorlaw08_head.f).bind fun t258 => ((fixed_Div.f (wrap64 (a0)) (wrap64 (a1))).bind fun t259 => (if (wrap64 (a1)) = 0 then (some t258) else ((governorlaw08_right.f (wrap64 (a0))).bind fun t260 => (if t260 = true then ((governorlaw08_right.f (wrap64 (a1))).bind fun t261 => (if t261 = true then (if t259 ≥ 1000000000 then (some t258) else (if t259 ≤ (-1000000000) then (some t258) else (if t258 = true then (if (wrap64 ((wrap64 (1000 * (wrap64 (a0)))) - (wrap64 (t259 * (wrap64 (a1)))))) < (mx (wrap64 (a1)) (wrap64 (-(wrap64 (a1))))) then (if (wrap64 ((wrap64 (1000 * (wrap64 (a0)))) - (wrap64 (t259 * (wrap64 (a1)))))) > (wrap64 (-(mx (wrap64 (a1)) (wrap64 (-(wrap64 (a1))))))) then (if (wrap64 ((wrap64 (1000 * (wrap64 (a0)))) - (wrap64 (t259 * (wrap64 (a1)))))) = 0 then (some true) else (some ((decide ((wrap64 ((wrap64 (1000 * (wrap64 (a0)))) - (wrap64 (t259 * (wrap64 (a1)))))) > 0)) == (decide ((wrap64 (a0)) > 0))))) else (some false)) else (some false)) else (some false)))) else (some t258))) else (some t258)))))) = some r := h
  clear h
  replace H := Option.bind_eq_some_iff.mp H
  obtain ⟨t258, A30, H⟩ := H
  replace H : ((fixed_Div.f (wrap64 (a0)) (wrap64 (a1))).bind fun t259 => (if (wrap64 (a1)) = 0 then (some t258) else ((governorlaw08_right.f (wrap64 (a0))).bind fun t260 => (if t260 = true then ((governorlaw08_right.f (wrap64 (a1))).bind fun t261 => (if t261 = true then (if t259 ≥ 1000000000 then (some t258) else (if t259 ≤ (-1000000000) then (some t258) else (if t258 = true then (if (wrap64 ((wrap64 (1000 * (wrap64 (a0)))) - (wrap64 (t259 * (wrap64 (a1)))))) < (mx (wrap64 (a1)) (wrap64 (-(wrap64 (a1))))) then (if (wrap64 ((wrap64 (1000 * (wrap64 (a0)))) - (wrap64 (t259 * (wrap64 (a1)))))) > (wrap64 (-(mx (wrap64 (a1)) (wrap64 (-(wrap64 (a1))))))) then (if (wrap64 ((wrap64 (1000 * (wrap64 (a0)))) - (wrap64 (t259 * (wrap64 (a1)))))) = 0 then (some true) else (some ((decide ((wrap64 ((wrap64 (1000 * (wrap64 (a0)))) - (wrap64 (t259 * (wrap64 (a1)))))) > 0)) == (decide ((wrap64 (a0)) > 0))))) else (some false)) else (some false)) else (some false)))) else (some t258))) else (some t258))))) = some r := H
  have A3 := Aside0.mk A30
  clear A30
  replace H := Option.bind_eq_some_iff.mp H
  obtain ⟨t259, A40, H⟩ := H
  replace H : (if (wrap64 (a1)) = 0 then (some t258) else ((governorlaw08_right.f (wrap64 (a0))).bind fun t260 => (if t260 = true then ((governorlaw08_right.f (wrap64 (a1))).bind fun t261 => (if t261 = true then (if t259 ≥ 1000000000 then (some t258) else (if t259 ≤ (-1000000000) then (some t258) else (if t258 = true then (if (wrap64 ((wrap64 (1000 * (wrap64 (a0)))) - (wrap64 (t259 * (wrap64 (a1)))))) < (mx (wrap64 (a1)) (wrap64 (-(wrap64 (a1))))) then (if (wrap64 ((wrap64 (1000 * (wrap64 (a0)))) - (wrap64 (t259 * (wrap64 (a1)))))) > (wrap64 (-(mx (wrap64 (a1)) (wrap64 (-(wrap64 (a1))))))) then (if (wrap64 ((wrap64 (1000 * (wrap64 (a0)))) - (wrap64 (t259 * (wrap64 (a1)))))) = 0 then (some true) else (some ((decide ((wrap64 ((wrap64 (1000 * (wrap64 (a0)))) - (wrap64 (t259 * (wrap64 (a1)))))) > 0)) == (decide ((wrap64 (a0)) > 0))))) else (some false)) else (some false)) else (some false)))) else (some t258))) else (some t258)))) = some r := H
  have A4 := Aside0.mk A40
  clear A40
  by_cases c5 : (wrap64 (a1)) = 0
  · rw [if_pos c5] at H
    have c5b0 : ((wrap64 (a1)) == 0) = true := beq_iff_eq.mpr c5
    have c5b1 : ((wrap64 (a1)) != 0) = false := bne_eq_false_iff_eq.mpr c5
    clear c5
    obtain rfl := Option.some.inj H
    go_enter Try.func14, Try.ntmps14
    go_wp2_with (first | ((with_reducible refine gate_callee (f := 18) rfl ?_); refine goesL_ (some 11) rfl rfl Try.func18 (by kernel_rfl) rfl #[] rfl (by (try simp only [List.map_toArray, List.map_cons, List.map_nil]); first | done | rfl | (simp only [List.length_drop, List.length_take]; rfl)) ?_; (with_reducible refine (governorlaw08_head.calls  t258 _ A3.out).mono ?_); rintro e w' ⟨rfl, ⟨nd, rfl⟩⟩; refine ⟨_, rfl, ?_⟩) | ((with_reducible refine gate_callee (f := 27) rfl ?_); refine goesL_ (some 18) rfl rfl Try.func27 (by kernel_rfl) rfl #[.int .i64 (wrap64 (a0)), .int .i64 (wrap64 (a1))] rfl (by (try simp only [List.map_toArray, List.map_cons, List.map_nil]); first | done | rfl | (simp only [List.length_drop, List.length_take]; rfl)) ?_; (with_reducible refine (fixed_Div.calls (wrap64 (a0)) (wrap64 (a1)) t259 _ A4.out).mono ?_); rintro e w' ⟨rfl, ⟨nd, rfl⟩⟩; refine ⟨_, rfl, ?_⟩))
    go_ret
    exact ⟨by first | rfl | (simp [errW_none, errW_some] <;> rfl) | (simp [*, errW_none, errW_some] <;> rfl), by repeat (first | (with_reducible first | exact HB.out | apply below_alloc | apply pw_below_drewN | apply below_drew1) | exact HB.out)⟩
  · rw [if_neg c5] at H
    have c5b0 : ((wrap64 (a1)) == 0) = false := beq_eq_false_iff_ne.mpr c5
    have c5b1 : ((wrap64 (a1)) != 0) = true := bne_iff_ne.mpr c5
    replace H := Option.bind_eq_some_iff.mp H
    obtain ⟨t260, A60, H⟩ := H
    replace H : (if t260 = true then ((governorlaw08_right.f (wrap64 (a1))).bind fun t261 => (if t261 = true then (if t259 ≥ 1000000000 then (some t258) else (if t259 ≤ (-1000000000) then (some t258) else (if t258 = true then (if (wrap64 ((wrap64 (1000 * (wrap64 (a0)))) - (wrap64 (t259 * (wrap64 (a1)))))) < (mx (wrap64 (a1)) (wrap64 (-(wrap64 (a1))))) then (if (wrap64 ((wrap64 (1000 * (wrap64 (a0)))) - (wrap64 (t259 * (wrap64 (a1)))))) > (wrap64 (-(mx (wrap64 (a1)) (wrap64 (-(wrap64 (a1))))))) then (if (wrap64 ((wrap64 (1000 * (wrap64 (a0)))) - (wrap64 (t259 * (wrap64 (a1)))))) = 0 then (some true) else (some ((decide ((wrap64 ((wrap64 (1000 * (wrap64 (a0)))) - (wrap64 (t259 * (wrap64 (a1)))))) > 0)) == (decide ((wrap64 (a0)) > 0))))) else (some false)) else (some false)) else (some false)))) else (some t258))) else (some t258)) = some r := H
    have A6 := Aside0.mk A60
    clear A60
    by_cases c7 : t260 = true
    · subst c7
      have H1 : ((governorlaw08_right.f (wrap64 (a1))).bind fun t261 => (if t261 = true then (if t259 ≥ 1000000000 then (some t258) else (if t259 ≤ (-1000000000) then (some t258) else (if t258 = true then (if (wrap64 ((wrap64 (1000 * (wrap64 (a0)))) - (wrap64 (t259 * (wrap64 (a1)))))) < (mx (wrap64 (a1)) (wrap64 (-(wrap64 (a1))))) then (if (wrap64 ((wrap64 (1000 * (wrap64 (a0)))) - (wrap64 (t259 * (wrap64 (a1)))))) > (wrap64 (-(mx (wrap64 (a1)) (wrap64 (-(wrap64 (a1))))))) then (if (wrap64 ((wrap64 (1000 * (wrap64 (a0)))) - (wrap64 (t259 * (wrap64 (a1)))))) = 0 then (some true) else (some ((decide ((wrap64 ((wrap64 (1000 * (wrap64 (a0)))) - (wrap64 (t259 * (wrap64 (a1)))))) > 0)) == (decide ((wrap64 (a0)) > 0))))) else (some false)) else (some false)) else (some false)))) else (some t258))) = some r := by rw [if_pos rfl] at H; exact H
      clear H
      have H := H1
      clear H1
      replace H := Option.bind_eq_some_iff.mp H
      obtain ⟨t261, A80, H⟩ := H
      replace H : (if t261 = true then (if t259 ≥ 1000000000 then (some t258) else (if t259 ≤ (-1000000000) then (some t258) else (if t258 = true then (if (wrap64 ((wrap64 (1000 * (wrap64 (a0)))) - (wrap64 (t259 * (wrap64 (a1)))))) < (mx (wrap64 (a1)) (wrap64 (-(wrap64 (a1))))) then (if (wrap64 ((wrap64 (1000 * (wrap64 (a0)))) - (wrap64 (t259 * (wrap64 (a1)))))) > (wrap64 (-(mx (wrap64 (a1)) (wrap64 (-(wrap64 (a1))))))) then (if (wrap64 ((wrap64 (1000 * (wrap64 (a0)))) - (wrap64 (t259 * (wrap64 (a1)))))) = 0 then (some true) else (some ((decide ((wrap64 ((wrap64 (1000 * (wrap64 (a0)))) - (wrap64 (t259 * (wrap64 (a1)))))) > 0)) == (decide ((wrap64 (a0)) > 0))))) else (some false)) else (some false)) else (some false)))) else (some t258)) = some r := H
      have A8 := Aside0.mk A80
      clear A80
      by_cases c9 : t261 = true
      · subst c9
        have H1 : (if t259 ≥ 1000000000 then (some t258) else (if t259 ≤ (-1000000000) then (some t258) else (if t258 = true then (if (wrap64 ((wrap64 (1000 * (wrap64 (a0)))) - (wrap64 (t259 * (wrap64 (a1)))))) < (mx (wrap64 (a1)) (wrap64 (-(wrap64 (a1))))) then (if (wrap64 ((wrap64 (1000 * (wrap64 (a0)))) - (wrap64 (t259 * (wrap64 (a1)))))) > (wrap64 (-(mx (wrap64 (a1)) (wrap64 (-(wrap64 (a1))))))) then (if (wrap64 ((wrap64 (1000 * (wrap64 (a0)))) - (wrap64 (t259 * (wrap64 (a1)))))) = 0 then (some true) else (some ((decide ((wrap64 ((wrap64 (1000 * (wrap64 (a0)))) - (wrap64 (t259 * (wrap64 (a1)))))) > 0)) == (decide ((wrap64 (a0)) > 0))))) else (some false)) else (some false)) else (some false)))) = some r := by rw [if_pos rfl] at H; exact H
        clear H
        have H := H1
        clear H1
        by_cases c10 : t259 ≥ 1000000000
        · rw [if_pos c10] at H
          have c10b0 : decide (1000000000 ≤ t259) = true := decide_eq_true c10
          clear c10
          obtain rfl := Option.some.inj H
          go_enter Try.func14, Try.ntmps14
          go_wp2_with (first | ((with_reducible refine gate_callee (f := 18) rfl ?_); refine goesL_ (some 11) rfl rfl Try.func18 (by kernel_rfl) rfl #[] rfl (by (try simp only [List.map_toArray, List.map_cons, List.map_nil]); first | done | rfl | (simp only [List.length_drop, List.length_take]; rfl)) ?_; (with_reducible refine (governorlaw08_head.calls  t258 _ A3.out).mono ?_); rintro e w' ⟨rfl, ⟨nd, rfl⟩⟩; refine ⟨_, rfl, ?_⟩) | ((with_reducible refine gate_callee (f := 27) rfl ?_); refine goesL_ (some 18) rfl rfl Try.func27 (by kernel_rfl) rfl #[.int .i64 (wrap64 (a0)), .int .i64 (wrap64 (a1))] rfl (by (try simp only [List.map_toArray, List.map_cons, List.map_nil]); first | done | rfl | (simp only [List.length_drop, List.length_take]; rfl)) ?_; (with_reducible refine (fixed_Div.calls (wrap64 (a0)) (wrap64 (a1)) t259 _ A4.out).mono ?_); rintro e w' ⟨rfl, ⟨nd, rfl⟩⟩; refine ⟨_, rfl, ?_⟩) | (go_at_call 35; (with_reducible refine (governorlaw08_right.calls (wrap64 (a0)) true _ A6.out).mono ?_); rintro e w' ⟨rfl, ⟨nd, rfl⟩⟩) | (go_at_call 35; (with_reducible refine (governorlaw08_right.calls (wrap64 (a1)) true _ A8.out).mono ?_); rintro e w' ⟨rfl, ⟨nd, rfl⟩⟩))
          go_ret
          exact ⟨by first | rfl | (simp [errW_none, errW_some] <;> rfl) | (simp [*, errW_none, errW_some] <;> rfl), by repeat (first | (with_reducible first | exact HB.out | apply below_alloc | apply pw_below_drewN | apply below_drew1) | exact HB.out)⟩
        · rw [if_neg c10] at H
          have c10b0 : decide (1000000000 ≤ t259) = false := decide_eq_false c10
          clear c10
          by_cases c11 : t259 ≤ (-1000000000)
          · rw [if_pos c11] at H
            have c11b0 : decide (t259 ≤ (-1000000000)) = true := decide_eq_true c11
            clear c11
            obtain rfl := Option.some.inj H
            go_enter Try.func14, Try.ntmps14
            go_wp2_with (first | ((with_reducible refine gate_callee (f := 18) rfl ?_); refine goesL_ (some 11) rfl rfl Try.func18 (by kernel_rfl) rfl #[] rfl (by (try simp only [List.map_toArray, List.map_cons, List.map_nil]); first | done | rfl | (simp only [List.length_drop, List.length_take]; rfl)) ?_; (with_reducible refine (governorlaw08_head.calls  t258 _ A3.out).mono ?_); rintro e w' ⟨rfl, ⟨nd, rfl⟩⟩; refine ⟨_, rfl, ?_⟩) | ((with_reducible refine gate_callee (f := 27) rfl ?_); refine goesL_ (some 18) rfl rfl Try.func27 (by kernel_rfl) rfl #[.int .i64 (wrap64 (a0)), .int .i64 (wrap64 (a1))] rfl (by (try simp only [List.map_toArray, List.map_cons, List.map_nil]); first | done | rfl | (simp only [List.length_drop, List.length_take]; rfl)) ?_; (with_reducible refine (fixed_Div.calls (wrap64 (a0)) (wrap64 (a1)) t259 _ A4.out).mono ?_); rintro e w' ⟨rfl, ⟨nd, rfl⟩⟩; refine ⟨_, rfl, ?_⟩) | (go_at_call 35; (with_reducible refine (governorlaw08_right.calls (wrap64 (a0)) true _ A6.out).mono ?_); rintro e w' ⟨rfl, ⟨nd, rfl⟩⟩) | (go_at_call 35; (with_reducible refine (governorlaw08_right.calls (wrap64 (a1)) true _ A8.out).mono ?_); rintro e w' ⟨rfl, ⟨nd, rfl⟩⟩))
            go_ret
            exact ⟨by first | rfl | (simp [errW_none, errW_some] <;> rfl) | (simp [*, errW_none, errW_some] <;> rfl), by repeat (first | (with_reducible first | exact HB.out | apply below_alloc | apply pw_below_drewN | apply below_drew1) | exact HB.out)⟩
          · rw [if_neg c11] at H
            have c11b0 : decide (t259 ≤ (-1000000000)) = false := decide_eq_false c11
            clear c11
            obtain ⟨ji12, hji12⟩ : ∃ j_ : Int, (mx (wrap64 (a1)) (wrap64 (-(wrap64 (a1))))) = j_ := ⟨_, rfl⟩
            replace H : (if t258 = true then (if (wrap64 ((wrap64 (1000 * (wrap64 (a0)))) - (wrap64 (t259 * (wrap64 (a1)))))) < (ji12) then (if (wrap64 ((wrap64 (1000 * (wrap64 (a0)))) - (wrap64 (t259 * (wrap64 (a1)))))) > (wrap64 (-(ji12))) then (if (wrap64 ((wrap64 (1000 * (wrap64 (a0)))) - (wrap64 (t259 * (wrap64 (a1)))))) = 0 then (some true) else (some ((decide ((wrap64 ((wrap64 (1000 * (wrap64 (a0)))) - (wrap64 (t259 * (wrap64 (a1)))))) > 0)) == (decide ((wrap64 (a0)) > 0))))) else (some false)) else (some false)) else (some false)) = some r := by first | (rw [hji12] at H; exact H) | (simp only [hji12] at H ⊢; exact H)
            (try rw [hji12] at A3)
            (try rw [hji12] at A4)
            (try rw [hji12] at A6)
            (try rw [hji12] at A8)
            have hji12_ : (if (wrap64 (a1)) < (wrap64 (-(wrap64 (a1)))) then (wrap64 (-(wrap64 (a1)))) else (wrap64 (a1))) = ji12 := hji12
            by_cases c13 : t258 = true
            · subst c13
              have H1 : (if (wrap64 ((wrap64 (1000 * (wrap64 (a0)))) - (wrap64 (t259 * (wrap64 (a1)))))) < (ji12) then (if (wrap64 ((wrap64 (1000 * (wrap64 (a0)))) - (wrap64 (t259 * (wrap64 (a1)))))) > (wrap64 (-(ji12))) then (if (wrap64 ((wrap64 (1000 * (wrap64 (a0)))) - (wrap64 (t259 * (wrap64 (a1)))))) = 0 then (some true) else (some ((decide ((wrap64 ((wrap64 (1000 * (wrap64 (a0)))) - (wrap64 (t259 * (wrap64 (a1)))))) > 0)) == (decide ((wrap64 (a0)) > 0))))) else (some false)) else (some false)) = some r := by rw [if_pos rfl] at H; exact H
              clear H
              have H := H1
              clear H1
              by_cases c14 : (wrap64 ((wrap64 (1000 * (wrap64 (a0)))) - (wrap64 (t259 * (wrap64 (a1)))))) < (ji12)
              · rw [if_pos c14] at H
                have c14b0 : decide ((wrap64 ((wrap64 (1000 * (wrap64 (a0)))) - (wrap64 (t259 * (wrap64 (a1)))))) < (ji12)) = true := decide_eq_true c14
                clear c14
                by_cases c15 : (wrap64 ((wrap64 (1000 * (wrap64 (a0)))) - (wrap64 (t259 * (wrap64 (a1)))))) > (wrap64 (-(ji12)))
                · rw [if_pos c15] at H
                  have c15b0 : decide ((wrap64 (-(ji12))) < (wrap64 ((wrap64 (1000 * (wrap64 (a0)))) - (wrap64 (t259 * (wrap64 (a1))))))) = true := decide_eq_true c15
                  clear c15
                  by_cases c16 : (wrap64 ((wrap64 (1000 * (wrap64 (a0)))) - (wrap64 (t259 * (wrap64 (a1)))))) = 0
                  · rw [if_pos c16] at H
                    have c16b0 : ((wrap64 ((wrap64 (1000 * (wrap64 (a0)))) - (wrap64 (t259 * (wrap64 (a1)))))) == 0) = true := beq_iff_eq.mpr c16
                    have c16b1 : ((wrap64 ((wrap64 (1000 * (wrap64 (a0)))) - (wrap64 (t259 * (wrap64 (a1)))))) != 0) = false := bne_eq_false_iff_eq.mpr c16
                    clear c16
                    obtain rfl := Option.some.inj H
                    go_enter Try.func14, Try.ntmps14
                    go_wp2_with (first | ((with_reducible refine gate_callee (f := 18) rfl ?_); refine goesL_ (some 11) rfl rfl Try.func18 (by kernel_rfl) rfl #[] rfl (by (try simp only [List.map_toArray, List.map_cons, List.map_nil]); first | done | rfl | (simp only [List.length_drop, List.length_take]; rfl)) ?_; (with_reducible refine (governorlaw08_head.calls  true _ A3.out).mono ?_); rintro e w' ⟨rfl, ⟨nd, rfl⟩⟩; refine ⟨_, rfl, ?_⟩) | ((with_reducible refine gate_callee (f := 27) rfl ?_); refine goesL_ (some 18) rfl rfl Try.func27 (by kernel_rfl) rfl #[.int .i64 (wrap64 (a0)), .int .i64 (wrap64 (a1))] rfl (by (try simp only [List.map_toArray, List.map_cons, List.map_nil]); first | done | rfl | (simp only [List.length_drop, List.length_take]; rfl)) ?_; (with_reducible refine (fixed_Div.calls (wrap64 (a0)) (wrap64 (a1)) t259 _ A4.out).mono ?_); rintro e w' ⟨rfl, ⟨nd, rfl⟩⟩; refine ⟨_, rfl, ?_⟩) | (go_at_call 35; (with_reducible refine (governorlaw08_right.calls (wrap64 (a0)) true _ A6.out).mono ?_); rintro e w' ⟨rfl, ⟨nd, rfl⟩⟩) | (go_at_call 35; (with_reducible refine (governorlaw08_right.calls (wrap64 (a1)) true _ A8.out).mono ?_); rintro e w' ⟨rfl, ⟨nd, rfl⟩⟩))
                    go_ret
                    exact ⟨by first | rfl | (simp [errW_none, errW_some] <;> rfl) | (simp only [← hji12]; first | rfl | (simp [errW_none, errW_some] <;> rfl)) | (simp [*, errW_none, errW_some] <;> rfl), by repeat (first | (with_reducible first | exact HB.out | apply below_alloc | apply pw_below_drewN | apply below_drew1) | exact HB.out)⟩
                  · rw [if_neg c16] at H
                    have c16b0 : ((wrap64 ((wrap64 (1000 * (wrap64 (a0)))) - (wrap64 (t259 * (wrap64 (a1)))))) == 0) = false := beq_eq_false_iff_ne.mpr c16
                    have c16b1 : ((wrap64 ((wrap64 (1000 * (wrap64 (a0)))) - (wrap64 (t259 * (wrap64 (a1)))))) != 0) = true := bne_iff_ne.mpr c16
                    obtain rfl := Option.some.inj H
                    go_enter Try.func14, Try.ntmps14
                    go_wp2_with (first | ((with_reducible refine gate_callee (f := 18) rfl ?_); refine goesL_ (some 11) rfl rfl Try.func18 (by kernel_rfl) rfl #[] rfl (by (try simp only [List.map_toArray, List.map_cons, List.map_nil]); first | done | rfl | (simp only [List.length_drop, List.length_take]; rfl)) ?_; (with_reducible refine (governorlaw08_head.calls  true _ A3.out).mono ?_); rintro e w' ⟨rfl, ⟨nd, rfl⟩⟩; refine ⟨_, rfl, ?_⟩) | ((with_reducible refine gate_callee (f := 27) rfl ?_); refine goesL_ (some 18) rfl rfl Try.func27 (by kernel_rfl) rfl #[.int .i64 (wrap64 (a0)), .int .i64 (wrap64 (a1))] rfl (by (try simp only [List.map_toArray, List.map_cons, List.map_nil]); first | done | rfl | (simp only [List.length_drop, List.length_take]; rfl)) ?_; (with_reducible refine (fixed_Div.calls (wrap64 (a0)) (wrap64 (a1)) t259 _ A4.out).mono ?_); rintro e w' ⟨rfl, ⟨nd, rfl⟩⟩; refine ⟨_, rfl, ?_⟩) | (go_at_call 35; (with_reducible refine (governorlaw08_right.calls (wrap64 (a0)) true _ A6.out).mono ?_); rintro e w' ⟨rfl, ⟨nd, rfl⟩⟩) | (go_at_call 35; (with_reducible refine (governorlaw08_right.calls (wrap64 (a1)) true _ A8.out).mono ?_); rintro e w' ⟨rfl, ⟨nd, rfl⟩⟩))
                    go_ret
                    exact ⟨by first | rfl | (simp [errW_none, errW_some] <;> rfl) | (simp only [← hji12]; first | rfl | (simp [errW_none, errW_some] <;> rfl)) | (simp [*, errW_none, errW_some] <;> rfl), by repeat (first | (with_reducible first | exact HB.out | apply below_alloc | apply pw_below_drewN | apply below_drew1) | exact HB.out)⟩
                · rw [if_neg c15] at H
                  have c15b0 : decide ((wrap64 (-(ji12))) < (wrap64 ((wrap64 (1000 * (wrap64 (a0)))) - (wrap64 (t259 * (wrap64 (a1))))))) = false := decide_eq_false c15
                  clear c15
                  exact absurd (Option.some.inj H) (by rw [HRT.out]; decide)
              · rw [if_neg c14] at H
                have c14b0 : decide ((wrap64 ((wrap64 (1000 * (wrap64 (a0)))) - (wrap64 (t259 * (wrap64 (a1)))))) < (ji12)) = false := decide_eq_false c14
                clear c14
                exact absurd (Option.some.inj H) (by rw [HRT.out]; decide)
            · replace c13 := Bool.eq_false_iff.mpr c13
              subst c13
              have H1 : (some false) = some r := by rw [if_neg (show ¬ (false = true) by decide)] at H; exact H
              clear H
              have H := H1
              clear H1
              exact absurd (Option.some.inj H) (by rw [HRT.out]; decide)
      · replace c9 := Bool.eq_false_iff.mpr c9
        subst c9
        have H1 : (some t258) = some r := by rw [if_neg (show ¬ (false = true) by decide)] at H; exact H
        clear H
        have H := H1
        clear H1
        obtain rfl := Option.some.inj H
        go_enter Try.func14, Try.ntmps14
        go_wp2_with (first | ((with_reducible refine gate_callee (f := 18) rfl ?_); refine goesL_ (some 11) rfl rfl Try.func18 (by kernel_rfl) rfl #[] rfl (by (try simp only [List.map_toArray, List.map_cons, List.map_nil]); first | done | rfl | (simp only [List.length_drop, List.length_take]; rfl)) ?_; (with_reducible refine (governorlaw08_head.calls  t258 _ A3.out).mono ?_); rintro e w' ⟨rfl, ⟨nd, rfl⟩⟩; refine ⟨_, rfl, ?_⟩) | ((with_reducible refine gate_callee (f := 27) rfl ?_); refine goesL_ (some 18) rfl rfl Try.func27 (by kernel_rfl) rfl #[.int .i64 (wrap64 (a0)), .int .i64 (wrap64 (a1))] rfl (by (try simp only [List.map_toArray, List.map_cons, List.map_nil]); first | done | rfl | (simp only [List.length_drop, List.length_take]; rfl)) ?_; (with_reducible refine (fixed_Div.calls (wrap64 (a0)) (wrap64 (a1)) t259 _ A4.out).mono ?_); rintro e w' ⟨rfl, ⟨nd, rfl⟩⟩; refine ⟨_, rfl, ?_⟩) | (go_at_call 35; (with_reducible refine (governorlaw08_right.calls (wrap64 (a0)) true _ A6.out).mono ?_); rintro e w' ⟨rfl, ⟨nd, rfl⟩⟩) | (go_at_call 35; (with_reducible refine (governorlaw08_right.calls (wrap64 (a1)) false _ A8.out).mono ?_); rintro e w' ⟨rfl, ⟨nd, rfl⟩⟩))
        go_ret
        exact ⟨by first | rfl | (simp [errW_none, errW_some] <;> rfl) | (simp [*, errW_none, errW_some] <;> rfl), by repeat (first | (with_reducible first | exact HB.out | apply below_alloc | apply pw_below_drewN | apply below_drew1) | exact HB.out)⟩
    · replace c7 := Bool.eq_false_iff.mpr c7
      subst c7
      have H1 : (some t258) = some r := by rw [if_neg (show ¬ (false = true) by decide)] at H; exact H
      clear H
      have H := H1
      clear H1
      obtain rfl := Option.some.inj H
      go_enter Try.func14, Try.ntmps14
      go_wp2_with (first | ((with_reducible refine gate_callee (f := 18) rfl ?_); refine goesL_ (some 11) rfl rfl Try.func18 (by kernel_rfl) rfl #[] rfl (by (try simp only [List.map_toArray, List.map_cons, List.map_nil]); first | done | rfl | (simp only [List.length_drop, List.length_take]; rfl)) ?_; (with_reducible refine (governorlaw08_head.calls  t258 _ A3.out).mono ?_); rintro e w' ⟨rfl, ⟨nd, rfl⟩⟩; refine ⟨_, rfl, ?_⟩) | ((with_reducible refine gate_callee (f := 27) rfl ?_); refine goesL_ (some 18) rfl rfl Try.func27 (by kernel_rfl) rfl #[.int .i64 (wrap64 (a0)), .int .i64 (wrap64 (a1))] rfl (by (try simp only [List.map_toArray, List.map_cons, List.map_nil]); first | done | rfl | (simp only [List.length_drop, List.length_take]; rfl)) ?_; (with_reducible refine (fixed_Div.calls (wrap64 (a0)) (wrap64 (a1)) t259 _ A4.out).mono ?_); rintro e w' ⟨rfl, ⟨nd, rfl⟩⟩; refine ⟨_, rfl, ?_⟩) | (go_at_call 35; (with_reducible refine (governorlaw08_right.calls (wrap64 (a0)) false _ A6.out).mono ?_); rintro e w' ⟨rfl, ⟨nd, rfl⟩⟩))
      go_ret
      exact ⟨by first | rfl | (simp [errW_none, errW_some] <;> rfl) | (simp [*, errW_none, errW_some] <;> rfl), by repeat (first | (with_reducible first | exact HB.out | apply below_alloc | apply pw_below_drewN | apply below_drew1) | exact HB.out)⟩

end Go.Proofs.Ytmdkcadngkbphaa.PAll
