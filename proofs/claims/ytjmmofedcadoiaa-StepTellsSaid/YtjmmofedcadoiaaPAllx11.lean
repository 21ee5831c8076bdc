-- laid by a program of this session (tprint.py) out of the translation and of texts typed by hand; Lean checks it
import Derived.Test.YtjmmofedcadoiaaPAllx0
import Derived.Test.YtjmmofedcadoiaaPAllx3
import Derived.Test.YtjmmofedcadoiaaPAllx4
import Derived.Test.YtjmmofedcadoiaaPAllx5
import Derived.Test.YtjmmofedcadoiaaPAllx9
import Derived.Test.YtjmmofedcadoiaaPAllx10
namespace Go.Proofs.Ytjmmofedcadoiaa.PAll
open Go.RowKit Go.Proofs.YtjmmofedcadoiaaW.PrintWords Go.Proofs.YtjmmofedcadoiaaW.PrintLast Go.Proofs.YtjmmofedcadoiaaW.PrintMore
attribute [local go_sem] max2_int min2_int max_two min_two max_three min_three max_four min_four   -- for this text's walks alone
set_option linter.unusedVariables false
set_option linter.unusedSimpArgs false

/-! ### governorlaw11_StepTells: function 3 -/
def governorlaw11_StepTells.f (k : Nat) (l0 : List (S29)) (a1 : Int) (a2 : Int) : Option (Bool) := (governorlaw11_head.f).bind fun t148 => ((governorlaw11_Right.f k l0).bind fun t149 => (if t149 = true then (if t148 = true then ((step_Find.f l0 a2).bind fun t150 => ((governorref11_Find.f k l0 a2).bind fun t151 => (if t150 = t151 then ((step_Want.f l0 a1 a2).bind fun t152 => ((governorref11_Want.f k l0 a1 a2).bind fun t153 => (some (t152 == t153)))) else (some false)))) else (some false)) else (some t148)))
theorem governorlaw11_StepTells.mono : ∀ a0 a1 a2 k, LeO (governorlaw11_StepTells.f k a0 a1 a2) (governorlaw11_StepTells.f (k + 1) a0 a1 a2) := by
  intro a0 a1 a2 k
  unfold governorlaw11_StepTells.f
  repeat' first
      | (with_reducible exact governorlaw11_Right.mono _ _)
      | (with_reducible exact governorref11_Find.mono _ _ _)
      | (with_reducible exact governorref11_Want.mono _ _ _ _)
      | (with_reducible exact LeO.refl _)
      | (with_reducible exact LeO.none _)
      | (with_reducible refine LeO.ite ?_ ?_)
      | (with_reducible refine LeO.bind ?_ (fun _ => ?_))
      | exact governorlaw11_Right.mono _ _
      | exact governorref11_Find.mono _ _ _
      | exact governorref11_Want.mono _ _ _ _
      | exact LeO.none _
      | refine LeO.ite ?_ ?_
      | refine LeO.bind ?_ (fun _ => ?_)
set_option maxHeartbeats 8000000 in
set_option maxRecDepth 100000 in
theorem governorlaw11_StepTells.calls (k : Nat) (A0 : Option Addr) (c0 : Nat) (l0 : List (S29)) (a1 : Int) (a2 : Int) (r : Bool) (w : World) (hr0 : Kd.C k29 w A0 l0.length l0) (hc0 : l0.length ≤ c0) (hrT : r = true) (h : governorlaw11_StepTells.f k l0 a1 a2 = some r) :
    Calls Try.prog 3 #[.slice A0 l0.length c0, .int .i64 a1, .int .i64 a2] w fun e w' => e = .returned (.bool r) ∧ Below w.heap.size w w' := by
  have HR0 := Aside0.mk hr0
  have HC0 := Aside0.mk hc0
  clear hr0 hc0
  have HB := Aside0.mk (Below.refl w.heap.size w)
  have HRT := Aside0.mk hrT
  clear hrT
  have H : ((governorlaw11_head.f).bind fun t148 => ((governorlaw11_Right.f k l0).bind fun t149 => (if t149 = true then (if t148 = true then ((step_Find.f l0 a2).bind fun t150 => ((governorref11_Find.f k l0 a2).bind fun t151 => (if t150 = t151 then ((step_Want.f l0 a1 a2).bind fun t152 => ((governorref11_Want.f k l0 a1 a2).bind fun t153 => (some (t152 == t153)))) else (some false)))) else (some false)) else (some t148)))) = some r := h
  clear h
  replace H := Option.bind_eq_some_iff.mp H
  obtain ⟨t148, A40, H⟩ := H
  replace H : ((governorlaw11_Right.f k l0).bind fun t149 => (if t149 = true then (if t148 = true then ((step_Find.f l0 a2).bind fun t150 => ((governorref11_Find.f k l0 a2).bind fun t151 => (if t150 = t151 then ((step_Want.f l0 a1 a2).bind fun t152 => ((governorref11_Want.f k l0 a1 a2).bind fun t153 => (some (t152 == t153)))) else (some false)))) else (some false)) else (some t148))) = some r := H
  have A4 := Aside0.mk A40
  clear A40
  replace H := Option.bind_eq_some_iff.mp H
  obtain ⟨t149, A50, H⟩ := H
  replace H : (if t149 = true then (if t148 = true then ((step_Find.f l0 a2).bind fun t150 => ((governorref11_Find.f k l0 a2).bind fun t151 => (if t150 = t151 then ((step_Want.f l0 a1 a2).bind fun t152 => ((governorref11_Want.f k l0 a1 a2).bind fun t153 => (some (t152 == t153)))) else (some false)))) else (some false)) else (some t148)) = some r := H
  have A5 := Aside0.mk A50
  clear A50
  by_cases c6 : t149 = true
  · subst c6
    have H1 : (if t148 = true then ((step_Find.f l0 a2).bind fun t150 => ((governorref11_Find.f k l0 a2).bind fun t151 => (if t150 = t151 then ((step_Want.f l0 a1 a2).bind fun t152 => ((governorref11_Want.f k l0 a1 a2).bind fun t153 => (some (t152 == t153)))) else (some false)))) else (some false)) = some r := by rw [if_pos rfl] at H; exact H
    clear H
    have H := H1
    clear H1
    by_cases c7 : t148 = true
    · subst c7
      have H1 : ((step_Find.f l0 a2).bind fun t150 => ((governorref11_Find.f k l0 a2).bind fun t151 => (if t150 = t151 then ((step_Want.f l0 a1 a2).bind fun t152 => ((governorref11_Want.f k l0 a1 a2).bind fun t153 => (some (t152 == t153)))) else (some false)))) = some r := by rw [if_pos rfl] at H; exact H
      clear H
      have H := H1
      clear H1
      replace H := Option.bind_eq_some_iff.mp H
      obtain ⟨t150, A80, H⟩ := H
      replace H : ((governorref11_Find.f k l0 a2).bind fun t151 => (if t150 = t151 then ((step_Want.f l0 a1 a2).bind fun t152 => ((governorref11_Want.f k l0 a1 a2).bind fun t153 => (some (t152 == t153)))) else (some false))) = some r := H
      have A8 := Aside0.mk A80
      clear A80
      replace H := Option.bind_eq_some_iff.mp H
      obtain ⟨t151, A90, H⟩ := H
      replace H : (if t150 = t151 then ((step_Want.f l0 a1 a2).bind fun t152 => ((governorref11_Want.f k l0 a1 a2).bind fun t153 => (some (t152 == t153)))) else (some false)) = some r := H
      have A9 := Aside0.mk A90
      clear A90
      by_cases c10 : t150 = t151
      · rw [if_pos c10] at H
        have c10b0 : (t150 == t151) = true := beq_iff_eq.mpr c10
        have c10b1 : (t150 != t151) = false := bne_eq_false_iff_eq.mpr c10
        clear c10
        replace H := Option.bind_eq_some_iff.mp H
        obtain ⟨t152, A110, H⟩ := H
        replace H : ((governorref11_Want.f k l0 a1 a2).bind fun t153 => (some (t152 == t153))) = some r := H
        have A11 := Aside0.mk A110
        clear A110
        replace H := Option.bind_eq_some_iff.mp H
        obtain ⟨t153, A120, H⟩ := H
        replace H : (some (t152 == t153)) = some r := H
        have A12 := Aside0.mk A120
        clear A120
        obtain rfl := Option.some.inj H
        go_enter Try.func3, Try.ntmps3
        go_wp2_with (first | ((with_reducible refine gate_callee (f := 15) rfl ?_); refine goesL_ (some 8) rfl rfl Try.func15 (by kernel_rfl) rfl #[] rfl (by (try simp only [List.map_toArray, List.map_cons, List.map_nil]); first | done | rfl | (simp only [List.length_drop, List.length_take]; rfl)) ?_; (with_reducible refine (governorlaw11_head.calls  true _ A4.out).mono ?_); rintro e w13 ⟨rfl, hb⟩; refine ⟨_, rfl, ?_⟩; have n0_ := Aside0.mk (below_step (by repeat (first | (with_reducible first | exact HB.out | apply below_alloc | apply pw_below_drewN | apply below_drew1) | exact HB.out)) hb); clear HB; have HB := n0_; clear n0_; (try clear hb); (try clear hb2); (try clear hk); (try clear hi)) | ((with_reducible refine gate_callee (f := 16) rfl ?_); refine goesL_ (some 10) rfl rfl Try.func16 (by kernel_rfl) rfl #[.slice A0 l0.length c0] rfl (by (try simp only [List.map_toArray, List.map_cons, List.map_nil]); first | done | rfl | (simp only [List.length_drop, List.length_take]; rfl)) ?_; (with_reducible refine (governorlaw11_Right.calls k _ _ l0 true _ ?side1 ?side2 A5.out).mono ?_); (case side1 => repeat (first | exact (Kd.C_below HR0.out HB.out) | (with_reducible refine Kd.C_alloc ?_ _) | (with_reducible refine Kd.C_drewN ?_ _) | (with_reducible refine Kd.C_drew ?_))); (case side2 => exact HC0.out); rintro e w14 ⟨rfl, hb⟩; refine ⟨_, rfl, ?_⟩; have n0_ := Aside0.mk (below_step (by repeat (first | (with_reducible first | exact HB.out | apply below_alloc | apply pw_below_drewN | apply below_drew1) | exact HB.out)) hb); clear HB; have HB := n0_; clear n0_; (try clear hb); (try clear hb2); (try clear hk); (try clear hi)) | (go_at_call 17; (with_reducible refine (step_Find.calls _ _ l0 a2 t150 _ ?side1 ?side2 A8.out).mono ?_); (case side1 => repeat (first | exact (Kd.C_below HR0.out HB.out) | (with_reducible refine Kd.C_alloc ?_ _) | (with_reducible refine Kd.C_drewN ?_ _) | (with_reducible refine Kd.C_drew ?_))); (case side2 => exact HC0.out); rintro e w15 ⟨rfl, hb⟩; have n0_ := Aside0.mk (below_step (by repeat (first | (with_reducible first | exact HB.out | apply below_alloc | apply pw_below_drewN | apply below_drew1) | exact HB.out)) hb); clear HB; have HB := n0_; clear n0_; (try clear hb); (try clear hb2); (try clear hk); (try clear hi)) | (go_at_call 18; (with_reducible refine (governorref11_Find.calls k _ _ l0 a2 t151 _ ?side1 ?side2 A9.out).mono ?_); (case side1 => repeat (first | exact (Kd.C_below HR0.out HB.out) | (with_reducible refine Kd.C_alloc ?_ _) | (with_reducible refine Kd.C_drewN ?_ _) | (with_reducible refine Kd.C_drew ?_))); (case side2 => exact HC0.out); rintro e w' ⟨rfl, ⟨nd, rfl⟩⟩) | (go_at_call 19; (with_reducible refine (step_Want.calls _ _ l0 a1 a2 t152 _ ?side1 ?side2 A11.out).mono ?_); (case side1 => repeat (first | exact (Kd.C_below HR0.out (by repeat (first | (with_reducible first | exact HB.out | apply below_alloc | apply pw_below_drewN | apply below_drew1) | exact HB.out))) | (with_reducible refine Kd.C_alloc ?_ _) | (with_reducible refine Kd.C_drewN ?_ _) | (with_reducible refine Kd.C_drew ?_))); (case side2 => exact HC0.out); rintro e w16 ⟨rfl, hb⟩; have n0_ := Aside0.mk (below_step (by repeat (first | (with_reducible first | exact HB.out | apply below_alloc | apply pw_below_drewN | apply below_drew1) | exact HB.out)) hb); clear HB; have HB := n0_; clear n0_; (try clear hb); (try clear hb2); (try clear hk); (try clear hi)) | (go_at_call 20; (with_reducible refine (governorref11_Want.calls k _ _ l0 a1 a2 t153 _ ?side1 ?side2 A12.out).mono ?_); (case side1 => repeat (first | exact (Kd.C_below HR0.out HB.out) | (with_reducible refine Kd.C_alloc ?_ _) | (with_reducible refine Kd.C_drewN ?_ _) | (with_reducible refine Kd.C_drew ?_))); (case side2 => exact HC0.out); rintro e w17 ⟨rfl, hb⟩; have n0_ := Aside0.mk (below_step (by repeat (first | (with_reducible first | exact HB.out | apply below_alloc | apply pw_below_drewN | apply below_drew1) | exact HB.out)) hb); clear HB; have HB := n0_; clear n0_; (try clear hb); (try clear hb2); (try clear hk); (try clear hi)))
        go_ret
        exact ⟨by first | rfl | (simp [errW_none, errW_some] <;> rfl) | (simp [*, errW_none, errW_some] <;> rfl), by repeat (first | (with_reducible first | exact HB.out | apply below_alloc | apply pw_below_drewN | apply below_drew1) | exact HB.out)⟩
      · rw [if_neg c10] at H
        have c10b0 : (t150 == t151) = false := beq_eq_false_iff_ne.mpr c10
        have c10b1 : (t150 != t151) = true := bne_iff_ne.mpr c10
        exact absurd (Option.some.inj H) (by rw [HRT.out]; decide)
    · replace c7 := Bool.eq_false_iff.mpr c7
      subst c7
      have H1 : (some false) = some r := by rw [if_neg (show ¬ (false = true) by decide)] at H; exact H
      clear H
      have H := H1
      clear H1
      exact absurd (Option.some.inj H) (by rw [HRT.out]; decide)
  · replace c6 := Bool.eq_false_iff.mpr c6
    subst c6
    have H1 : (some t148) = some r := by rw [if_neg (show ¬ (false = true) by decide)] at H; exact H
    clear H
    have H := H1
    clear H1
    obtain rfl := Option.some.inj H
    go_enter Try.func3, Try.ntmps3
    go_wp2_with (first | ((with_reducible refine gate_callee (f := 15) rfl ?_); refine goesL_ (some 8) rfl rfl Try.func15 (by kernel_rfl) rfl #[] rfl (by (try simp only [List.map_toArray, List.map_cons, List.map_nil]); first | done | rfl | (simp only [List.length_drop, List.length_take]; rfl)) ?_; (with_reducible refine (governorlaw11_head.calls  t148 _ A4.out).mono ?_); rintro e w18 ⟨rfl, hb⟩; refine ⟨_, rfl, ?_⟩; have n0_ := Aside0.mk (below_step (by repeat (first | (with_reducible first | exact HB.out | apply below_alloc | apply pw_below_drewN | apply below_drew1) | exact HB.out)) hb); clear HB; have HB := n0_; clear n0_; (try clear hb); (try clear hb2); (try clear hk); (try clear hi)) | ((with_reducible refine gate_callee (f := 16) rfl ?_); refine goesL_ (some 10) rfl rfl Try.func16 (by kernel_rfl) rfl #[.slice A0 l0.length c0] rfl (by (try simp only [List.map_toArray, List.map_cons, List.map_nil]); first | done | rfl | (simp only [List.length_drop, List.length_take]; rfl)) ?_; (with_reducible refine (governorlaw11_Right.calls k _ _ l0 false _ ?side1 ?side2 A5.out).mono ?_); (case side1 => repeat (first | exact (Kd.C_below HR0.out HB.out) | (with_reducible refine Kd.C_alloc ?_ _) | (with_reducible refine Kd.C_drewN ?_ _) | (with_reducible refine Kd.C_drew ?_))); (case side2 => exact HC0.out); rintro e w19 ⟨rfl, hb⟩; refine ⟨_, rfl, ?_⟩; have n0_ := Aside0.mk (below_step (by repeat (first | (with_reducible first | exact HB.out | apply below_alloc | apply pw_below_drewN | apply below_drew1) | exact HB.out)) hb); clear HB; have HB := n0_; clear n0_; (try clear hb); (try clear hb2); (try clear hk); (try clear hi)))
    go_ret
    exact ⟨by first | rfl | (simp [errW_none, errW_some] <;> rfl) | (simp [*, errW_none, errW_some] <;> rfl), by repeat (first | (with_reducible first | exact HB.out | apply below_alloc | apply pw_below_drewN | apply below_drew1) | exact HB.out)⟩

end Go.Proofs.Ytjmmofedcadoiaa.PAll
