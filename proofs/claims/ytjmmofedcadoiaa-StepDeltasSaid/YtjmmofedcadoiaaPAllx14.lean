-- laid by a program of this session (tprint.py) out of the translation and of texts typed by hand; Lean checks it
import Derived.Test.YtjmmofedcadoiaaPAllx0
import Derived.Test.YtjmmofedcadoiaaPAllx4
import Derived.Test.YtjmmofedcadoiaaPAllx5
import Derived.Test.YtjmmofedcadoiaaPAllx9
import Derived.Test.YtjmmofedcadoiaaPAllx10
namespace Go.Proofs.Ytjmmofedcadoiaa.PAll
open Go.RowKit Go.Proofs.YtjmmofedcadoiaaW.PrintWords Go.Proofs.YtjmmofedcadoiaaW.PrintLast Go.Proofs.YtjmmofedcadoiaaW.PrintMore
attribute [local go_sem] max2_int min2_int max_two min_two max_three min_three max_four min_four   -- for this text's walks alone
set_option linter.unusedVariables false
set_option linter.unusedSimpArgs false

/-! ### governorlaw11_StepDeltas: function 6 -/
def governorlaw11_StepDeltas.f (k : Nat) (l0 : List (S29)) (a1 : Int) (a2 : Int) : Option (Bool) := (governorlaw11_head.f).bind fun t164 => ((governorlaw11_Right.f k l0).bind fun t165 => (if t165 = true then ((step_Want.f l0 (Int.tmod (wrap64 (a1)) 1001) a2).bind fun t166 => ((governorref11_Find.f k l0 a2).bind fun t167 => (if t167 < 0 then (if t164 = true then (some (t166 == (Int.tmod (wrap64 (a1)) 1001))) else (some false)) else (if t164 = true then (if 0 ≤ t167 then (if t167 < (l0.length : Int) then (some (t166 == (mn (mx (wrap64 ((Int.tmod (wrap64 (a1)) 1001) + ((rd_T29 l0 t167).f1))) 0) 1000))) else (none)) else (none)) else (some false))))) else (some t164)))
theorem governorlaw11_StepDeltas.mono : ∀ a0 a1 a2 k, LeO (governorlaw11_StepDeltas.f k a0 a1 a2) (governorlaw11_StepDeltas.f (k + 1) a0 a1 a2) := by
  intro a0 a1 a2 k
  unfold governorlaw11_StepDeltas.f
  repeat' first
      | (with_reducible exact governorlaw11_Right.mono _ _)
      | (with_reducible exact governorref11_Find.mono _ _ _)
      | (with_reducible exact LeO.refl _)
      | (with_reducible exact LeO.none _)
      | (with_reducible refine LeO.ite ?_ ?_)
      | (with_reducible refine LeO.bind ?_ (fun _ => ?_))
      | exact governorlaw11_Right.mono _ _
      | exact governorref11_Find.mono _ _ _
      | exact LeO.none _
      | refine LeO.ite ?_ ?_
      | refine LeO.bind ?_ (fun _ => ?_)
set_option maxHeartbeats 8000000 in
set_option maxRecDepth 100000 in
theorem governorlaw11_StepDeltas.calls (k : Nat) (A0 : Option Addr) (c0 : Nat) (l0 : List (S29)) (a1 : Int) (a2 : Int) (r : Bool) (w : World) (hr0 : Kd.C k29 w A0 l0.length l0) (hc0 : l0.length ≤ c0) (hrT : r = true) (h : governorlaw11_StepDeltas.f k l0 a1 a2 = some r) :
    Calls Try.prog 6 #[.slice A0 l0.length c0, .int .u16 a1, .int .i64 a2] w fun e w' => e = .returned (.bool r) ∧ Below w.heap.size w w' := by
  have HR0 := Aside0.mk hr0
  have HC0 := Aside0.mk hc0
  clear hr0 hc0
  have HB := Aside0.mk (Below.refl w.heap.size w)
  have HRT := Aside0.mk hrT
  clear hrT
  have H : ((governorlaw11_head.f).bind fun t164 => ((governorlaw11_Right.f k l0).bind fun t165 => (if t165 = true then ((step_Want.f l0 (Int.tmod (wrap64 (a1)) 1001) a2).bind fun t166 => ((governorref11_Find.f k l0 a2).bind fun t167 => (if t167 < 0 then (if t164 = true then (some (t166 == (Int.tmod (wrap64 (a1)) 1001))) else (some false)) else (if t164 = true then (if 0 ≤ t167 then (if t167 < (l0.length : Int) then (some (t166 == (mn (mx (wrap64 ((Int.tmod (wrap64 (a1)) 1001) + ((rd_T29 l0 t167).f1))) 0) 1000))) else (none)) else (none)) else (some false))))) else (some t164)))) = some r := h
  clear h
  replace H := Option.bind_eq_some_iff.mp H
  obtain ⟨t164, A40, H⟩ := H
  replace H : ((governorlaw11_Right.f k l0).bind fun t165 => (if t165 = true then ((step_Want.f l0 (Int.tmod (wrap64 (a1)) 1001) a2).bind fun t166 => ((governorref11_Find.f k l0 a2).bind fun t167 => (if t167 < 0 then (if t164 = true then (some (t166 == (Int.tmod (wrap64 (a1)) 1001))) else (some false)) else (if t164 = true then (if 0 ≤ t167 then (if t167 < (l0.length : Int) then (some (t166 == (mn (mx (wrap64 ((Int.tmod (wrap64 (a1)) 1001) + ((rd_T29 l0 t167).f1))) 0) 1000))) else (none)) else (none)) else (some false))))) else (some t164))) = some r := H
  have A4 := Aside0.mk A40
  clear A40
  replace H := Option.bind_eq_some_iff.mp H
  obtain ⟨t165, A50, H⟩ := H
  replace H : (if t165 = true then ((step_Want.f l0 (Int.tmod (wrap64 (a1)) 1001) a2).bind fun t166 => ((governorref11_Find.f k l0 a2).bind fun t167 => (if t167 < 0 then (if t164 = true then (some (t166 == (Int.tmod (wrap64 (a1)) 1001))) else (some false)) else (if t164 = true then (if 0 ≤ t167 then (if t167 < (l0.length : Int) then (some (t166 == (mn (mx (wrap64 ((Int.tmod (wrap64 (a1)) 1001) + ((rd_T29 l0 t167).f1))) 0) 1000))) else (none)) else (none)) else (some false))))) else (some t164)) = some r := H
  have A5 := Aside0.mk A50
  clear A50
  by_cases c6 : t165 = true
  · subst c6
    have H1 : ((step_Want.f l0 (Int.tmod (wrap64 (a1)) 1001) a2).bind fun t166 => ((governorref11_Find.f k l0 a2).bind fun t167 => (if t167 < 0 then (if t164 = true then (some (t166 == (Int.tmod (wrap64 (a1)) 1001))) else (some false)) else (if t164 = true then (if 0 ≤ t167 then (if t167 < (l0.length : Int) then (some (t166 == (mn (mx (wrap64 ((Int.tmod (wrap64 (a1)) 1001) + ((rd_T29 l0 t167).f1))) 0) 1000))) else (none)) else (none)) else (some false))))) = some r := by rw [if_pos rfl] at H; exact H
    clear H
    have H := H1
    clear H1
    replace H := Option.bind_eq_some_iff.mp H
    obtain ⟨t166, A70, H⟩ := H
    replace H : ((governorref11_Find.f k l0 a2).bind fun t167 => (if t167 < 0 then (if t164 = true then (some (t166 == (Int.tmod (wrap64 (a1)) 1001))) else (some false)) else (if t164 = true then (if 0 ≤ t167 then (if t167 < (l0.length : Int) then (some (t166 == (mn (mx (wrap64 ((Int.tmod (wrap64 (a1)) 1001) + ((rd_T29 l0 t167).f1))) 0) 1000))) else (none)) else (none)) else (some false)))) = some r := H
    have A7 := Aside0.mk A70
    clear A70
    replace H := Option.bind_eq_some_iff.mp H
    obtain ⟨t167, A80, H⟩ := H
    replace H : (if t167 < 0 then (if t164 = true then (some (t166 == (Int.tmod (wrap64 (a1)) 1001))) else (some false)) else (if t164 = true then (if 0 ≤ t167 then (if t167 < (l0.length : Int) then (some (t166 == (mn (mx (wrap64 ((Int.tmod (wrap64 (a1)) 1001) + ((rd_T29 l0 t167).f1))) 0) 1000))) else (none)) else (none)) else (some false))) = some r := H
    have A8 := Aside0.mk A80
    clear A80
    by_cases c9 : t167 < 0
    · rw [if_pos c9] at H
      have c9b0 : decide (t167 < 0) = true := decide_eq_true c9
      clear c9
      by_cases c10 : t164 = true
      · subst c10
        have H1 : (some (t166 == (Int.tmod (wrap64 (a1)) 1001))) = some r := by rw [if_pos rfl] at H; exact H
        clear H
        have H := H1
        clear H1
        obtain rfl := Option.some.inj H
        go_enter Try.func6, Try.ntmps6
        go_wp2_with (first | ((with_reducible refine gate_callee (f := 15) rfl ?_); refine goesL_ (some 11) rfl rfl Try.func15 (by kernel_rfl) rfl #[] rfl (by (try simp only [List.map_toArray, List.map_cons, List.map_nil]); first | done | rfl | (simp only [List.length_drop, List.length_take]; rfl)) ?_; (with_reducible refine (governorlaw11_head.calls  true _ A4.out).mono ?_); rintro e w11 ⟨rfl, hb⟩; refine ⟨_, rfl, ?_⟩; have n0_ := Aside0.mk (below_step (by repeat (first | (with_reducible first | exact HB.out | apply below_alloc | apply pw_below_drewN | apply below_drew1) | exact HB.out)) hb); clear HB; have HB := n0_; clear n0_; (try clear hb); (try clear hb2); (try clear hk); (try clear hi)) | ((with_reducible refine gate_callee (f := 16) rfl ?_); refine goesL_ (some 13) rfl rfl Try.func16 (by kernel_rfl) rfl #[.slice A0 l0.length c0] rfl (by (try simp only [List.map_toArray, List.map_cons, List.map_nil]); first | done | rfl | (simp only [List.length_drop, List.length_take]; rfl)) ?_; (with_reducible refine (governorlaw11_Right.calls k _ _ l0 true _ ?side1 ?side2 A5.out).mono ?_); (case side1 => repeat (first | exact (Kd.C_below HR0.out HB.out) | (with_reducible refine Kd.C_alloc ?_ _) | (with_reducible refine Kd.C_drewN ?_ _) | (with_reducible refine Kd.C_drew ?_))); (case side2 => exact HC0.out); rintro e w12 ⟨rfl, hb⟩; refine ⟨_, rfl, ?_⟩; have n0_ := Aside0.mk (below_step (by repeat (first | (with_reducible first | exact HB.out | apply below_alloc | apply pw_below_drewN | apply below_drew1) | exact HB.out)) hb); clear HB; have HB := n0_; clear n0_; (try clear hb); (try clear hb2); (try clear hk); (try clear hi)) | ((with_reducible refine gate_callee (f := 19) rfl ?_); refine goesL_ (some 22) rfl rfl Try.func19 (by kernel_rfl) rfl #[.slice A0 l0.length c0, .int .i64 (Int.tmod (wrap64 (a1)) 1001), .int .i64 a2] rfl (by (try simp only [List.map_toArray, List.map_cons, List.map_nil]); first | done | rfl | (simp only [List.length_drop, List.length_take]; rfl)) ?_; (with_reducible refine (step_Want.calls _ _ l0 (Int.tmod (wrap64 (a1)) 1001) a2 t166 _ ?side1 ?side2 A7.out).mono ?_); (case side1 => repeat (first | exact (Kd.C_below HR0.out HB.out) | (with_reducible refine Kd.C_alloc ?_ _) | (with_reducible refine Kd.C_drewN ?_ _) | (with_reducible refine Kd.C_drew ?_))); (case side2 => exact HC0.out); rintro e w13 ⟨rfl, hb⟩; refine ⟨_, rfl, ?_⟩; have n0_ := Aside0.mk (below_step (by repeat (first | (with_reducible first | exact HB.out | apply below_alloc | apply pw_below_drewN | apply below_drew1) | exact HB.out)) hb); clear HB; have HB := n0_; clear n0_; (try clear hb); (try clear hb2); (try clear hk); (try clear hi)) | ((with_reducible refine gate_callee (f := 18) rfl ?_); refine goesL_ (some 25) rfl rfl Try.func18 (by kernel_rfl) rfl #[.slice A0 l0.length c0, .int .i64 a2] rfl (by (try simp only [List.map_toArray, List.map_cons, List.map_nil]); first | done | rfl | (simp only [List.length_drop, List.length_take]; rfl)) ?_; (with_reducible refine (governorref11_Find.calls k _ _ l0 a2 t167 _ ?side1 ?side2 A8.out).mono ?_); (case side1 => repeat (first | exact (Kd.C_below HR0.out HB.out) | (with_reducible refine Kd.C_alloc ?_ _) | (with_reducible refine Kd.C_drewN ?_ _) | (with_reducible refine Kd.C_drew ?_))); (case side2 => exact HC0.out); rintro e w' ⟨rfl, ⟨nd, rfl⟩⟩; refine ⟨_, rfl, ?_⟩))
        go_ret
        exact ⟨by first | rfl | (simp [errW_none, errW_some] <;> rfl) | (simp [*, errW_none, errW_some] <;> rfl), by repeat (first | (with_reducible first | exact HB.out | apply below_alloc | apply pw_below_drewN | apply below_drew1) | exact HB.out)⟩
      · replace c10 := Bool.eq_false_iff.mpr c10
        subst c10
        have H1 : (some false) = some r := by rw [if_neg (show ¬ (false = true) by decide)] at H; exact H
        clear H
        have H := H1
        clear H1
        exact absurd (Option.some.inj H) (by rw [HRT.out]; decide)
    · rw [if_neg c9] at H
      have c9b0 : decide (t167 < 0) = false := decide_eq_false c9
      clear c9
      by_cases c14 : t164 = true
      · subst c14
        have H1 : (if 0 ≤ t167 then (if t167 < (l0.length : Int) then (some (t166 == (mn (mx (wrap64 ((Int.tmod (wrap64 (a1)) 1001) + ((rd_T29 l0 t167).f1))) 0) 1000))) else (none)) else (none)) = some r := by rw [if_pos rfl] at H; exact H
        clear H
        have H := H1
        clear H1
        by_cases c15 : 0 ≤ t167
        · rw [if_pos c15] at H
          have c15b0 : decide (0 ≤ t167) = true := decide_eq_true c15
          clear c15
          by_cases c16 : t167 < (l0.length : Int)
          · rw [if_pos c16] at H
            have c16b0 : decide (t167 < (l0.length : Int)) = true := decide_eq_true c16
            clear c16
            obtain ⟨ji17, hji17⟩ : ∃ j_ : Int, (mx (wrap64 ((Int.tmod (wrap64 (a1)) 1001) + ((rd_T29 l0 t167).f1))) 0) = j_ := ⟨_, rfl⟩
            replace H : (some (t166 == (mn (ji17) 1000))) = some r := by first | (rw [hji17] at H; exact H) | (simp only [hji17] at H ⊢; exact H)
            (try rw [hji17] at A4)
            (try rw [hji17] at A5)
            (try rw [hji17] at A7)
            (try rw [hji17] at A8)
            (try (have hji17l : 0 ≤ ji17 := by (rw [← hji17]; unfold mx; (repeat' split) <;> omega)))
            (try (have hji17m : 0 ≤ ji17 := by omega))
            have hji17_ : (if (wrap64 ((Int.tmod (wrap64 (a1)) 1001) + ((rd_T29 l0 t167).f1))) < 0 then 0 else (wrap64 ((Int.tmod (wrap64 (a1)) 1001) + ((rd_T29 l0 t167).f1)))) = ji17 := hji17
            obtain ⟨ji18, hji18⟩ : ∃ j_ : Int, (mn (ji17) 1000) = j_ := ⟨_, rfl⟩
            replace H : (some (t166 == (ji18))) = some r := by first | (rw [hji18] at H; exact H) | (simp only [hji18] at H ⊢; exact H)
            (try rw [hji18] at A4)
            (try rw [hji18] at A5)
            (try rw [hji18] at A7)
            (try rw [hji18] at A8)
            have hji18_ : (if 1000 < (ji17) then 1000 else (ji17)) = ji18 := hji18
            obtain rfl := Option.some.inj H
            go_enter Try.func6, Try.ntmps6
            go_wp2_with (first | ((with_reducible refine gate_callee (f := 15) rfl ?_); refine goesL_ (some 11) rfl rfl Try.func15 (by kernel_rfl) rfl #[] rfl (by (try simp only [List.map_toArray, List.map_cons, List.map_nil]); first | done | rfl | (simp only [List.length_drop, List.length_take]; rfl)) ?_; (with_reducible refine (governorlaw11_head.calls  true _ A4.out).mono ?_); rintro e w19 ⟨rfl, hb⟩; refine ⟨_, rfl, ?_⟩; have n0_ := Aside0.mk (below_step (by repeat (first | (with_reducible first | exact HB.out | apply below_alloc | apply pw_below_drewN | apply below_drew1) | exact HB.out)) hb); clear HB; have HB := n0_; clear n0_; (try clear hb); (try clear hb2); (try clear hk); (try clear hi)) | ((with_reducible refine gate_callee (f := 16) rfl ?_); refine goesL_ (some 13) rfl rfl Try.func16 (by kernel_rfl) rfl #[.slice A0 l0.length c0] rfl (by (try simp only [List.map_toArray, List.map_cons, List.map_nil]); first | done | rfl | (simp only [List.length_drop, List.length_take]; rfl)) ?_; (with_reducible refine (governorlaw11_Right.calls k _ _ l0 true _ ?side1 ?side2 A5.out).mono ?_); (case side1 => repeat (first | exact (Kd.C_below HR0.out HB.out) | (with_reducible refine Kd.C_alloc ?_ _) | (with_reducible refine Kd.C_drewN ?_ _) | (with_reducible refine Kd.C_drew ?_))); (case side2 => exact HC0.out); rintro e w20 ⟨rfl, hb⟩; refine ⟨_, rfl, ?_⟩; have n0_ := Aside0.mk (below_step (by repeat (first | (with_reducible first | exact HB.out | apply below_alloc | apply pw_below_drewN | apply below_drew1) | exact HB.out)) hb); clear HB; have HB := n0_; clear n0_; (try clear hb); (try clear hb2); (try clear hk); (try clear hi)) | ((with_reducible refine gate_callee (f := 19) rfl ?_); refine goesL_ (some 22) rfl rfl Try.func19 (by kernel_rfl) rfl #[.slice A0 l0.length c0, .int .i64 (Int.tmod (wrap64 (a1)) 1001), .int .i64 a2] rfl (by (try simp only [List.map_toArray, List.map_cons, List.map_nil]); first | done | rfl | (simp only [List.length_drop, List.length_take]; rfl)) ?_; (with_reducible refine (step_Want.calls _ _ l0 (Int.tmod (wrap64 (a1)) 1001) a2 t166 _ ?side1 ?side2 A7.out).mono ?_); (case side1 => repeat (first | exact (Kd.C_below HR0.out HB.out) | (with_reducible refine Kd.C_alloc ?_ _) | (with_reducible refine Kd.C_drewN ?_ _) | (with_reducible refine Kd.C_drew ?_))); (case side2 => exact HC0.out); rintro e w21 ⟨rfl, hb⟩; refine ⟨_, rfl, ?_⟩; have n0_ := Aside0.mk (below_step (by repeat (first | (with_reducible first | exact HB.out | apply below_alloc | apply pw_below_drewN | apply below_drew1) | exact HB.out)) hb); clear HB; have HB := n0_; clear n0_; (try clear hb); (try clear hb2); (try clear hk); (try clear hi)) | ((with_reducible refine gate_callee (f := 18) rfl ?_); refine goesL_ (some 25) rfl rfl Try.func18 (by kernel_rfl) rfl #[.slice A0 l0.length c0, .int .i64 a2] rfl (by (try simp only [List.map_toArray, List.map_cons, List.map_nil]); first | done | rfl | (simp only [List.length_drop, List.length_take]; rfl)) ?_; (with_reducible refine (governorref11_Find.calls k _ _ l0 a2 t167 _ ?side1 ?side2 A8.out).mono ?_); (case side1 => repeat (first | exact (Kd.C_below HR0.out HB.out) | (with_reducible refine Kd.C_alloc ?_ _) | (with_reducible refine Kd.C_drewN ?_ _) | (with_reducible refine Kd.C_drew ?_))); (case side2 => exact HC0.out); rintro e w' ⟨rfl, ⟨nd, rfl⟩⟩; refine ⟨_, rfl, ?_⟩; have p168 : 0 ≤ (t167 : Int) := of_decide_eq_true (by first | (with_reducible assumption) | assumption); have q168 : t167 < (l0.length : Int) := of_decide_eq_true (by first | (with_reducible assumption) | assumption); obtain ⟨ad168, e168, hx168_0, hx168_1⟩ := at_T29 HR0.out t167 p168 q168; cases e168; replace hx168_0 := (HB.out.cell (World.block_lt_of_cell? w _ hx168_0)).trans hx168_0; replace hx168_1 := (HB.out.cell (World.block_lt_of_cell? w _ hx168_1)).trans hx168_1; replace p168 := eq_true p168; replace q168 := eq_true q168))
            go_ret
            exact ⟨by first | rfl | (simp [errW_none, errW_some] <;> rfl) | (simp only [← hji17, ← hji18]; first | rfl | (simp [errW_none, errW_some] <;> rfl)) | (simp [*, errW_none, errW_some] <;> rfl), by repeat (first | (with_reducible first | exact HB.out | apply below_alloc | apply pw_below_drewN | apply below_drew1) | exact HB.out)⟩
          · rw [if_neg c16] at H
            exact absurd H (by simp)
        · rw [if_neg c15] at H
          exact absurd H (by simp)
      · replace c14 := Bool.eq_false_iff.mpr c14
        subst c14
        have H1 : (some false) = some r := by rw [if_neg (show ¬ (false = true) by decide)] at H; exact H
        clear H
        have H := H1
        clear H1
        exact absurd (Option.some.inj H) (by rw [HRT.out]; decide)
  · replace c6 := Bool.eq_false_iff.mpr c6
    subst c6
    have H1 : (some t164) = some r := by rw [if_neg (show ¬ (false = true) by decide)] at H; exact H
    clear H
    have H := H1
    clear H1
    obtain rfl := Option.some.inj H
    go_enter Try.func6, Try.ntmps6
    go_wp2_with (first | ((with_reducible refine gate_callee (f := 15) rfl ?_); refine goesL_ (some 11) rfl rfl Try.func15 (by kernel_rfl) rfl #[] rfl (by (try simp only [List.map_toArray, List.map_cons, List.map_nil]); first | done | rfl | (simp only [List.length_drop, List.length_take]; rfl)) ?_; (with_reducible refine (governorlaw11_head.calls  t164 _ A4.out).mono ?_); rintro e w22 ⟨rfl, hb⟩; refine ⟨_, rfl, ?_⟩; have n0_ := Aside0.mk (below_step (by repeat (first | (with_reducible first | exact HB.out | apply below_alloc | apply pw_below_drewN | apply below_drew1) | exact HB.out)) hb); clear HB; have HB := n0_; clear n0_; (try clear hb); (try clear hb2); (try clear hk); (try clear hi)) | ((with_reducible refine gate_callee (f := 16) rfl ?_); refine goesL_ (some 13) rfl rfl Try.func16 (by kernel_rfl) rfl #[.slice A0 l0.length c0] rfl (by (try simp only [List.map_toArray, List.map_cons, List.map_nil]); first | done | rfl | (simp only [List.length_drop, List.length_take]; rfl)) ?_; (with_reducible refine (governorlaw11_Right.calls k _ _ l0 false _ ?side1 ?side2 A5.out).mono ?_); (case side1 => repeat (first | exact (Kd.C_below HR0.out HB.out) | (with_reducible refine Kd.C_alloc ?_ _) | (with_reducible refine Kd.C_drewN ?_ _) | (with_reducible refine Kd.C_drew ?_))); (case side2 => exact HC0.out); rintro e w23 ⟨rfl, hb⟩; refine ⟨_, rfl, ?_⟩; have n0_ := Aside0.mk (below_step (by repeat (first | (with_reducible first | exact HB.out | apply below_alloc | apply pw_below_drewN | apply below_drew1) | exact HB.out)) hb); clear HB; have HB := n0_; clear n0_; (try clear hb); (try clear hb2); (try clear hk); (try clear hi)))
    go_ret
    exact ⟨by first | rfl | (simp [errW_none, errW_some] <;> rfl) | (simp [*, errW_none, errW_some] <;> rfl), by repeat (first | (with_reducible first | exact HB.out | apply below_alloc | apply pw_below_drewN | apply below_drew1) | exact HB.out)⟩

end Go.Proofs.Ytjmmofedcadoiaa.PAll
