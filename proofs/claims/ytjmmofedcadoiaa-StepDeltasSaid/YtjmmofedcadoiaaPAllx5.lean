-- laid by a program of this session (tprint.py) out of the translation and of texts typed by hand; Lean checks it
import Derived.Test.YtjmmofedcadoiaaPAllx0
import Derived.Test.YtjmmofedcadoiaaPAllx3
import Derived.Test.YtjmmofedcadoiaaPAllx4
namespace Go.Proofs.Ytjmmofedcadoiaa.PAll
open Go.RowKit Go.Proofs.YtjmmofedcadoiaaW.PrintWords Go.Proofs.YtjmmofedcadoiaaW.PrintLast Go.Proofs.YtjmmofedcadoiaaW.PrintMore
attribute [local go_sem] max2_int min2_int max_two min_two max_three min_three max_four min_four   -- for this text's walks alone
set_option linter.unusedVariables false
set_option linter.unusedSimpArgs false

/-! ### governorlaw11_head: function 15 -/
def governorlaw11_head.f  : Option (Bool) := (some (([(⟨100, (-1)⟩ : S29), (⟨800, 2⟩ : S29)] : List (S29)) : List (S29))).bind fun y101 => ((step_Find.f y101 99).bind fun t104 => (if t104 = (-1) then ((step_Find.f y101 100).bind fun t105 => (if t105 = 0 then ((step_Find.f y101 799).bind fun t106 => (if t106 = 0 then ((step_Find.f y101 1099511627776).bind fun t107 => (if t107 = 1 then ((step_Find.f ([] : List (S29)) 5).bind fun t108 => (if t108 = (-1) then ((step_Want.f y101 4 900).bind fun t109 => (if t109 = 6 then ((step_Want.f y101 0 300).bind fun t110 => (if t110 = 0 then ((step_Want.f y101 4 5).bind fun t111 => (if t111 = 4 then ((step_Want.f y101 999 900).bind fun t112 => (some (t112 == 1000))) else (some false))) else (some false))) else (some false))) else (some false))) else (some false))) else (some false))) else (some false))) else (some false)))
set_option maxHeartbeats 8000000 in
set_option maxRecDepth 100000 in
theorem governorlaw11_head.calls  (r : Bool) (w : World) (h : governorlaw11_head.f  = some r) :
    Calls Try.prog 15 #[] w fun e w' => e = .returned (.bool r) ∧ Below w.heap.size w w' := by
  have hu29 := Try.underlying29
  have HB := Aside0.mk (Below.refl w.heap.size w)
  have HRT := Aside0.mk (Option.some.inj (h.symm.trans (show governorlaw11_head.f = some true by decide +kernel)))
  have H : ((some (([(⟨100, (-1)⟩ : S29), (⟨800, 2⟩ : S29)] : List (S29)) : List (S29))).bind fun y101 => ((step_Find.f y101 99).bind fun t104 => (if t104 = (-1) then ((step_Find.f y101 100).bind fun t105 => (if t105 = 0 then ((step_Find.f y101 799).bind fun t106 => (if t106 = 0 then ((step_Find.f y101 1099511627776).bind fun t107 => (if t107 = 1 then ((step_Find.f ([] : List (S29)) 5).bind fun t108 => (if t108 = (-1) then ((step_Want.f y101 4 900).bind fun t109 => (if t109 = 6 then ((step_Want.f y101 0 300).bind fun t110 => (if t110 = 0 then ((step_Want.f y101 4 5).bind fun t111 => (if t111 = 4 then ((step_Want.f y101 999 900).bind fun t112 => (some (t112 == 1000))) else (some false))) else (some false))) else (some false))) else (some false))) else (some false))) else (some false))) else (some false))) else (some false)))) = some r := h
  clear h
  obtain ⟨y101, hy101⟩ : ∃ y_ : List (S29), y_ = (([(⟨100, (-1)⟩ : S29), (⟨800, 2⟩ : S29)] : List (S29))) := ⟨_, rfl⟩
  replace H : ((step_Find.f y101 99).bind fun t104 => (if t104 = (-1) then ((step_Find.f y101 100).bind fun t105 => (if t105 = 0 then ((step_Find.f y101 799).bind fun t106 => (if t106 = 0 then ((step_Find.f y101 1099511627776).bind fun t107 => (if t107 = 1 then ((step_Find.f ([] : List (S29)) 5).bind fun t108 => (if t108 = (-1) then ((step_Want.f y101 4 900).bind fun t109 => (if t109 = 6 then ((step_Want.f y101 0 300).bind fun t110 => (if t110 = 0 then ((step_Want.f y101 4 5).bind fun t111 => (if t111 = 4 then ((step_Want.f y101 999 900).bind fun t112 => (some (t112 == 1000))) else (some false))) else (some false))) else (some false))) else (some false))) else (some false))) else (some false))) else (some false))) else (some false))) = some r := by first | (rw [hy101]; with_reducible exact H) | (have H2_ := (Option.bind_some _ _).symm.trans H; rw [hy101]; with_reducible exact H2_) | (have H2_ := (Option.bind_some _ _).symm.trans H; with_reducible exact H2_) | with_reducible exact H | (rw [hy101]; exact H) | exact H
  have Ny101 := Aside0.mk hy101
  clear hy101
  replace H := Option.bind_eq_some_iff.mp H
  obtain ⟨t104, A10, H⟩ := H
  replace H : (if t104 = (-1) then ((step_Find.f y101 100).bind fun t105 => (if t105 = 0 then ((step_Find.f y101 799).bind fun t106 => (if t106 = 0 then ((step_Find.f y101 1099511627776).bind fun t107 => (if t107 = 1 then ((step_Find.f ([] : List (S29)) 5).bind fun t108 => (if t108 = (-1) then ((step_Want.f y101 4 900).bind fun t109 => (if t109 = 6 then ((step_Want.f y101 0 300).bind fun t110 => (if t110 = 0 then ((step_Want.f y101 4 5).bind fun t111 => (if t111 = 4 then ((step_Want.f y101 999 900).bind fun t112 => (some (t112 == 1000))) else (some false))) else (some false))) else (some false))) else (some false))) else (some false))) else (some false))) else (some false))) else (some false)) = some r := H
  have A1 := Aside0.mk A10
  clear A10
  by_cases c2 : t104 = (-1)
  · rw [if_pos c2] at H
    have c2b0 : (t104 == (-1)) = true := beq_iff_eq.mpr c2
    have c2b1 : (t104 != (-1)) = false := bne_eq_false_iff_eq.mpr c2
    clear c2
    replace H := Option.bind_eq_some_iff.mp H
    obtain ⟨t105, A30, H⟩ := H
    replace H : (if t105 = 0 then ((step_Find.f y101 799).bind fun t106 => (if t106 = 0 then ((step_Find.f y101 1099511627776).bind fun t107 => (if t107 = 1 then ((step_Find.f ([] : List (S29)) 5).bind fun t108 => (if t108 = (-1) then ((step_Want.f y101 4 900).bind fun t109 => (if t109 = 6 then ((step_Want.f y101 0 300).bind fun t110 => (if t110 = 0 then ((step_Want.f y101 4 5).bind fun t111 => (if t111 = 4 then ((step_Want.f y101 999 900).bind fun t112 => (some (t112 == 1000))) else (some false))) else (some false))) else (some false))) else (some false))) else (some false))) else (some false))) else (some false)) = some r := H
    have A3 := Aside0.mk A30
    clear A30
    by_cases c4 : t105 = 0
    · rw [if_pos c4] at H
      have c4b0 : (t105 == 0) = true := beq_iff_eq.mpr c4
      have c4b1 : (t105 != 0) = false := bne_eq_false_iff_eq.mpr c4
      clear c4
      replace H := Option.bind_eq_some_iff.mp H
      obtain ⟨t106, A50, H⟩ := H
      replace H : (if t106 = 0 then ((step_Find.f y101 1099511627776).bind fun t107 => (if t107 = 1 then ((step_Find.f ([] : List (S29)) 5).bind fun t108 => (if t108 = (-1) then ((step_Want.f y101 4 900).bind fun t109 => (if t109 = 6 then ((step_Want.f y101 0 300).bind fun t110 => (if t110 = 0 then ((step_Want.f y101 4 5).bind fun t111 => (if t111 = 4 then ((step_Want.f y101 999 900).bind fun t112 => (some (t112 == 1000))) else (some false))) else (some false))) else (some false))) else (some false))) else (some false))) else (some false)) = some r := H
      have A5 := Aside0.mk A50
      clear A50
      by_cases c6 : t106 = 0
      · rw [if_pos c6] at H
        have c6b0 : (t106 == 0) = true := beq_iff_eq.mpr c6
        have c6b1 : (t106 != 0) = false := bne_eq_false_iff_eq.mpr c6
        clear c6
        replace H := Option.bind_eq_some_iff.mp H
        obtain ⟨t107, A70, H⟩ := H
        replace H : (if t107 = 1 then ((step_Find.f ([] : List (S29)) 5).bind fun t108 => (if t108 = (-1) then ((step_Want.f y101 4 900).bind fun t109 => (if t109 = 6 then ((step_Want.f y101 0 300).bind fun t110 => (if t110 = 0 then ((step_Want.f y101 4 5).bind fun t111 => (if t111 = 4 then ((step_Want.f y101 999 900).bind fun t112 => (some (t112 == 1000))) else (some false))) else (some false))) else (some false))) else (some false))) else (some false)) = some r := H
        have A7 := Aside0.mk A70
        clear A70
        by_cases c8 : t107 = 1
        · rw [if_pos c8] at H
          have c8b0 : (t107 == 1) = true := beq_iff_eq.mpr c8
          have c8b1 : (t107 != 1) = false := bne_eq_false_iff_eq.mpr c8
          clear c8
          replace H := Option.bind_eq_some_iff.mp H
          obtain ⟨t108, A90, H⟩ := H
          replace H : (if t108 = (-1) then ((step_Want.f y101 4 900).bind fun t109 => (if t109 = 6 then ((step_Want.f y101 0 300).bind fun t110 => (if t110 = 0 then ((step_Want.f y101 4 5).bind fun t111 => (if t111 = 4 then ((step_Want.f y101 999 900).bind fun t112 => (some (t112 == 1000))) else (some false))) else (some false))) else (some false))) else (some false)) = some r := H
          have A9 := Aside0.mk A90
          clear A90
          by_cases c10 : t108 = (-1)
          · rw [if_pos c10] at H
            have c10b0 : (t108 == (-1)) = true := beq_iff_eq.mpr c10
            have c10b1 : (t108 != (-1)) = false := bne_eq_false_iff_eq.mpr c10
            clear c10
            replace H := Option.bind_eq_some_iff.mp H
            obtain ⟨t109, A110, H⟩ := H
            replace H : (if t109 = 6 then ((step_Want.f y101 0 300).bind fun t110 => (if t110 = 0 then ((step_Want.f y101 4 5).bind fun t111 => (if t111 = 4 then ((step_Want.f y101 999 900).bind fun t112 => (some (t112 == 1000))) else (some false))) else (some false))) else (some false)) = some r := H
            have A11 := Aside0.mk A110
            clear A110
            by_cases c12 : t109 = 6
            · rw [if_pos c12] at H
              have c12b0 : (t109 == 6) = true := beq_iff_eq.mpr c12
              have c12b1 : (t109 != 6) = false := bne_eq_false_iff_eq.mpr c12
              clear c12
              replace H := Option.bind_eq_some_iff.mp H
              obtain ⟨t110, A130, H⟩ := H
              replace H : (if t110 = 0 then ((step_Want.f y101 4 5).bind fun t111 => (if t111 = 4 then ((step_Want.f y101 999 900).bind fun t112 => (some (t112 == 1000))) else (some false))) else (some false)) = some r := H
              have A13 := Aside0.mk A130
              clear A130
              by_cases c14 : t110 = 0
              · rw [if_pos c14] at H
                have c14b0 : (t110 == 0) = true := beq_iff_eq.mpr c14
                have c14b1 : (t110 != 0) = false := bne_eq_false_iff_eq.mpr c14
                clear c14
                replace H := Option.bind_eq_some_iff.mp H
                obtain ⟨t111, A150, H⟩ := H
                replace H : (if t111 = 4 then ((step_Want.f y101 999 900).bind fun t112 => (some (t112 == 1000))) else (some false)) = some r := H
                have A15 := Aside0.mk A150
                clear A150
                by_cases c16 : t111 = 4
                · rw [if_pos c16] at H
                  have c16b0 : (t111 == 4) = true := beq_iff_eq.mpr c16
                  have c16b1 : (t111 != 4) = false := bne_eq_false_iff_eq.mpr c16
                  clear c16
                  replace H := Option.bind_eq_some_iff.mp H
                  obtain ⟨t112, A170, H⟩ := H
                  replace H : (some (t112 == 1000)) = some r := H
                  have A17 := Aside0.mk A170
                  clear A170
                  obtain rfl := Option.some.inj H
                  go_enter Try.func15, Try.ntmps15
                  go_wp2_with (first | ((with_reducible refine gate_dst (N := 4) rfl ?_); refine Kd.R_lit k29 _ 29 ?hg (N := 4) ?hd (xs := ([(⟨100, (-1)⟩ : S29), (⟨800, 2⟩ : S29)] : List (S29))) (inner := [.int .i64 100, .int .i64 (-1), .int .i64 800, .int .i64 2]) (ok := fun _ => True) (okp := fun _ => True) ?hr ?hp (fun _ hk => hk) trivial (Below.refl _ _) (Nat.le_refl _) (by simp) ?_; (case hd => rfl); (case hg => rfl); (case hr => first | (go_simp; done) | (go_simp; rfl)); (case hp => exact (Reps.c2 (show Kd.M k29 _ _ _ (⟨100, (-1)⟩ : S29) [.int .i64 100, .int .i64 (-1)] from (k29_mkM _ _ _ (⟨100, (-1)⟩ : S29) )) (Reps.c2 (show Kd.M k29 _ _ _ (⟨800, 2⟩ : S29) [.int .i64 800, .int .i64 2] from (k29_mkM _ _ _ (⟨800, 2⟩ : S29) )) (Reps.none _ _)))); intro v102 w18 ho19 hb hg_ hnew_; clear hg_ hnew_; (first | rw [← Ny101.out] at ho19 | (simp only [Int.reduceToNat] at ho19; rw [← Ny101.out] at ho19)); have n0_ := Aside0.mk (Kd.R_lower ho19 (below_size (by repeat (first | (with_reducible first | exact HB.out | apply below_alloc | apply pw_below_drewN | apply below_drew1) | exact HB.out)))); have n1_ := Aside0.mk (below_step (by repeat (first | (with_reducible first | exact HB.out | apply below_alloc | apply pw_below_drewN | apply below_drew1) | exact HB.out)) hb); clear HB; have HO103 := n0_; have HB := n1_; clear n0_ n1_; clear hb ho19; obtain ⟨Ao20, co20, eo20⟩ := Kd.R_slice HO103.out; subst eo20) | ((with_reducible refine gate_callee (f := 17) rfl ?_); refine goesL_ (some 6) rfl rfl Try.func17 (by kernel_rfl) rfl #[.slice Ao20 y101.length co20, .int .i64 99] rfl (by (try simp only [List.map_toArray, List.map_cons, List.map_nil]); first | done | rfl | (simp only [List.length_drop, List.length_take]; rfl)) ?_; (with_reducible refine (step_Find.calls _ _ y101 99 t104 _ ?side1 ?side2 A1.out).mono ?_); (case side1 => repeat (first | exact (Kd.R_reads' HO103.out).2.2 | (with_reducible refine Kd.C_alloc ?_ _) | (with_reducible refine Kd.C_drewN ?_ _) | (with_reducible refine Kd.C_drew ?_))); (case side2 => exact (Kd.R_reads' HO103.out).2.1); rintro e w21 ⟨rfl, hb⟩; refine ⟨_, rfl, ?_⟩; have n0_ := Aside0.mk (Kd.R_below (by (with_reducible repeat (first | apply Kd.R_alloc | apply Kd.R_drewN | apply Kd.R_drew)); exact HO103.out) hb); have n1_ := Aside0.mk (below_step (by repeat (first | (with_reducible first | exact HB.out | apply below_alloc | apply pw_below_drewN | apply below_drew1) | exact HB.out)) hb); clear HO103; clear HB; have HO103 := n0_; have HB := n1_; clear n0_ n1_; (try clear hb); (try clear hb2); (try clear hk); (try clear hi)) | (go_at_call 17; (with_reducible refine (step_Find.calls _ _ y101 100 t105 _ ?side1 ?side2 A3.out).mono ?_); (case side1 => repeat (first | exact (Kd.R_reads' HO103.out).2.2 | (with_reducible refine Kd.C_alloc ?_ _) | (with_reducible refine Kd.C_drewN ?_ _) | (with_reducible refine Kd.C_drew ?_))); (case side2 => exact (Kd.R_reads' HO103.out).2.1); rintro e w22 ⟨rfl, hb⟩; have n0_ := Aside0.mk (Kd.R_below (by (with_reducible repeat (first | apply Kd.R_alloc | apply Kd.R_drewN | apply Kd.R_drew)); exact HO103.out) hb); have n1_ := Aside0.mk (below_step (by repeat (first | (with_reducible first | exact HB.out | apply below_alloc | apply pw_below_drewN | apply below_drew1) | exact HB.out)) hb); clear HO103; clear HB; have HO103 := n0_; have HB := n1_; clear n0_ n1_; (try clear hb); (try clear hb2); (try clear hk); (try clear hi)) | (go_at_call 17; (with_reducible refine (step_Find.calls _ _ y101 799 t106 _ ?side1 ?side2 A5.out).mono ?_); (case side1 => repeat (first | exact (Kd.R_reads' HO103.out).2.2 | (with_reducible refine Kd.C_alloc ?_ _) | (with_reducible refine Kd.C_drewN ?_ _) | (with_reducible refine Kd.C_drew ?_))); (case side2 => exact (Kd.R_reads' HO103.out).2.1); rintro e w23 ⟨rfl, hb⟩; have n0_ := Aside0.mk (Kd.R_below (by (with_reducible repeat (first | apply Kd.R_alloc | apply Kd.R_drewN | apply Kd.R_drew)); exact HO103.out) hb); have n1_ := Aside0.mk (below_step (by repeat (first | (with_reducible first | exact HB.out | apply below_alloc | apply pw_below_drewN | apply below_drew1) | exact HB.out)) hb); clear HO103; clear HB; have HO103 := n0_; have HB := n1_; clear n0_ n1_; (try clear hb); (try clear hb2); (try clear hk); (try clear hi)) | (go_at_call 17; (with_reducible refine (step_Find.calls _ _ y101 1099511627776 t107 _ ?side1 ?side2 A7.out).mono ?_); (case side1 => repeat (first | exact (Kd.R_reads' HO103.out).2.2 | (with_reducible refine Kd.C_alloc ?_ _) | (with_reducible refine Kd.C_drewN ?_ _) | (with_reducible refine Kd.C_drew ?_))); (case side2 => exact (Kd.R_reads' HO103.out).2.1); rintro e w24 ⟨rfl, hb⟩; have n0_ := Aside0.mk (Kd.R_below (by (with_reducible repeat (first | apply Kd.R_alloc | apply Kd.R_drewN | apply Kd.R_drew)); exact HO103.out) hb); have n1_ := Aside0.mk (below_step (by repeat (first | (with_reducible first | exact HB.out | apply below_alloc | apply pw_below_drewN | apply below_drew1) | exact HB.out)) hb); clear HO103; clear HB; have HO103 := n0_; have HB := n1_; clear n0_ n1_; (try clear hb); (try clear hb2); (try clear hk); (try clear hi)) | (go_at_call 17; (refine (step_Find.calls _ _ ([] : List (S29)) 5 t108 _ ?side1 ?side2 A9.out).mono ?_); (case side1 => exact Kd.C_nil _ _); (case side2 => exact Nat.le_refl _); rintro e w25 ⟨rfl, hb⟩; have n0_ := Aside0.mk (Kd.R_below (by (with_reducible repeat (first | apply Kd.R_alloc | apply Kd.R_drewN | apply Kd.R_drew)); exact HO103.out) hb); have n1_ := Aside0.mk (below_step (by repeat (first | (with_reducible first | exact HB.out | apply below_alloc | apply pw_below_drewN | apply below_drew1) | exact HB.out)) hb); clear HO103; clear HB; have HO103 := n0_; have HB := n1_; clear n0_ n1_; (try clear hb); (try clear hb2); (try clear hk); (try clear hi)) | (go_at_call 19; (with_reducible refine (step_Want.calls _ _ y101 4 900 t109 _ ?side1 ?side2 A11.out).mono ?_); (case side1 => repeat (first | exact (Kd.R_reads' HO103.out).2.2 | (with_reducible refine Kd.C_alloc ?_ _) | (with_reducible refine Kd.C_drewN ?_ _) | (with_reducible refine Kd.C_drew ?_))); (case side2 => exact (Kd.R_reads' HO103.out).2.1); rintro e w26 ⟨rfl, hb⟩; have n0_ := Aside0.mk (Kd.R_below (by (with_reducible repeat (first | apply Kd.R_alloc | apply Kd.R_drewN | apply Kd.R_drew)); exact HO103.out) hb); have n1_ := Aside0.mk (below_step (by repeat (first | (with_reducible first | exact HB.out | apply below_alloc | apply pw_below_drewN | apply below_drew1) | exact HB.out)) hb); clear HO103; clear HB; have HO103 := n0_; have HB := n1_; clear n0_ n1_; (try clear hb); (try clear hb2); (try clear hk); (try clear hi)) | (go_at_call 19; (with_reducible refine (step_Want.calls _ _ y101 0 300 t110 _ ?side1 ?side2 A13.out).mono ?_); (case side1 => repeat (first | exact (Kd.R_reads' HO103.out).2.2 | (with_reducible refine Kd.C_alloc ?_ _) | (with_reducible refine Kd.C_drewN ?_ _) | (with_reducible refine Kd.C_drew ?_))); (case side2 => exact (Kd.R_reads' HO103.out).2.1); rintro e w27 ⟨rfl, hb⟩; have n0_ := Aside0.mk (Kd.R_below (by (with_reducible repeat (first | apply Kd.R_alloc | apply Kd.R_drewN | apply Kd.R_drew)); exact HO103.out) hb); have n1_ := Aside0.mk (below_step (by repeat (first | (with_reducible first | exact HB.out | apply below_alloc | apply pw_below_drewN | apply below_drew1) | exact HB.out)) hb); clear HO103; clear HB; have HO103 := n0_; have HB := n1_; clear n0_ n1_; (try clear hb); (try clear hb2); (try clear hk); (try clear hi)) | (go_at_call 19; (with_reducible refine (step_Want.calls _ _ y101 4 5 t111 _ ?side1 ?side2 A15.out).mono ?_); (case side1 => repeat (first | exact (Kd.R_reads' HO103.out).2.2 | (with_reducible refine Kd.C_alloc ?_ _) | (with_reducible refine Kd.C_drewN ?_ _) | (with_reducible refine Kd.C_drew ?_))); (case side2 => exact (Kd.R_reads' HO103.out).2.1); rintro e w28 ⟨rfl, hb⟩; have n0_ := Aside0.mk (Kd.R_below (by (with_reducible repeat (first | apply Kd.R_alloc | apply Kd.R_drewN | apply Kd.R_drew)); exact HO103.out) hb); have n1_ := Aside0.mk (below_step (by repeat (first | (with_reducible first | exact HB.out | apply below_alloc | apply pw_below_drewN | apply below_drew1) | exact HB.out)) hb); clear HO103; clear HB; have HO103 := n0_; have HB := n1_; clear n0_ n1_; (try clear hb); (try clear hb2); (try clear hk); (try clear hi)) | (go_at_call 19; (with_reducible refine (step_Want.calls _ _ y101 999 900 t112 _ ?side1 ?side2 A17.out).mono ?_); (case side1 => repeat (first | exact (Kd.R_reads' HO103.out).2.2 | (with_reducible refine Kd.C_alloc ?_ _) | (with_reducible refine Kd.C_drewN ?_ _) | (with_reducible refine Kd.C_drew ?_))); (case side2 => exact (Kd.R_reads' HO103.out).2.1); rintro e w29 ⟨rfl, hb⟩; have n0_ := Aside0.mk (Kd.R_below (by (with_reducible repeat (first | apply Kd.R_alloc | apply Kd.R_drewN | apply Kd.R_drew)); exact HO103.out) hb); have n1_ := Aside0.mk (below_step (by repeat (first | (with_reducible first | exact HB.out | apply below_alloc | apply pw_below_drewN | apply below_drew1) | exact HB.out)) hb); clear HO103; clear HB; have HO103 := n0_; have HB := n1_; clear n0_ n1_; (try clear hb); (try clear hb2); (try clear hk); (try clear hi)))
                  go_ret
                  exact ⟨by first | rfl | (simp [errW_none, errW_some] <;> rfl) | (simp [*, errW_none, errW_some] <;> rfl), by repeat (first | (with_reducible first | exact HB.out | apply below_alloc | apply pw_below_drewN | apply below_drew1) | exact HB.out)⟩
                · rw [if_neg c16] at H
                  have c16b0 : (t111 == 4) = false := beq_eq_false_iff_ne.mpr c16
                  have c16b1 : (t111 != 4) = true := bne_iff_ne.mpr c16
                  exact absurd (Option.some.inj H) (by rw [HRT.out]; decide)
              · rw [if_neg c14] at H
                have c14b0 : (t110 == 0) = false := beq_eq_false_iff_ne.mpr c14
                have c14b1 : (t110 != 0) = true := bne_iff_ne.mpr c14
                exact absurd (Option.some.inj H) (by rw [HRT.out]; decide)
            · rw [if_neg c12] at H
              have c12b0 : (t109 == 6) = false := beq_eq_false_iff_ne.mpr c12
              have c12b1 : (t109 != 6) = true := bne_iff_ne.mpr c12
              exact absurd (Option.some.inj H) (by rw [HRT.out]; decide)
          · rw [if_neg c10] at H
            have c10b0 : (t108 == (-1)) = false := beq_eq_false_iff_ne.mpr c10
            have c10b1 : (t108 != (-1)) = true := bne_iff_ne.mpr c10
            exact absurd (Option.some.inj H) (by rw [HRT.out]; decide)
        · rw [if_neg c8] at H
          have c8b0 : (t107 == 1) = false := beq_eq_false_iff_ne.mpr c8
          have c8b1 : (t107 != 1) = true := bne_iff_ne.mpr c8
          exact absurd (Option.some.inj H) (by rw [HRT.out]; decide)
      · rw [if_neg c6] at H
        have c6b0 : (t106 == 0) = false := beq_eq_false_iff_ne.mpr c6
        have c6b1 : (t106 != 0) = true := bne_iff_ne.mpr c6
        exact absurd (Option.some.inj H) (by rw [HRT.out]; decide)
    · rw [if_neg c4] at H
      have c4b0 : (t105 == 0) = false := beq_eq_false_iff_ne.mpr c4
      have c4b1 : (t105 != 0) = true := bne_iff_ne.mpr c4
      exact absurd (Option.some.inj H) (by rw [HRT.out]; decide)
  · rw [if_neg c2] at H
    have c2b0 : (t104 == (-1)) = false := beq_eq_false_iff_ne.mpr c2
    have c2b1 : (t104 != (-1)) = true := bne_iff_ne.mpr c2
    exact absurd (Option.some.inj H) (by rw [HRT.out]; decide)

end Go.Proofs.Ytjmmofedcadoiaa.PAll
