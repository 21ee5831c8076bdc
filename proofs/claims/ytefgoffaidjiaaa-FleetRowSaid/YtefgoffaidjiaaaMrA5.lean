/- What the laws FleetRow lean on: the contracts of the functions that they reach, part 5 of 6. -/
import Derived.Test.YtefgoffaidjiaaaMrA4
namespace Go.Proofs.Ytefgoffaidjiaaa.PAll
open Go.RowKit Go.Proofs.YtefgoffaidjiaaaW.PrintWords Go.Proofs.YtefgoffaidjiaaaW.PrintLast Go.Proofs.YtefgoffaidjiaaaW.PrintMore
attribute [local go_sem] max2_int min2_int max_two min_two max_three min_three max_four min_four   -- for this text's walks alone
set_option linter.unusedVariables false
set_option linter.unusedSimpArgs false
/-! ### governorref18_OwnPolicy: function 44 -/
def governorref18_OwnPolicy.f (a0_0 : Int) (a0_1 : Int) (l0_2 : List (S56)) (a0_3 : Int) (a0_4 : Int) (a0_5 : Int) (a0_6 : Int) (l0_7 : List (S58)) : Option (Int × Int × (List (S56)) × Int × Int × Int × Int × (List (S58))) := (some (([] : List (S56)) : List (S56))).bind fun y171 => (if y171.length + l0_2.length < 8796093022208 then ((some (([] : List (S58)) : List (S58))).bind fun y177 => (if y177.length + l0_7.length < 8796093022208 then (some (a0_0, a0_1, (y171 ++ l0_2), a0_3, a0_4, a0_5, a0_6, (y177 ++ l0_7))) else (none))) else (none))
set_option maxHeartbeats 8000000 in
set_option maxRecDepth 100000 in
theorem governorref18_OwnPolicy.calls (a0_0 : Int) (a0_1 : Int) (A0_2 : Option Addr) (c0_2 : Nat) (l0_2 : List (S56)) (a0_3 : Int) (a0_4 : Int) (a0_5 : Int) (a0_6 : Int) (A0_7 : Option Addr) (c0_7 : Nat) (l0_7 : List (S58)) (r1 : Int) (r2 : Int) (r3 : List (S56)) (r4 : Int) (r5 : Int) (r6 : Int) (r7 : Int) (r8 : List (S58)) (w : World) (hr0_2 : Kd.C k56 w A0_2 l0_2.length l0_2) (hc0_2 : l0_2.length ≤ c0_2) (hr0_7 : Kd.C k58 w A0_7 l0_7.length l0_7) (hc0_7 : l0_7.length ≤ c0_7) (h : governorref18_OwnPolicy.f a0_0 a0_1 l0_2 a0_3 a0_4 a0_5 a0_6 l0_7 = some (r1, r2, r3, r4, r5, r6, r7, r8)) :
  Calls Try.prog 44 #[.agg #[.int .i64 a0_0, .int .i64 a0_1, .slice A0_2 l0_2.length c0_2, .int .i64 a0_3, .int .i64 a0_4, .int .i64 a0_5, .int .i64 a0_6, .slice A0_7 l0_7.length c0_7]] w fun e w' => ∃ v2_ v7_ : Value, e = .returned (.agg #[.int .i64 r1, .int .i64 r2, v2_, .int .i64 r4, .int .i64 r5, .int .i64 r6, .int .i64 r7, v7_]) ∧ Kd.R k56 56 w' w.heap.size (fun _ => True) v2_ r3 ∧ Kd.R k58 58 w' w.heap.size (fun _ => True) v7_ r8 ∧ Below w.heap.size w w' := by
 have hu27 := Try.underlying27
 have HR0_2 := Aside0.mk hr0_2
 have HC0_2 := Aside0.mk hc0_2
 clear hr0_2 hc0_2
 have HR0_7 := Aside0.mk hr0_7
 have HC0_7 := Aside0.mk hc0_7
 clear hr0_7 hc0_7
 have HB := Aside0.mk (Below.refl w.heap.size w)
 have H : ((some (([] : List (S56)) : List (S56))).bind fun y171 => (if y171.length + l0_2.length < 8796093022208 then ((some (([] : List (S58)) : List (S58))).bind fun y177 => (if y177.length + l0_7.length < 8796093022208 then (some (a0_0, a0_1, (y171 ++ l0_2), a0_3, a0_4, a0_5, a0_6, (y177 ++ l0_7))) else (none))) else (none))) = some (r1, r2, r3, r4, r5, r6, r7, r8) := h
 clear h
 obtain ⟨y171, hy171⟩ : ∃ y_ : List (S56), y_ = (([] : List (S56))) := ⟨_, rfl⟩
 replace H : (if y171.length + l0_2.length < 8796093022208 then ((some (([] : List (S58)) : List (S58))).bind fun y177 => (if y177.length + l0_7.length < 8796093022208 then (some (a0_0, a0_1, (y171 ++ l0_2), a0_3, a0_4, a0_5, a0_6, (y177 ++ l0_7))) else (none))) else (none)) = some (r1, r2, r3, r4, r5, r6, r7, r8) := by first | (rw [hy171]; with_reducible exact H) | (have H2_ := (Option.bind_some _ _).symm.trans H; rw [hy171]; with_reducible exact H2_) | (have H2_ := (Option.bind_some _ _).symm.trans H; with_reducible exact H2_) | with_reducible exact H | (rw [hy171]; exact H) | exact H
 have Ny171 := Aside0.mk hy171
 clear hy171
 by_cases c2 : y171.length + l0_2.length < 8796093022208
 ·rw [if_pos c2] at H
  have LMc2 := Aside0.mk c2
  clear c2
  obtain ⟨y174, hy174⟩ : ∃ y_ : List (S56), y_ = (y171 ++ l0_2) := ⟨_, rfl⟩
  replace H : ((some (([] : List (S58)) : List (S58))).bind fun y177 => (if y177.length + l0_7.length < 8796093022208 then (some (a0_0, a0_1, y174, a0_3, a0_4, a0_5, a0_6, (y177 ++ l0_7))) else (none))) = some (r1, r2, r3, r4, r5, r6, r7, r8) := by first | (rw [hy174]; with_reducible exact H) | (have H2_ := (Option.bind_some _ _).symm.trans H; rw [hy174]; with_reducible exact H2_) | (have H2_ := (Option.bind_some _ _).symm.trans H; with_reducible exact H2_) | with_reducible exact H | (rw [hy174]; exact H) | exact H
  have Ny174 := Aside0.mk hy174
  clear hy174
  obtain ⟨y177, hy177⟩ : ∃ y_ : List (S58), y_ = (([] : List (S58))) := ⟨_, rfl⟩
  replace H : (if y177.length + l0_7.length < 8796093022208 then (some (a0_0, a0_1, y174, a0_3, a0_4, a0_5, a0_6, (y177 ++ l0_7))) else (none)) = some (r1, r2, r3, r4, r5, r6, r7, r8) := by first | (rw [hy177]; with_reducible exact H) | (have H2_ := (Option.bind_some _ _).symm.trans H; rw [hy177]; with_reducible exact H2_) | (have H2_ := (Option.bind_some _ _).symm.trans H; with_reducible exact H2_) | with_reducible exact H | (rw [hy177]; exact H) | exact H
  have Ny177 := Aside0.mk hy177
  clear hy177
  by_cases c3 : y177.length + l0_7.length < 8796093022208
  ·rw [if_pos c3] at H
   have LMc3 := Aside0.mk c3
   clear c3
   obtain ⟨y180, hy180⟩ : ∃ y_ : List (S58), y_ = (y177 ++ l0_7) := ⟨_, rfl⟩
   replace H : (some (a0_0, a0_1, y174, a0_3, a0_4, a0_5, a0_6, y180)) = some (r1, r2, r3, r4, r5, r6, r7, r8) := by first | (rw [hy180]; with_reducible exact H) | (have H2_ := (Option.bind_some _ _).symm.trans H; rw [hy180]; with_reducible exact H2_) | (have H2_ := (Option.bind_some _ _).symm.trans H; with_reducible exact H2_) | with_reducible exact H | (rw [hy180]; exact H) | exact H
   have Ny180 := Aside0.mk hy180
   clear hy180
   simp only [Option.some.injEq, Prod.mk.injEq] at H
   obtain ⟨rfl, rfl, rfl, rfl, rfl, rfl, rfl, rfl⟩ := H
   go_enter Try.func44, Try.ntmps44
   go_wp2_with (first | ((with_reducible refine gate_dst (N := 1) rfl ?_); refine box_event ?hg (N := 1) ?hd (cs := #[.int .i64 a0_0, .int .i64 a0_1, .slice A0_2 l0_2.length c0_2, .int .i64 a0_3, .int .i64 a0_4, .int .i64 a0_5, .int .i64 a0_6, .slice A0_7 l0_7.length c0_7]) (t := 27) ?hr ?_; (case hd => rfl); (case hg => rfl); (case hr => first | (go_simp; done) | (go_simp; rfl)); intro gb169 hg w4 hbox hb; have n0_ := Aside0.mk (below_step (by repeat (first | (with_reducible first | exact HB.out | apply below_alloc | apply pw_below_drewN | apply below_drew1) | exact HB.out)) hb); have n1_ := Aside0.mk (hbox); have n2_ := Aside0.mk ((by rw [hg]; exact (below_size (by repeat (first | (with_reducible first | exact HB.out | apply below_alloc | apply pw_below_drewN | apply below_drew1) | exact HB.out))) : w.heap.size ≤ gb169)); have n3_ := Aside0.mk ((by rw [hg]; exact (below_size (by repeat (first | (with_reducible first | exact HB.out | apply below_alloc | apply pw_below_drewN | apply below_drew1) | exact HB.out))) : w.heap.size ≤ gb169)); clear HB; have HB := n0_; have BK169 := n1_; have GW169 := n2_; have GE169 := n3_; clear n0_ n1_ n2_ n3_; clear hb hbox hg) | ((with_reducible refine gate_dst (N := 2) rfl ?_); refine box_event ?hg (N := 2) ?hd (cs := #[.int .i64 0, .int .i64 0, .slice none 0 0, .int .i64 0, .int .i64 0, .int .i64 0, .int .i64 0, .slice none 0 0]) (t := 27) ?hr ?_; (case hd => rfl); (case hg => rfl); (case hr => first | (go_simp; done) | (go_simp; rfl)); intro gb170 hg w5 hbox hb; have n0_ := Aside0.mk (blk_below (g := gb169) (o := .cells #[.int .i64 a0_0, .int .i64 a0_1, .slice A0_2 l0_2.length c0_2, .int .i64 a0_3, .int .i64 a0_4, .int .i64 a0_5, .int .i64 a0_6, .slice A0_7 l0_7.length c0_7] 27 (0, 0)) (by (with_reducible repeat (first | refine blk_drewN ?_ _ | refine blk_drew ?_ | refine blk_alloc ?_ _)); exact BK169.out) hb); have n1_ := Aside0.mk (below_step (by repeat (first | (with_reducible first | exact HB.out | apply below_alloc | apply pw_below_drewN | apply below_drew1 | refine below_set ?_ GE169.out) | exact HB.out)) hb); have n2_ := Aside0.mk (hbox); have n3_ := Aside0.mk ((by rw [hg]; exact (below_size (by repeat (first | (with_reducible first | exact HB.out | apply below_alloc | apply pw_below_drewN | apply below_drew1 | refine below_set ?_ GE169.out) | exact HB.out))) : w.heap.size ≤ gb170)); have n4_ := Aside0.mk ((by rw [hg]; exact (below_size (by repeat (first | (with_reducible first | exact HB.out | apply below_alloc | apply pw_below_drewN | apply below_drew1 | refine below_set ?_ GE169.out) | exact HB.out))) : w.heap.size ≤ gb170)); have n5_ := Aside0.mk ((by rw [hg]; exact Nat.ne_of_lt (blk_lt (g := gb169) (o := .cells #[.int .i64 a0_0, .int .i64 a0_1, .slice A0_2 l0_2.length c0_2, .int .i64 a0_3, .int .i64 a0_4, .int .i64 a0_5, .int .i64 a0_6, .slice A0_7 l0_7.length c0_7] 27 (0, 0)) (by (with_reducible repeat (first | refine blk_drewN ?_ _ | refine blk_drew ?_ | refine blk_alloc ?_ _)); exact BK169.out)) : gb169 ≠ gb170)); have n6_ := Aside0.mk ((by rw [hg]; exact Nat.ne_of_gt (blk_lt (g := gb169) (o := .cells #[.int .i64 a0_0, .int .i64 a0_1, .slice A0_2 l0_2.length c0_2, .int .i64 a0_3, .int .i64 a0_4, .int .i64 a0_5, .int .i64 a0_6, .slice A0_7 l0_7.length c0_7] 27 (0, 0)) (by (with_reducible repeat (first | refine blk_drewN ?_ _ | refine blk_drew ?_ | refine blk_alloc ?_ _)); exact BK169.out)) : gb170 ≠ gb169)); clear BK169; clear HB; have BK169 := n0_; have HB := n1_; have BK170 := n2_; have GW170 := n3_; have GE170 := n4_; have NB169_170 := n5_; have NB170_169 := n6_; clear n0_ n1_ n2_ n3_ n4_ n5_ n6_; clear hb hbox hg) | ((with_reducible refine gate_dst (N := 3) rfl ?_); refine Kd.R_lit k56 _ 56 ?hg (N := 3) ?hd (xs := ([] : List (S56))) (inner := []) (ok := fun _ => True) (okp := fun _ => True) ?hr ?hp (fun _ hk => hk) trivial (Below.refl _ _) (Nat.le_refl _) (by simp) ?_; (case hd => rfl); (case hg => rfl); (case hr => first | (go_simp; done) | (go_simp; rfl)); (case hp => exact (Reps.none _ _)); intro v172 w6 ho7 hb hg_ hnew_; clear hg_ hnew_; (first | rw [← Ny171.out] at ho7 | (simp only [Int.reduceToNat] at ho7; rw [← Ny171.out] at ho7)); have n0_ := Aside0.mk (Kd.R_lower ho7 (below_size (by repeat (first | (with_reducible first | exact HB.out | apply below_alloc | apply pw_below_drewN | apply below_drew1 | refine below_set ?_ GE169.out | refine below_set ?_ GE170.out) | exact HB.out)))); have n1_ := Aside0.mk (blk_below (g := gb169) (o := .cells #[.int .i64 a0_0, .int .i64 a0_1, .slice A0_2 l0_2.length c0_2, .int .i64 a0_3, .int .i64 a0_4, .int .i64 a0_5, .int .i64 a0_6, .slice A0_7 l0_7.length c0_7] 27 (0, 0)) (by (with_reducible repeat (first | refine blk_drewN ?_ _ | refine blk_drew ?_ | refine blk_alloc ?_ _)); exact BK169.out) hb); have n2_ := Aside0.mk (blk_below (g := gb170) (o := .cells #[.int .i64 0, .int .i64 0, .slice none 0 0, .int .i64 0, .int .i64 0, .int .i64 0, .int .i64 0, .slice none 0 0] 27 (0, 0)) (by (with_reducible repeat (first | refine blk_drewN ?_ _ | refine blk_drew ?_ | refine blk_alloc ?_ _)); exact BK170.out) hb); have n3_ := Aside0.mk (below_step (by repeat (first | (with_reducible first | exact HB.out | apply below_alloc | apply pw_below_drewN | apply below_drew1 | refine below_set ?_ GE169.out | refine below_set ?_ GE170.out) | exact HB.out)) hb); clear BK169; clear BK170; clear HB; have HO173 := n0_; have BK169 := n1_; have BK170 := n2_; have HB := n3_; clear n0_ n1_ n2_ n3_; clear hb ho7; have hnb8 := NB169_170.out; have hnc8 := NB170_169.out; have hcz9_0 : w6.cell? ⟨gb169, 0, none⟩ = some (.int .i64 a0_0) := (blk_cell BK169.out 0).trans rfl; have hcz9_1 : w6.cell? ⟨gb169, 1, none⟩ = some (.int .i64 a0_1) := (blk_cell BK169.out 1).trans rfl; have hcz9_2 : w6.cell? ⟨gb169, 2, none⟩ = some (.slice A0_2 l0_2.length c0_2) := (blk_cell BK169.out 2).trans rfl; have hcz9_3 : w6.cell? ⟨gb169, 3, none⟩ = some (.int .i64 a0_3) := (blk_cell BK169.out 3).trans rfl; have hcz9_4 : w6.cell? ⟨gb169, 4, none⟩ = some (.int .i64 a0_4) := (blk_cell BK169.out 4).trans rfl; have hcz9_5 : w6.cell? ⟨gb169, 5, none⟩ = some (.int .i64 a0_5) := (blk_cell BK169.out 5).trans rfl; have hcz9_6 : w6.cell? ⟨gb169, 6, none⟩ = some (.int .i64 a0_6) := (blk_cell BK169.out 6).trans rfl; have hcz9_7 : w6.cell? ⟨gb169, 7, none⟩ = some (.slice A0_7 l0_7.length c0_7) := (blk_cell BK169.out 7).trans rfl; have hfz9_0 := blk_frozen BK169.out 0; have hfz9_1 := blk_frozen BK169.out 1; have hfz9_2 := blk_frozen BK169.out 2; have hfz9_3 := blk_frozen BK169.out 3; have hfz9_4 := blk_frozen BK169.out 4; have hfz9_5 := blk_frozen BK169.out 5; have hfz9_6 := blk_frozen BK169.out 6; have hfz9_7 := blk_frozen BK169.out 7) | ((with_reducible refine gate_builtin (b := .append) (xs := #[.tmp 3, .tmp 5]) rfl ?_); at_builtin; refine Kd.R_append_rows k56 (w0 := w) w.heap.size rfl (.tmp 3) (.tmp 5) 24 56 (.agg #[(.int .i64 0), (.int .i64 0)]) 16 rfl Try.underlying24 info56 rfl (by decide) (by omega) v172 y171 l0_2 _ _ _ (fun _ => True) (fun _ => False) rfl rfl ?aO ?aR (fun _ _ h => h) (fun _ h => h.elim) ?aF ?aB ?aS ?aL ?_; (case aR => repeat (first | exact (Kd.C_below HR0_2.out HB.out) | (with_reducible refine Kd.C_alloc ?_ _) | (with_reducible refine Kd.C_drewN ?_ _) | (with_reducible refine Kd.C_drew ?_))); (case aB => exact (by repeat (first | (with_reducible first | exact HB.out | apply below_alloc | apply pw_below_drewN | apply below_drew1 | refine below_set ?_ GE169.out | refine below_set ?_ GE170.out) | exact HB.out))); (case aF => exact (fun _ _ => trivial)); (case aO => exact (by (with_reducible repeat (first | apply Kd.R_alloc | apply Kd.R_drewN | apply Kd.R_drew)); exact HO173.out)); (case aS => exact (below_size (by repeat (first | (with_reducible first | exact HB.out | apply below_alloc | apply pw_below_drewN | apply below_drew1 | refine below_set ?_ GE169.out | refine below_set ?_ GE170.out) | exact HB.out)))); (case aL => have := LMc2.out; omega); intro v175 w10 ho hb hg hat; rw [← Ny174.out] at ho; have n0_ := Aside0.mk (blk_grown (g := gb169) (o := .cells #[.int .i64 a0_0, .int .i64 a0_1, .slice A0_2 l0_2.length c0_2, .int .i64 a0_3, .int .i64 a0_4, .int .i64 a0_5, .int .i64 a0_6, .slice A0_7 l0_7.length c0_7] 27 (0, 0)) (by (with_reducible repeat (first | refine blk_drewN ?_ _ | refine blk_drew ?_ | refine blk_alloc ?_ _)); exact BK169.out) hg (Kd.R_ne HO173.out BK169.out (by decide))); have n1_ := Aside0.mk (blk_grown (g := gb170) (o := .cells #[.int .i64 0, .int .i64 0, .slice none 0 0, .int .i64 0, .int .i64 0, .int .i64 0, .int .i64 0, .slice none 0 0] 27 (0, 0)) (by (with_reducible repeat (first | refine blk_drewN ?_ _ | refine blk_drew ?_ | refine blk_alloc ?_ _)); exact BK170.out) hg (Kd.R_ne HO173.out BK170.out (by decide))); have n2_ := Aside0.mk (hb); have n3_ := Aside0.mk (ho); clear BK169; clear BK170; clear HB; clear HO173; have BK169 := n0_; have BK170 := n1_; have HB := n2_; have HO176 := n3_; clear n0_ n1_ n2_ n3_; clear ho hb hg hat; obtain ⟨Ao11, co11, eo11⟩ := Kd.R_slice HO176.out; subst eo11; have hcz12_0 : w10.cell? ⟨gb169, 0, none⟩ = some (.int .i64 a0_0) := (blk_cell BK169.out 0).trans rfl; have hcz12_1 : w10.cell? ⟨gb169, 1, none⟩ = some (.int .i64 a0_1) := (blk_cell BK169.out 1).trans rfl; have hcz12_2 : w10.cell? ⟨gb169, 2, none⟩ = some (.slice A0_2 l0_2.length c0_2) := (blk_cell BK169.out 2).trans rfl; have hcz12_3 : w10.cell? ⟨gb169, 3, none⟩ = some (.int .i64 a0_3) := (blk_cell BK169.out 3).trans rfl; have hcz12_4 : w10.cell? ⟨gb169, 4, none⟩ = some (.int .i64 a0_4) := (blk_cell BK169.out 4).trans rfl; have hcz12_5 : w10.cell? ⟨gb169, 5, none⟩ = some (.int .i64 a0_5) := (blk_cell BK169.out 5).trans rfl; have hcz12_6 : w10.cell? ⟨gb169, 6, none⟩ = some (.int .i64 a0_6) := (blk_cell BK169.out 6).trans rfl; have hcz12_7 : w10.cell? ⟨gb169, 7, none⟩ = some (.slice A0_7 l0_7.length c0_7) := (blk_cell BK169.out 7).trans rfl; have hfz12_0 := blk_frozen BK169.out 0; have hfz12_1 := blk_frozen BK169.out 1; have hfz12_2 := blk_frozen BK169.out 2; have hfz12_3 := blk_frozen BK169.out 3; have hfz12_4 := blk_frozen BK169.out 4; have hfz12_5 := blk_frozen BK169.out 5; have hfz12_6 := blk_frozen BK169.out 6; have hfz12_7 := blk_frozen BK169.out 7) | ((with_reducible refine gate_dst (N := 8) rfl ?_); refine Kd.R_lit k58 _ 58 ?hg (N := 8) ?hd (xs := ([] : List (S58))) (inner := []) (ok := fun _ => True) (okp := fun _ => True) ?hr ?hp (fun _ hk => hk) trivial (Below.refl _ _) (Nat.le_refl _) (by simp) ?_; (case hd => rfl); (case hg => rfl); (case hr => first | (go_simp; done) | (go_simp; rfl)); (case hp => exact (Reps.none _ _)); intro v178 w13 ho14 hb hg_ hnew_; clear hg_ hnew_; (first | rw [← Ny177.out] at ho14 | (simp only [Int.reduceToNat] at ho14; rw [← Ny177.out] at ho14)); have n0_ := Aside0.mk (Kd.R_below (by (with_reducible repeat (first | apply Kd.R_alloc | apply Kd.R_drewN | apply Kd.R_drew)); exact (Kd.R_mono (Kd.R_far (p := ⟨gb169, 2, none⟩) (Kd.R_types HO176.out BK169.out (by decide)) (fun _ hk => hk.2) (.slice Ao11 y174.length co11)) (fun _ h_ => h_.1))) hb); have n1_ := Aside0.mk (Kd.R_lower ho14 (below_size (by repeat (first | (with_reducible first | exact HB.out | apply below_alloc | apply pw_below_drewN | apply below_drew1 | refine below_set ?_ GE169.out | refine below_set ?_ GE170.out) | exact HB.out)))); have n2_ := Aside0.mk (blk_below (g := gb169) (o := .cells #[.int .i64 a0_0, .int .i64 a0_1, .slice Ao11 y174.length co11, .int .i64 a0_3, .int .i64 a0_4, .int .i64 a0_5, .int .i64 a0_6, .slice A0_7 l0_7.length c0_7] 27 (0, 0)) (by (with_reducible repeat (first | refine blk_drewN ?_ _ | refine blk_drew ?_ | refine blk_alloc ?_ _)); refine blk_put (cs := #[.int .i64 a0_0, .int .i64 a0_1, .slice A0_2 l0_2.length c0_2, .int .i64 a0_3, .int .i64 a0_4, .int .i64 a0_5, .int .i64 a0_6, .slice A0_7 l0_7.length c0_7]) ?_ 2 _ rfl; (with_reducible repeat (first | refine blk_drewN ?_ _ | refine blk_drew ?_ | refine blk_alloc ?_ _)); exact BK169.out) hb); have n3_ := Aside0.mk (blk_below (g := gb170) (o := .cells #[.int .i64 0, .int .i64 0, .slice none 0 0, .int .i64 0, .int .i64 0, .int .i64 0, .int .i64 0, .slice none 0 0] 27 (0, 0)) (by (with_reducible repeat (first | refine blk_drewN ?_ _ | refine blk_drew ?_ | refine blk_alloc ?_ _)); refine blk_far ?_ NB170_169.out _; (with_reducible repeat (first | refine blk_drewN ?_ _ | refine blk_drew ?_ | refine blk_alloc ?_ _)); exact BK170.out) hb); have n4_ := Aside0.mk (below_step (by repeat (first | (with_reducible first | exact HB.out | apply below_alloc | apply pw_below_drewN | apply below_drew1 | refine below_set ?_ GE169.out | refine below_set ?_ GE170.out) | exact HB.out)) hb); clear HO176; clear BK169; clear BK170; clear HB; have HO176 := n0_; have HO179 := n1_; have BK169 := n2_; have BK170 := n3_; have HB := n4_; clear n0_ n1_ n2_ n3_ n4_; clear hb ho14; have hcz15_0 : w13.cell? ⟨gb169, 0, none⟩ = some (.int .i64 a0_0) := (blk_cell BK169.out 0).trans rfl; have hcz15_1 : w13.cell? ⟨gb169, 1, none⟩ = some (.int .i64 a0_1) := (blk_cell BK169.out 1).trans rfl; have hcz15_2 : w13.cell? ⟨gb169, 2, none⟩ = some (.slice Ao11 y174.length co11) := (blk_cell BK169.out 2).trans rfl; have hcz15_3 : w13.cell? ⟨gb169, 3, none⟩ = some (.int .i64 a0_3) := (blk_cell BK169.out 3).trans rfl; have hcz15_4 : w13.cell? ⟨gb169, 4, none⟩ = some (.int .i64 a0_4) := (blk_cell BK169.out 4).trans rfl; have hcz15_5 : w13.cell? ⟨gb169, 5, none⟩ = some (.int .i64 a0_5) := (blk_cell BK169.out 5).trans rfl; have hcz15_6 : w13.cell? ⟨gb169, 6, none⟩ = some (.int .i64 a0_6) := (blk_cell BK169.out 6).trans rfl; have hcz15_7 : w13.cell? ⟨gb169, 7, none⟩ = some (.slice A0_7 l0_7.length c0_7) := (blk_cell BK169.out 7).trans rfl; have hfz15_0 := blk_frozen BK169.out 0; have hfz15_1 := blk_frozen BK169.out 1; have hfz15_2 := blk_frozen BK169.out 2; have hfz15_3 := blk_frozen BK169.out 3; have hfz15_4 := blk_frozen BK169.out 4; have hfz15_5 := blk_frozen BK169.out 5; have hfz15_6 := blk_frozen BK169.out 6; have hfz15_7 := blk_frozen BK169.out 7) | ((with_reducible refine gate_builtin (b := .append) (xs := #[.tmp 8, .tmp 10]) rfl ?_); at_builtin; refine Kd.R_append_rows k58 (w0 := w) w.heap.size rfl (.tmp 8) (.tmp 10) 25 58 (.agg #[(.int .i64 0), (.int .i64 0)]) 16 rfl Try.underlying25 info58 rfl (by decide) (by omega) v178 y177 l0_7 _ _ _ (fun _ => True) (fun _ => False) rfl rfl ?aO ?aR (fun _ _ h => h) (fun _ h => h.elim) ?aF ?aB ?aS ?aL ?_; (case aR => repeat (first | exact (Kd.C_below HR0_7.out HB.out) | (with_reducible refine Kd.C_alloc ?_ _) | (with_reducible refine Kd.C_drewN ?_ _) | (with_reducible refine Kd.C_drew ?_))); (case aB => exact (by repeat (first | (with_reducible first | exact HB.out | apply below_alloc | apply pw_below_drewN | apply below_drew1 | refine below_set ?_ GE169.out | refine below_set ?_ GE170.out) | exact HB.out))); (case aF => exact (fun _ _ => trivial)); (case aO => exact (by (with_reducible repeat (first | apply Kd.R_alloc | apply Kd.R_drewN | apply Kd.R_drew)); exact HO179.out)); (case aS => exact (below_size (by repeat (first | (with_reducible first | exact HB.out | apply below_alloc | apply pw_below_drewN | apply below_drew1 | refine below_set ?_ GE169.out | refine below_set ?_ GE170.out) | exact HB.out)))); (case aL => have := LMc3.out; omega); intro v181 w16 ho hb hg hat; rw [← Ny180.out] at ho; have n0_ := Aside0.mk (blk_grown (g := gb169) (o := .cells #[.int .i64 a0_0, .int .i64 a0_1, .slice Ao11 y174.length co11, .int .i64 a0_3, .int .i64 a0_4, .int .i64 a0_5, .int .i64 a0_6, .slice A0_7 l0_7.length c0_7] 27 (0, 0)) (by (with_reducible repeat (first | refine blk_drewN ?_ _ | refine blk_drew ?_ | refine blk_alloc ?_ _)); exact BK169.out) hg (Kd.R_ne HO179.out BK169.out (by decide))); have n1_ := Aside0.mk (blk_grown (g := gb170) (o := .cells #[.int .i64 0, .int .i64 0, .slice none 0 0, .int .i64 0, .int .i64 0, .int .i64 0, .int .i64 0, .slice none 0 0] 27 (0, 0)) (by (with_reducible repeat (first | refine blk_drewN ?_ _ | refine blk_drew ?_ | refine blk_alloc ?_ _)); exact BK170.out) hg (Kd.R_ne HO179.out BK170.out (by decide))); have n2_ := Aside0.mk (Kd.R_over' (by (with_reducible repeat (first | apply Kd.R_alloc | apply Kd.R_drewN | apply Kd.R_drew)); exact HO176.out) (Kd.R_typed (by (with_reducible repeat (first | apply Kd.R_alloc | apply Kd.R_drewN | apply Kd.R_drew)); exact HO179.out)) (by decide) hg); have n3_ := Aside0.mk (hb); have n4_ := Aside0.mk (ho); clear BK169; clear BK170; clear HO176; clear HB; clear HO179; have BK169 := n0_; have BK170 := n1_; have HO176 := n2_; have HB := n3_; have HO182 := n4_; clear n0_ n1_ n2_ n3_ n4_; clear ho hb hg hat; obtain ⟨Ao17, co17, eo17⟩ := Kd.R_slice HO182.out; subst eo17; have hcz18_0 : w16.cell? ⟨gb169, 0, none⟩ = some (.int .i64 a0_0) := (blk_cell BK169.out 0).trans rfl; have hcz18_1 : w16.cell? ⟨gb169, 1, none⟩ = some (.int .i64 a0_1) := (blk_cell BK169.out 1).trans rfl; have hcz18_2 : w16.cell? ⟨gb169, 2, none⟩ = some (.slice Ao11 y174.length co11) := (blk_cell BK169.out 2).trans rfl; have hcz18_3 : w16.cell? ⟨gb169, 3, none⟩ = some (.int .i64 a0_3) := (blk_cell BK169.out 3).trans rfl; have hcz18_4 : w16.cell? ⟨gb169, 4, none⟩ = some (.int .i64 a0_4) := (blk_cell BK169.out 4).trans rfl; have hcz18_5 : w16.cell? ⟨gb169, 5, none⟩ = some (.int .i64 a0_5) := (blk_cell BK169.out 5).trans rfl; have hcz18_6 : w16.cell? ⟨gb169, 6, none⟩ = some (.int .i64 a0_6) := (blk_cell BK169.out 6).trans rfl; have hcz18_7 : w16.cell? ⟨gb169, 7, none⟩ = some (.slice A0_7 l0_7.length c0_7) := (blk_cell BK169.out 7).trans rfl; have hfz18_0 := blk_frozen BK169.out 0; have hfz18_1 := blk_frozen BK169.out 1; have hfz18_2 := blk_frozen BK169.out 2; have hfz18_3 := blk_frozen BK169.out 3; have hfz18_4 := blk_frozen BK169.out 4; have hfz18_5 := blk_frozen BK169.out 5; have hfz18_6 := blk_frozen BK169.out 6; have hfz18_7 := blk_frozen BK169.out 7; have hcz19_0 : w16.cell? ⟨gb170, 0, none⟩ = some (.int .i64 0) := (blk_cell BK170.out 0).trans rfl; have hcz19_1 : w16.cell? ⟨gb170, 1, none⟩ = some (.int .i64 0) := (blk_cell BK170.out 1).trans rfl; have hcz19_2 : w16.cell? ⟨gb170, 2, none⟩ = some (.slice none 0 0) := (blk_cell BK170.out 2).trans rfl; have hcz19_3 : w16.cell? ⟨gb170, 3, none⟩ = some (.int .i64 0) := (blk_cell BK170.out 3).trans rfl; have hcz19_4 : w16.cell? ⟨gb170, 4, none⟩ = some (.int .i64 0) := (blk_cell BK170.out 4).trans rfl; have hcz19_5 : w16.cell? ⟨gb170, 5, none⟩ = some (.int .i64 0) := (blk_cell BK170.out 5).trans rfl; have hcz19_6 : w16.cell? ⟨gb170, 6, none⟩ = some (.int .i64 0) := (blk_cell BK170.out 6).trans rfl; have hcz19_7 : w16.cell? ⟨gb170, 7, none⟩ = some (.slice none 0 0) := (blk_cell BK170.out 7).trans rfl; have hfz19_0 := blk_frozen BK170.out 0; have hfz19_1 := blk_frozen BK170.out 1; have hfz19_2 := blk_frozen BK170.out 2; have hfz19_3 := blk_frozen BK170.out 3; have hfz19_4 := blk_frozen BK170.out 4; have hfz19_5 := blk_frozen BK170.out 5; have hfz19_6 := blk_frozen BK170.out 6; have hfz19_7 := blk_frozen BK170.out 7))
   refine bodyPost_ret (results_cell_row rfl _ _ gb170 27 #[.int .i64 a0_0, .int .i64 a0_1, .slice Ao11 y174.length co11, .int .i64 a0_3, .int .i64 a0_4, .int .i64 a0_5, .int .i64 a0_6, .slice Ao17 y180.length co17] (0, 0) _ rfl (by (with_reducible repeat (first | refine blk_drewN ?_ _ | refine blk_drew ?_ | refine blk_alloc ?_ _)); refine blk_put (cs := #[.int .i64 a0_0, .int .i64 a0_1, .slice Ao11 y174.length co11, .int .i64 a0_3, .int .i64 a0_4, .int .i64 a0_5, .int .i64 a0_6, .slice none 0 0]) ?_ 7 _ rfl; (with_reducible repeat (first | refine blk_drewN ?_ _ | refine blk_drew ?_ | refine blk_alloc ?_ _)); refine blk_put (cs := #[.int .i64 a0_0, .int .i64 a0_1, .slice Ao11 y174.length co11, .int .i64 a0_3, .int .i64 a0_4, .int .i64 a0_5, .int .i64 0, .slice none 0 0]) ?_ 6 _ rfl; (with_reducible repeat (first | refine blk_drewN ?_ _ | refine blk_drew ?_ | refine blk_alloc ?_ _)); refine blk_put (cs := #[.int .i64 a0_0, .int .i64 a0_1, .slice Ao11 y174.length co11, .int .i64 a0_3, .int .i64 a0_4, .int .i64 0, .int .i64 0, .slice none 0 0]) ?_ 5 _ rfl; (with_reducible repeat (first | refine blk_drewN ?_ _ | refine blk_drew ?_ | refine blk_alloc ?_ _)); refine blk_put (cs := #[.int .i64 a0_0, .int .i64 a0_1, .slice Ao11 y174.length co11, .int .i64 a0_3, .int .i64 0, .int .i64 0, .int .i64 0, .slice none 0 0]) ?_ 4 _ rfl; (with_reducible repeat (first | refine blk_drewN ?_ _ | refine blk_drew ?_ | refine blk_alloc ?_ _)); refine blk_put (cs := #[.int .i64 a0_0, .int .i64 a0_1, .slice Ao11 y174.length co11, .int .i64 0, .int .i64 0, .int .i64 0, .int .i64 0, .slice none 0 0]) ?_ 3 _ rfl; (with_reducible repeat (first | refine blk_drewN ?_ _ | refine blk_drew ?_ | refine blk_alloc ?_ _)); refine blk_put (cs := #[.int .i64 a0_0, .int .i64 a0_1, .slice none 0 0, .int .i64 0, .int .i64 0, .int .i64 0, .int .i64 0, .slice none 0 0]) ?_ 2 _ rfl; (with_reducible repeat (first | refine blk_drewN ?_ _ | refine blk_drew ?_ | refine blk_alloc ?_ _)); refine blk_put (cs := #[.int .i64 a0_0, .int .i64 0, .slice none 0 0, .int .i64 0, .int .i64 0, .int .i64 0, .int .i64 0, .slice none 0 0]) ?_ 1 _ rfl; (with_reducible repeat (first | refine blk_drewN ?_ _ | refine blk_drew ?_ | refine blk_alloc ?_ _)); refine blk_put (cs := #[.int .i64 0, .int .i64 0, .slice none 0 0, .int .i64 0, .int .i64 0, .int .i64 0, .int .i64 0, .slice none 0 0]) ?_ 0 _ rfl; (with_reducible repeat (first | refine blk_drewN ?_ _ | refine blk_drew ?_ | refine blk_alloc ?_ _)); refine blk_far ?_ NB170_169.out _; (with_reducible repeat (first | refine blk_drewN ?_ _ | refine blk_drew ?_ | refine blk_alloc ?_ _)); exact BK170.out) Try.underlying27 rfl (by kernel_rfl)) rfl ?_
   exact ⟨_, _, by first | rfl | (simp [errW_none, errW_some] <;> rfl) | (simp [*, errW_none, errW_some] <;> rfl), by (with_reducible repeat (first | apply Kd.R_alloc | apply Kd.R_drewN | apply Kd.R_drew)); exact Kd.R_mono (Kd.R_far (p := ⟨gb170, 7, none⟩) (Kd.R_far (p := ⟨gb170, 6, none⟩) (Kd.R_far (p := ⟨gb170, 5, none⟩) (Kd.R_far (p := ⟨gb170, 4, none⟩) (Kd.R_far (p := ⟨gb170, 3, none⟩) (Kd.R_far (p := ⟨gb170, 2, none⟩) (Kd.R_far (p := ⟨gb170, 1, none⟩) (Kd.R_far (p := ⟨gb170, 0, none⟩) (Kd.R_far (p := ⟨gb169, 7, none⟩) (Kd.R_types (Kd.R_types HO176.out BK169.out (by decide)) BK170.out (by decide)) (fun _ hk => hk.1.2) (.slice Ao17 y180.length co17)) (fun _ hk => hk.2) (.int .i64 a0_0)) (fun _ hk => hk.2) (.int .i64 a0_1)) (fun _ hk => hk.2) (.slice Ao11 y174.length co11)) (fun _ hk => hk.2) (.int .i64 a0_3)) (fun _ hk => hk.2) (.int .i64 a0_4)) (fun _ hk => hk.2) (.int .i64 a0_5)) (fun _ hk => hk.2) (.int .i64 a0_6)) (fun _ hk => hk.2) (.slice Ao17 y180.length co17)) (fun _ hk => trivial), by (with_reducible repeat (first | apply Kd.R_alloc | apply Kd.R_drewN | apply Kd.R_drew)); exact Kd.R_mono (Kd.R_far (p := ⟨gb170, 7, none⟩) (Kd.R_far (p := ⟨gb170, 6, none⟩) (Kd.R_far (p := ⟨gb170, 5, none⟩) (Kd.R_far (p := ⟨gb170, 4, none⟩) (Kd.R_far (p := ⟨gb170, 3, none⟩) (Kd.R_far (p := ⟨gb170, 2, none⟩) (Kd.R_far (p := ⟨gb170, 1, none⟩) (Kd.R_far (p := ⟨gb170, 0, none⟩) (Kd.R_far (p := ⟨gb169, 7, none⟩) (Kd.R_types (Kd.R_types HO182.out BK169.out (by decide)) BK170.out (by decide)) (fun _ hk => hk.1.2) (.slice Ao17 y180.length co17)) (fun _ hk => hk.2) (.int .i64 a0_0)) (fun _ hk => hk.2) (.int .i64 a0_1)) (fun _ hk => hk.2) (.slice Ao11 y174.length co11)) (fun _ hk => hk.2) (.int .i64 a0_3)) (fun _ hk => hk.2) (.int .i64 a0_4)) (fun _ hk => hk.2) (.int .i64 a0_5)) (fun _ hk => hk.2) (.int .i64 a0_6)) (fun _ hk => hk.2) (.slice Ao17 y180.length co17)) (fun _ hk => trivial), by repeat (first | (with_reducible first | exact HB.out | apply below_alloc | apply pw_below_drewN | apply below_drew1 | refine below_set ?_ GE169.out | refine below_set ?_ GE170.out) | exact HB.out)⟩
  ·rw [if_neg c3] at H
   exact absurd H (by simp)
 ·rw [if_neg c2] at H
  exact absurd H (by simp)
/-! ### governorref18_Own: function 21 -/
def governorref18_Own.f (a0_0 : Int) (a0_1 : Int) (l0_2 : List (S56)) (a0_3 : Int) (a0_4 : Int) (a0_5 : Int) (a0_6 : Int) (l0_7 : List (S58)) (a0_8 : Int) (a0_9 : Int) (a0_10 : Bool) (a0_11 : Int) (a0_12 : Int) (a0_13 : Bool) (a0_14 : Int) (l0_15 : List Int) (a0_16 : Int) (a0_17 : Int) (l0_18 : List (S52)) : Option (Int × Int × (List (S56)) × Int × Int × Int × Int × (List (S58)) × Int × Int × Bool × Int × Int × Bool × Int × List Int × Int × Int × (List (S52))) := if l0_2.length < 8796093022208 ∧ l0_7.length < 8796093022208 ∧ l0_15.length < 17592186044416 ∧ l0_18.length < 8796093022208 then some (a0_0, a0_1, l0_2, a0_3, a0_4, a0_5, a0_6, l0_7, a0_8, a0_9, a0_10, a0_11, a0_12, a0_13, a0_14, l0_15, a0_16, a0_17, l0_18) else none
theorem OwS.grown {α : Type} {d : Kd α} {e base : Nat} {ok : Nat → Prop} {v : Value} {xs : List α} {w W W1 : World} {cs : Array Value} (h : OwS w W cs) (hg : W.grownBy W1 v.ownBlock) (hr : d.R e W base ok v xs) (hne : e ≠ 37) (hB : Below w.heap.size w W1) : OwS w W1 cs := ⟨blk_grown h.hX hg (Kd.R_ne hr h.hX hne), blk_grown h.hY hg (Kd.R_ne hr h.hY hne), hB⟩
set_option maxHeartbeats 8000000 in
set_option maxRecDepth 100000 in
theorem governorref18_Own.calls (a0_0 : Int) (a0_1 : Int) (A0_2 : Option Addr) (c0_2 : Nat) (l0_2 : List (S56)) (a0_3 : Int) (a0_4 : Int) (a0_5 : Int) (a0_6 : Int) (A0_7 : Option Addr) (c0_7 : Nat) (l0_7 : List (S58)) (a0_8 : Int) (a0_9 : Int) (a0_10 : Bool) (a0_11 : Int) (a0_12 : Int) (a0_13 : Bool) (a0_14 : Int) (A0_15 : Option Addr) (c0_15 : Nat) (l0_15 : List Int) (a0_16 : Int) (a0_17 : Int) (A0_18 : Option Addr) (c0_18 : Nat) (l0_18 : List (S52)) (r1 : Int) (r2 : Int) (r3 : List (S56)) (r4 : Int) (r5 : Int) (r6 : Int) (r7 : Int) (r8 : List (S58)) (r9 : Int) (r10 : Int) (r11 : Bool) (r12 : Int) (r13 : Int) (r14 : Bool) (r15 : Int) (r16 : List Int) (r17 : Int) (r18 : Int) (r19 : List (S52)) (w : World) (hr0_2 : Kd.C k56 w A0_2 l0_2.length l0_2) (hc0_2 : l0_2.length ≤ c0_2) (hr0_7 : Kd.C k58 w A0_7 l0_7.length l0_7) (hc0_7 : l0_7.length ≤ c0_7) (hr0_15 : Kd.C (Kd.int .i64) w A0_15 l0_15.length l0_15) (hc0_15 : l0_15.length ≤ c0_15) (hr0_18 : Kd.C k52 w A0_18 l0_18.length l0_18) (hc0_18 : l0_18.length ≤ c0_18) (h : governorref18_Own.f a0_0 a0_1 l0_2 a0_3 a0_4 a0_5 a0_6 l0_7 a0_8 a0_9 a0_10 a0_11 a0_12 a0_13 a0_14 l0_15 a0_16 a0_17 l0_18 = some (r1, r2, r3, r4, r5, r6, r7, r8, r9, r10, r11, r12, r13, r14, r15, r16, r17, r18, r19)) :
  Calls Try.prog 21 #[.agg #[.int .i64 a0_0, .int .i64 a0_1, .slice A0_2 l0_2.length c0_2, .int .i64 a0_3, .int .i64 a0_4, .int .i64 a0_5, .int .i64 a0_6, .slice A0_7 l0_7.length c0_7, .int .i64 a0_8, .int .i64 a0_9, .bool a0_10, .int .i64 a0_11, .int .i64 a0_12, .bool a0_13, .int .i64 a0_14, .slice A0_15 l0_15.length c0_15, .int .i64 a0_16, .int .i64 a0_17, .slice A0_18 l0_18.length c0_18]] w fun e w' => ∃ v2_ v7_ v15_ v18_ : Value, e = .returned (.agg #[.int .i64 r1, .int .i64 r2, v2_, .int .i64 r4, .int .i64 r5, .int .i64 r6, .int .i64 r7, v7_, .int .i64 r9, .int .i64 r10, .bool r11, .int .i64 r12, .int .i64 r13, .bool r14, .int .i64 r15, v15_, .int .i64 r17, .int .i64 r18, v18_]) ∧ Kd.R k56 56 w' w.heap.size (fun _ => True) v2_ r3 ∧ Kd.R k58 58 w' w.heap.size (fun _ => True) v7_ r8 ∧ Kd.R (Kd.int .i64) 3 w' w.heap.size (fun _ => True) v15_ r16 ∧ Kd.R k52 52 w' w.heap.size (fun _ => True) v18_ r19 ∧ Below w.heap.size w w' := by
 have hu1 := Try.underlying37
 have hu2 := Try.underlying27
 have hu3 := Try.underlying34
 unfold governorref18_Own.f at h
 have hD : l0_2.length < 8796093022208 ∧ l0_7.length < 8796093022208 ∧ l0_15.length < 17592186044416 ∧ l0_18.length < 8796093022208 := by
  by_cases hD : l0_2.length < 8796093022208 ∧ l0_7.length < 8796093022208 ∧ l0_15.length < 17592186044416 ∧ l0_18.length < 8796093022208
  ·exact hD
  ·rw [if_neg hD] at h; cases h
 rw [if_pos hD] at h
 simp only [Option.some.injEq, Prod.mk.injEq] at h
 obtain ⟨rfl, rfl, rfl, rfl, rfl, rfl, rfl, rfl, rfl, rfl, rfl, rfl, rfl, rfl, rfl, rfl, rfl, rfl, rfl⟩ := h
 have HP := Aside0.mk (show governorref18_OwnPolicy.f a0_0 a0_1 l0_2 a0_3 a0_4 a0_5 a0_6 l0_7 = some (a0_0, a0_1, l0_2, a0_3, a0_4, a0_5, a0_6, l0_7) by unfold governorref18_OwnPolicy.f; simp only [Option.bind_some, List.length_nil, Nat.zero_add, List.nil_append, if_pos hD.1, if_pos hD.2.1])
 have HR2 := Aside0.mk hr0_2
 have HC2 := Aside0.mk hc0_2
 have HR7 := Aside0.mk hr0_7
 have HC7 := Aside0.mk hc0_7
 have HR15 := Aside0.mk hr0_15
 have HC15 := Aside0.mk hc0_15
 have HR18 := Aside0.mk hr0_18
 have HC18 := Aside0.mk hc0_18
 have HD := Aside0.mk hD
 clear hD hr0_2 hc0_2 hr0_7 hc0_7 hr0_15 hc0_15 hr0_18 hc0_18
 go_enter Try.func21, Try.ntmps21
 go_upto_region 1 with (fail)
 have S0 : OwS w ((w.alloc (.cells #[.int .i64 a0_0, .int .i64 a0_1, .slice A0_2 l0_2.length c0_2, .int .i64 a0_3, .int .i64 a0_4, .int .i64 a0_5, .int .i64 a0_6, .slice A0_7 l0_7.length c0_7, .int .i64 a0_8, .int .i64 a0_9, .bool a0_10, .int .i64 a0_11, .int .i64 a0_12, .bool a0_13, .int .i64 a0_14, .slice A0_15 l0_15.length c0_15, .int .i64 a0_16, .int .i64 a0_17, .slice A0_18 l0_18.length c0_18] 37)).alloc (.cells #[.int .i64 0, .int .i64 0, .slice none 0 0, .int .i64 0, .int .i64 0, .int .i64 0, .int .i64 0, .slice none 0 0, .int .i64 0, .int .i64 0, .bool false, .int .i64 0, .int .i64 0, .bool false, .int .i64 0, .slice none 0 0, .int .i64 0, .int .i64 0, .slice none 0 0] 37)) #[.int .i64 a0_0, .int .i64 a0_1, .slice A0_2 l0_2.length c0_2, .int .i64 a0_3, .int .i64 a0_4, .int .i64 a0_5, .int .i64 a0_6, .slice A0_7 l0_7.length c0_7, .int .i64 a0_8, .int .i64 a0_9, .bool a0_10, .int .i64 a0_11, .int .i64 a0_12, .bool a0_13, .int .i64 a0_14, .slice A0_15 l0_15.length c0_15, .int .i64 a0_16, .int .i64 a0_17, .slice A0_18 l0_18.length c0_18] := by
  have z1 := blk_new (w.alloc (.cells #[.int .i64 a0_0, .int .i64 a0_1, .slice A0_2 l0_2.length c0_2, .int .i64 a0_3, .int .i64 a0_4, .int .i64 a0_5, .int .i64 a0_6, .slice A0_7 l0_7.length c0_7, .int .i64 a0_8, .int .i64 a0_9, .bool a0_10, .int .i64 a0_11, .int .i64 a0_12, .bool a0_13, .int .i64 a0_14, .slice A0_15 l0_15.length c0_15, .int .i64 a0_16, .int .i64 a0_17, .slice A0_18 l0_18.length c0_18] 37)) (.cells #[.int .i64 0, .int .i64 0, .slice none 0 0, .int .i64 0, .int .i64 0, .int .i64 0, .int .i64 0, .slice none 0 0, .int .i64 0, .int .i64 0, .bool false, .int .i64 0, .int .i64 0, .bool false, .int .i64 0, .slice none 0 0, .int .i64 0, .int .i64 0, .slice none 0 0] 37)
  rw [World.size_alloc] at z1
  exact ⟨blk_alloc (blk_new w _) _, z1, below_alloc (below_alloc (Below.refl _ _) _) _⟩
 generalize (w.alloc _).alloc _ = W0 at S0 ⊢
 have HS := Aside0.mk S0
 clear S0
 have xc0 := blk_cell HS.out.hX 0
 have xc1 := blk_cell HS.out.hX 1
 have xc2 := blk_cell HS.out.hX 2
 have xc3 := blk_cell HS.out.hX 3
 have xc4 := blk_cell HS.out.hX 4
 have xc5 := blk_cell HS.out.hX 5
 have xc6 := blk_cell HS.out.hX 6
 have xc7 := blk_cell HS.out.hX 7
 simp only [List.getElem?_toArray, List.getElem?_cons_zero, List.getElem?_cons_succ] at xc0 xc1 xc2 xc3 xc4 xc5 xc6 xc7
 go_upto_region 2 with (go_at_call 44; refine (governorref18_OwnPolicy.calls _ _ _ _ _ _ _ _ _ _ _ _ _ _ _ _ _ _ _ _ _ (Kd.C_below HR2.out HS.out.hB) HC2.out (Kd.C_below HR7.out HS.out.hB) HC7.out HP.out).mono ?_; rintro e_ w1 ⟨v2, v7, rfl, r2, r7, hb⟩; obtain ⟨A2, c2, rfl⟩ := Kd.R_slice r2; obtain ⟨A7, c7, rfl⟩ := Kd.R_slice r7; have HU2 := Aside0.mk (Kd.R_lower r2 HS.out.hB.size); have HU7 := Aside0.mk (Kd.R_lower r7 HS.out.hB.size); replace HS := Aside0.mk (HS.out.below hb); clear r2 r7 hb xc0 xc1 xc2 xc3 xc4 xc5 xc6 xc7; have xc0 := blk_cell HS.out.hX 0; have xc1 := blk_cell HS.out.hX 1; have xc2 := blk_cell HS.out.hX 2; have xc3 := blk_cell HS.out.hX 3; have xc4 := blk_cell HS.out.hX 4; have xc5 := blk_cell HS.out.hX 5; have xc6 := blk_cell HS.out.hX 6; have xc7 := blk_cell HS.out.hX 7; simp only [List.getElem?_toArray, List.getElem?_cons_zero, List.getElem?_cons_succ] at xc0 xc1 xc2 xc3 xc4 xc5 xc6 xc7; have xf0 := blk_frozen HS.out.hX 0; have xf1 := blk_frozen HS.out.hX 1; have xf2 := blk_frozen HS.out.hX 2; have xf3 := blk_frozen HS.out.hX 3; have xf4 := blk_frozen HS.out.hX 4; have xf5 := blk_frozen HS.out.hX 5; have xf6 := blk_frozen HS.out.hX 6; have xf7 := blk_frozen HS.out.hX 7)
 replace HU2 := Aside0.mk (Kd.R_mono (Kd.R_set HU2.out HS.out.hX (by decide) 0 (.int .i64 a0_0)) (ok' := fun _ => True) (fun _ _ => trivial))
 replace HU7 := Aside0.mk (Kd.R_mono (Kd.R_set HU7.out HS.out.hX (by decide) 0 (.int .i64 a0_0)) (ok' := fun _ => True) (fun _ _ => trivial))
 replace HS : Aside0 (OwS w _ #[.int .i64 a0_0, .int .i64 a0_1, .slice A0_2 l0_2.length c0_2, .int .i64 a0_3, .int .i64 a0_4, .int .i64 a0_5, .int .i64 a0_6, .slice A0_7 l0_7.length c0_7, .int .i64 a0_8, .int .i64 a0_9, .bool a0_10, .int .i64 a0_11, .int .i64 a0_12, .bool a0_13, .int .i64 a0_14, .slice A0_15 l0_15.length c0_15, .int .i64 a0_16, .int .i64 a0_17, .slice A0_18 l0_18.length c0_18]) := Aside0.mk (HS.out.put 0 (.int .i64 a0_0) rfl)
 replace HU2 := Aside0.mk (Kd.R_mono (Kd.R_set HU2.out HS.out.hX (by decide) 1 (.int .i64 a0_1)) (ok' := fun _ => True) (fun _ _ => trivial))
 replace HU7 := Aside0.mk (Kd.R_mono (Kd.R_set HU7.out HS.out.hX (by decide) 1 (.int .i64 a0_1)) (ok' := fun _ => True) (fun _ _ => trivial))
 replace HS : Aside0 (OwS w _ #[.int .i64 a0_0, .int .i64 a0_1, .slice A0_2 l0_2.length c0_2, .int .i64 a0_3, .int .i64 a0_4, .int .i64 a0_5, .int .i64 a0_6, .slice A0_7 l0_7.length c0_7, .int .i64 a0_8, .int .i64 a0_9, .bool a0_10, .int .i64 a0_11, .int .i64 a0_12, .bool a0_13, .int .i64 a0_14, .slice A0_15 l0_15.length c0_15, .int .i64 a0_16, .int .i64 a0_17, .slice A0_18 l0_18.length c0_18]) := Aside0.mk (HS.out.put 1 (.int .i64 a0_1) rfl)
 replace HU2 := Aside0.mk (Kd.R_mono (Kd.R_set HU2.out HS.out.hX (by decide) 2 (.slice A2 l0_2.length c2)) (ok' := fun _ => True) (fun _ _ => trivial))
 replace HU7 := Aside0.mk (Kd.R_mono (Kd.R_set HU7.out HS.out.hX (by decide) 2 (.slice A2 l0_2.length c2)) (ok' := fun _ => True) (fun _ _ => trivial))
 replace HS : Aside0 (OwS w _ #[.int .i64 a0_0, .int .i64 a0_1, .slice A2 l0_2.length c2, .int .i64 a0_3, .int .i64 a0_4, .int .i64 a0_5, .int .i64 a0_6, .slice A0_7 l0_7.length c0_7, .int .i64 a0_8, .int .i64 a0_9, .bool a0_10, .int .i64 a0_11, .int .i64 a0_12, .bool a0_13, .int .i64 a0_14, .slice A0_15 l0_15.length c0_15, .int .i64 a0_16, .int .i64 a0_17, .slice A0_18 l0_18.length c0_18]) := Aside0.mk (HS.out.put 2 (.slice A2 l0_2.length c2) rfl)
 replace HU2 := Aside0.mk (Kd.R_mono (Kd.R_set HU2.out HS.out.hX (by decide) 3 (.int .i64 a0_3)) (ok' := fun _ => True) (fun _ _ => trivial))
 replace HU7 := Aside0.mk (Kd.R_mono (Kd.R_set HU7.out HS.out.hX (by decide) 3 (.int .i64 a0_3)) (ok' := fun _ => True) (fun _ _ => trivial))
 replace HS : Aside0 (OwS w _ #[.int .i64 a0_0, .int .i64 a0_1, .slice A2 l0_2.length c2, .int .i64 a0_3, .int .i64 a0_4, .int .i64 a0_5, .int .i64 a0_6, .slice A0_7 l0_7.length c0_7, .int .i64 a0_8, .int .i64 a0_9, .bool a0_10, .int .i64 a0_11, .int .i64 a0_12, .bool a0_13, .int .i64 a0_14, .slice A0_15 l0_15.length c0_15, .int .i64 a0_16, .int .i64 a0_17, .slice A0_18 l0_18.length c0_18]) := Aside0.mk (HS.out.put 3 (.int .i64 a0_3) rfl)
 replace HU2 := Aside0.mk (Kd.R_mono (Kd.R_set HU2.out HS.out.hX (by decide) 4 (.int .i64 a0_4)) (ok' := fun _ => True) (fun _ _ => trivial))
 replace HU7 := Aside0.mk (Kd.R_mono (Kd.R_set HU7.out HS.out.hX (by decide) 4 (.int .i64 a0_4)) (ok' := fun _ => True) (fun _ _ => trivial))
 replace HS : Aside0 (OwS w _ #[.int .i64 a0_0, .int .i64 a0_1, .slice A2 l0_2.length c2, .int .i64 a0_3, .int .i64 a0_4, .int .i64 a0_5, .int .i64 a0_6, .slice A0_7 l0_7.length c0_7, .int .i64 a0_8, .int .i64 a0_9, .bool a0_10, .int .i64 a0_11, .int .i64 a0_12, .bool a0_13, .int .i64 a0_14, .slice A0_15 l0_15.length c0_15, .int .i64 a0_16, .int .i64 a0_17, .slice A0_18 l0_18.length c0_18]) := Aside0.mk (HS.out.put 4 (.int .i64 a0_4) rfl)
 replace HU2 := Aside0.mk (Kd.R_mono (Kd.R_set HU2.out HS.out.hX (by decide) 5 (.int .i64 a0_5)) (ok' := fun _ => True) (fun _ _ => trivial))
 replace HU7 := Aside0.mk (Kd.R_mono (Kd.R_set HU7.out HS.out.hX (by decide) 5 (.int .i64 a0_5)) (ok' := fun _ => True) (fun _ _ => trivial))
 replace HS : Aside0 (OwS w _ #[.int .i64 a0_0, .int .i64 a0_1, .slice A2 l0_2.length c2, .int .i64 a0_3, .int .i64 a0_4, .int .i64 a0_5, .int .i64 a0_6, .slice A0_7 l0_7.length c0_7, .int .i64 a0_8, .int .i64 a0_9, .bool a0_10, .int .i64 a0_11, .int .i64 a0_12, .bool a0_13, .int .i64 a0_14, .slice A0_15 l0_15.length c0_15, .int .i64 a0_16, .int .i64 a0_17, .slice A0_18 l0_18.length c0_18]) := Aside0.mk (HS.out.put 5 (.int .i64 a0_5) rfl)
 replace HU2 := Aside0.mk (Kd.R_mono (Kd.R_set HU2.out HS.out.hX (by decide) 6 (.int .i64 a0_6)) (ok' := fun _ => True) (fun _ _ => trivial))
 replace HU7 := Aside0.mk (Kd.R_mono (Kd.R_set HU7.out HS.out.hX (by decide) 6 (.int .i64 a0_6)) (ok' := fun _ => True) (fun _ _ => trivial))
 replace HS : Aside0 (OwS w _ #[.int .i64 a0_0, .int .i64 a0_1, .slice A2 l0_2.length c2, .int .i64 a0_3, .int .i64 a0_4, .int .i64 a0_5, .int .i64 a0_6, .slice A0_7 l0_7.length c0_7, .int .i64 a0_8, .int .i64 a0_9, .bool a0_10, .int .i64 a0_11, .int .i64 a0_12, .bool a0_13, .int .i64 a0_14, .slice A0_15 l0_15.length c0_15, .int .i64 a0_16, .int .i64 a0_17, .slice A0_18 l0_18.length c0_18]) := Aside0.mk (HS.out.put 6 (.int .i64 a0_6) rfl)
 replace HU2 := Aside0.mk (Kd.R_mono (Kd.R_set HU2.out HS.out.hX (by decide) 7 (.slice A7 l0_7.length c7)) (ok' := fun _ => True) (fun _ _ => trivial))
 replace HU7 := Aside0.mk (Kd.R_mono (Kd.R_set HU7.out HS.out.hX (by decide) 7 (.slice A7 l0_7.length c7)) (ok' := fun _ => True) (fun _ _ => trivial))
 replace HS : Aside0 (OwS w _ #[.int .i64 a0_0, .int .i64 a0_1, .slice A2 l0_2.length c2, .int .i64 a0_3, .int .i64 a0_4, .int .i64 a0_5, .int .i64 a0_6, .slice A7 l0_7.length c7, .int .i64 a0_8, .int .i64 a0_9, .bool a0_10, .int .i64 a0_11, .int .i64 a0_12, .bool a0_13, .int .i64 a0_14, .slice A0_15 l0_15.length c0_15, .int .i64 a0_16, .int .i64 a0_17, .slice A0_18 l0_18.length c0_18]) := Aside0.mk (HS.out.put 7 (.slice A7 l0_7.length c7) rfl)
 generalize (((((((w1.setCell _ _).setCell _ _).setCell _ _).setCell _ _).setCell _ _).setCell _ _).setCell _ _).setCell _ _ = W1 at HS HU2 HU7 ⊢
 clear HP HR2 HC2 HR7 HC7 xc0 xc1 xc2 xc3 xc4 xc5 xc6 xc7 xf0 xf1 xf2 xf3 xf4 xf5 xf6 xf7
 have xc15 := blk_cell HS.out.hX 15
 simp only [List.getElem?_toArray, List.getElem?_cons_zero, List.getElem?_cons_succ] at xc15
 go_upto_region 3 with (first
  | ((with_reducible refine gate_dst (N := 7) rfl ?_); refine Kd.R_lit (Kd.int .i64) _ 3 ?hg (N := 7) ?hd (xs := ([] : List (Int))) (inner := []) (ok := fun _ => True) (okp := fun _ => True) ?hr ?hp (fun _ hk => hk) trivial (Below.refl _ _) (Nat.le_refl _) (by simp) ?_; (case hd => rfl); (case hg => rfl); (case hr => first | (go_simp; done) | (go_simp; rfl)); (case hp => exact (Reps.none _ _)); intro vv w3 ho3 hb hg_ hnew_; clear hg_ hnew_ xc15; have HV := Aside0.mk (Kd.R_lower ho3 HS.out.hB.size); replace HU2 := Aside0.mk (Kd.R_below HU2.out hb); replace HU7 := Aside0.mk (Kd.R_below HU7.out hb); replace HS := Aside0.mk (HS.out.below hb); have xc15 := blk_cell HS.out.hX 15; simp only [List.getElem?_toArray, List.getElem?_cons_zero, List.getElem?_cons_succ] at xc15; clear ho3 hb)
  | ((with_reducible refine gate_builtin (b := .append) (xs := #[.tmp 7, .tmp 10]) rfl ?_); at_builtin; refine Kd.R_append_rows (Kd.int .i64) (w0 := w) w.heap.size rfl (.tmp 7) (.tmp 10) 32 3 (.int .i64 0) 8 rfl Try.underlying32 info3 rfl (by decide) (by omega) vv ([] : List (Int)) l0_15 _ _ _ (fun _ => True) (fun _ => False) rfl rfl ?aO ?aR (fun _ _ h => h) (fun _ h => h.elim) ?aF ?aB ?aS ?aL ?_; (case aR => exact (Kd.C_below HR15.out HS.out.hB)); (case aB => exact HS.out.hB); (case aF => exact (fun _ _ => trivial)); (case aO => exact HV.out); (case aS => exact HS.out.hB.size); (case aL => have hD := HD.out; have := hD.2.2.1; simp only [List.length_nil]; omega); intro v478 w5 ho hb hg hat; rw [List.nil_append] at ho; replace HU2 := Aside0.mk (Kd.R_over' HU2.out (Kd.R_typed HV.out) (by decide) hg); replace HU7 := Aside0.mk (Kd.R_over' HU7.out (Kd.R_typed HV.out) (by decide) hg); replace HS := Aside0.mk (HS.out.grown hg HV.out (by decide) hb); obtain ⟨A15, c15, rfl⟩ := Kd.R_slice ho; have HU15 := Aside0.mk ho; clear HV ho hb hg hat xc15; have xc15 := blk_cell HS.out.hX 15; simp only [List.getElem?_toArray, List.getElem?_cons_zero, List.getElem?_cons_succ] at xc15; have xf15 := blk_frozen HS.out.hX 15))
 replace HU2 := Aside0.mk (Kd.R_mono (Kd.R_set HU2.out HS.out.hX (by decide) 15 (.slice A15 l0_15.length c15)) (ok' := fun _ => True) (fun _ _ => trivial))
 replace HU7 := Aside0.mk (Kd.R_mono (Kd.R_set HU7.out HS.out.hX (by decide) 15 (.slice A15 l0_15.length c15)) (ok' := fun _ => True) (fun _ _ => trivial))
 replace HU15 := Aside0.mk (Kd.R_mono (Kd.R_set HU15.out HS.out.hX (by decide) 15 (.slice A15 l0_15.length c15)) (ok' := fun _ => True) (fun _ _ => trivial))
 replace HS : Aside0 (OwS w _ #[.int .i64 a0_0, .int .i64 a0_1, .slice A2 l0_2.length c2, .int .i64 a0_3, .int .i64 a0_4, .int .i64 a0_5, .int .i64 a0_6, .slice A7 l0_7.length c7, .int .i64 a0_8, .int .i64 a0_9, .bool a0_10, .int .i64 a0_11, .int .i64 a0_12, .bool a0_13, .int .i64 a0_14, .slice A15 l0_15.length c15, .int .i64 a0_16, .int .i64 a0_17, .slice A0_18 l0_18.length c0_18]) := Aside0.mk (HS.out.put 15 (.slice A15 l0_15.length c15) rfl)
 generalize w5.setCell _ _ = W2 at HS HU2 HU7 HU15 ⊢
 clear HR15 HC15 xc15 xf15
 have xc18 := blk_cell HS.out.hX 18
 simp only [List.getElem?_toArray, List.getElem?_cons_zero, List.getElem?_cons_succ] at xc18
 go_upto_region 4 with (first
  | ((with_reducible refine gate_dst (N := 14) rfl ?_); refine Kd.R_lit k52 _ 52 ?hg (N := 14) ?hd (xs := ([] : List (S52))) (inner := []) (ok := fun _ => True) (okp := fun _ => True) ?hr ?hp (fun _ hk => hk) trivial (Below.refl _ _) (Nat.le_refl _) (by simp) ?_; (case hd => rfl); (case hg => rfl); (case hr => first | (go_simp; done) | (go_simp; rfl)); (case hp => exact (Reps.none _ _)); intro vv w3 ho3 hb hg_ hnew_; clear hg_ hnew_ xc18; have HV := Aside0.mk (Kd.R_lower ho3 HS.out.hB.size); replace HU2 := Aside0.mk (Kd.R_below HU2.out hb); replace HU7 := Aside0.mk (Kd.R_below HU7.out hb); replace HU15 := Aside0.mk (Kd.R_below HU15.out hb); replace HS := Aside0.mk (HS.out.below hb); have xc18 := blk_cell HS.out.hX 18; simp only [List.getElem?_toArray, List.getElem?_cons_zero, List.getElem?_cons_succ] at xc18; clear ho3 hb)
  | ((with_reducible refine gate_builtin (b := .append) (xs := #[.tmp 14, .tmp 16]) rfl ?_); at_builtin; refine Kd.R_append_rows k52 (w0 := w) w.heap.size rfl (.tmp 14) (.tmp 16) 35 52 (.agg #[(.int .i64 0), (.bool false)]) 16 rfl Try.underlying35 info52 rfl (by decide) (by omega) vv ([] : List (S52)) l0_18 _ _ _ (fun _ => True) (fun _ => False) rfl rfl ?aO ?aR (fun _ _ h => h) (fun _ h => h.elim) ?aF ?aB ?aS ?aL ?_; (case aR => exact (Kd.C_below HR18.out HS.out.hB)); (case aB => exact HS.out.hB); (case aF => exact (fun _ _ => trivial)); (case aO => exact HV.out); (case aS => exact HS.out.hB.size); (case aL => have hD := HD.out; have := hD.2.2.2; simp only [List.length_nil]; omega); intro v478 w5 ho hb hg hat; rw [List.nil_append] at ho; replace HU2 := Aside0.mk (Kd.R_over' HU2.out (Kd.R_typed HV.out) (by decide) hg); replace HU7 := Aside0.mk (Kd.R_over' HU7.out (Kd.R_typed HV.out) (by decide) hg); replace HU15 := Aside0.mk (Kd.R_over' HU15.out (Kd.R_typed HV.out) (by decide) hg); replace HS := Aside0.mk (HS.out.grown hg HV.out (by decide) hb); obtain ⟨A18, c18, rfl⟩ := Kd.R_slice ho; have HU18 := Aside0.mk ho; clear HV ho hb hg hat xc18; have xc18 := blk_cell HS.out.hX 18; simp only [List.getElem?_toArray, List.getElem?_cons_zero, List.getElem?_cons_succ] at xc18; have xf18 := blk_frozen HS.out.hX 18))
 replace HU2 := Aside0.mk (Kd.R_mono (Kd.R_set HU2.out HS.out.hX (by decide) 18 (.slice A18 l0_18.length c18)) (ok' := fun _ => True) (fun _ _ => trivial))
 replace HU7 := Aside0.mk (Kd.R_mono (Kd.R_set HU7.out HS.out.hX (by decide) 18 (.slice A18 l0_18.length c18)) (ok' := fun _ => True) (fun _ _ => trivial))
 replace HU15 := Aside0.mk (Kd.R_mono (Kd.R_set HU15.out HS.out.hX (by decide) 18 (.slice A18 l0_18.length c18)) (ok' := fun _ => True) (fun _ _ => trivial))
 replace HU18 := Aside0.mk (Kd.R_mono (Kd.R_set HU18.out HS.out.hX (by decide) 18 (.slice A18 l0_18.length c18)) (ok' := fun _ => True) (fun _ _ => trivial))
 replace HS : Aside0 (OwS w _ #[.int .i64 a0_0, .int .i64 a0_1, .slice A2 l0_2.length c2, .int .i64 a0_3, .int .i64 a0_4, .int .i64 a0_5, .int .i64 a0_6, .slice A7 l0_7.length c7, .int .i64 a0_8, .int .i64 a0_9, .bool a0_10, .int .i64 a0_11, .int .i64 a0_12, .bool a0_13, .int .i64 a0_14, .slice A15 l0_15.length c15, .int .i64 a0_16, .int .i64 a0_17, .slice A18 l0_18.length c18]) := Aside0.mk (HS.out.put 18 (.slice A18 l0_18.length c18) rfl)
 generalize w5.setCell _ _ = W3 at HS HU2 HU7 HU15 HU18 ⊢
 clear HR18 HC18 xc18 xf18
 obtain ⟨cs, hcs⟩ : ∃ cs : Array Value, cs = #[.int .i64 a0_0, .int .i64 a0_1, .slice A2 l0_2.length c2, .int .i64 a0_3, .int .i64 a0_4, .int .i64 a0_5, .int .i64 a0_6, .slice A7 l0_7.length c7, .int .i64 a0_8, .int .i64 a0_9, .bool a0_10, .int .i64 a0_11, .int .i64 a0_12, .bool a0_13, .int .i64 a0_14, .slice A15 l0_15.length c15, .int .i64 a0_16, .int .i64 a0_17, .slice A18 l0_18.length c18] := ⟨_, rfl⟩
 rw [← hcs] at HS
 have hsz : cs.size = 19 := by rw [hcs]; rfl
 have hinfo : (Try.prog.info? 37).map (·.size) = some cs.size := by rw [hsz]; kernel_rfl
 have h1c : ∀ v ∈ cs.toList, v.oneCell' = true := by rw [hcs]; intro v hv; simp only [List.mem_cons, List.not_mem_nil, or_false] at hv; rcases hv with rfl | rfl | rfl | rfl | rfl | rfl | rfl | rfl | rfl | rfl | rfl | rfl | rfl | rfl | rfl | rfl | rfl | rfl | rfl <;> rfl
 have cp := cp_row (P := Try.prog) HS.out.hY (by rw [hsz]; rfl) h1c
 have hst := cp.1
 have HCP := Aside0.mk cp.2.1
 have HI := Aside0.mk hinfo
 have HCS := Aside0.mk hcs
 clear cp hinfo hcs h1c
 go_wp2_with ((with_reducible refine gate_dst (N := 19) rfl ?_); refine wpList_load_row rfl 37 (.tmp 1) rfl w.heap.size rfl 37 cs (0, 0) _ HS.out.hX hu1 rfl HI.out ?_)
 have hB := Aside0.mk (below_cells (g := w.heap.size + 1) (vs := cs.toList) HS.out.hB (by omega))
 have V2 := Aside0.mk (Kd.R_cells (vs := cs.toList) HU2.out HS.out.hY (by decide))
 have V7 := Aside0.mk (Kd.R_cells (vs := cs.toList) HU7.out HS.out.hY (by decide))
 have V15 := Aside0.mk (Kd.R_cells (vs := cs.toList) HU15.out HS.out.hY (by decide))
 have V18 := Aside0.mk (Kd.R_cells (vs := cs.toList) HU18.out HS.out.hY (by decide))
 generalize W3.setCells _ _ _ = W5 at HCP hB V2 V7 V15 V18 ⊢
 refine bodyPost_ret (results_cell_row rfl _ _ (w.heap.size + 1) 37 cs (0, 0) _ rfl HCP.out hu1 rfl HI.out) rfl ?_
 exact ⟨_, _, _, _, by rw [HCS.out], V2.out, V7.out, V15.out, V18.out, hB.out⟩
end Go.Proofs.Ytefgoffaidjiaaa.PAll
namespace Go.Proofs.Ytefgoffaidjiaaa.PAll
open Go.RowKit Go.Proofs.YtefgoffaidjiaaaW.PrintWords Go.Proofs.YtefgoffaidjiaaaW.PrintLast Go.Proofs.YtefgoffaidjiaaaW.PrintMore
set_option linter.unusedVariables false
set_option linter.unusedSimpArgs false
/-- Three blocks that a function reads. -/
structure Three (w W : World) (a b c : Array Value) (t u v : Nat) : Prop where
  hA : W.heap[w.heap.size]? = some (.cells a t (0, 0))
  hB : W.heap[w.heap.size + 1]? = some (.cells b u (0, 0))
  hC : W.heap[w.heap.size + 1 + 1]? = some (.cells c v (0, 0))
  hW : Below w.heap.size w W
theorem Three.below {w W W' : World} {a b c : Array Value} {t u v : Nat} (h : Three w W a b c t u v) (hb : Below W.heap.size W W') : Three w W' a b c t u v := ⟨blk_below h.hA hb, blk_below h.hB hb, blk_below h.hC hb, below_step h.hW hb⟩
theorem eqAt_refl {α : Type} (e : α → α → Bool) (h : ∀ a, e a a = true) (l : List α) : eqAt e l l 0 = true := by
  unfold eqAt
  induction l with
  | nil => rfl
  | cons a l ih => rw [show (a :: l).drop (0 : Int).toNat = a :: l from rfl]; unfold eqL; rw [h a, Bool.true_and]; exact ih
theorem eqS56_refl (a : S56) : eqS56 a a = true := by simp [eqS56]
theorem eqS58_refl (a : S58) : eqS58 a a = true := by simp [eqS58]
theorem eqS52_refl (a : S52) : eqS52 a a = true := by simp [eqS52]
theorem same_refl {x : S37} (P : SimP x) : governorref18_Same.f x.f0.f0 x.f0.f1 x.f0.f2 x.f0.f3 x.f0.f4 x.f0.f5 x.f0.f6 x.f0.f7 x.f1.f0 x.f1.f1 x.f1.f2 x.f2.f0 x.f2.f1 x.f2.f2 x.f3.f0 x.f3.f1 x.f3.f2 x.f3.f3 x.f4 x.f0.f0 x.f0.f1 x.f0.f2 x.f0.f3 x.f0.f4 x.f0.f5 x.f0.f6 x.f0.f7 x.f1.f0 x.f1.f1 x.f1.f2 x.f2.f0 x.f2.f1 x.f2.f2 x.f3.f0 x.f3.f1 x.f3.f2 x.f3.f3 x.f4 = some true := by
  have h1 := P.pol.b8; have h2 := P.pol.s8; have h3 := P.pl.len; have h4 := P.ml
  unfold governorref18_Same.f governorref18_Same.b governorref09_SamePolicy.b governorref16_Same.b governorref17_Same.b
  rw [if_pos ⟨by omega, by omega, by omega, by omega⟩, eqAt_refl _ eqS56_refl, eqAt_refl _ eqS58_refl, eqAt_refl _ eqS52_refl, eqAt_refl eqInt (fun a => by simp [eqInt])]
  simp
/-- The configuration's block, and the sims'. -/
structure Ctx (w W : World) (cc : Array Value) (L : List (Nat × S37 × Array Value)) : Prop where
  hC : W.heap[w.heap.size]? = some (.cells cc 23 (0, 0))
  hS : Hs w W L
theorem Ctx.below {w W W' : World} {cc : Array Value} {L : List (Nat × S37 × Array Value)} (h : Ctx w W cc L) (hb : Below W.heap.size W W') : Ctx w W' cc L := ⟨blk_below h.hC hb, h.hS.below hb⟩
theorem ctx_mk (w : World) (cc cs : Array Value) (x : S37) (hx : k37.K w x cs.toList) : Ctx w ((w.alloc (.cells cc 23)).alloc (.cells cs 37)) cc [(w.heap.size + 1, x, cs)] := by
  have y := blk_new (w.alloc (.cells cc 23)) (.cells cs 37)
  rw [World.size_alloc] at y
  have hb : Below w.heap.size w ((w.alloc (.cells cc 23)).alloc (.cells cs 37)) := below_alloc (below_alloc (Below.refl _ _) _) _
  refine ⟨blk_alloc (blk_new w _) _, hb, fun t ht => ?_⟩
  rw [List.mem_singleton.1 ht]
  exact ⟨y, k37.K_below hb hx⟩
theorem Ctx.heap {w W : World} {cc : Array Value} {L : List (Nat × S37 × Array Value)} (h : Ctx w W cc L) {g : Nat} {x : S37} {cs : Array Value} (ht : (g, x, cs) ∈ L) : W.heap[g]? = some (.cells cs 37 (0, 0)) := (h.hS.2 _ ht).1
theorem Ctx.K {w W : World} {cc : Array Value} {L : List (Nat × S37 × Array Value)} (h : Ctx w W cc L) {g : Nat} {x : S37} {cs : Array Value} (ht : (g, x, cs) ∈ L) : k37.K W x cs.toList := (h.hS.2 _ ht).2
theorem conf_w (c : S23) (w : World) : Calls Try.prog 10 #[.agg #[.int .i64 c.f0, .int .i64 c.f1, .int .i64 c.f2, .int .i64 c.f3, .int .i64 c.f4, .int .i64 c.f5, .int .i64 c.f6, .int .i64 c.f7, .int .i64 c.f8, .int .i64 c.f9, .int .i64 c.f10, .int .i64 c.f11]] w fun e w' => e = .returned (.bool (confB c)) ∧ Below w.heap.size w w' := governorref09_Conf.calls _ _ _ _ _ _ _ _ _ _ _ _ _ w rfl
theorem wrN {n : Int} (h0 : -9223372036854775808 ≤ n) (h1 : n ≤ 9223372036854775807) : wrap64 n = n := wr h0 h1
end Go.Proofs.Ytefgoffaidjiaaa.PAll
namespace Go.Proofs.Ytefgoffaidjiaaa.PAll
open Go.RowKit Go.Proofs.YtefgoffaidjiaaaW.PrintWords Go.Proofs.YtefgoffaidjiaaaW.PrintLast Go.Proofs.YtefgoffaidjiaaaW.PrintMore
attribute [local go_sem] max2_int min2_int max_two min_two max_three min_three max_four min_four   -- for this text's walks alone
set_option linter.unusedVariables false
set_option linter.unusedSimpArgs false
/-! ### governorref14_Zero: function 31 -/
def governorref14_Zero.f (a0_0 : Int) (a0_1 : Int) (l0_2 : List (S56)) (a0_3 : Int) (a0_4 : Int) (a0_5 : Int) (a0_6 : Int) (l0_7 : List (S58)) : Option (Bool) := some (a0_0 == 0)
set_option maxHeartbeats 8000000 in
set_option maxRecDepth 100000 in
theorem governorref14_Zero.calls (a0_0 : Int) (a0_1 : Int) (A0_2 : Option Addr) (c0_2 : Nat) (l0_2 : List (S56)) (a0_3 : Int) (a0_4 : Int) (a0_5 : Int) (a0_6 : Int) (A0_7 : Option Addr) (c0_7 : Nat) (l0_7 : List (S58)) (r : Bool) (w : World) (hr0_2 : Kd.C k56 w A0_2 l0_2.length l0_2) (hc0_2 : l0_2.length ≤ c0_2) (hr0_7 : Kd.C k58 w A0_7 l0_7.length l0_7) (hc0_7 : l0_7.length ≤ c0_7) (h : governorref14_Zero.f a0_0 a0_1 l0_2 a0_3 a0_4 a0_5 a0_6 l0_7 = some r) :
  Calls Try.prog 31 #[.agg #[.int .i64 a0_0, .int .i64 a0_1, .slice A0_2 l0_2.length c0_2, .int .i64 a0_3, .int .i64 a0_4, .int .i64 a0_5, .int .i64 a0_6, .slice A0_7 l0_7.length c0_7]] w fun e w' => e = .returned (.bool r) ∧ Below w.heap.size w w' := by
 have hu27 := Try.underlying27
 have HR0_2 := Aside0.mk hr0_2
 have HC0_2 := Aside0.mk hc0_2
 clear hr0_2 hc0_2
 have HR0_7 := Aside0.mk hr0_7
 have HC0_7 := Aside0.mk hc0_7
 clear hr0_7 hc0_7
 have HB := Aside0.mk (Below.refl w.heap.size w)
 have H : (some (a0_0 == 0)) = some r := h
 clear h
 obtain rfl := Option.some.inj H
 go_enter Try.func31, Try.ntmps31
 go_wp2_with (first | ((with_reducible refine gate_dst (N := 1) rfl ?_); refine box_event ?hg (N := 1) ?hd (cs := #[.int .i64 a0_0, .int .i64 a0_1, .slice A0_2 l0_2.length c0_2, .int .i64 a0_3, .int .i64 a0_4, .int .i64 a0_5, .int .i64 a0_6, .slice A0_7 l0_7.length c0_7]) (t := 27) ?hr ?_; (case hd => rfl); (case hg => rfl); (case hr => first | (go_simp; done) | (go_simp; rfl)); intro gb183 hg w2 hbox hb; have n0_ := Aside0.mk (below_step (by repeat (first | (with_reducible first | exact HB.out | apply below_alloc | apply pw_below_drewN | apply below_drew1) | exact HB.out)) hb); have n1_ := Aside0.mk (hbox); have n2_ := Aside0.mk ((by rw [hg]; exact (below_size (by repeat (first | (with_reducible first | exact HB.out | apply below_alloc | apply pw_below_drewN | apply below_drew1) | exact HB.out))) : w.heap.size ≤ gb183)); have n3_ := Aside0.mk ((by rw [hg]; exact (below_size (by repeat (first | (with_reducible first | exact HB.out | apply below_alloc | apply pw_below_drewN | apply below_drew1) | exact HB.out))) : w.heap.size ≤ gb183)); clear HB; have HB := n0_; have BK183 := n1_; have GW183 := n2_; have GE183 := n3_; clear n0_ n1_ n2_ n3_; clear hb hbox hg; have hcz3_0 : w2.cell? ⟨gb183, 0, none⟩ = some (.int .i64 a0_0) := (blk_cell BK183.out 0).trans rfl; have hcz3_1 : w2.cell? ⟨gb183, 1, none⟩ = some (.int .i64 a0_1) := (blk_cell BK183.out 1).trans rfl; have hcz3_2 : w2.cell? ⟨gb183, 2, none⟩ = some (.slice A0_2 l0_2.length c0_2) := (blk_cell BK183.out 2).trans rfl; have hcz3_3 : w2.cell? ⟨gb183, 3, none⟩ = some (.int .i64 a0_3) := (blk_cell BK183.out 3).trans rfl; have hcz3_4 : w2.cell? ⟨gb183, 4, none⟩ = some (.int .i64 a0_4) := (blk_cell BK183.out 4).trans rfl; have hcz3_5 : w2.cell? ⟨gb183, 5, none⟩ = some (.int .i64 a0_5) := (blk_cell BK183.out 5).trans rfl; have hcz3_6 : w2.cell? ⟨gb183, 6, none⟩ = some (.int .i64 a0_6) := (blk_cell BK183.out 6).trans rfl; have hcz3_7 : w2.cell? ⟨gb183, 7, none⟩ = some (.slice A0_7 l0_7.length c0_7) := (blk_cell BK183.out 7).trans rfl; have hfz3_0 := blk_frozen BK183.out 0; have hfz3_1 := blk_frozen BK183.out 1; have hfz3_2 := blk_frozen BK183.out 2; have hfz3_3 := blk_frozen BK183.out 3; have hfz3_4 := blk_frozen BK183.out 4; have hfz3_5 := blk_frozen BK183.out 5; have hfz3_6 := blk_frozen BK183.out 6; have hfz3_7 := blk_frozen BK183.out 7))
 go_ret
 exact ⟨by first | rfl | (simp [errW_none, errW_some] <;> rfl) | (simp [*, errW_none, errW_some] <;> rfl), by repeat (first | (with_reducible first | exact HB.out | apply below_alloc | apply pw_below_drewN | apply below_drew1 | refine below_set ?_ GE183.out) | exact HB.out)⟩
/-! ### governorref08_Sat: function 75 -/
def governorref08_Sat.f (a0 : Int) : Option (Int) := if a0 > 1000000000 then (some 1000000000) else (if a0 < (-1000000000) then (some (-1000000000)) else (some a0))
set_option maxHeartbeats 8000000 in
set_option maxRecDepth 100000 in
theorem governorref08_Sat.calls (a0 : Int) (r : Int) (w : World) (h : governorref08_Sat.f a0 = some r) :
  Calls Try.prog 75 #[.int .i64 a0] w fun e w' => e = .returned (.int .i64 r) ∧ Drawn0 w w' := by
 have H : (if a0 > 1000000000 then (some 1000000000) else (if a0 < (-1000000000) then (some (-1000000000)) else (some a0))) = some r := h
 clear h
 by_cases c2 : a0 > 1000000000
 ·rw [if_pos c2] at H
  have c2b0 : decide (1000000000 < a0) = true := decide_eq_true c2
  clear c2
  obtain rfl := Option.some.inj H
  go_enter Try.func75, Try.ntmps75
  go_wp2
  go_ret
  exact ⟨by first | rfl | (simp; done) | (simp [*]; done), by repeat (first | exact Drawn0.refl _ | apply Drawn0.step)⟩
 ·rw [if_neg c2] at H
  have c2b0 : decide (1000000000 < a0) = false := decide_eq_false c2
  clear c2
  by_cases c3 : a0 < (-1000000000)
  ·rw [if_pos c3] at H
   have c3b0 : decide (a0 < (-1000000000)) = true := decide_eq_true c3
   clear c3
   obtain rfl := Option.some.inj H
   go_enter Try.func75, Try.ntmps75
   go_wp2
   go_ret
   exact ⟨by first | rfl | (simp; done) | (simp [*]; done), by repeat (first | exact Drawn0.refl _ | apply Drawn0.step)⟩
  ·rw [if_neg c3] at H
   have c3b0 : decide (a0 < (-1000000000)) = false := decide_eq_false c3
   clear c3
   obtain rfl := Option.some.inj H
   go_enter Try.func75, Try.ntmps75
   go_wp2
   go_ret
   exact ⟨by first | rfl | (simp; done) | (simp [*]; done), by repeat (first | exact Drawn0.refl _ | apply Drawn0.step)⟩

/-! ### governorref08_Div: function 59 -/
mutual
def governorref08_Div.j0 : Nat → Int → Int → Bool → Option (Int)
 | 0, _, _, _ => none
 | k + 1, x5, x6, x16 => if x16 = true then (some 1000000000) else (if x6 = 0 then (governorref08_Div.j1 k x5 x6 (decide (x5 < 0))) else (governorref08_Div.j1 k x5 x6 false))
def governorref08_Div.j1 : Nat → Int → Int → Bool → Option (Int)
 | 0, _, _, _ => none
 | k + 1, x5, x6, x22 => if x22 = true then (some (-1000000000)) else (if x6 = 0 then (some 0) else ((governorref08_Sat.f (wrap64 (Int.tdiv (wrap64 (1000 * x5)) x6))).bind fun t189 => (some t189)))
end
def governorref08_Div.f (k : Nat) (a0 : Int) (a1 : Int) : Option (Int) := (governorref08_Sat.f a0).bind fun t187 => ((governorref08_Sat.f a1).bind fun t188 => (if t188 = 0 then (governorref08_Div.j0 k t187 t188 (decide (t187 > 0))) else (governorref08_Div.j0 k t187 t188 false)))
set_option maxHeartbeats 8000000 in
set_option maxRecDepth 100000 in
theorem governorref08_Div.calls (k : Nat) (a0 : Int) (a1 : Int) (r : Int) (w : World) (h : governorref08_Div.f k a0 a1 = some r) :
  Calls Try.prog 59 #[.int .i64 a0, .int .i64 a1] w fun e w' => e = .returned (.int .i64 r) ∧ Drawn0 w w' := by
 have H : ((governorref08_Sat.f a0).bind fun t187 => ((governorref08_Sat.f a1).bind fun t188 => (if t188 = 0 then (governorref08_Div.j0 k t187 t188 (decide (t187 > 0))) else (governorref08_Div.j0 k t187 t188 false)))) = some r := h
 clear h
 replace H := Option.bind_eq_some_iff.mp H
 obtain ⟨t187, A30, H⟩ := H
 replace H : ((governorref08_Sat.f a1).bind fun t188 => (if t188 = 0 then (governorref08_Div.j0 k t187 t188 (decide (t187 > 0))) else (governorref08_Div.j0 k t187 t188 false))) = some r := H
 have A3 := Aside0.mk A30
 clear A30
 replace H := Option.bind_eq_some_iff.mp H
 obtain ⟨t188, A40, H⟩ := H
 replace H : (if t188 = 0 then (governorref08_Div.j0 k t187 t188 (decide (t187 > 0))) else (governorref08_Div.j0 k t187 t188 false)) = some r := H
 have A4 := Aside0.mk A40
 clear A40
 have HC5 := Aside0.mk H
 clear H
 go_enter Try.func59, Try.ntmps59
 go_upto_region 3 with (first | ((with_reducible refine gate_callee (f := 75) rfl ?_); refine goesL_ (some 8) rfl rfl Try.func75 (by kernel_rfl) rfl #[.int .i64 a0] rfl (by (try simp only [List.map_toArray, List.map_cons, List.map_nil]); first | done | rfl | (simp only [List.length_drop, List.length_take]; rfl)) ?_; (with_reducible refine (governorref08_Sat.calls a0 t187 _ A3.out).mono ?_); rintro e w' ⟨rfl, ⟨nd, rfl⟩⟩; refine ⟨_, rfl, ?_⟩) | ((with_reducible refine gate_callee (f := 75) rfl ?_); refine goesL_ (some 10) rfl rfl Try.func75 (by kernel_rfl) rfl #[.int .i64 a1] rfl (by (try simp only [List.map_toArray, List.map_cons, List.map_nil]); first | done | rfl | (simp only [List.length_drop, List.length_take]; rfl)) ?_; (with_reducible refine (governorref08_Sat.calls a1 t188 _ A4.out).mono ?_); rintro e w' ⟨rfl, ⟨nd, rfl⟩⟩; refine ⟨_, rfl, ?_⟩))
 (try simp only [Act.put, List.setIfInBounds_toArray, List.set_cons_zero, List.set_cons_succ])
 go_cut [16] (fun v16 wc => ∃ (kq : Nat) (x16_4 : Bool), v16 = .bool x16_4 ∧ Aside0 (governorref08_Div.j0 kq t187 t188 x16_4 = some r) ∧ Aside0 (kq ≤ k) ∧ Drawn0 w wc)
 case first =>
  have H := HC5.out
  clear HC5
  by_cases c6 : t188 = 0
  ·rw [if_pos c6] at H
   have c6b0 : (t188 == 0) = true := beq_iff_eq.mpr c6
   have c6b1 : (t188 != 0) = false := bne_eq_false_iff_eq.mpr c6
   clear c6
   (first | rw [c6b0] | rw [c6b1] | (simp only [i64_w, i32_w]; rw [c6b0]) | skip)
   have H' := Aside0.mk H
   clear H
   go_wp2
   go_meet
   case rel => exact ⟨_, (decide (t187 > 0)), (by first | rfl | (simp; done) | (simp [*]; done)), H', ⟨by first | omega | exact Nat.le_refl _⟩, by repeat (first | exact Drawn0.refl _ | apply Drawn0.step)⟩
  ·rw [if_neg c6] at H
   have c6b0 : (t188 == 0) = false := beq_eq_false_iff_ne.mpr c6
   have c6b1 : (t188 != 0) = true := bne_iff_ne.mpr c6
   (first | rw [c6b0] | rw [c6b1] | (simp only [i64_w, i32_w]; rw [c6b0]) | skip)
   have H' := Aside0.mk H
   clear H
   go_wp2
   go_meet
   case rel => exact ⟨_, (false), (by first | rfl | (simp; done) | (simp [*]; done)), H', ⟨by first | omega | exact Nat.le_refl _⟩, by repeat (first | exact Drawn0.refl _ | apply Drawn0.step)⟩
 case rest =>
  clear HC5
  try clear p2
  try clear c5
  try clear c6
  try clear c6b0
  try clear c6b1
  obtain ⟨kq, x16_4, rfl, HA, HJ4, ⟨mc4, rfl⟩⟩ := hcut
  cases kq with
  | zero => exact absurd HA.out (by simp [governorref08_Div.j0])
  | succ kj4 =>
   have H := HA.out
   clear HA
   simp only [governorref08_Div.j0] at H
   by_cases c7 : x16_4 = true
   ·subst c7
    have H1 : (some 1000000000) = some r := by rw [if_pos rfl] at H; exact H
    clear H
    have H := H1
    clear H1
    obtain rfl := Option.some.inj H
    go_wp2
    go_ret
    exact ⟨by first | rfl | (simp; done) | (simp [*]; done), by repeat (first | exact Drawn0.refl _ | apply Drawn0.step)⟩
   ·replace c7 := Bool.eq_false_iff.mpr c7
    subst c7
    have H1 : (if t188 = 0 then (governorref08_Div.j1 kj4 t187 t188 (decide (t187 < 0))) else (governorref08_Div.j1 kj4 t187 t188 false)) = some r := by rw [if_neg (show ¬ (false = true) by decide)] at H; exact H
    clear H
    have H := H1
    clear H1
    have HC8 := Aside0.mk H
    clear H
    go_upto_region 5 with (fail)
    go_cut [22] (fun v22 wc => ∃ (kq : Nat) (x22_7 : Bool), v22 = .bool x22_7 ∧ Aside0 (governorref08_Div.j1 kq t187 t188 x22_7 = some r) ∧ Aside0 (kq ≤ kj4) ∧ Drawn0 w wc)
    case first =>
     have H := HC8.out
     clear HC8
     by_cases c9 : t188 = 0
     ·rw [if_pos c9] at H
      have c9b0 : (t188 == 0) = true := beq_iff_eq.mpr c9
      have c9b1 : (t188 != 0) = false := bne_eq_false_iff_eq.mpr c9
      clear c9
      (first | rw [c9b0] | rw [c9b1] | (simp only [i64_w, i32_w]; rw [c9b0]) | skip)
      have H' := Aside0.mk H
      clear H
      go_wp2
      go_meet
      case rel => exact ⟨_, (decide (t187 < 0)), (by first | rfl | (simp; done) | (simp [*]; done)), H', ⟨by have := HJ4.out; first | omega | exact Nat.le_refl _⟩, by repeat (first | exact Drawn0.refl _ | apply Drawn0.step)⟩
     ·rw [if_neg c9] at H
      have c9b0 : (t188 == 0) = false := beq_eq_false_iff_ne.mpr c9
      have c9b1 : (t188 != 0) = true := bne_iff_ne.mpr c9
      (first | rw [c9b0] | rw [c9b1] | (simp only [i64_w, i32_w]; rw [c9b0]) | skip)
      have H' := Aside0.mk H
      clear H
      go_wp2
      go_meet
      case rel => exact ⟨_, (false), (by first | rfl | (simp; done) | (simp [*]; done)), H', ⟨by have := HJ4.out; first | omega | exact Nat.le_refl _⟩, by repeat (first | exact Drawn0.refl _ | apply Drawn0.step)⟩
    case rest =>
     clear HC8
     try clear p2
     try clear c4
     try clear c5
     try clear c6
     try clear c6b0
     try clear c6b1
     try clear c7
     try clear c9
     try clear c9b0
     try clear c9b1
     try clear p2
     obtain ⟨kq, x22_7, rfl, HA, HJ7, ⟨mc7, rfl⟩⟩ := hcut
     cases kq with
     | zero => exact absurd HA.out (by simp [governorref08_Div.j1])
     | succ kj7 =>
      have H := HA.out
      clear HA
      simp only [governorref08_Div.j1] at H
      by_cases c10 : x22_7 = true
      ·subst c10
       have H1 : (some (-1000000000)) = some r := by rw [if_pos rfl] at H; exact H
       clear H
       have H := H1
       clear H1
       obtain rfl := Option.some.inj H
       go_wp2
       go_ret
       exact ⟨by first | rfl | (simp; done) | (simp [*]; done), by repeat (first | exact Drawn0.refl _ | apply Drawn0.step)⟩
      ·replace c10 := Bool.eq_false_iff.mpr c10
       subst c10
       have H1 : (if t188 = 0 then (some 0) else ((governorref08_Sat.f (wrap64 (Int.tdiv (wrap64 (1000 * t187)) t188))).bind fun t189 => (some t189))) = some r := by rw [if_neg (show ¬ (false = true) by decide)] at H; exact H
       clear H
       have H := H1
       clear H1
       by_cases c11 : t188 = 0
       ·rw [if_pos c11] at H
        have c11b0 : (t188 == 0) = true := beq_iff_eq.mpr c11
        have c11b1 : (t188 != 0) = false := bne_eq_false_iff_eq.mpr c11
        clear c11
        obtain rfl := Option.some.inj H
        go_wp2
        go_ret
        exact ⟨by first | rfl | (simp; done) | (simp [*]; done), by repeat (first | exact Drawn0.refl _ | apply Drawn0.step)⟩
       ·rw [if_neg c11] at H
        have c11b0 : (t188 == 0) = false := beq_eq_false_iff_ne.mpr c11
        have c11b1 : (t188 != 0) = true := bne_iff_ne.mpr c11
        replace H := Option.bind_eq_some_iff.mp H
        obtain ⟨t189, A120, H⟩ := H
        replace H : (some t189) = some r := H
        have A12 := Aside0.mk A120
        clear A120
        obtain rfl := Option.some.inj H
        go_wp2_with (first | ((with_reducible refine gate_callee (f := 75) rfl ?_); refine goesL_ (some 29) rfl rfl Try.func75 (by kernel_rfl) rfl #[.int .i64 (wrap64 (Int.tdiv (wrap64 (1000 * t187)) t188))] rfl (by (try simp only [List.map_toArray, List.map_cons, List.map_nil]); first | done | rfl | (simp only [List.length_drop, List.length_take]; rfl)) ?_; (with_reducible refine (governorref08_Sat.calls (wrap64 (Int.tdiv (wrap64 (1000 * t187)) t188)) t189 _ A12.out).mono ?_); rintro e w' ⟨rfl, ⟨nd, rfl⟩⟩; refine ⟨_, rfl, ?_⟩))
        go_ret
        exact ⟨by first | rfl | (simp; done) | (simp [*]; done), by repeat (first | exact Drawn0.refl _ | apply Drawn0.step)⟩

/-! ### governorref08_Up: function 69 -/
def governorref08_Up.f (a0 : Int) : Option (Int) := (governorref08_Sat.f a0).bind fun t190 => (if (wrap64 ((wrap64 (Int.tdiv t190 1000)) * 1000)) < t190 then (some (wrap64 ((wrap64 (Int.tdiv t190 1000)) + 1))) else (some (wrap64 (Int.tdiv t190 1000))))
set_option maxHeartbeats 8000000 in
set_option maxRecDepth 100000 in
theorem governorref08_Up.calls (a0 : Int) (r : Int) (w : World) (h : governorref08_Up.f a0 = some r) :
  Calls Try.prog 69 #[.int .i64 a0] w fun e w' => e = .returned (.int .i64 r) ∧ Drawn0 w w' := by
 have H : ((governorref08_Sat.f a0).bind fun t190 => (if (wrap64 ((wrap64 (Int.tdiv t190 1000)) * 1000)) < t190 then (some (wrap64 ((wrap64 (Int.tdiv t190 1000)) + 1))) else (some (wrap64 (Int.tdiv t190 1000))))) = some r := h
 clear h
 replace H := Option.bind_eq_some_iff.mp H
 obtain ⟨t190, A20, H⟩ := H
 replace H : (if (wrap64 ((wrap64 (Int.tdiv t190 1000)) * 1000)) < t190 then (some (wrap64 ((wrap64 (Int.tdiv t190 1000)) + 1))) else (some (wrap64 (Int.tdiv t190 1000)))) = some r := H
 have A2 := Aside0.mk A20
 clear A20
 by_cases c3 : (wrap64 ((wrap64 (Int.tdiv t190 1000)) * 1000)) < t190
 ·rw [if_pos c3] at H
  have c3b0 : decide ((wrap64 ((wrap64 (Int.tdiv t190 1000)) * 1000)) < t190) = true := decide_eq_true c3
  clear c3
  obtain rfl := Option.some.inj H
  go_enter Try.func69, Try.ntmps69
  go_wp2_with (first | ((with_reducible refine gate_callee (f := 75) rfl ?_); refine goesL_ (some 6) rfl rfl Try.func75 (by kernel_rfl) rfl #[.int .i64 a0] rfl (by (try simp only [List.map_toArray, List.map_cons, List.map_nil]); first | done | rfl | (simp only [List.length_drop, List.length_take]; rfl)) ?_; (with_reducible refine (governorref08_Sat.calls a0 t190 _ A2.out).mono ?_); rintro e w' ⟨rfl, ⟨nd, rfl⟩⟩; refine ⟨_, rfl, ?_⟩))
  go_ret
  exact ⟨by first | rfl | (simp; done) | (simp [*]; done), by repeat (first | exact Drawn0.refl _ | apply Drawn0.step)⟩
 ·rw [if_neg c3] at H
  have c3b0 : decide ((wrap64 ((wrap64 (Int.tdiv t190 1000)) * 1000)) < t190) = false := decide_eq_false c3
  clear c3
  obtain rfl := Option.some.inj H
  go_enter Try.func69, Try.ntmps69
  go_wp2_with (first | ((with_reducible refine gate_callee (f := 75) rfl ?_); refine goesL_ (some 6) rfl rfl Try.func75 (by kernel_rfl) rfl #[.int .i64 a0] rfl (by (try simp only [List.map_toArray, List.map_cons, List.map_nil]); first | done | rfl | (simp only [List.length_drop, List.length_take]; rfl)) ?_; (with_reducible refine (governorref08_Sat.calls a0 t190 _ A2.out).mono ?_); rintro e w' ⟨rfl, ⟨nd, rfl⟩⟩; refine ⟨_, rfl, ?_⟩))
  go_ret
  exact ⟨by first | rfl | (simp; done) | (simp [*]; done), by repeat (first | exact Drawn0.refl _ | apply Drawn0.step)⟩

/-! ### governorref08_Mul: function 70 -/
def governorref08_Mul.f (a0 : Int) (a1 : Int) : Option (Int) := (governorref08_Sat.f a0).bind fun t191 => ((governorref08_Sat.f a1).bind fun t192 => ((governorref08_Sat.f (wrap64 (Int.tdiv (wrap64 (t191 * t192)) 1000))).bind fun t193 => (some t193)))
set_option maxHeartbeats 8000000 in
set_option maxRecDepth 100000 in
theorem governorref08_Mul.calls (a0 : Int) (a1 : Int) (r : Int) (w : World) (h : governorref08_Mul.f a0 a1 = some r) :
  Calls Try.prog 70 #[.int .i64 a0, .int .i64 a1] w fun e w' => e = .returned (.int .i64 r) ∧ Drawn0 w w' := by
 have H : ((governorref08_Sat.f a0).bind fun t191 => ((governorref08_Sat.f a1).bind fun t192 => ((governorref08_Sat.f (wrap64 (Int.tdiv (wrap64 (t191 * t192)) 1000))).bind fun t193 => (some t193)))) = some r := h
 clear h
 replace H := Option.bind_eq_some_iff.mp H
 obtain ⟨t191, A30, H⟩ := H
 replace H : ((governorref08_Sat.f a1).bind fun t192 => ((governorref08_Sat.f (wrap64 (Int.tdiv (wrap64 (t191 * t192)) 1000))).bind fun t193 => (some t193))) = some r := H
 have A3 := Aside0.mk A30
 clear A30
 replace H := Option.bind_eq_some_iff.mp H
 obtain ⟨t192, A40, H⟩ := H
 replace H : ((governorref08_Sat.f (wrap64 (Int.tdiv (wrap64 (t191 * t192)) 1000))).bind fun t193 => (some t193)) = some r := H
 have A4 := Aside0.mk A40
 clear A40
 replace H := Option.bind_eq_some_iff.mp H
 obtain ⟨t193, A50, H⟩ := H
 replace H : (some t193) = some r := H
 have A5 := Aside0.mk A50
 clear A50
 obtain rfl := Option.some.inj H
 go_enter Try.func70, Try.ntmps70
 go_wp2_with (first | ((with_reducible refine gate_callee (f := 75) rfl ?_); refine goesL_ (some 6) rfl rfl Try.func75 (by kernel_rfl) rfl #[.int .i64 a0] rfl (by (try simp only [List.map_toArray, List.map_cons, List.map_nil]); first | done | rfl | (simp only [List.length_drop, List.length_take]; rfl)) ?_; (with_reducible refine (governorref08_Sat.calls a0 t191 _ A3.out).mono ?_); rintro e w' ⟨rfl, ⟨nd, rfl⟩⟩; refine ⟨_, rfl, ?_⟩) | ((with_reducible refine gate_callee (f := 75) rfl ?_); refine goesL_ (some 8) rfl rfl Try.func75 (by kernel_rfl) rfl #[.int .i64 a1] rfl (by (try simp only [List.map_toArray, List.map_cons, List.map_nil]); first | done | rfl | (simp only [List.length_drop, List.length_take]; rfl)) ?_; (with_reducible refine (governorref08_Sat.calls a1 t192 _ A4.out).mono ?_); rintro e w' ⟨rfl, ⟨nd, rfl⟩⟩; refine ⟨_, rfl, ?_⟩) | ((with_reducible refine gate_callee (f := 75) rfl ?_); refine goesL_ (some 11) rfl rfl Try.func75 (by kernel_rfl) rfl #[.int .i64 (wrap64 (Int.tdiv (wrap64 (t191 * t192)) 1000))] rfl (by (try simp only [List.map_toArray, List.map_cons, List.map_nil]); first | done | rfl | (simp only [List.length_drop, List.length_take]; rfl)) ?_; (with_reducible refine (governorref08_Sat.calls (wrap64 (Int.tdiv (wrap64 (t191 * t192)) 1000)) t193 _ A5.out).mono ?_); rintro e w' ⟨rfl, ⟨nd, rfl⟩⟩; refine ⟨_, rfl, ?_⟩))
 go_ret
 exact ⟨by first | rfl | (simp; done) | (simp [*]; done), by repeat (first | exact Drawn0.refl _ | apply Drawn0.step)⟩
/-! ### governorref10_Want: function 53 -/
def governorref10_Want.f (k : Nat) (a0 : Int) (a1 : Int) (a2 : Int) : Option (Int) := (governorref08_Mul.f (1000 * (mn (mx a1 0) 1000)) (mn (mx a2 0) 1000000000)).bind fun t194 => ((governorref08_Div.f k t194 (mn (mx a0 1) 1000000000)).bind fun t195 => ((governorref08_Up.f t195).bind fun t196 => (some (mn (mx t196 0) 1000))))
set_option maxHeartbeats 8000000 in
set_option maxRecDepth 100000 in
theorem governorref10_Want.calls (k : Nat) (a0 : Int) (a1 : Int) (a2 : Int) (r : Int) (w : World) (h : governorref10_Want.f k a0 a1 a2 = some r) :
  Calls Try.prog 53 #[.int .i64 a0, .int .i64 a1, .int .i64 a2] w fun e w' => e = .returned (.int .i64 r) ∧ Below w.heap.size w w' := by
 have HB := Aside0.mk (Below.refl w.heap.size w)
 have H : ((governorref08_Mul.f (1000 * (mn (mx a1 0) 1000)) (mn (mx a2 0) 1000000000)).bind fun t194 => ((governorref08_Div.f k t194 (mn (mx a0 1) 1000000000)).bind fun t195 => ((governorref08_Up.f t195).bind fun t196 => (some (mn (mx t196 0) 1000))))) = some r := h
 clear h
 obtain ⟨ji4, hji4⟩ : ∃ j_ : Int, (mx a1 0) = j_ := ⟨_, rfl⟩
 replace H : ((governorref08_Mul.f (1000 * (mn (ji4) 1000)) (mn (mx a2 0) 1000000000)).bind fun t194 => ((governorref08_Div.f k t194 (mn (mx a0 1) 1000000000)).bind fun t195 => ((governorref08_Up.f t195).bind fun t196 => (some (mn (mx t196 0) 1000))))) = some r := by first | (rw [hji4] at H; exact H) | (simp only [hji4] at H ⊢; exact H)
 (try (have hji4l : 0 ≤ ji4 := by (rw [← hji4]; unfold mx; (repeat' split) <;> omega)))
 (try (have hji4m : 0 ≤ ji4 := by omega))
 have hji4_ : (if a1 < 0 then 0 else a1) = ji4 := hji4
 obtain ⟨ji5, hji5⟩ : ∃ j_ : Int, (mn (ji4) 1000) = j_ := ⟨_, rfl⟩
 replace H : ((governorref08_Mul.f (1000 * (ji5)) (mn (mx a2 0) 1000000000)).bind fun t194 => ((governorref08_Div.f k t194 (mn (mx a0 1) 1000000000)).bind fun t195 => ((governorref08_Up.f t195).bind fun t196 => (some (mn (mx t196 0) 1000))))) = some r := by first | (rw [hji5] at H; exact H) | (simp only [hji5] at H ⊢; exact H)
 have hji5_ : (if 1000 < (ji4) then 1000 else (ji4)) = ji5 := hji5
 obtain ⟨ji6, hji6⟩ : ∃ j_ : Int, (mx a2 0) = j_ := ⟨_, rfl⟩
 replace H : ((governorref08_Mul.f (1000 * (ji5)) (mn (ji6) 1000000000)).bind fun t194 => ((governorref08_Div.f k t194 (mn (mx a0 1) 1000000000)).bind fun t195 => ((governorref08_Up.f t195).bind fun t196 => (some (mn (mx t196 0) 1000))))) = some r := by first | (rw [hji6] at H; exact H) | (simp only [hji6] at H ⊢; exact H)
 (try (have hji6l : 0 ≤ ji6 := by (rw [← hji6]; unfold mx; (repeat' split) <;> omega)))
 (try (have hji6m : 0 ≤ ji6 := by omega))
 have hji6_ : (if a2 < 0 then 0 else a2) = ji6 := hji6
 obtain ⟨ji7, hji7⟩ : ∃ j_ : Int, (mn (ji6) 1000000000) = j_ := ⟨_, rfl⟩
 replace H : ((governorref08_Mul.f (1000 * (ji5)) (ji7)).bind fun t194 => ((governorref08_Div.f k t194 (mn (mx a0 1) 1000000000)).bind fun t195 => ((governorref08_Up.f t195).bind fun t196 => (some (mn (mx t196 0) 1000))))) = some r := by first | (rw [hji7] at H; exact H) | (simp only [hji7] at H ⊢; exact H)
 have hji7_ : (if 1000000000 < (ji6) then 1000000000 else (ji6)) = ji7 := hji7
 obtain ⟨ji8, hji8⟩ : ∃ j_ : Int, (mx a0 1) = j_ := ⟨_, rfl⟩
 replace H : ((governorref08_Mul.f (1000 * (ji5)) (ji7)).bind fun t194 => ((governorref08_Div.f k t194 (mn (ji8) 1000000000)).bind fun t195 => ((governorref08_Up.f t195).bind fun t196 => (some (mn (mx t196 0) 1000))))) = some r := by first | (rw [hji8] at H; exact H) | (simp only [hji8] at H ⊢; exact H)
 (try (have hji8l : 1 ≤ ji8 := by (rw [← hji8]; unfold mx; (repeat' split) <;> omega)))
 (try (have hji8m : 0 ≤ ji8 := by omega))
 have hji8_ : (if a0 < 1 then 1 else a0) = ji8 := hji8
 obtain ⟨ji9, hji9⟩ : ∃ j_ : Int, (mn (ji8) 1000000000) = j_ := ⟨_, rfl⟩
 replace H : ((governorref08_Mul.f (1000 * (ji5)) (ji7)).bind fun t194 => ((governorref08_Div.f k t194 (ji9)).bind fun t195 => ((governorref08_Up.f t195).bind fun t196 => (some (mn (mx t196 0) 1000))))) = some r := by first | (rw [hji9] at H; exact H) | (simp only [hji9] at H ⊢; exact H)
 have hji9_ : (if 1000000000 < (ji8) then 1000000000 else (ji8)) = ji9 := hji9
 replace H := Option.bind_eq_some_iff.mp H
 obtain ⟨t194, A100, H⟩ := H
 replace H : ((governorref08_Div.f k t194 (ji9)).bind fun t195 => ((governorref08_Up.f t195).bind fun t196 => (some (mn (mx t196 0) 1000)))) = some r := H
 have A10 := Aside0.mk A100
 clear A100
 replace H := Option.bind_eq_some_iff.mp H
 obtain ⟨t195, A110, H⟩ := H
 replace H : ((governorref08_Up.f t195).bind fun t196 => (some (mn (mx t196 0) 1000))) = some r := H
 have A11 := Aside0.mk A110
 clear A110
 replace H := Option.bind_eq_some_iff.mp H
 obtain ⟨t196, A120, H⟩ := H
 replace H : (some (mn (mx t196 0) 1000)) = some r := H
 have A12 := Aside0.mk A120
 clear A120
 obtain ⟨ji13, hji13⟩ : ∃ j_ : Int, (mx t196 0) = j_ := ⟨_, rfl⟩
 replace H : (some (mn (ji13) 1000)) = some r := by first | (rw [hji13] at H; exact H) | (simp only [hji13] at H ⊢; exact H)
 (try rw [hji13] at A10)
 (try rw [hji13] at A11)
 (try rw [hji13] at A12)
 (try (have hji13l : 0 ≤ ji13 := by (rw [← hji13]; unfold mx; (repeat' split) <;> omega)))
 (try (have hji13m : 0 ≤ ji13 := by omega))
 have hji13_ : (if t196 < 0 then 0 else t196) = ji13 := hji13
 obtain ⟨ji14, hji14⟩ : ∃ j_ : Int, (mn (ji13) 1000) = j_ := ⟨_, rfl⟩
 replace H : (some ji14) = some r := by first | (rw [hji14] at H; exact H) | (simp only [hji14] at H ⊢; exact H)
 (try rw [hji14] at A10)
 (try rw [hji14] at A11)
 (try rw [hji14] at A12)
 have hji14_ : (if 1000 < (ji13) then 1000 else (ji13)) = ji14 := hji14
 obtain rfl := Option.some.inj H
 go_enter Try.func53, Try.ntmps53
 go_wp2_with (first | ((with_reducible refine gate_callee (f := 70) rfl ?_); refine goesL_ (some 23) rfl rfl Try.func70 (by kernel_rfl) rfl #[.int .i64 (1000 * (ji5)), .int .i64 ji7] rfl (by (try simp only [List.map_toArray, List.map_cons, List.map_nil]); first | done | (simp only [hji5, hji7]; rfl) | rfl | (simp only [List.length_drop, List.length_take]; rfl)) ?_; (with_reducible refine (governorref08_Mul.calls (1000 * (ji5)) ji7 t194 _ A10.out).mono ?_); rintro e w' ⟨rfl, ⟨nd, rfl⟩⟩; refine ⟨_, rfl, ?_⟩) | ((with_reducible refine gate_callee (f := 59) rfl ?_); refine goesL_ (some 25) rfl rfl Try.func59 (by kernel_rfl) rfl #[.int .i64 t194, .int .i64 ji9] rfl (by (try simp only [List.map_toArray, List.map_cons, List.map_nil]); first | done | (simp only [hji9]; rfl) | rfl | (simp only [List.length_drop, List.length_take]; rfl)) ?_; (with_reducible refine (governorref08_Div.calls k t194 ji9 t195 _ A11.out).mono ?_); rintro e w' ⟨rfl, ⟨nd, rfl⟩⟩; refine ⟨_, rfl, ?_⟩) | ((with_reducible refine gate_callee (f := 69) rfl ?_); refine goesL_ (some 26) rfl rfl Try.func69 (by kernel_rfl) rfl #[.int .i64 t195] rfl (by (try simp only [List.map_toArray, List.map_cons, List.map_nil]); first | done | rfl | (simp only [List.length_drop, List.length_take]; rfl)) ?_; (with_reducible refine (governorref08_Up.calls t195 t196 _ A12.out).mono ?_); rintro e w' ⟨rfl, ⟨nd, rfl⟩⟩; refine ⟨_, rfl, ?_⟩))
 go_ret
 exact ⟨by first | rfl | (simp [errW_none, errW_some] <;> rfl) | (simp only [← hji4, ← hji5, ← hji6, ← hji7, ← hji8, ← hji9, ← hji13, ← hji14]; first | rfl | (simp [errW_none, errW_some] <;> rfl)) | (simp [*, errW_none, errW_some] <;> rfl) | (have e_ : ji13 = ji14 := (by omega); subst e_; rfl) | (have e_ : ji9 = ji14 := (by omega); subst e_; rfl) | (have e_ : ji8 = ji14 := (by omega); subst e_; rfl) | (have e_ : ji7 = ji14 := (by omega); subst e_; rfl) | (have e_ : ji6 = ji14 := (by omega); subst e_; rfl) | (have e_ : ji5 = ji14 := (by omega); subst e_; rfl) | (have e_ : ji4 = ji14 := (by omega); subst e_; rfl), by repeat (first | (with_reducible first | exact HB.out | apply below_alloc | apply pw_below_drewN | apply below_drew1) | exact HB.out)⟩
/-! ### governorref11_Find: function 71 -/
def governorref11_Find.l0 : Nat → List (S56) → Int → Int → Int → Option (Int)
 | 0, _, _, _, _ => none
 | k + 1, x0, x1, x5, x6 => if x6 < (x0.length : Int) then (if 0 ≤ x6 then (if ((rd_T56 x0 x6).f0) ≤ x1 then (governorref11_Find.l0 k x0 x1 x6 (wrap64 (x6 + 1))) else (governorref11_Find.l0 k x0 x1 x5 (wrap64 (x6 + 1)))) else (none)) else (some x5)
def governorref11_Find.f (k : Nat) (l0 : List (S56)) (a1 : Int) : Option (Int) := governorref11_Find.l0 k l0 a1 (-1) 0
set_option maxHeartbeats 8000000 in
set_option maxRecDepth 100000 in
theorem governorref11_Find.calls (k : Nat) (A0 : Option Addr) (c0 : Nat) (l0 : List (S56)) (a1 : Int) (r : Int) (w : World) (hr0 : Kd.C k56 w A0 l0.length l0) (hc0 : l0.length ≤ c0) (h : governorref11_Find.f k l0 a1 = some r) :
  Calls Try.prog 71 #[.slice A0 l0.length c0, .int .i64 a1] w fun e w' => e = .returned (.int .i64 r) ∧ Drawn0 w w' := by
 have HR0 := Aside0.mk hr0
 have HC0 := Aside0.mk hc0
 clear hr0 hc0
 have H : (governorref11_Find.l0 k l0 a1 (-1) 0) = some r := h
 clear h
 have H' := Aside0.mk H
 clear H
 go_enter Try.func71, Try.ntmps71
 go_wp2
 go_loopg [5, 6] k (fun kq v5 v6 w' => ∃ (x5_1 : Int) (x6_1 : Int), v5 = .int .i64 x5_1 ∧ v6 = .int .i64 x6_1 ∧ Aside0 (governorref11_Find.l0 kq l0 a1 x5_1 x6_1 = some r) ∧ Aside0 (kq ≤ k) ∧ Drawn0 w w')
 case atStart => exact ⟨((-1)), (0), (by first | rfl | (simp; done) | (simp [*]; done)), (by first | rfl | (simp; done) | (simp [*]; done)), H', ⟨Nat.le_refl _⟩, by repeat (first | exact Drawn0.refl _ | apply Drawn0.step)⟩
 case round =>
  clear H'
  try clear p2
  obtain ⟨x5_1, x6_1, rfl, rfl, HA, HK1, ⟨m1, rfl⟩⟩ := hrel
  cases gk with
  | zero => exact absurd HA.out (by simp [governorref11_Find.l0])
  | succ k1 =>
   have H := HA.out
   clear HA
   simp only [governorref11_Find.l0] at H
   by_cases c3 : x6_1 < (l0.length : Int)
   ·rw [if_pos c3] at H
    have c3b0 : decide (x6_1 < (l0.length : Int)) = true := decide_eq_true c3
    clear c3
    by_cases c4 : 0 ≤ x6_1
    ·rw [if_pos c4] at H
     have c4b0 : decide (0 ≤ x6_1) = true := decide_eq_true c4
     clear c4
     by_cases c5 : ((rd_T56 l0 x6_1).f0) ≤ a1
     ·rw [if_pos c5] at H
      have c5b0 : decide (((rd_T56 l0 x6_1).f0) ≤ a1) = true := decide_eq_true c5
      clear c5
      have H' := Aside0.mk H
      clear H
      have p197 : 0 ≤ (x6_1 : Int) := of_decide_eq_true (by first | (with_reducible assumption) | assumption)
      have q197 : x6_1 < (l0.length : Int) := of_decide_eq_true (by first | (with_reducible assumption) | assumption)
      obtain ⟨ad197, e197, hx197_0, hx197_1⟩ := at_T56 HR0.out x6_1 p197 q197
      cases e197
      replace p197 := eq_true p197
      replace q197 := eq_true q197
      go_wp2
      go_roundg k1
      case measure => have := HK1.out; omega
      case rel => exact ⟨(x6_1), (wrap64 (x6_1 + 1)), (by first | rfl | (simp; done) | (simp [*]; done)), (by first | rfl | (simp; done) | (simp [*]; done)), H', ⟨by have := HK1.out; omega⟩, by repeat (first | exact Drawn0.refl _ | apply Drawn0.step)⟩
     ·rw [if_neg c5] at H
      have c5b0 : decide (((rd_T56 l0 x6_1).f0) ≤ a1) = false := decide_eq_false c5
      clear c5
      have H' := Aside0.mk H
      clear H
      have p197 : 0 ≤ (x6_1 : Int) := of_decide_eq_true (by first | (with_reducible assumption) | assumption)
      have q197 : x6_1 < (l0.length : Int) := of_decide_eq_true (by first | (with_reducible assumption) | assumption)
      obtain ⟨ad197, e197, hx197_0, hx197_1⟩ := at_T56 HR0.out x6_1 p197 q197
      cases e197
      replace p197 := eq_true p197
      replace q197 := eq_true q197
      go_wp2
      go_roundg k1
      case measure => have := HK1.out; omega
      case rel => exact ⟨(x5_1), (wrap64 (x6_1 + 1)), (by first | rfl | (simp; done) | (simp [*]; done)), (by first | rfl | (simp; done) | (simp [*]; done)), H', ⟨by have := HK1.out; omega⟩, by repeat (first | exact Drawn0.refl _ | apply Drawn0.step)⟩
    ·rw [if_neg c4] at H
     exact absurd H (by simp)
   ·rw [if_neg c3] at H
    have c3b0 : decide (x6_1 < (l0.length : Int)) = false := decide_eq_false c3
    clear c3
    obtain rfl := Option.some.inj H
    go_wp2
    go_ret
    exact ⟨by first | rfl | (simp; done) | (simp [*]; done), by repeat (first | exact Drawn0.refl _ | apply Drawn0.step)⟩

/-! ### governorref11_Want: function 54 -/
def governorref11_Want.f (k : Nat) (l0 : List (S56)) (a1 : Int) (a2 : Int) : Option (Int) := (governorref11_Find.f k l0 a2).bind fun t198 => (if t198 ≥ 0 then (if 0 ≤ t198 then (if t198 < (l0.length : Int) then (some (mn (mx (wrap64 ((mn (mx a1 0) 1000) + ((rd_T56 l0 t198).f1))) 0) 1000)) else (none)) else (none)) else (some (mn (mx (mn (mx a1 0) 1000) 0) 1000)))
set_option maxHeartbeats 8000000 in
set_option maxRecDepth 100000 in
theorem governorref11_Want.calls (k : Nat) (A0 : Option Addr) (c0 : Nat) (l0 : List (S56)) (a1 : Int) (a2 : Int) (r : Int) (w : World) (hr0 : Kd.C k56 w A0 l0.length l0) (hc0 : l0.length ≤ c0) (h : governorref11_Want.f k l0 a1 a2 = some r) :
  Calls Try.prog 54 #[.slice A0 l0.length c0, .int .i64 a1, .int .i64 a2] w fun e w' => e = .returned (.int .i64 r) ∧ Below w.heap.size w w' := by
 have HR0 := Aside0.mk hr0
 have HC0 := Aside0.mk hc0
 clear hr0 hc0
 have HB := Aside0.mk (Below.refl w.heap.size w)
 have H : ((governorref11_Find.f k l0 a2).bind fun t198 => (if t198 ≥ 0 then (if 0 ≤ t198 then (if t198 < (l0.length : Int) then (some (mn (mx (wrap64 ((mn (mx a1 0) 1000) + ((rd_T56 l0 t198).f1))) 0) 1000)) else (none)) else (none)) else (some (mn (mx (mn (mx a1 0) 1000) 0) 1000)))) = some r := h
 clear h
 obtain ⟨ji4, hji4⟩ : ∃ j_ : Int, (mx a1 0) = j_ := ⟨_, rfl⟩
 replace H : ((governorref11_Find.f k l0 a2).bind fun t198 => (if t198 ≥ 0 then (if 0 ≤ t198 then (if t198 < (l0.length : Int) then (some (mn (mx (wrap64 ((mn (ji4) 1000) + ((rd_T56 l0 t198).f1))) 0) 1000)) else (none)) else (none)) else (some (mn (mx (mn (ji4) 1000) 0) 1000)))) = some r := by first | (rw [hji4] at H; exact H) | (simp only [hji4] at H ⊢; exact H)
 (try (have hji4l : 0 ≤ ji4 := by (rw [← hji4]; unfold mx; (repeat' split) <;> omega)))
 (try (have hji4m : 0 ≤ ji4 := by omega))
 have hji4_ : (if a1 < 0 then 0 else a1) = ji4 := hji4
 obtain ⟨ji5, hji5⟩ : ∃ j_ : Int, (mn (ji4) 1000) = j_ := ⟨_, rfl⟩
 replace H : ((governorref11_Find.f k l0 a2).bind fun t198 => (if t198 ≥ 0 then (if 0 ≤ t198 then (if t198 < (l0.length : Int) then (some (mn (mx (wrap64 ((ji5) + ((rd_T56 l0 t198).f1))) 0) 1000)) else (none)) else (none)) else (some (mn (mx (ji5) 0) 1000)))) = some r := by first | (rw [hji5] at H; exact H) | (simp only [hji5] at H ⊢; exact H)
 have hji5_ : (if 1000 < (ji4) then 1000 else (ji4)) = ji5 := hji5
 replace H := Option.bind_eq_some_iff.mp H
 obtain ⟨t198, A60, H⟩ := H
 replace H : (if t198 ≥ 0 then (if 0 ≤ t198 then (if t198 < (l0.length : Int) then (some (mn (mx (wrap64 ((ji5) + ((rd_T56 l0 t198).f1))) 0) 1000)) else (none)) else (none)) else (some (mn (mx (ji5) 0) 1000))) = some r := H
 have A6 := Aside0.mk A60
 clear A60
 by_cases c7 : t198 ≥ 0
 ·rw [if_pos c7] at H
  have c7b0 : decide (0 ≤ t198) = true := decide_eq_true c7
  clear c7
  by_cases c8 : 0 ≤ t198
  ·rw [if_pos c8] at H
   have c8b0 : decide (0 ≤ t198) = true := decide_eq_true c8
   clear c8
   by_cases c9 : t198 < (l0.length : Int)
   ·rw [if_pos c9] at H
    have c9b0 : decide (t198 < (l0.length : Int)) = true := decide_eq_true c9
    clear c9
    obtain ⟨ji10, hji10⟩ : ∃ j_ : Int, (mx (wrap64 ((ji5) + ((rd_T56 l0 t198).f1))) 0) = j_ := ⟨_, rfl⟩
    replace H : (some (mn (ji10) 1000)) = some r := by first | (rw [hji10] at H; exact H) | (simp only [hji10] at H ⊢; exact H)
    (try rw [hji10] at A6)
    have hji10_ : (if (wrap64 ((ji5) + ((rd_T56 l0 t198).f1))) < 0 then 0 else (wrap64 ((ji5) + ((rd_T56 l0 t198).f1)))) = ji10 := hji10
    obtain ⟨ji11, hji11⟩ : ∃ j_ : Int, (mn (ji10) 1000) = j_ := ⟨_, rfl⟩
    replace H : (some ji11) = some r := by first | (rw [hji11] at H; exact H) | (simp only [hji11] at H ⊢; exact H)
    (try rw [hji11] at A6)
    have hji11_ : (if 1000 < (ji10) then 1000 else (ji10)) = ji11 := hji11
    obtain rfl := Option.some.inj H
    go_enter Try.func54, Try.ntmps54
    go_wp2_with (first | ((with_reducible refine gate_callee (f := 71) rfl ?_); refine goesL_ (some 14) rfl rfl Try.func71 (by kernel_rfl) rfl #[.slice A0 l0.length c0, .int .i64 a2] rfl (by (try simp only [List.map_toArray, List.map_cons, List.map_nil]); first | done | rfl | (simp only [List.length_drop, List.length_take]; rfl)) ?_; (with_reducible refine (governorref11_Find.calls k _ _ l0 a2 t198 _ ?side1 ?side2 A6.out).mono ?_); (case side1 => repeat (first | exact HR0.out | (with_reducible refine Kd.C_alloc ?_ _) | (with_reducible refine Kd.C_drewN ?_ _) | (with_reducible refine Kd.C_drew ?_))); (case side2 => exact HC0.out); rintro e w' ⟨rfl, ⟨nd, rfl⟩⟩; refine ⟨_, rfl, ?_⟩; have p199 : 0 ≤ (t198 : Int) := of_decide_eq_true (by first | (with_reducible assumption) | assumption); have q199 : t198 < (l0.length : Int) := of_decide_eq_true (by first | (with_reducible assumption) | assumption); obtain ⟨ad199, e199, hx199_0, hx199_1⟩ := at_T56 HR0.out t198 p199 q199; cases e199; replace p199 := eq_true p199; replace q199 := eq_true q199))
    go_ret
    exact ⟨by first | rfl | (simp [errW_none, errW_some] <;> rfl) | (simp only [← hji4, ← hji5, ← hji10, ← hji11]; first | rfl | (simp [errW_none, errW_some] <;> rfl)) | (simp [*, errW_none, errW_some] <;> rfl) | (have e_ : ji10 = ji11 := (by omega); subst e_; rfl) | (have e_ : ji5 = ji11 := (by omega); subst e_; rfl) | (have e_ : ji4 = ji11 := (by omega); subst e_; rfl), by repeat (first | (with_reducible first | exact HB.out | apply below_alloc | apply pw_below_drewN | apply below_drew1) | exact HB.out)⟩
   ·rw [if_neg c9] at H
    exact absurd H (by simp)
  ·rw [if_neg c8] at H
   exact absurd H (by simp)
 ·rw [if_neg c7] at H
  have c7b0 : decide (0 ≤ t198) = false := decide_eq_false c7
  clear c7
  obtain ⟨ji12, hji12⟩ : ∃ j_ : Int, (mx (ji5) 0) = j_ := ⟨_, rfl⟩
  replace H : (some (mn (ji12) 1000)) = some r := by first | (rw [hji12] at H; exact H) | (simp only [hji12] at H ⊢; exact H)
  (try rw [hji12] at A6)
  have hji12_ : (if (ji5) < 0 then 0 else (ji5)) = ji12 := hji12
  obtain ⟨ji13, hji13⟩ : ∃ j_ : Int, (mn (ji12) 1000) = j_ := ⟨_, rfl⟩
  replace H : (some ji13) = some r := by first | (rw [hji13] at H; exact H) | (simp only [hji13] at H ⊢; exact H)
  (try rw [hji13] at A6)
  have hji13_ : (if 1000 < (ji12) then 1000 else (ji12)) = ji13 := hji13
  obtain rfl := Option.some.inj H
  go_enter Try.func54, Try.ntmps54
  go_wp2_with (first | ((with_reducible refine gate_callee (f := 71) rfl ?_); refine goesL_ (some 14) rfl rfl Try.func71 (by kernel_rfl) rfl #[.slice A0 l0.length c0, .int .i64 a2] rfl (by (try simp only [List.map_toArray, List.map_cons, List.map_nil]); first | done | rfl | (simp only [List.length_drop, List.length_take]; rfl)) ?_; (with_reducible refine (governorref11_Find.calls k _ _ l0 a2 t198 _ ?side1 ?side2 A6.out).mono ?_); (case side1 => repeat (first | exact HR0.out | (with_reducible refine Kd.C_alloc ?_ _) | (with_reducible refine Kd.C_drewN ?_ _) | (with_reducible refine Kd.C_drew ?_))); (case side2 => exact HC0.out); rintro e w' ⟨rfl, ⟨nd, rfl⟩⟩; refine ⟨_, rfl, ?_⟩))
  go_ret
  exact ⟨by first | rfl | (simp [errW_none, errW_some] <;> rfl) | (simp only [← hji4, ← hji5, ← hji12, ← hji13]; first | rfl | (simp [errW_none, errW_some] <;> rfl)) | (simp [*, errW_none, errW_some] <;> rfl) | (have e_ : ji12 = ji13 := (by omega); subst e_; rfl) | (have e_ : ji5 = ji13 := (by omega); subst e_; rfl) | (have e_ : ji4 = ji13 := (by omega); subst e_; rfl), by repeat (first | (with_reducible first | exact HB.out | apply below_alloc | apply pw_below_drewN | apply below_drew1) | exact HB.out)⟩
/-! ### governorref08_Add: function 58 -/
def governorref08_Add.f (a0 : Int) (a1 : Int) : Option (Int) := (governorref08_Sat.f a0).bind fun t200 => ((governorref08_Sat.f a1).bind fun t201 => ((governorref08_Sat.f (wrap64 (t200 + t201))).bind fun t202 => (some t202)))
set_option maxHeartbeats 8000000 in
set_option maxRecDepth 100000 in
theorem governorref08_Add.calls (a0 : Int) (a1 : Int) (r : Int) (w : World) (h : governorref08_Add.f a0 a1 = some r) :
  Calls Try.prog 58 #[.int .i64 a0, .int .i64 a1] w fun e w' => e = .returned (.int .i64 r) ∧ Drawn0 w w' := by
 have H : ((governorref08_Sat.f a0).bind fun t200 => ((governorref08_Sat.f a1).bind fun t201 => ((governorref08_Sat.f (wrap64 (t200 + t201))).bind fun t202 => (some t202)))) = some r := h
 clear h
 replace H := Option.bind_eq_some_iff.mp H
 obtain ⟨t200, A30, H⟩ := H
 replace H : ((governorref08_Sat.f a1).bind fun t201 => ((governorref08_Sat.f (wrap64 (t200 + t201))).bind fun t202 => (some t202))) = some r := H
 have A3 := Aside0.mk A30
 clear A30
 replace H := Option.bind_eq_some_iff.mp H
 obtain ⟨t201, A40, H⟩ := H
 replace H : ((governorref08_Sat.f (wrap64 (t200 + t201))).bind fun t202 => (some t202)) = some r := H
 have A4 := Aside0.mk A40
 clear A40
 replace H := Option.bind_eq_some_iff.mp H
 obtain ⟨t202, A50, H⟩ := H
 replace H : (some t202) = some r := H
 have A5 := Aside0.mk A50
 clear A50
 obtain rfl := Option.some.inj H
 go_enter Try.func58, Try.ntmps58
 go_wp2_with (first | ((with_reducible refine gate_callee (f := 75) rfl ?_); refine goesL_ (some 6) rfl rfl Try.func75 (by kernel_rfl) rfl #[.int .i64 a0] rfl (by (try simp only [List.map_toArray, List.map_cons, List.map_nil]); first | done | rfl | (simp only [List.length_drop, List.length_take]; rfl)) ?_; (with_reducible refine (governorref08_Sat.calls a0 t200 _ A3.out).mono ?_); rintro e w' ⟨rfl, ⟨nd, rfl⟩⟩; refine ⟨_, rfl, ?_⟩) | ((with_reducible refine gate_callee (f := 75) rfl ?_); refine goesL_ (some 8) rfl rfl Try.func75 (by kernel_rfl) rfl #[.int .i64 a1] rfl (by (try simp only [List.map_toArray, List.map_cons, List.map_nil]); first | done | rfl | (simp only [List.length_drop, List.length_take]; rfl)) ?_; (with_reducible refine (governorref08_Sat.calls a1 t201 _ A4.out).mono ?_); rintro e w' ⟨rfl, ⟨nd, rfl⟩⟩; refine ⟨_, rfl, ?_⟩) | ((with_reducible refine gate_callee (f := 75) rfl ?_); refine goesL_ (some 10) rfl rfl Try.func75 (by kernel_rfl) rfl #[.int .i64 (wrap64 (t200 + t201))] rfl (by (try simp only [List.map_toArray, List.map_cons, List.map_nil]); first | done | rfl | (simp only [List.length_drop, List.length_take]; rfl)) ?_; (with_reducible refine (governorref08_Sat.calls (wrap64 (t200 + t201)) t202 _ A5.out).mono ?_); rintro e w' ⟨rfl, ⟨nd, rfl⟩⟩; refine ⟨_, rfl, ?_⟩))
 go_ret
 exact ⟨by first | rfl | (simp; done) | (simp [*]; done), by repeat (first | exact Drawn0.refl _ | apply Drawn0.step)⟩

/-! ### governorref08_Sub: function 72 -/
def governorref08_Sub.f (a0 : Int) (a1 : Int) : Option (Int) := (governorref08_Sat.f a0).bind fun t203 => ((governorref08_Sat.f a1).bind fun t204 => ((governorref08_Sat.f (wrap64 (t203 - t204))).bind fun t205 => (some t205)))
set_option maxHeartbeats 8000000 in
set_option maxRecDepth 100000 in
theorem governorref08_Sub.calls (a0 : Int) (a1 : Int) (r : Int) (w : World) (h : governorref08_Sub.f a0 a1 = some r) :
  Calls Try.prog 72 #[.int .i64 a0, .int .i64 a1] w fun e w' => e = .returned (.int .i64 r) ∧ Drawn0 w w' := by
 have H : ((governorref08_Sat.f a0).bind fun t203 => ((governorref08_Sat.f a1).bind fun t204 => ((governorref08_Sat.f (wrap64 (t203 - t204))).bind fun t205 => (some t205)))) = some r := h
 clear h
 replace H := Option.bind_eq_some_iff.mp H
 obtain ⟨t203, A30, H⟩ := H
 replace H : ((governorref08_Sat.f a1).bind fun t204 => ((governorref08_Sat.f (wrap64 (t203 - t204))).bind fun t205 => (some t205))) = some r := H
 have A3 := Aside0.mk A30
 clear A30
 replace H := Option.bind_eq_some_iff.mp H
 obtain ⟨t204, A40, H⟩ := H
 replace H : ((governorref08_Sat.f (wrap64 (t203 - t204))).bind fun t205 => (some t205)) = some r := H
 have A4 := Aside0.mk A40
 clear A40
 replace H := Option.bind_eq_some_iff.mp H
 obtain ⟨t205, A50, H⟩ := H
 replace H : (some t205) = some r := H
 have A5 := Aside0.mk A50
 clear A50
 obtain rfl := Option.some.inj H
 go_enter Try.func72, Try.ntmps72
 go_wp2_with (first | ((with_reducible refine gate_callee (f := 75) rfl ?_); refine goesL_ (some 6) rfl rfl Try.func75 (by kernel_rfl) rfl #[.int .i64 a0] rfl (by (try simp only [List.map_toArray, List.map_cons, List.map_nil]); first | done | rfl | (simp only [List.length_drop, List.length_take]; rfl)) ?_; (with_reducible refine (governorref08_Sat.calls a0 t203 _ A3.out).mono ?_); rintro e w' ⟨rfl, ⟨nd, rfl⟩⟩; refine ⟨_, rfl, ?_⟩) | ((with_reducible refine gate_callee (f := 75) rfl ?_); refine goesL_ (some 8) rfl rfl Try.func75 (by kernel_rfl) rfl #[.int .i64 a1] rfl (by (try simp only [List.map_toArray, List.map_cons, List.map_nil]); first | done | rfl | (simp only [List.length_drop, List.length_take]; rfl)) ?_; (with_reducible refine (governorref08_Sat.calls a1 t204 _ A4.out).mono ?_); rintro e w' ⟨rfl, ⟨nd, rfl⟩⟩; refine ⟨_, rfl, ?_⟩) | ((with_reducible refine gate_callee (f := 75) rfl ?_); refine goesL_ (some 10) rfl rfl Try.func75 (by kernel_rfl) rfl #[.int .i64 (wrap64 (t203 - t204))] rfl (by (try simp only [List.map_toArray, List.map_cons, List.map_nil]); first | done | rfl | (simp only [List.length_drop, List.length_take]; rfl)) ?_; (with_reducible refine (governorref08_Sat.calls (wrap64 (t203 - t204)) t205 _ A5.out).mono ?_); rintro e w' ⟨rfl, ⟨nd, rfl⟩⟩; refine ⟨_, rfl, ?_⟩))
 go_ret
 exact ⟨by first | rfl | (simp; done) | (simp [*]; done), by repeat (first | exact Drawn0.refl _ | apply Drawn0.step)⟩

/-! ### governorref08_Near: function 73 -/
def governorref08_Near.f (a0 : Int) : Option (Int) := (governorref08_Sat.f a0).bind fun t206 => (if t206 < 0 then (some (wrap64 (-(wrap64 (Int.tdiv (wrap64 ((wrap64 (-t206)) + 500)) 1000))))) else (some (wrap64 (Int.tdiv (wrap64 (t206 + 500)) 1000))))
set_option maxHeartbeats 8000000 in
set_option maxRecDepth 100000 in
theorem governorref08_Near.calls (a0 : Int) (r : Int) (w : World) (h : governorref08_Near.f a0 = some r) :
  Calls Try.prog 73 #[.int .i64 a0] w fun e w' => e = .returned (.int .i64 r) ∧ Drawn0 w w' := by
 have H : ((governorref08_Sat.f a0).bind fun t206 => (if t206 < 0 then (some (wrap64 (-(wrap64 (Int.tdiv (wrap64 ((wrap64 (-t206)) + 500)) 1000))))) else (some (wrap64 (Int.tdiv (wrap64 (t206 + 500)) 1000))))) = some r := h
 clear h
 replace H := Option.bind_eq_some_iff.mp H
 obtain ⟨t206, A20, H⟩ := H
 replace H : (if t206 < 0 then (some (wrap64 (-(wrap64 (Int.tdiv (wrap64 ((wrap64 (-t206)) + 500)) 1000))))) else (some (wrap64 (Int.tdiv (wrap64 (t206 + 500)) 1000)))) = some r := H
 have A2 := Aside0.mk A20
 clear A20
 by_cases c3 : t206 < 0
 ·rw [if_pos c3] at H
  have c3b0 : decide (t206 < 0) = true := decide_eq_true c3
  clear c3
  obtain rfl := Option.some.inj H
  go_enter Try.func73, Try.ntmps73
  go_wp2_with (first | ((with_reducible refine gate_callee (f := 75) rfl ?_); refine goesL_ (some 5) rfl rfl Try.func75 (by kernel_rfl) rfl #[.int .i64 a0] rfl (by (try simp only [List.map_toArray, List.map_cons, List.map_nil]); first | done | rfl | (simp only [List.length_drop, List.length_take]; rfl)) ?_; (with_reducible refine (governorref08_Sat.calls a0 t206 _ A2.out).mono ?_); rintro e w' ⟨rfl, ⟨nd, rfl⟩⟩; refine ⟨_, rfl, ?_⟩))
  go_ret
  exact ⟨by first | rfl | (simp; done) | (simp [*]; done), by repeat (first | exact Drawn0.refl _ | apply Drawn0.step)⟩
 ·rw [if_neg c3] at H
  have c3b0 : decide (t206 < 0) = false := decide_eq_false c3
  clear c3
  obtain rfl := Option.some.inj H
  go_enter Try.func73, Try.ntmps73
  go_wp2_with (first | ((with_reducible refine gate_callee (f := 75) rfl ?_); refine goesL_ (some 5) rfl rfl Try.func75 (by kernel_rfl) rfl #[.int .i64 a0] rfl (by (try simp only [List.map_toArray, List.map_cons, List.map_nil]); first | done | rfl | (simp only [List.length_drop, List.length_take]; rfl)) ?_; (with_reducible refine (governorref08_Sat.calls a0 t206 _ A2.out).mono ?_); rintro e w' ⟨rfl, ⟨nd, rfl⟩⟩; refine ⟨_, rfl, ?_⟩))
  go_ret
  exact ⟨by first | rfl | (simp; done) | (simp [*]; done), by repeat (first | exact Drawn0.refl _ | apply Drawn0.step)⟩
/-! ### governorref12_Next: function 55 -/
/-- Three blocks of one call. -/
structure Tri (w W : World) (a b c : Array Value) (t u v : Nat) : Prop where
 hA : W.heap[w.heap.size]? = some (.cells a t (0, 0))
 hB : W.heap[w.heap.size + 1]? = some (.cells b u (0, 0))
 hC : W.heap[w.heap.size + 1 + 1]? = some (.cells c v (0, 0))
 hW : Below w.heap.size w W
theorem Tri.below {w W W' : World} {a b c : Array Value} {t u v : Nat} (h : Tri w W a b c t u v) (hb : Below W.heap.size W W') : Tri w W' a b c t u v := ⟨blk_below h.hA hb, blk_below h.hB hb, blk_below h.hC hb, below_step h.hW hb⟩
theorem Tri.putC {w W : World} {a b c c' : Array Value} {t u v : Nat} (h : Tri w W a b c t u v) (j : Nat) (x : Value) (e : c.setIfInBounds j x = c') : Tri w (W.setCell ⟨w.heap.size + 1 + 1, j, none⟩ x) a b c' t u v :=
 ⟨blk_far h.hA (by show w.heap.size ≠ w.heap.size + 1 + 1; omega) x, blk_far h.hB (by show w.heap.size + 1 ≠ w.heap.size + 1 + 1; omega) x, blk_put h.hC j x e, below_set h.hW (by show w.heap.size ≤ w.heap.size + 1 + 1; omega)⟩
theorem tri_mk (w : World) (a b c : Array Value) (t u v : Nat) : Tri w (((w.alloc (.cells a t)).alloc (.cells b u)).alloc (.cells c v)) a b c t u v := by
 have y := blk_new (w.alloc (.cells a t)) (.cells b u)
 rw [World.size_alloc] at y
 have z := blk_new ((w.alloc (.cells a t)).alloc (.cells b u)) (.cells c v)
 rw [World.size_alloc, World.size_alloc] at z
 exact ⟨blk_alloc (blk_alloc (blk_new w _) _) _, blk_alloc y _, z, below_alloc (below_alloc (below_alloc (Below.refl _ _) _) _) _⟩
def governorref12_Next.f (a0_0 : Int) (a0_1 : Int) (l0_2 : List (S56)) (a0_3 : Int) (a0_4 : Int) (a0_5 : Int) (a0_6 : Int) (l0_7 : List (S58)) (a1_0 : Int) (a1_1 : Int) (a1_2 : Bool) (a2 : Int) : Option (Int × Int × Bool × Int) := (governorref08_Sub.f a2 a0_1).bind fun e => (governorref08_Add.f a1_0 e).bind fun m => (if a1_2 = true then governorref08_Sub.f e a1_1 else some 0).bind fun d => (governorref08_Mul.f a0_3 e).bind fun x => (governorref08_Mul.f a0_4 m).bind fun y => (governorref08_Add.f x y).bind fun a => (governorref08_Mul.f a0_5 d).bind fun z => (governorref08_Add.f a z).bind fun b => (governorref08_Near.f b).bind fun n => some (m, e, true, mn (mx n (-1000)) 1000)
set_option maxHeartbeats 8000000 in
set_option maxRecDepth 100000 in
theorem governorref12_Next.calls (a0_0 : Int) (a0_1 : Int) (A0_2 : Option Addr) (c0_2 : Nat) (l0_2 : List (S56)) (a0_3 : Int) (a0_4 : Int) (a0_5 : Int) (a0_6 : Int) (A0_7 : Option Addr) (c0_7 : Nat) (l0_7 : List (S58)) (a1_0 : Int) (a1_1 : Int) (a1_2 : Bool) (a2 : Int) (r1 : Int) (r2 : Int) (r3 : Bool) (r4 : Int) (w : World) (hr0_2 : Kd.C k56 w A0_2 l0_2.length l0_2) (hc0_2 : l0_2.length ≤ c0_2) (hr0_7 : Kd.C k58 w A0_7 l0_7.length l0_7) (hc0_7 : l0_7.length ≤ c0_7) (h : governorref12_Next.f a0_0 a0_1 l0_2 a0_3 a0_4 a0_5 a0_6 l0_7 a1_0 a1_1 a1_2 a2 = some (r1, r2, r3, r4)) :
  Calls Try.prog 55 #[.agg #[.int .i64 a0_0, .int .i64 a0_1, .slice A0_2 l0_2.length c0_2, .int .i64 a0_3, .int .i64 a0_4, .int .i64 a0_5, .int .i64 a0_6, .slice A0_7 l0_7.length c0_7], .agg #[.int .i64 a1_0, .int .i64 a1_1, .bool a1_2], .int .i64 a2] w fun e w' => e = .returned (.tuple #[.agg #[.int .i64 r1, .int .i64 r2, .bool r3], .int .i64 r4]) ∧ Below w.heap.size w w' := by
 have hu0 := Try.underlying27
 have hu1 := Try.underlying29
 clear hr0_2 hc0_2 hr0_7 hc0_7
 unfold governorref12_Next.f at h
 obtain ⟨e, he, h⟩ := Option.bind_eq_some_iff.1 h
 have Fe := Aside0.mk he
 clear he
 obtain ⟨m, hm, h⟩ := Option.bind_eq_some_iff.1 h
 have Fm := Aside0.mk hm
 clear hm
 obtain ⟨d, hd, h⟩ := Option.bind_eq_some_iff.1 h
 have Fd := Aside0.mk hd
 clear hd
 obtain ⟨x, hx, h⟩ := Option.bind_eq_some_iff.1 h
 have Fx := Aside0.mk hx
 clear hx
 obtain ⟨y, hy, h⟩ := Option.bind_eq_some_iff.1 h
 have Fy := Aside0.mk hy
 clear hy
 obtain ⟨a, ha, h⟩ := Option.bind_eq_some_iff.1 h
 have Fa := Aside0.mk ha
 clear ha
 obtain ⟨z, hz, h⟩ := Option.bind_eq_some_iff.1 h
 have Fz := Aside0.mk hz
 clear hz
 obtain ⟨b, hb, h⟩ := Option.bind_eq_some_iff.1 h
 have Fb := Aside0.mk hb
 clear hb
 obtain ⟨n, hn, h⟩ := Option.bind_eq_some_iff.1 h
 have Fn := Aside0.mk hn
 clear hn
 simp only [Option.some.injEq, Prod.mk.injEq] at h
 obtain ⟨rfl, rfl, rfl, rfl⟩ := h
 go_enter Try.func55, Try.ntmps55
 go_upto_region 1 with (fail)
 have ht := tri_mk w #[.int .i64 a0_0, .int .i64 a0_1, .slice A0_2 l0_2.length c0_2, .int .i64 a0_3, .int .i64 a0_4, .int .i64 a0_5, .int .i64 a0_6, .slice A0_7 l0_7.length c0_7] #[.int .i64 a1_0, .int .i64 a1_1, .bool a1_2] #[.int .i64 0, .int .i64 0, .bool false] 27 29 29
 generalize ((w.alloc _).alloc _).alloc _ = W at ht ⊢
 have HT := Aside0.mk ht
 have xa := blk_cell ht.hA
 have xb := blk_cell ht.hB
 clear ht
 go_upto_region 3 with (first
  | (go_at_call 72; refine (governorref08_Sub.calls _ _ _ _ Fe.out).mono ?_; rintro e_ w1 ⟨rfl, hb⟩; replace HT := Aside0.mk (HT.out.below hb.below); clear hb xa xb; have xa := blk_cell HT.out.hA; have xb := blk_cell HT.out.hB)
  | (go_at_call 58; refine (governorref08_Add.calls _ _ _ _ Fm.out).mono ?_; rintro e_ w1 ⟨rfl, hb⟩; replace HT := Aside0.mk (HT.out.below hb.below); clear hb xa xb; have xa := blk_cell HT.out.hA; have xb := blk_cell HT.out.hB))
 have hd : (a1_2 = true ∧ governorref08_Sub.f e a1_1 = some d) ∨ (a1_2 = false ∧ (0 : Int) = d) := by
  have h := Fd.out
  cases a1_2
  ·exact .inr ⟨rfl, Option.some.inj h⟩
  ·exact .inl ⟨rfl, h⟩
 clear Fd
 rcases hd with ⟨rfl, hd⟩ | ⟨rfl, rfl⟩
 case' inl => have Fd := Aside0.mk hd; clear hd
 all_goals
  go_upto_region 6 with (go_at_call 72; refine (governorref08_Sub.calls _ _ _ _ Fd.out).mono ?_; rintro e_ w1 ⟨rfl, hb⟩; replace HT := Aside0.mk (HT.out.below hb.below); clear hb xa xb; have xa := blk_cell HT.out.hA; have xb := blk_cell HT.out.hB)
  obtain ⟨sb, HS⟩ : ∃ sb, Aside0 (Tri w _ #[.int .i64 a0_0, .int .i64 a0_1, .slice A0_2 l0_2.length c0_2, .int .i64 a0_3, .int .i64 a0_4, .int .i64 a0_5, .int .i64 a0_6, .slice A0_7 l0_7.length c0_7] sb #[.int .i64 0, .int .i64 0, .bool false] 27 29 29) := ⟨_, HT⟩
  clear HT xb
  have HT := HS
  clear HS
  go_cut [11] (fun v wc => v = .int .i64 a ∧ Aside0 (Tri w wc #[.int .i64 a0_0, .int .i64 a0_1, .slice A0_2 l0_2.length c0_2, .int .i64 a0_3, .int .i64 a0_4, .int .i64 a0_5, .int .i64 a0_6, .slice A0_7 l0_7.length c0_7] sb #[.int .i64 0, .int .i64 0, .bool false] 27 29 29))
  case first =>
   have ht := HT.out
   clear HT
   refine start_ (n := 10) (S := fun w' => w'.heap[w.heap.size]? = some (.cells #[.int .i64 a0_0, .int .i64 a0_1, .slice A0_2 l0_2.length c0_2, .int .i64 a0_3, .int .i64 a0_4, .int .i64 a0_5, .int .i64 a0_6, .slice A0_7 l0_7.length c0_7] 27 (0, 0))) (ds := []) #[false, false, false, false, false, false, false, false, false, false] (by kernel_rfl) rfl rfl ht.hA (fun hHeld => ?_)
   replace ht := ht.below (below_drew1 (Below.refl _ _))
   generalize World.drew _ = w9 at ht hHeld ⊢
   refine pu_ 0 27 #[true, false, false, false, false, false, false, false, false, false] ?_
   refine pu_ 2 29 #[true, false, true, false, false, false, false, false, false, false] ?_
   refine pu_ 4 31 #[true, false, true, false, true, false, false, false, false, false] ?_
   refine pu_ 6 33 #[true, false, true, false, true, false, true, false, false, false] ?_
   refine ta_ 1 28 #[true, true, true, false, true, false, true, false, false, false] hHeld (v := ?_) ?_ ?_
   rotate_left
   ·intro w' hS
    have s := blk_cell hS
    clear hS
    go_simp
    with_reducible rfl
   refine ta_ 5 32 #[true, true, true, false, true, true, true, false, false, false] hHeld (v := ?_) ?_ ?_
   rotate_left
   ·intro w' hS
    have s := blk_cell hS
    clear hS
    go_simp
    with_reducible rfl
   refine one_ (i := 3) (N := some 30) #[true, true, true, true, true, true, true, false, false, false] rfl rfl (by kernel_rfl) (by decide) (fun K hK => ?_)
   refine goes_ Try.func70 (by kernel_rfl) rfl #[.int .i64 a0_3, .int .i64 e] (by rfl) rfl rfl (by (try simp only [List.map_toArray, List.map_cons, List.map_nil]); first | done | rfl) ?_
   refine (governorref08_Mul.calls _ _ _ _ Fx.out).mono ?_
   rintro e_ w_ ⟨rfl, hb⟩
   refine ⟨_, rfl, ?_⟩
   replace ht := ht.below hb.below
   clear hb
   refine hK.out _ _ ht.hA (fun hHeld => ?_)
   clear hK K
   refine no_ 30 ?_
   refine one_ (i := 7) (N := some 34) #[true, true, true, true, true, true, true, true, false, false] rfl rfl (by kernel_rfl) (by decide) (fun K hK => ?_)
   refine goes_ Try.func70 (by kernel_rfl) rfl #[.int .i64 a0_4, .int .i64 m] (by rfl) rfl rfl (by (try simp only [List.map_toArray, List.map_cons, List.map_nil]); first | done | rfl) ?_
   refine (governorref08_Mul.calls _ _ _ _ Fy.out).mono ?_
   rintro e_ w_ ⟨rfl, hb⟩
   refine ⟨_, rfl, ?_⟩
   replace ht := ht.below hb.below
   clear hb
   refine hK.out _ _ ht.hA (fun hHeld => ?_)
   clear hK K
   refine no_ 34 ?_
   refine one_ (i := 8) (N := some 35) #[true, true, true, true, true, true, true, true, true, false] rfl rfl (by kernel_rfl) (by decide) (fun K hK => ?_)
   refine goes_ Try.func58 (by kernel_rfl) rfl #[.int .i64 x, .int .i64 y] (by rfl) rfl rfl (by (try simp only [List.map_toArray, List.map_cons, List.map_nil]); first | done | rfl) ?_
   refine (governorref08_Add.calls _ _ _ _ Fa.out).mono ?_
   rintro e_ w_ ⟨rfl, hb⟩
   refine ⟨_, rfl, ?_⟩
   replace ht := ht.below hb.below
   clear hb
   refine hK.out _ _ ht.hA (fun hHeld => ?_)
   clear hK K
   refine no_ 35 ?_
   refine pu_ 9 11 #[true, true, true, true, true, true, true, true, true, true] ?_
   refine done_ (by kernel_rfl) ?_
   (try go_wp2)
   go_meet
   exact ⟨rfl, ⟨ht⟩⟩
  case rest =>
   obtain ⟨rfl, HT⟩ := hcut
   have xa := blk_cell HT.out.hA
   go_upto_region 8 with (first
    | (go_at_call 70; refine (governorref08_Mul.calls _ _ _ _ Fz.out).mono ?_; rintro e_ w1 ⟨rfl, hb⟩; replace HT := Aside0.mk (HT.out.below hb.below); clear hb xa; have xa := blk_cell HT.out.hA)
    | (go_at_call 58; refine (governorref08_Add.calls _ _ _ _ Fb.out).mono ?_; rintro e_ w1 ⟨rfl, hb⟩; replace HT := Aside0.mk (HT.out.below hb.below); clear hb xa; have xa := blk_cell HT.out.hA)
    | (go_at_call 73; refine (governorref08_Near.calls _ _ _ Fn.out).mono ?_; rintro e_ w1 ⟨rfl, hb⟩; replace HT := Aside0.mk (HT.out.below hb.below); clear hb xa; have xa := blk_cell HT.out.hA))
   have xc := blk_cell HT.out.hC
   have fc := blk_frozen HT.out.hC
   go_wp2
   all_goals
    refine bodyPost_ret (results_ct rfl _ _ (w.heap.size + 1 + 1) 29 _ (0, 0) _ rfl (((HT.out.putC (c' := #[.int .i64 m, .int .i64 0, .bool false]) 0 _ rfl).putC (c' := #[.int .i64 m, .int .i64 e, .bool false]) 1 _ rfl).putC (c' := #[.int .i64 m, .int .i64 e, .bool true]) 2 _ rfl).hC hu1 rfl (by kernel_rfl)) rfl ?_
    exact ⟨by first | (rw [show mn (mx n (-1000)) 1000 = 1000 by unfold mn mx; omega]; rfl) | (rw [show mn (mx n (-1000)) 1000 = n by unfold mn mx; omega]; rfl) | (rw [show mn (mx n (-1000)) 1000 = -1000 by unfold mn mx; omega]; rfl), (((HT.out.putC (c' := #[.int .i64 m, .int .i64 0, .bool false]) 0 _ rfl).putC (c' := #[.int .i64 m, .int .i64 e, .bool false]) 1 _ rfl).putC (c' := #[.int .i64 m, .int .i64 e, .bool true]) 2 _ rfl).hW⟩
/-! ### governorref13_At: function 74 -/
def governorref13_At.f (a0 : Int) (a1 : Int) : Option (Int) := if a0 = 0 then (none) else (if (Int.tmod a1 a0) < 0 then (some (wrap64 ((Int.tmod a1 a0) + a0))) else (some (Int.tmod a1 a0)))
set_option maxHeartbeats 8000000 in
set_option maxRecDepth 100000 in
theorem governorref13_At.calls (a0 : Int) (a1 : Int) (r : Int) (w : World) (h : governorref13_At.f a0 a1 = some r) :
  Calls Try.prog 74 #[.int .i64 a0, .int .i64 a1] w fun e w' => e = .returned (.int .i64 r) ∧ Drawn0 w w' := by
 have H : (if a0 = 0 then (none) else (if (Int.tmod a1 a0) < 0 then (some (wrap64 ((Int.tmod a1 a0) + a0))) else (some (Int.tmod a1 a0)))) = some r := h
 clear h
 by_cases c3 : a0 = 0
 ·rw [if_pos c3] at H
  exact absurd H (by simp)
 ·rw [if_neg c3] at H
  have c3b0 : (a0 == 0) = false := beq_eq_false_iff_ne.mpr c3
  have c3b1 : (a0 != 0) = true := bne_iff_ne.mpr c3
  by_cases c4 : (Int.tmod a1 a0) < 0
  ·rw [if_pos c4] at H
   have c4b0 : decide ((Int.tmod a1 a0) < 0) = true := decide_eq_true c4
   clear c4
   obtain rfl := Option.some.inj H
   go_enter Try.func74, Try.ntmps74
   go_wp2
   go_ret
   exact ⟨by first | rfl | (simp; done) | (simp [*]; done), by repeat (first | exact Drawn0.refl _ | apply Drawn0.step)⟩
  ·rw [if_neg c4] at H
   have c4b0 : decide ((Int.tmod a1 a0) < 0) = false := decide_eq_false c4
   clear c4
   obtain rfl := Option.some.inj H
   go_enter Try.func74, Try.ntmps74
   go_wp2
   go_ret
   exact ⟨by first | rfl | (simp; done) | (simp [*]; done), by repeat (first | exact Drawn0.refl _ | apply Drawn0.step)⟩

/-! ### governorref13_Want: function 56 -/
def governorref13_Want.l0 : Nat → List (S58) → Int → Int → Int → Option (Int)
 | 0, _, _, _, _ => none
 | k + 1, x1, x7, x8, x9 => if x9 < (x1.length : Int) then (if 0 ≤ x9 then (if ((rd_T58 x1 x9).f0) ≤ x7 then (governorref13_Want.l0 k x1 x7 ((rd_T58 x1 x9).f1) (wrap64 (x9 + 1))) else (governorref13_Want.l0 k x1 x7 x8 (wrap64 (x9 + 1)))) else (none)) else (some x8)
def governorref13_Want.f (k : Nat) (a0 : Int) (l1 : List (S58)) (a2 : Int) : Option (Int) := (governorref13_At.f a0 a2).bind fun t207 => (governorref13_Want.l0 k l1 t207 0 0)
set_option maxHeartbeats 8000000 in
set_option maxRecDepth 100000 in
theorem governorref13_Want.calls (k : Nat) (a0 : Int) (A1 : Option Addr) (c1 : Nat) (l1 : List (S58)) (a2 : Int) (r : Int) (w : World) (hr1 : Kd.C k58 w A1 l1.length l1) (hc1 : l1.length ≤ c1) (h : governorref13_Want.f k a0 l1 a2 = some r) :
  Calls Try.prog 56 #[.int .i64 a0, .slice A1 l1.length c1, .int .i64 a2] w fun e w' => e = .returned (.int .i64 r) ∧ Drawn0 w w' := by
 have HR1 := Aside0.mk hr1
 have HC1 := Aside0.mk hc1
 clear hr1 hc1
 have H : ((governorref13_At.f a0 a2).bind fun t207 => (governorref13_Want.l0 k l1 t207 0 0)) = some r := h
 clear h
 replace H := Option.bind_eq_some_iff.mp H
 obtain ⟨t207, A40, H⟩ := H
 replace H : (governorref13_Want.l0 k l1 t207 0 0) = some r := H
 have A4 := Aside0.mk A40
 clear A40
 have H' := Aside0.mk H
 clear H
 go_enter Try.func56, Try.ntmps56
 go_wp2_with (first | ((with_reducible refine gate_callee (f := 74) rfl ?_); refine goesL_ (some 12) rfl rfl Try.func74 (by kernel_rfl) rfl #[.int .i64 a0, .int .i64 a2] rfl (by (try simp only [List.map_toArray, List.map_cons, List.map_nil]); first | done | rfl | (simp only [List.length_drop, List.length_take]; rfl)) ?_; (with_reducible refine (governorref13_At.calls a0 a2 t207 _ A4.out).mono ?_); rintro e w' ⟨rfl, ⟨nd, rfl⟩⟩; refine ⟨_, rfl, ?_⟩))
 go_loopg [8, 9] k (fun kq v8 v9 w' => ∃ (x8_1 : Int) (x9_1 : Int), v8 = .int .i64 x8_1 ∧ v9 = .int .i64 x9_1 ∧ Aside0 (governorref13_Want.l0 kq l1 t207 x8_1 x9_1 = some r) ∧ Aside0 (kq ≤ k) ∧ Drawn0 w w')
 case atStart => exact ⟨(0), (0), (by first | rfl | (simp; done) | (simp [*]; done)), (by first | rfl | (simp; done) | (simp [*]; done)), H', ⟨Nat.le_refl _⟩, by repeat (first | exact Drawn0.refl _ | apply Drawn0.step)⟩
 case round =>
  clear H'
  try clear c1
  try clear p2
  obtain ⟨x8_1, x9_1, rfl, rfl, HA, HK1, ⟨m1, rfl⟩⟩ := hrel
  cases gk with
  | zero => exact absurd HA.out (by simp [governorref13_Want.l0])
  | succ k1 =>
   have H := HA.out
   clear HA
   simp only [governorref13_Want.l0] at H
   by_cases c5 : x9_1 < (l1.length : Int)
   ·rw [if_pos c5] at H
    have c5b0 : decide (x9_1 < (l1.length : Int)) = true := decide_eq_true c5
    clear c5
    by_cases c6 : 0 ≤ x9_1
    ·rw [if_pos c6] at H
     have c6b0 : decide (0 ≤ x9_1) = true := decide_eq_true c6
     clear c6
     by_cases c7 : ((rd_T58 l1 x9_1).f0) ≤ t207
     ·rw [if_pos c7] at H
      have c7b0 : decide (((rd_T58 l1 x9_1).f0) ≤ t207) = true := decide_eq_true c7
      clear c7
      have H' := Aside0.mk H
      clear H
      have p208 : 0 ≤ (x9_1 : Int) := of_decide_eq_true (by first | (with_reducible assumption) | assumption)
      have q208 : x9_1 < (l1.length : Int) := of_decide_eq_true (by first | (with_reducible assumption) | assumption)
      obtain ⟨ad208, e208, hx208_0, hx208_1⟩ := at_T58 HR1.out x9_1 p208 q208
      cases e208
      replace p208 := eq_true p208
      replace q208 := eq_true q208
      have p209 : 0 ≤ (x9_1 : Int) := of_decide_eq_true (by first | (with_reducible assumption) | assumption)
      have q209 : x9_1 < (l1.length : Int) := of_decide_eq_true (by first | (with_reducible assumption) | assumption)
      obtain ⟨ad209, e209, hx209_0, hx209_1⟩ := at_T58 HR1.out x9_1 p209 q209
      obtain rfl : ad208 = ad209 := (by injection e209)
      replace p209 := eq_true p209
      replace q209 := eq_true q209
      go_wp2
      go_roundg k1
      case measure => have := HK1.out; omega
      case rel => exact ⟨((rd_T58 l1 x9_1).f1), (wrap64 (x9_1 + 1)), (by first | rfl | (simp; done) | (simp [*]; done)), (by first | rfl | (simp; done) | (simp [*]; done)), H', ⟨by have := HK1.out; omega⟩, by repeat (first | exact Drawn0.refl _ | apply Drawn0.step)⟩
     ·rw [if_neg c7] at H
      have c7b0 : decide (((rd_T58 l1 x9_1).f0) ≤ t207) = false := decide_eq_false c7
      clear c7
      have H' := Aside0.mk H
      clear H
      have p208 : 0 ≤ (x9_1 : Int) := of_decide_eq_true (by first | (with_reducible assumption) | assumption)
      have q208 : x9_1 < (l1.length : Int) := of_decide_eq_true (by first | (with_reducible assumption) | assumption)
      obtain ⟨ad208, e208, hx208_0, hx208_1⟩ := at_T58 HR1.out x9_1 p208 q208
      cases e208
      replace p208 := eq_true p208
      replace q208 := eq_true q208
      go_wp2
      go_roundg k1
      case measure => have := HK1.out; omega
      case rel => exact ⟨(x8_1), (wrap64 (x9_1 + 1)), (by first | rfl | (simp; done) | (simp [*]; done)), (by first | rfl | (simp; done) | (simp [*]; done)), H', ⟨by have := HK1.out; omega⟩, by repeat (first | exact Drawn0.refl _ | apply Drawn0.step)⟩
    ·rw [if_neg c6] at H
     exact absurd H (by simp)
   ·rw [if_neg c5] at H
    have c5b0 : decide (x9_1 < (l1.length : Int)) = false := decide_eq_false c5
    clear c5
    obtain rfl := Option.some.inj H
    go_wp2
    go_ret
    exact ⟨by first | rfl | (simp; done) | (simp [*]; done), by repeat (first | exact Drawn0.refl _ | apply Drawn0.step)⟩
/-! ### governorref14_Next: function 33 -/
def governorref14_Next.f (k : Nat) (a0_0 : Int) (a0_1 : Int) (l0_2 : List (S56)) (a0_3 : Int) (a0_4 : Int) (a0_5 : Int) (a0_6 : Int) (l0_7 : List (S58)) (a1_0 : Int) (a1_1 : Int) (a1_2 : Bool) (a2 : Int) (a3 : Int) (a4 : Int) : Option (Int × Int × Bool × Int) := if a0_0 = 1 then ((governorref10_Want.f k a0_1 (mn (mx a2 0) 1000) a3).bind fun n => some (a1_0, a1_1, a1_2, mn (mx n 0) 1000)) else (if a0_0 = 2 then ((governorref11_Want.f k l0_2 (mn (mx a2 0) 1000) a3).bind fun n => some (a1_0, a1_1, a1_2, mn (mx n 0) 1000)) else (if a0_0 = 3 then ((governorref12_Next.f a0_0 a0_1 l0_2 a0_3 a0_4 a0_5 a0_6 l0_7 a1_0 a1_1 a1_2 a3).bind fun b => (some (b.1, b.2.1, b.2.2.1, mn (mx (wrap64 ((mn (mx a2 0) 1000) + b.2.2.2)) 0) 1000))) else (if a0_0 = 4 then ((governorref13_Want.f k a0_6 l0_7 a4).bind fun n => some (a1_0, a1_1, a1_2, mn (mx n 0) 1000)) else some (a1_0, a1_1, a1_2, mn (mx (mn (mx a2 0) 1000) 0) 1000))))
theorem mx_if (a : Int) : mx a 0 = if a < 0 then 0 else a := by unfold mx; split <;> (try split) <;> omega
theorem mn_if (a : Int) : mn a 1000 = if 1000 < a then 1000 else a := by unfold mn; split <;> (try split) <;> omega
set_option maxHeartbeats 8000000 in
set_option maxRecDepth 100000 in
theorem governorref14_Next.calls (k : Nat) (a0_0 : Int) (a0_1 : Int) (A0_2 : Option Addr) (c0_2 : Nat) (l0_2 : List (S56)) (a0_3 : Int) (a0_4 : Int) (a0_5 : Int) (a0_6 : Int) (A0_7 : Option Addr) (c0_7 : Nat) (l0_7 : List (S58)) (a1_0 : Int) (a1_1 : Int) (a1_2 : Bool) (a2 : Int) (a3 : Int) (a4 : Int) (r1 : Int) (r2 : Int) (r3 : Bool) (r4 : Int) (w : World) (hr0_2 : Kd.C k56 w A0_2 l0_2.length l0_2) (hc0_2 : l0_2.length ≤ c0_2) (hr0_7 : Kd.C k58 w A0_7 l0_7.length l0_7) (hc0_7 : l0_7.length ≤ c0_7) (h : governorref14_Next.f k a0_0 a0_1 l0_2 a0_3 a0_4 a0_5 a0_6 l0_7 a1_0 a1_1 a1_2 a2 a3 a4 = some (r1, r2, r3, r4)) :
  Calls Try.prog 33 #[.agg #[.int .i64 a0_0, .int .i64 a0_1, .slice A0_2 l0_2.length c0_2, .int .i64 a0_3, .int .i64 a0_4, .int .i64 a0_5, .int .i64 a0_6, .slice A0_7 l0_7.length c0_7], .agg #[.int .i64 a1_0, .int .i64 a1_1, .bool a1_2], .int .i64 a2, .int .i64 a3, .int .i64 a4] w fun e w' => e = .returned (.tuple #[.agg #[.int .i64 r1, .int .i64 r2, .bool r3], .int .i64 r4]) ∧ Below w.heap.size w w' := by
 have hu0 := Try.underlying27
 have hu1 := Try.underlying29
 have HR2 := Aside0.mk hr0_2
 have HC2 := Aside0.mk hc0_2
 clear hr0_2 hc0_2
 have HR7 := Aside0.mk hr0_7
 have HC7 := Aside0.mk hc0_7
 clear hr0_7 hc0_7
 unfold governorref14_Next.f at h
 obtain ⟨m1, hm1⟩ : ∃ m1, (if a2 < 0 then 0 else a2) = m1 := ⟨_, rfl⟩
 obtain ⟨c, hc⟩ : ∃ c, (if 1000 < m1 then 1000 else m1) = c := ⟨_, rfl⟩
 rw [mx_if, hm1, mn_if, hc] at h
 go_enter Try.func33, Try.ntmps33
 go_upto_region 1 with (fail)
 have ht := tri_mk w #[.int .i64 a0_0, .int .i64 a0_1, .slice A0_2 l0_2.length c0_2, .int .i64 a0_3, .int .i64 a0_4, .int .i64 a0_5, .int .i64 a0_6, .slice A0_7 l0_7.length c0_7] #[.int .i64 a1_0, .int .i64 a1_1, .bool a1_2] #[.int .i64 0, .int .i64 0, .bool false] 27 29 29
 generalize ((w.alloc _).alloc _).alloc _ = W at ht ⊢
 have HT := Aside0.mk ht
 have xa := blk_cell ht.hA
 have xb := blk_cell ht.hB
 have xc := blk_cell ht.hC
 have fc := blk_frozen ht.hC
 clear ht
 by_cases k3 : a0_0 = 3
 rotate_left
 ·have hq : ∃ n, (r1 = a1_0 ∧ r2 = a1_1 ∧ r3 = a1_2 ∧ mn (mx n 0) 1000 = r4) ∧ ((a0_0 = 1 ∧ governorref10_Want.f k a0_1 c a3 = some n) ∨ (a0_0 ≠ 1 ∧ a0_0 = 2 ∧ governorref11_Want.f k l0_2 c a3 = some n) ∨ (a0_0 ≠ 1 ∧ a0_0 ≠ 2 ∧ a0_0 = 4 ∧ governorref13_Want.f k a0_6 l0_7 a4 = some n) ∨ (a0_0 ≠ 1 ∧ a0_0 ≠ 2 ∧ a0_0 ≠ 4 ∧ c = n)) := by
   by_cases k1 : a0_0 = 1
   ·rw [if_pos k1] at h
    obtain ⟨n, hn, h⟩ := Option.bind_eq_some_iff.1 h
    simp only [Option.some.injEq, Prod.mk.injEq] at h
    exact ⟨n, ⟨h.1.symm, h.2.1.symm, h.2.2.1.symm, h.2.2.2⟩, .inl ⟨k1, hn⟩⟩
   rw [if_neg k1] at h
   by_cases k2 : a0_0 = 2
   ·rw [if_pos k2] at h
    obtain ⟨n, hn, h⟩ := Option.bind_eq_some_iff.1 h
    simp only [Option.some.injEq, Prod.mk.injEq] at h
    exact ⟨n, ⟨h.1.symm, h.2.1.symm, h.2.2.1.symm, h.2.2.2⟩, .inr (.inl ⟨k1, k2, hn⟩)⟩
   rw [if_neg k2, if_neg k3] at h
   by_cases k4 : a0_0 = 4
   ·rw [if_pos k4] at h
    obtain ⟨n, hn, h⟩ := Option.bind_eq_some_iff.1 h
    simp only [Option.some.injEq, Prod.mk.injEq] at h
    exact ⟨n, ⟨h.1.symm, h.2.1.symm, h.2.2.1.symm, h.2.2.2⟩, .inr (.inr (.inl ⟨k1, k2, k4, hn⟩))⟩
   rw [if_neg k4] at h
   simp only [Option.some.injEq, Prod.mk.injEq] at h
   exact ⟨c, ⟨h.1.symm, h.2.1.symm, h.2.2.1.symm, h.2.2.2⟩, .inr (.inr (.inr ⟨k1, k2, k4, rfl⟩))⟩
  clear h
  obtain ⟨n, ⟨rfl, rfl, rfl, h4⟩, hq⟩ := hq
  obtain ⟨m2, hm2⟩ : ∃ m2, (if n < 0 then 0 else n) = m2 := ⟨_, rfl⟩
  rw [mx_if, hm2, mn_if] at h4
  have b3 : (a0_0 == 3) = false := by simpa using k3
  clear k3
  rcases hq with ⟨rfl, hn⟩ | ⟨k1, rfl, hn⟩ | ⟨k1, k2, rfl, hn⟩ | ⟨k1, k2, k4, rfl⟩
  case' inl => have FW := Aside0.mk hn; clear hn
  case' inr.inl => have FW := Aside0.mk hn; have b1 : ((2 : Int) == 1) = false := rfl; clear hn k1
  case' inr.inr.inl => have FW := Aside0.mk hn; clear hn k1 k2
  case' inr.inr.inr => have b1 : (a0_0 == 1) = false := by simpa using k1
  case' inr.inr.inr => have b2 : (a0_0 == 2) = false := by simpa using k2
  case' inr.inr.inr => have b4 : (a0_0 == 4) = false := by simpa using k4
  case' inr.inr.inr => have HX4 := Aside0.mk (show c = r4 by rw [← h4, ← hm2, ← hc, ← hm1]; (repeat' split) <;> omega)
  case' inr.inr.inr => clear k1 k2 k4
  all_goals
   go_wp2_with (first
    | (go_at_call 53; refine (governorref10_Want.calls k _ _ _ _ _ FW.out).mono ?_; rintro e_ w1 ⟨rfl, hb⟩; replace HT := Aside0.mk (HT.out.below (by first | exact hb | exact hb.below)); clear hb xa xb xc fc; have xa := blk_cell HT.out.hA; have xb := blk_cell HT.out.hB; have xc := blk_cell HT.out.hC; have fc := blk_frozen HT.out.hC)
    | (go_at_call 54; refine (governorref11_Want.calls k _ _ _ _ _ _ _ (Kd.C_below HR2.out HT.out.hW) HC2.out FW.out).mono ?_; rintro e_ w1 ⟨rfl, hb⟩; replace HT := Aside0.mk (HT.out.below (by first | exact hb | exact hb.below)); clear hb xa xb xc fc; have xa := blk_cell HT.out.hA; have xb := blk_cell HT.out.hB; have xc := blk_cell HT.out.hC; have fc := blk_frozen HT.out.hC)
    | (go_at_call 56; refine (governorref13_Want.calls k _ _ _ _ _ _ _ (Kd.C_below HR7.out HT.out.hW) HC7.out FW.out).mono ?_; rintro e_ w1 ⟨rfl, hb⟩; replace HT := Aside0.mk (HT.out.below (by first | exact hb | exact hb.below)); clear hb xa xb xc fc; have xa := blk_cell HT.out.hA; have xb := blk_cell HT.out.hB; have xc := blk_cell HT.out.hC; have fc := blk_frozen HT.out.hC))
   refine bodyPost_ret (results_ct rfl _ _ (w.heap.size + 1 + 1) 29 _ (0, 0) _ rfl (((HT.out.putC (c' := #[.int .i64 r1, .int .i64 0, .bool false]) 0 _ rfl).putC (c' := #[.int .i64 r1, .int .i64 r2, .bool false]) 1 _ rfl).putC (c' := #[.int .i64 r1, .int .i64 r2, .bool r3]) 2 _ rfl).hC hu1 rfl (by kernel_rfl)) rfl ?_
   exact ⟨by first | rfl | (rw [← HX4.out]; rfl), (((HT.out.putC (c' := #[.int .i64 r1, .int .i64 0, .bool false]) 0 _ rfl).putC (c' := #[.int .i64 r1, .int .i64 r2, .bool false]) 1 _ rfl).putC (c' := #[.int .i64 r1, .int .i64 r2, .bool r3]) 2 _ rfl).hW⟩
 ·subst k3
  rw [if_neg (by decide), if_neg (by decide), if_pos rfl] at h
  obtain ⟨⟨n0, n1, n2, mo⟩, hn, h⟩ := Option.bind_eq_some_iff.1 h
  simp only [Option.some.injEq, Prod.mk.injEq] at h
  obtain ⟨rfl, rfl, rfl, h4⟩ := h
  have FW := Aside0.mk hn
  clear hn
  obtain ⟨m2, hm2⟩ : ∃ m2, (if wrap64 (c + mo) < 0 then 0 else wrap64 (c + mo)) = m2 := ⟨_, rfl⟩
  rw [mx_if, hm2, mn_if] at h4
  go_upto_region 9 with (fail)
  go_cut [14, 15] (fun v14 v15 wc => ∃ G : Nat, v14 = .pointer (some ⟨G, 0, none⟩) ∧ v15 = .int .i64 mo ∧ Aside0 (Tri w wc #[.int .i64 3, .int .i64 a0_1, .slice A0_2 l0_2.length c0_2, .int .i64 a0_3, .int .i64 a0_4, .int .i64 a0_5, .int .i64 a0_6, .slice A0_7 l0_7.length c0_7] #[.int .i64 a1_0, .int .i64 a1_1, .bool a1_2] #[.int .i64 0, .int .i64 0, .bool false] 27 29 29) ∧ Aside0 (wc.heap[G]? = some (.cells #[.int .i64 n0, .int .i64 n1, .bool n2] 29 (0, 0))))
  case first =>
   go_wp2_with (go_at_call 55; refine (governorref12_Next.calls _ _ _ _ _ _ _ _ _ _ _ _ _ _ _ _ _ _ _ _ _ (Kd.C_below HR2.out HT.out.hW) HC2.out (Kd.C_below HR7.out HT.out.hW) HC7.out FW.out).mono ?_; rintro e_ w1 ⟨rfl, hb⟩; replace HT := Aside0.mk (HT.out.below hb); clear hb xa xb xc fc)
   go_meet
   exact ⟨w1.heap.size, rfl, rfl, ⟨HT.out.below (below_alloc (Below.refl _ _) _)⟩, ⟨blk_new w1 _⟩⟩
  case rest =>
   obtain ⟨G, rfl, rfl, HT, HG⟩ := hcut
   have xa := blk_cell HT.out.hA
   have xb := blk_cell HT.out.hB
   have xc := blk_cell HT.out.hC
   have fc := blk_frozen HT.out.hC
   have xg := blk_cell HG.out
   go_wp2
   refine bodyPost_ret (results_ct rfl _ _ (w.heap.size + 1 + 1) 29 _ (0, 0) _ rfl (((HT.out.putC (c' := #[.int .i64 n0, .int .i64 0, .bool false]) 0 _ rfl).putC (c' := #[.int .i64 n0, .int .i64 n1, .bool false]) 1 _ rfl).putC (c' := #[.int .i64 n0, .int .i64 n1, .bool n2]) 2 _ rfl).hC hu1 rfl (by kernel_rfl)) rfl ?_
   exact ⟨by rw [← h4]; rfl, (((HT.out.putC (c' := #[.int .i64 n0, .int .i64 0, .bool false]) 0 _ rfl).putC (c' := #[.int .i64 n0, .int .i64 n1, .bool false]) 1 _ rfl).putC (c' := #[.int .i64 n0, .int .i64 n1, .bool n2]) 2 _ rfl).hW⟩
/-! ### governorref16_sized: function 57 -/
mutual
def governorref16_sized.j0 : Nat → Int → Int → List Int → Bool → Int → List Int → Int → Int → Option (Int × List Int × Int × Int)
 | 0, _, _, _, _, _, _, _, _ => none
 | k + 1, x0, x7, x8, x25, x211000, x211001, x211002, x211003 => if x25 = true then (some (wrap64 (x211000 + x7), x8, x211002, 0)) else (if x7 ≥ 0 then (governorref16_sized.l0 k x0 x7 x8 x211000 x211001 x211002 x211003) else (governorref16_sized.l1 k x8 (wrap64 (-x7)) (wrap64 ((x8.length : Int) - 1)) x211000 x211001 x211002 x211003))
def governorref16_sized.l0 : Nat → Int → Int → List Int → Int → List Int → Int → Int → Option (Int × List Int × Int × Int)
 | 0, _, _, _, _, _, _, _ => none
 | k + 1, x0, x7, x8, x211000, x211001, x211002, x211003 => if (x8.length : Int) < x0 then (if x8.length < 17592186044416 then (governorref16_sized.l0 k x0 x7 (x8 ++ [0]) x211000 x211001 x211002 x211003) else (none)) else (if 0 ≤ (wrap64 (x0 - 1)) then (if (wrap64 (x0 - 1)) < (x8.length : Int) then (some (x211000, (x8.set ((wrap64 (x0 - 1)) : Int).toNat (wrap64 ((rd x8 (wrap64 (x0 - 1))) + x7))), x211002, 0)) else (none)) else (none))
def governorref16_sized.l1 : Nat → List Int → Int → Int → Int → List Int → Int → Int → Option (Int × List Int × Int × Int)
 | 0, _, _, _, _, _, _, _ => none
 | k + 1, x8, x9, x10, x211000, x211001, x211002, x211003 => if x10 ≥ 0 then (if 0 ≤ x10 then (if x10 < (x8.length : Int) then (governorref16_sized.l1 k (x8.set (x10 : Int).toNat (wrap64 ((rd x8 x10) - (mn (rd x8 x10) x9)))) (wrap64 (x9 - (mn (rd x8 x10) x9))) (wrap64 (x10 - 1)) x211000 x211001 x211002 x211003) else (none)) else (none)) else (some (wrap64 (x211000 - x9), x8, x211002, 0))
end
def governorref16_sized.f (k : Nat) (a0 : Int) (a1_0 : Int) (l1_1 : List Int) (a1_2 : Int) (a1_3 : Int) (a2 : Int) : Option (Int × List Int × Int × Int) := (governorref16_All.f a1_0 l1_1 a1_2 a1_3).bind fun t212 => ((some (([] : List Int) : List Int)).bind fun y213 => (if y213.length + l1_1.length < 17592186044416 then ((some (y213 ++ l1_1 : List Int)).bind fun y216 => (if (wrap64 (a2 - t212)) ≥ 0 then (governorref16_sized.j0 k a0 (wrap64 (a2 - t212)) y216 (a0 == 0) a1_0 l1_1 a1_2 a1_3) else (governorref16_sized.j0 k a0 (wrap64 (a2 - t212)) y216 false a1_0 l1_1 a1_2 a1_3))) else (none)))
set_option maxHeartbeats 8000000 in
set_option maxRecDepth 100000 in
theorem governorref16_sized.calls (k : Nat) (a0 : Int) (a1_0 : Int) (A1_1 : Option Addr) (c1_1 : Nat) (l1_1 : List Int) (a1_2 : Int) (a1_3 : Int) (a2 : Int) (r1 : Int) (r2 : List Int) (r3 : Int) (r4 : Int) (w : World) (hr1_1 : Kd.C (Kd.int .i64) w A1_1 l1_1.length l1_1) (hc1_1 : l1_1.length ≤ c1_1) (h : governorref16_sized.f k a0 a1_0 l1_1 a1_2 a1_3 a2 = some (r1, r2, r3, r4)) :
  Calls Try.prog 57 #[.int .i64 a0, .agg #[.int .i64 a1_0, .slice A1_1 l1_1.length c1_1, .int .i64 a1_2, .int .i64 a1_3], .int .i64 a2] w fun e w' => ∃ v1_ : Value, e = .returned (.agg #[.int .i64 r1, v1_, .int .i64 r3, .int .i64 r4]) ∧ Kd.R (Kd.int .i64) 3 w' w.heap.size (fun _ => True) v1_ r2 ∧ Below w.heap.size w w' := by
 have hu34 := Try.underlying34
 have HR1_1 := Aside0.mk hr1_1
 have HC1_1 := Aside0.mk hc1_1
 clear hr1_1 hc1_1
 have HB := Aside0.mk (Below.refl w.heap.size w)
 have H : ((governorref16_All.f a1_0 l1_1 a1_2 a1_3).bind fun t212 => ((some (([] : List Int) : List Int)).bind fun y213 => (if y213.length + l1_1.length < 17592186044416 then ((some (y213 ++ l1_1 : List Int)).bind fun y216 => (if (wrap64 (a2 - t212)) ≥ 0 then (governorref16_sized.j0 k a0 (wrap64 (a2 - t212)) y216 (a0 == 0) a1_0 l1_1 a1_2 a1_3) else (governorref16_sized.j0 k a0 (wrap64 (a2 - t212)) y216 false a1_0 l1_1 a1_2 a1_3))) else (none)))) = some (r1, r2, r3, r4) := h
 clear h
 replace H := Option.bind_eq_some_iff.mp H
 obtain ⟨t212, A40, H⟩ := H
 replace H : ((some (([] : List Int) : List Int)).bind fun y213 => (if y213.length + l1_1.length < 17592186044416 then ((some (y213 ++ l1_1 : List Int)).bind fun y216 => (if (wrap64 (a2 - t212)) ≥ 0 then (governorref16_sized.j0 k a0 (wrap64 (a2 - t212)) y216 (a0 == 0) a1_0 l1_1 a1_2 a1_3) else (governorref16_sized.j0 k a0 (wrap64 (a2 - t212)) y216 false a1_0 l1_1 a1_2 a1_3))) else (none))) = some (r1, r2, r3, r4) := H
 have A4 := Aside0.mk A40
 clear A40
 obtain ⟨y213, hy213⟩ : ∃ y_ : List Int, y_ = (([] : List Int)) := ⟨_, rfl⟩
 replace H : (if y213.length + l1_1.length < 17592186044416 then ((some (y213 ++ l1_1 : List Int)).bind fun y216 => (if (wrap64 (a2 - t212)) ≥ 0 then (governorref16_sized.j0 k a0 (wrap64 (a2 - t212)) y216 (a0 == 0) a1_0 l1_1 a1_2 a1_3) else (governorref16_sized.j0 k a0 (wrap64 (a2 - t212)) y216 false a1_0 l1_1 a1_2 a1_3))) else (none)) = some (r1, r2, r3, r4) := by first | (rw [hy213]; with_reducible exact H) | (have H2_ := (Option.bind_some _ _).symm.trans H; rw [hy213]; with_reducible exact H2_) | (have H2_ := (Option.bind_some _ _).symm.trans H; with_reducible exact H2_) | with_reducible exact H | (rw [hy213]; exact H) | exact H
 have Ny213 := Aside0.mk hy213
 clear hy213
 by_cases c5 : y213.length + l1_1.length < 17592186044416
 ·rw [if_pos c5] at H
  have LMc5 := Aside0.mk c5
  clear c5
  obtain ⟨y216, hy216⟩ : ∃ y_ : List Int, y_ = (y213 ++ l1_1) := ⟨_, rfl⟩
  replace H : (if (wrap64 (a2 - t212)) ≥ 0 then (governorref16_sized.j0 k a0 (wrap64 (a2 - t212)) y216 (a0 == 0) a1_0 l1_1 a1_2 a1_3) else (governorref16_sized.j0 k a0 (wrap64 (a2 - t212)) y216 false a1_0 l1_1 a1_2 a1_3)) = some (r1, r2, r3, r4) := by first | (rw [hy216]; with_reducible exact H) | (have H2_ := (Option.bind_some _ _).symm.trans H; rw [hy216]; with_reducible exact H2_) | (have H2_ := (Option.bind_some _ _).symm.trans H; with_reducible exact H2_) | with_reducible exact H | (rw [hy216]; exact H) | exact H
  have Ny216 := Aside0.mk hy216
  clear hy216
  have HC6 := Aside0.mk H
  clear H
  go_enter Try.func57, Try.ntmps57
  go_upto_region 3 with (first | ((with_reducible refine gate_dst (N := 4) rfl ?_); refine box_event ?hg (N := 4) ?hd (cs := #[.int .i64 a1_0, .slice A1_1 l1_1.length c1_1, .int .i64 a1_2, .int .i64 a1_3]) (t := 34) ?hr ?_; (case hd => rfl); (case hg => rfl); (case hr => first | (go_simp; done) | (go_simp; rfl)); intro gb210 hg w7 hbox hb; have n0_ := Aside0.mk (below_step (by repeat (first | (with_reducible first | exact HB.out | apply below_alloc | apply pw_below_drewN | apply below_drew1) | exact HB.out)) hb); have n1_ := Aside0.mk (hbox); have n2_ := Aside0.mk ((by rw [hg]; exact (below_size (by repeat (first | (with_reducible first | exact HB.out | apply below_alloc | apply pw_below_drewN | apply below_drew1) | exact HB.out))) : w.heap.size ≤ gb210)); have n3_ := Aside0.mk ((by rw [hg]; exact (below_size (by repeat (first | (with_reducible first | exact HB.out | apply below_alloc | apply pw_below_drewN | apply below_drew1) | exact HB.out))) : w.heap.size ≤ gb210)); clear HB; have HB := n0_; have BK210 := n1_; have GW210 := n2_; have GE210 := n3_; clear n0_ n1_ n2_ n3_; clear hb hbox hg) | ((with_reducible refine gate_dst (N := 6) rfl ?_); refine box_event ?hg (N := 6) ?hd (cs := #[.int .i64 0, .slice none 0 0, .int .i64 0, .int .i64 0]) (t := 34) ?hr ?_; (case hd => rfl); (case hg => rfl); (case hr => first | (go_simp; done) | (go_simp; rfl)); intro gb211 hg w8 hbox hb; have n0_ := Aside0.mk (blk_below (g := gb210) (o := .cells #[.int .i64 a1_0, .slice A1_1 l1_1.length c1_1, .int .i64 a1_2, .int .i64 a1_3] 34 (0, 0)) (by (with_reducible repeat (first | refine blk_drewN ?_ _ | refine blk_drew ?_ | refine blk_alloc ?_ _)); exact BK210.out) hb); have n1_ := Aside0.mk (below_step (by repeat (first | (with_reducible first | exact HB.out | apply below_alloc | apply pw_below_drewN | apply below_drew1 | refine below_set ?_ GE210.out) | exact HB.out)) hb); have n2_ := Aside0.mk (hbox); have n3_ := Aside0.mk ((by rw [hg]; exact (below_size (by repeat (first | (with_reducible first | exact HB.out | apply below_alloc | apply pw_below_drewN | apply below_drew1 | refine below_set ?_ GE210.out) | exact HB.out))) : w.heap.size ≤ gb211)); have n4_ := Aside0.mk ((by rw [hg]; exact (below_size (by repeat (first | (with_reducible first | exact HB.out | apply below_alloc | apply pw_below_drewN | apply below_drew1 | refine below_set ?_ GE210.out) | exact HB.out))) : w.heap.size ≤ gb211)); have n5_ := Aside0.mk ((by rw [hg]; exact Nat.ne_of_lt (blk_lt (g := gb210) (o := .cells #[.int .i64 a1_0, .slice A1_1 l1_1.length c1_1, .int .i64 a1_2, .int .i64 a1_3] 34 (0, 0)) (by (with_reducible repeat (first | refine blk_drewN ?_ _ | refine blk_drew ?_ | refine blk_alloc ?_ _)); exact BK210.out)) : gb210 ≠ gb211)); have n6_ := Aside0.mk ((by rw [hg]; exact Nat.ne_of_gt (blk_lt (g := gb210) (o := .cells #[.int .i64 a1_0, .slice A1_1 l1_1.length c1_1, .int .i64 a1_2, .int .i64 a1_3] 34 (0, 0)) (by (with_reducible repeat (first | refine blk_drewN ?_ _ | refine blk_drew ?_ | refine blk_alloc ?_ _)); exact BK210.out)) : gb211 ≠ gb210)); clear BK210; clear HB; have BK210 := n0_; have HB := n1_; have BK211 := n2_; have GW211 := n3_; have GE211 := n4_; have NB210_211 := n5_; have NB211_210 := n6_; clear n0_ n1_ n2_ n3_ n4_ n5_ n6_; clear hb hbox hg; have hnb9 := NB210_211.out; have hnc9 := NB211_210.out; have hcz10_0 : w8.cell? ⟨gb210, 0, none⟩ = some (.int .i64 a1_0) := (blk_cell BK210.out 0).trans rfl; have hcz10_1 : w8.cell? ⟨gb210, 1, none⟩ = some (.slice A1_1 l1_1.length c1_1) := (blk_cell BK210.out 1).trans rfl; have hcz10_2 : w8.cell? ⟨gb210, 2, none⟩ = some (.int .i64 a1_2) := (blk_cell BK210.out 2).trans rfl; have hcz10_3 : w8.cell? ⟨gb210, 3, none⟩ = some (.int .i64 a1_3) := (blk_cell BK210.out 3).trans rfl; have hfz10_0 := blk_frozen BK210.out 0; have hfz10_1 := blk_frozen BK210.out 1; have hfz10_2 := blk_frozen BK210.out 2; have hfz10_3 := blk_frozen BK210.out 3) | ((with_reducible refine gate_callee (f := 47) rfl ?_); refine goesL_ (some 14) rfl rfl Try.func47 (by kernel_rfl) rfl #[.agg #[.int .i64 a1_0, .slice A1_1 l1_1.length c1_1, .int .i64 a1_2, .int .i64 a1_3]] rfl (by (try simp only [List.map_toArray, List.map_cons, List.map_nil]); first | done | rfl | (simp only [List.length_drop, List.length_take]; rfl)) ?_; (with_reducible refine (governorref16_All.calls a1_0 _ _ l1_1 a1_2 a1_3 t212 _ ?side1 ?side2 A4.out).mono ?_); (case side1 => repeat (first | exact (Kd.C_below HR1_1.out HB.out) | (with_reducible refine Kd.C_alloc ?_ _) | (with_reducible refine Kd.C_drewN ?_ _) | (with_reducible refine Kd.C_drew ?_))); (case side2 => exact HC1_1.out); rintro e w11 ⟨rfl, hb⟩; refine ⟨_, rfl, ?_⟩; have n0_ := Aside0.mk (blk_below (g := gb210) (o := .cells #[.int .i64 a1_0, .slice A1_1 l1_1.length c1_1, .int .i64 a1_2, .int .i64 a1_3] 34 (0, 0)) (by (with_reducible repeat (first | refine blk_drewN ?_ _ | refine blk_drew ?_ | refine blk_alloc ?_ _)); exact BK210.out) hb); have n1_ := Aside0.mk (blk_below (g := gb211) (o := .cells #[.int .i64 0, .slice none 0 0, .int .i64 0, .int .i64 0] 34 (0, 0)) (by (with_reducible repeat (first | refine blk_drewN ?_ _ | refine blk_drew ?_ | refine blk_alloc ?_ _)); exact BK211.out) hb); have n2_ := Aside0.mk (below_step (by repeat (first | (with_reducible first | exact HB.out | apply below_alloc | apply pw_below_drewN | apply below_drew1 | refine below_set ?_ GE210.out | refine below_set ?_ GE211.out) | exact HB.out)) hb); clear BK210; clear BK211; clear HB; have BK210 := n0_; have BK211 := n1_; have HB := n2_; clear n0_ n1_ n2_; (try clear hb); (try clear hb2); (try clear hk); (try clear hi)) | ((with_reducible refine gate_dst (N := 16) rfl ?_); refine Kd.R_lit (Kd.int .i64) _ 3 ?hg (N := 16) ?hd (xs := ([] : List Int)) (inner := []) (ok := fun _ => True) (okp := fun _ => True) ?hr ?hp (fun _ hk => hk) trivial (Below.refl _ _) (Nat.le_refl _) (by simp) ?_; (case hd => rfl); (case hg => rfl); (case hr => first | (go_simp; done) | (go_simp; rfl)); (case hp => exact (Reps.none _ _)); intro v214 w12 ho13 hb hg_ hnew_; clear hg_ hnew_; (first | rw [← Ny213.out] at ho13 | (simp only [Int.reduceToNat] at ho13; rw [← Ny213.out] at ho13)); have n0_ := Aside0.mk (Kd.R_lower ho13 (below_size (by repeat (first | (with_reducible first | exact HB.out | apply below_alloc | apply pw_below_drewN | apply below_drew1 | refine below_set ?_ GE210.out | refine below_set ?_ GE211.out) | exact HB.out)))); have n1_ := Aside0.mk (blk_below (g := gb210) (o := .cells #[.int .i64 a1_0, .slice A1_1 l1_1.length c1_1, .int .i64 a1_2, .int .i64 a1_3] 34 (0, 0)) (by (with_reducible repeat (first | refine blk_drewN ?_ _ | refine blk_drew ?_ | refine blk_alloc ?_ _)); exact BK210.out) hb); have n2_ := Aside0.mk (blk_below (g := gb211) (o := .cells #[.int .i64 0, .slice none 0 0, .int .i64 0, .int .i64 0] 34 (0, 0)) (by (with_reducible repeat (first | refine blk_drewN ?_ _ | refine blk_drew ?_ | refine blk_alloc ?_ _)); exact BK211.out) hb); have n3_ := Aside0.mk (below_step (by repeat (first | (with_reducible first | exact HB.out | apply below_alloc | apply pw_below_drewN | apply below_drew1 | refine below_set ?_ GE210.out | refine below_set ?_ GE211.out) | exact HB.out)) hb); clear BK210; clear BK211; clear HB; have HO215 := n0_; have BK210 := n1_; have BK211 := n2_; have HB := n3_; clear n0_ n1_ n2_ n3_; clear hb ho13; have hcz14_0 : w12.cell? ⟨gb210, 0, none⟩ = some (.int .i64 a1_0) := (blk_cell BK210.out 0).trans rfl; have hcz14_1 : w12.cell? ⟨gb210, 1, none⟩ = some (.slice A1_1 l1_1.length c1_1) := (blk_cell BK210.out 1).trans rfl; have hcz14_2 : w12.cell? ⟨gb210, 2, none⟩ = some (.int .i64 a1_2) := (blk_cell BK210.out 2).trans rfl; have hcz14_3 : w12.cell? ⟨gb210, 3, none⟩ = some (.int .i64 a1_3) := (blk_cell BK210.out 3).trans rfl; have hfz14_0 := blk_frozen BK210.out 0; have hfz14_1 := blk_frozen BK210.out 1; have hfz14_2 := blk_frozen BK210.out 2; have hfz14_3 := blk_frozen BK210.out 3) | ((with_reducible refine gate_builtin (b := .append) (xs := #[.tmp 16, .tmp 18]) rfl ?_); at_builtin; refine Kd.R_append_rows (Kd.int .i64) (w0 := w) w.heap.size rfl (.tmp 16) (.tmp 18) 32 3 (.int .i64 0) 8 rfl Try.underlying32 info3 rfl (by decide) (by omega) v214 y213 l1_1 _ _ _ (fun _ => True) (fun _ => False) rfl rfl ?aO ?aR (fun _ _ h => h) (fun _ h => h.elim) ?aF ?aB ?aS ?aL ?_; (case aR => repeat (first | exact (Kd.C_below HR1_1.out HB.out) | (with_reducible refine Kd.C_alloc ?_ _) | (with_reducible refine Kd.C_drewN ?_ _) | (with_reducible refine Kd.C_drew ?_))); (case aB => exact (by repeat (first | (with_reducible first | exact HB.out | apply below_alloc | apply pw_below_drewN | apply below_drew1 | refine below_set ?_ GE210.out | refine below_set ?_ GE211.out) | exact HB.out))); (case aF => exact (fun _ _ => trivial)); (case aO => exact (by (with_reducible repeat (first | apply Kd.R_alloc | apply Kd.R_drewN | apply Kd.R_drew)); exact HO215.out)); (case aS => exact (below_size (by repeat (first | (with_reducible first | exact HB.out | apply below_alloc | apply pw_below_drewN | apply below_drew1 | refine below_set ?_ GE210.out | refine below_set ?_ GE211.out) | exact HB.out)))); (case aL => have := LMc5.out; omega); intro v217 w15 ho hb hg hat; rw [← Ny216.out] at ho; have n0_ := Aside0.mk (blk_grown (g := gb210) (o := .cells #[.int .i64 a1_0, .slice A1_1 l1_1.length c1_1, .int .i64 a1_2, .int .i64 a1_3] 34 (0, 0)) (by (with_reducible repeat (first | refine blk_drewN ?_ _ | refine blk_drew ?_ | refine blk_alloc ?_ _)); exact BK210.out) hg (Kd.R_ne HO215.out BK210.out (by decide))); have n1_ := Aside0.mk (blk_grown (g := gb211) (o := .cells #[.int .i64 0, .slice none 0 0, .int .i64 0, .int .i64 0] 34 (0, 0)) (by (with_reducible repeat (first | refine blk_drewN ?_ _ | refine blk_drew ?_ | refine blk_alloc ?_ _)); exact BK211.out) hg (Kd.R_ne HO215.out BK211.out (by decide))); have n2_ := Aside0.mk (hb); have n3_ := Aside0.mk (ho); clear BK210; clear BK211; clear HB; clear HO215; have BK210 := n0_; have BK211 := n1_; have HB := n2_; have HO218 := n3_; clear n0_ n1_ n2_ n3_; clear ho hb hg hat))
  (try simp only [Act.put, List.setIfInBounds_toArray, List.set_cons_zero, List.set_cons_succ])
  go_cut [25] (fun v25 wc => ∃ (kq : Nat) (x25_5 : Bool), v25 = .bool x25_5 ∧ Aside0 (governorref16_sized.j0 kq a0 (wrap64 (a2 - t212)) y216 x25_5 a1_0 l1_1 a1_2 a1_3 = some (r1, r2, r3, r4)) ∧ Aside0 (kq ≤ k) ∧ Aside0 (Kd.R (Kd.int .i64) 3 wc w.heap.size (fun _ => True) v217 y216) ∧ Aside0 (wc.heap[gb210]? = some (.cells #[.int .i64 a1_0, (.slice A1_1 l1_1.length c1_1), .int .i64 a1_2, .int .i64 a1_3] 34 (0, 0))) ∧ Aside0 (wc.heap[gb211]? = some (.cells #[.int .i64 0, (.slice none 0 0), .int .i64 0, .int .i64 0] 34 (0, 0))) ∧ Aside0 (Below w.heap.size w wc))
  case first =>
   have H := HC6.out
   clear HC6
   by_cases c16 : (wrap64 (a2 - t212)) ≥ 0
   ·rw [if_pos c16] at H
    have c16b0 : decide (0 ≤ (wrap64 (a2 - t212))) = true := decide_eq_true c16
    clear c16
    (first | rw [c16b0] | rw [c16b1] | (simp only [i64_w, i32_w]; rw [c16b0]) | skip)
    have H' := Aside0.mk H
    clear H
    go_wp2
    go_meet
    case rel => exact ⟨_, ((a0 == 0)), (by first | rfl | (simp; done) | (simp [*]; done)), H', ⟨by first | omega | exact Nat.le_refl _⟩, ⟨by (with_reducible repeat (first | apply Kd.R_alloc | apply Kd.R_drewN | apply Kd.R_drew)); exact HO218.out⟩, ⟨by (with_reducible repeat (first | refine blk_drewN ?_ _ | refine blk_drew ?_ | refine blk_alloc ?_ _)); exact BK210.out⟩, ⟨by (with_reducible repeat (first | refine blk_drewN ?_ _ | refine blk_drew ?_ | refine blk_alloc ?_ _)); exact BK211.out⟩, ⟨by repeat (first | (with_reducible first | exact HB.out | apply below_alloc | apply pw_below_drewN | apply below_drew1 | refine below_set ?_ GE210.out | refine below_set ?_ GE211.out) | exact HB.out)⟩⟩
   ·rw [if_neg c16] at H
    have c16b0 : decide (0 ≤ (wrap64 (a2 - t212))) = false := decide_eq_false c16
    clear c16
    (first | rw [c16b0] | rw [c16b1] | (simp only [i64_w, i32_w]; rw [c16b0]) | skip)
    have H' := Aside0.mk H
    clear H
    go_wp2
    go_meet
    case rel => exact ⟨_, (false), (by first | rfl | (simp; done) | (simp [*]; done)), H', ⟨by first | omega | exact Nat.le_refl _⟩, ⟨by (with_reducible repeat (first | apply Kd.R_alloc | apply Kd.R_drewN | apply Kd.R_drew)); exact HO218.out⟩, ⟨by (with_reducible repeat (first | refine blk_drewN ?_ _ | refine blk_drew ?_ | refine blk_alloc ?_ _)); exact BK210.out⟩, ⟨by (with_reducible repeat (first | refine blk_drewN ?_ _ | refine blk_drew ?_ | refine blk_alloc ?_ _)); exact BK211.out⟩, ⟨by repeat (first | (with_reducible first | exact HB.out | apply below_alloc | apply pw_below_drewN | apply below_drew1 | refine below_set ?_ GE210.out | refine below_set ?_ GE211.out) | exact HB.out)⟩⟩
  case rest =>
   clear HC6
   try clear c1
   try clear p2
   try clear c4
   try clear c5
   try clear p6
   try clear c9
   try clear c16
   try clear c16b0
   try clear c16b1
   try clear hcz10_0
   try clear hcz10_1
   try clear hcz10_2
   try clear hcz10_3
   try clear hcz14_0
   try clear hcz14_1
   try clear hcz14_2
   try clear hcz14_3
   try clear hfz10_0
   try clear hfz10_1
   try clear hfz10_2
   try clear hfz10_3
   try clear hfz14_0
   try clear hfz14_1
   try clear hfz14_2
   try clear hfz14_3
   obtain ⟨kq, x25_5, rfl, HA, HJ5, HO_8, BK210, BK211, HB⟩ := hcut
   cases kq with
   | zero => exact absurd HA.out (by simp [governorref16_sized.j0])
   | succ kj5 =>
    have H := HA.out
    clear HA
    simp only [governorref16_sized.j0] at H
    by_cases c17 : x25_5 = true
    ·subst c17
     have H1 : (some (wrap64 (a1_0 + (wrap64 (a2 - t212))), y216, a1_2, 0)) = some (r1, r2, r3, r4) := by rw [if_pos rfl] at H; exact H
     clear H
     have H := H1
     clear H1
     simp only [Option.some.injEq, Prod.mk.injEq] at H
     obtain ⟨rfl, rfl, rfl, rfl⟩ := H
     have hnb18 := NB210_211.out
     have hnc18 := NB211_210.out
     have hcz19_0 : wc.cell? ⟨gb210, 0, none⟩ = some (.int .i64 a1_0) := (blk_cell BK210.out 0).trans rfl
     have hcz19_1 : wc.cell? ⟨gb210, 1, none⟩ = some (.slice A1_1 l1_1.length c1_1) := (blk_cell BK210.out 1).trans rfl
     have hcz19_2 : wc.cell? ⟨gb210, 2, none⟩ = some (.int .i64 a1_2) := (blk_cell BK210.out 2).trans rfl
     have hcz19_3 : wc.cell? ⟨gb210, 3, none⟩ = some (.int .i64 a1_3) := (blk_cell BK210.out 3).trans rfl
     have hfz19_0 := blk_frozen BK210.out 0
     have hfz19_1 := blk_frozen BK210.out 1
     have hfz19_2 := blk_frozen BK210.out 2
     have hfz19_3 := blk_frozen BK210.out 3
     obtain ⟨Ao20, co20, eo20⟩ := Kd.R_slice HO_8.out
     subst eo20
     have hcz21_0 : wc.cell? ⟨gb211, 0, none⟩ = some (.int .i64 0) := (blk_cell BK211.out 0).trans rfl
     have hcz21_1 : wc.cell? ⟨gb211, 1, none⟩ = some (.slice none 0 0) := (blk_cell BK211.out 1).trans rfl
     have hcz21_2 : wc.cell? ⟨gb211, 2, none⟩ = some (.int .i64 0) := (blk_cell BK211.out 2).trans rfl
     have hcz21_3 : wc.cell? ⟨gb211, 3, none⟩ = some (.int .i64 0) := (blk_cell BK211.out 3).trans rfl
     have hfz21_0 := blk_frozen BK211.out 0
     have hfz21_1 := blk_frozen BK211.out 1
     have hfz21_2 := blk_frozen BK211.out 2
     have hfz21_3 := blk_frozen BK211.out 3
     go_wp2
     refine bodyPost_ret (results_cell_row rfl _ _ gb211 34 #[.int .i64 (wrap64 (a1_0 + (wrap64 (a2 - t212)))), .slice Ao20 y216.length co20, .int .i64 a1_2, .int .i64 0] (0, 0) _ rfl (by (with_reducible repeat (first | refine blk_drewN ?_ _ | refine blk_drew ?_ | refine blk_alloc ?_ _)); refine blk_put (cs := #[.int .i64 (wrap64 (a1_0 + (wrap64 (a2 - t212)))), .slice Ao20 y216.length co20, .int .i64 a1_2, .int .i64 0]) ?_ 3 _ rfl; (with_reducible repeat (first | refine blk_drewN ?_ _ | refine blk_drew ?_ | refine blk_alloc ?_ _)); refine blk_put (cs := #[.int .i64 (wrap64 (a1_0 + (wrap64 (a2 - t212)))), .slice Ao20 y216.length co20, .int .i64 0, .int .i64 0]) ?_ 2 _ rfl; (with_reducible repeat (first | refine blk_drewN ?_ _ | refine blk_drew ?_ | refine blk_alloc ?_ _)); refine blk_put (cs := #[.int .i64 (wrap64 (a1_0 + (wrap64 (a2 - t212)))), .slice none 0 0, .int .i64 0, .int .i64 0]) ?_ 1 _ rfl; (with_reducible repeat (first | refine blk_drewN ?_ _ | refine blk_drew ?_ | refine blk_alloc ?_ _)); refine blk_put (cs := #[.int .i64 0, .slice none 0 0, .int .i64 0, .int .i64 0]) ?_ 0 _ rfl; (with_reducible repeat (first | refine blk_drewN ?_ _ | refine blk_drew ?_ | refine blk_alloc ?_ _)); exact BK211.out) Try.underlying34 rfl (by kernel_rfl)) rfl ?_
     exact ⟨_, by first | rfl | (simp [errW_none, errW_some] <;> rfl) | (simp [*, errW_none, errW_some] <;> rfl), by (with_reducible repeat (first | apply Kd.R_alloc | apply Kd.R_drewN | apply Kd.R_drew)); exact Kd.R_mono (Kd.R_far (p := ⟨gb211, 3, none⟩) (Kd.R_far (p := ⟨gb211, 2, none⟩) (Kd.R_far (p := ⟨gb211, 1, none⟩) (Kd.R_far (p := ⟨gb211, 0, none⟩) (Kd.R_types HO_8.out BK211.out (by decide)) (fun _ hk => hk.2) (.int .i64 (wrap64 (a1_0 + (wrap64 (a2 - t212)))))) (fun _ hk => hk.2) (.slice Ao20 y216.length co20)) (fun _ hk => hk.2) (.int .i64 a1_2)) (fun _ hk => hk.2) (.int .i64 0)) (fun _ hk => trivial), by repeat (first | (with_reducible first | exact HB.out | apply below_alloc | apply pw_below_drewN | apply below_drew1 | refine below_set ?_ GE210.out | refine below_set ?_ GE211.out) | exact HB.out)⟩
    ·replace c17 := Bool.eq_false_iff.mpr c17
     subst c17
     have H1 : (if (wrap64 (a2 - t212)) ≥ 0 then (governorref16_sized.l0 kj5 a0 (wrap64 (a2 - t212)) y216 a1_0 l1_1 a1_2 a1_3) else (governorref16_sized.l1 kj5 y216 (wrap64 (-(wrap64 (a2 - t212)))) (wrap64 ((y216.length : Int) - 1)) a1_0 l1_1 a1_2 a1_3)) = some (r1, r2, r3, r4) := by rw [if_neg (show ¬ (false = true) by decide)] at H; exact H
     clear H
     have H := H1
     clear H1
     by_cases c22 : (wrap64 (a2 - t212)) ≥ 0
     ·rw [if_pos c22] at H
      have c22b0 : decide (0 ≤ (wrap64 (a2 - t212))) = true := decide_eq_true c22
      clear c22
      have H' := Aside0.mk H
      clear H
      go_wp2
      go_loopg [8] kj5 (fun kq v8 w' => ∃ (x8_2 : List Int), Aside0 (governorref16_sized.l0 kq a0 (wrap64 (a2 - t212)) x8_2 a1_0 l1_1 a1_2 a1_3 = some (r1, r2, r3, r4)) ∧ Aside0 (kq ≤ kj5) ∧ Aside0 (Kd.R (Kd.int .i64) 3 w' w.heap.size (fun _ => True) v8 x8_2) ∧ Aside0 (w'.heap[gb210]? = some (.cells #[.int .i64 a1_0, (.slice A1_1 l1_1.length c1_1), .int .i64 a1_2, .int .i64 a1_3] 34 (0, 0))) ∧ Aside0 (w'.heap[gb211]? = some (.cells #[.int .i64 0, (.slice none 0 0), .int .i64 0, .int .i64 0] 34 (0, 0))) ∧ Aside0 (Below w.heap.size w w'))
      case atStart => exact ⟨(y216), H', ⟨Nat.le_refl _⟩, ⟨by (with_reducible repeat (first | apply Kd.R_alloc | apply Kd.R_drewN | apply Kd.R_drew)); exact HO_8.out⟩, ⟨by (with_reducible repeat (first | refine blk_drewN ?_ _ | refine blk_drew ?_ | refine blk_alloc ?_ _)); exact BK210.out⟩, ⟨by (with_reducible repeat (first | refine blk_drewN ?_ _ | refine blk_drew ?_ | refine blk_alloc ?_ _)); exact BK211.out⟩, ⟨by repeat (first | (with_reducible first | exact HB.out | apply below_alloc | apply pw_below_drewN | apply below_drew1 | refine below_set ?_ GE210.out | refine below_set ?_ GE211.out) | exact HB.out)⟩⟩
      case round =>
       clear H'
       try clear c1
       try clear c2
       try clear p2
       try clear c4
       try clear c5
       try clear p6
       try clear c9
       try clear c16
       try clear c16b0
       try clear c16b1
       try clear c17
       try clear c18
       try clear c22
       try clear c22b0
       try clear hcz10_0
       try clear hcz10_1
       try clear hcz10_2
       try clear hcz10_3
       try clear hcz14_0
       try clear hcz14_1
       try clear hcz14_2
       try clear hcz14_3
       try clear hcz19_0
       try clear hcz19_1
       try clear hcz19_2
       try clear hcz19_3
       try clear hcz21_0
       try clear hcz21_1
       try clear hcz21_2
       try clear hcz21_3
       try clear hfz10_0
       try clear hfz10_1
       try clear hfz10_2
       try clear hfz10_3
       try clear hfz14_0
       try clear hfz14_1
       try clear hfz14_2
       try clear hfz14_3
       try clear hfz19_0
       try clear hfz19_1
       try clear hfz19_2
       try clear hfz19_3
       try clear hfz21_0
       try clear hfz21_1
       try clear hfz21_2
       try clear hfz21_3
       try clear p2
       try clear p6
       obtain ⟨x8_2, HA, HK2, HO_8, BK210, BK211, HB⟩ := hrel
       cases gk with
       | zero => exact absurd HA.out (by simp [governorref16_sized.l0])
       | succ k2 =>
        have H := HA.out
        clear HA
        simp only [governorref16_sized.l0] at H
        by_cases c23 : (x8_2.length : Int) < a0
        ·rw [if_pos c23] at H
         have c23b0 : decide ((x8_2.length : Int) < a0) = true := decide_eq_true c23
         clear c23
         by_cases c24 : x8_2.length < 17592186044416
         ·rw [if_pos c24] at H
          have LMc24 := Aside0.mk c24
          clear c24
          obtain ⟨y219, hy219⟩ : ∃ y_ : List Int, y_ = (x8_2 ++ [0]) := ⟨_, rfl⟩
          replace H : (governorref16_sized.l0 k2 a0 (wrap64 (a2 - t212)) y219 a1_0 l1_1 a1_2 a1_3) = some (r1, r2, r3, r4) := by first | (rw [hy219]; with_reducible exact H) | (have H2_ := (Option.bind_some _ _).symm.trans H; rw [hy219]; with_reducible exact H2_) | (have H2_ := (Option.bind_some _ _).symm.trans H; with_reducible exact H2_) | with_reducible exact H | (rw [hy219]; exact H) | exact H
          have Ny219 := Aside0.mk hy219
          clear hy219
          have H' := Aside0.mk H
          clear H
          obtain ⟨Ao25, co25, eo25⟩ := Kd.R_slice HO_8.out
          subst eo25
          go_wp2_with (first | ((with_reducible refine gate_builtin (b := .append) (xs := #[.tmp 40, .tmp 41]) rfl ?_); at_builtin; refine Kd.R_append (Kd.int .i64) (w0 := w) w.heap.size rfl (.tmp 40) (.tmp 41) 32 3 (.int .i64 0) 8 rfl Try.underlying32 info3 rfl (by decide) (by omega) (.slice Ao25 x8_2.length co25) x8_2 0 [.int .i64 0] (fun _ => True) (fun _ => False) rfl rfl ?aP (fun _ hk => hk.elim) ?aF ?aO ?aB ?aS ?aL ?_; (case aP => exact rfl); (case aB => exact (by repeat (first | (with_reducible first | exact HB.out | apply below_alloc | apply pw_below_drewN | apply below_drew1 | refine below_set ?_ GE210.out | refine below_set ?_ GE211.out) | exact HB.out))); (case aF => exact (fun _ _ => trivial)); (case aO => exact (by (with_reducible repeat (first | apply Kd.R_alloc | apply Kd.R_drewN | apply Kd.R_drew)); exact HO_8.out)); (case aS => exact (below_size (by repeat (first | (with_reducible first | exact HB.out | apply below_alloc | apply pw_below_drewN | apply below_drew1 | refine below_set ?_ GE210.out | refine below_set ?_ GE211.out) | exact HB.out)))); (case aL => have := LMc24.out; omega); intro v220 w26 ho hb hg hat; rw [← Ny219.out] at ho; have n0_ := Aside0.mk (blk_grown (g := gb210) (o := .cells #[.int .i64 a1_0, .slice A1_1 l1_1.length c1_1, .int .i64 a1_2, .int .i64 a1_3] 34 (0, 0)) (by (with_reducible repeat (first | refine blk_drewN ?_ _ | refine blk_drew ?_ | refine blk_alloc ?_ _)); exact BK210.out) hg (Kd.R_ne HO_8.out BK210.out (by decide))); have n1_ := Aside0.mk (blk_grown (g := gb211) (o := .cells #[.int .i64 0, .slice none 0 0, .int .i64 0, .int .i64 0] 34 (0, 0)) (by (with_reducible repeat (first | refine blk_drewN ?_ _ | refine blk_drew ?_ | refine blk_alloc ?_ _)); exact BK211.out) hg (Kd.R_ne HO_8.out BK211.out (by decide))); have n2_ := Aside0.mk (hb); have n3_ := Aside0.mk (ho); clear BK210; clear BK211; clear HB; clear HO_8; have BK210 := n0_; have BK211 := n1_; have HB := n2_; have HO221 := n3_; clear n0_ n1_ n2_ n3_; clear ho hb hg hat))
          go_roundg k2
          case measure => have := HJ5.out; have := HK2.out; omega
          case rel => exact ⟨(y219), H', ⟨by have := HJ5.out; have := HK2.out; omega⟩, ⟨by (with_reducible repeat (first | apply Kd.R_alloc | apply Kd.R_drewN | apply Kd.R_drew)); exact HO221.out⟩, ⟨by (with_reducible repeat (first | refine blk_drewN ?_ _ | refine blk_drew ?_ | refine blk_alloc ?_ _)); exact BK210.out⟩, ⟨by (with_reducible repeat (first | refine blk_drewN ?_ _ | refine blk_drew ?_ | refine blk_alloc ?_ _)); exact BK211.out⟩, ⟨by repeat (first | (with_reducible first | exact HB.out | apply below_alloc | apply pw_below_drewN | apply below_drew1 | refine below_set ?_ GE210.out | refine below_set ?_ GE211.out) | exact HB.out)⟩⟩
         ·rw [if_neg c24] at H
          exact absurd H (by simp)
        ·rw [if_neg c23] at H
         have c23b0 : decide ((x8_2.length : Int) < a0) = false := decide_eq_false c23
         clear c23
         obtain ⟨ji27, hji27⟩ : ∃ j_ : Int, (wrap64 (a0 - 1)) = j_ := ⟨_, rfl⟩
         replace H : (if 0 ≤ (ji27) then (if (ji27) < (x8_2.length : Int) then (some (a1_0, (x8_2.set ((ji27) : Int).toNat (wrap64 ((rd x8_2 (ji27)) + (wrap64 (a2 - t212))))), a1_2, 0)) else (none)) else (none)) = some (r1, r2, r3, r4) := by first | (rw [hji27] at H; exact H) | (simp only [hji27] at H ⊢; exact H)
         have hji27w : (IntKind.i64.wrap (a0 - 1)) = ji27 := (i64_w _).trans hji27
         by_cases c28 : 0 ≤ (ji27)
         ·rw [if_pos c28] at H
          have c28b0 : decide (0 ≤ (ji27)) = true := decide_eq_true c28
          clear c28
          by_cases c29 : (ji27) < (x8_2.length : Int)
          ·rw [if_pos c29] at H
           have c29b0 : decide ((ji27) < (x8_2.length : Int)) = true := decide_eq_true c29
           clear c29
           obtain ⟨y223, hy223⟩ : ∃ y_ : List Int, y_ = (x8_2.set ((ji27) : Int).toNat (wrap64 ((rd x8_2 (ji27)) + (wrap64 (a2 - t212))))) := ⟨_, rfl⟩
           replace H : (some (a1_0, y223, a1_2, 0)) = some (r1, r2, r3, r4) := by first | (rw [hy223]; with_reducible exact H) | (have H2_ := (Option.bind_some _ _).symm.trans H; rw [hy223]; with_reducible exact H2_) | (have H2_ := (Option.bind_some _ _).symm.trans H; with_reducible exact H2_) | with_reducible exact H | (rw [hy223]; exact H) | exact H
           have Ny223 := Aside0.mk hy223
           clear hy223
           simp only [Option.some.injEq, Prod.mk.injEq] at H
           obtain ⟨rfl, rfl, rfl, rfl⟩ := H
           obtain ⟨Ao31, co31, eo31⟩ := Kd.R_slice HO_8.out
           subst eo31
           have p222 : 0 ≤ ((ji27) : Int) := of_decide_eq_true (by first | (with_reducible assumption) | assumption)
           have q222 : (ji27) < (x8_2.length : Int) := of_decide_eq_true (by first | (with_reducible assumption) | assumption)
           obtain ⟨ad222, e222, hx222_0⟩ := Kd.at_int (Kd.R_reads' HO_8.out).2.2 (ji27) p222 q222
           cases e222
           replace p222 := eq_true p222
           replace q222 := eq_true q222
           have p30 : 0 ≤ ((ji27) : Int) := of_decide_eq_true (by first | (with_reducible assumption) | assumption)
           have q30 : ((ji27) : Int) < ((x8_2.length : Int) : Int) := of_decide_eq_true (by first | (with_reducible assumption) | assumption)
           obtain ⟨go30, co30, eo30, gb30, gl30, cl30, HG30⟩ := Kd.R_form HO_8.out (by omega)
           (first | cases eo30 | (injection eo30 with ea_ en_ ec_; (first | subst ea_ | (injection ea_ with ea_; subst ea_)); subst ec_; clear en_))
           have GB30 := Aside0.mk gb30
           have GG30 := Aside0.mk HG30
           clear gb30 gl30 HG30
           (first | simp only [add_plain] at hx222_0 | skip)
           obtain ⟨hx30_0, hf30_0⟩ := Kd.R_celln 0 HO_8.out ((ji27) : Int) p30 q30
           replace p30 := eq_true p30
           replace q30 := eq_true q30
           have HP32 := Kd.R_putg HO_8.out ((ji27) : Int) (wrap64 ((rd x8_2 (ji27)) + (wrap64 (a2 - t212))))
           go_wp2_with (first | ((with_reducible refine gate_store (t := 3) (p := 53) rfl ?_); refine store_event (t := 3) (p := 53) (v := ?vo_w33) (w1 := (wr.setCell ⟨go30, ((ji27) : Int).toNat, none⟩ (.int .i64 (wrap64 ((rd x8_2 (ji27)) + (wrap64 (a2 - t212))))))) ?hg ?ho ?hn ?hr ?_; (case ho => rfl); (case hg => rfl); (case hn => rfl); (case hr => first | (go_simp; done) | (go_simp; rfl)); intro w33 hw; have hg : wr.grownBy w33 (some go30) := (by rw [hw]; exact HP32.2); have hp_ : Kd.R (Kd.int .i64) 3 w33 w.heap.size (fun _ => True) (.slice (some ⟨go30, 0, none⟩) x8_2.length co31) y223 := (by rw [hw, Ny223.out]; exact HP32.1); clear HP32; have n0_ := Aside0.mk (hp_); have n1_ := Aside0.mk (blk_grown (g := gb210) (o := .cells #[.int .i64 a1_0, .slice A1_1 l1_1.length c1_1, .int .i64 a1_2, .int .i64 a1_3] 34 (0, 0)) (by (with_reducible repeat (first | refine blk_drewN ?_ _ | refine blk_drew ?_ | refine blk_alloc ?_ _)); exact BK210.out) hg (Kd.R_ne HO_8.out BK210.out (by decide))); have n2_ := Aside0.mk (blk_grown (g := gb211) (o := .cells #[.int .i64 0, .slice none 0 0, .int .i64 0, .int .i64 0] 34 (0, 0)) (by (with_reducible repeat (first | refine blk_drewN ?_ _ | refine blk_drew ?_ | refine blk_alloc ?_ _)); exact BK211.out) hg (Kd.R_ne HO_8.out BK211.out (by decide))); have n3_ := Aside0.mk ((by rw [hw]; exact below_set (HB.out) GB30.out : Below w.heap.size w w33)); clear HO_8; clear BK210; clear BK211; clear HB; have HO_8 := n0_; have BK210 := n1_; have BK211 := n2_; have HB := n3_; clear n0_ n1_ n2_ n3_; clear hg hw hp_; have hnb34 := NB210_211.out; have hnc34 := NB211_210.out; have hcz35_0 : w33.cell? ⟨gb210, 0, none⟩ = some (.int .i64 a1_0) := (blk_cell BK210.out 0).trans rfl; have hcz35_1 : w33.cell? ⟨gb210, 1, none⟩ = some (.slice A1_1 l1_1.length c1_1) := (blk_cell BK210.out 1).trans rfl; have hcz35_2 : w33.cell? ⟨gb210, 2, none⟩ = some (.int .i64 a1_2) := (blk_cell BK210.out 2).trans rfl; have hcz35_3 : w33.cell? ⟨gb210, 3, none⟩ = some (.int .i64 a1_3) := (blk_cell BK210.out 3).trans rfl; have hfz35_0 := blk_frozen BK210.out 0; have hfz35_1 := blk_frozen BK210.out 1; have hfz35_2 := blk_frozen BK210.out 2; have hfz35_3 := blk_frozen BK210.out 3; have hcz36_0 : w33.cell? ⟨gb211, 0, none⟩ = some (.int .i64 0) := (blk_cell BK211.out 0).trans rfl; have hcz36_1 : w33.cell? ⟨gb211, 1, none⟩ = some (.slice none 0 0) := (blk_cell BK211.out 1).trans rfl; have hcz36_2 : w33.cell? ⟨gb211, 2, none⟩ = some (.int .i64 0) := (blk_cell BK211.out 2).trans rfl; have hcz36_3 : w33.cell? ⟨gb211, 3, none⟩ = some (.int .i64 0) := (blk_cell BK211.out 3).trans rfl; have hfz36_0 := blk_frozen BK211.out 0; have hfz36_1 := blk_frozen BK211.out 1; have hfz36_2 := blk_frozen BK211.out 2; have hfz36_3 := blk_frozen BK211.out 3))
           refine bodyPost_ret (results_cell_row rfl _ _ gb211 34 #[.int .i64 a1_0, .slice (some ⟨go30, 0, none⟩) x8_2.length co31, .int .i64 a1_2, .int .i64 0] (0, 0) _ rfl (by (with_reducible repeat (first | refine blk_drewN ?_ _ | refine blk_drew ?_ | refine blk_alloc ?_ _)); refine blk_put (cs := #[.int .i64 a1_0, .slice (some ⟨go30, 0, none⟩) x8_2.length co31, .int .i64 a1_2, .int .i64 0]) ?_ 3 _ rfl; (with_reducible repeat (first | refine blk_drewN ?_ _ | refine blk_drew ?_ | refine blk_alloc ?_ _)); refine blk_put (cs := #[.int .i64 a1_0, .slice (some ⟨go30, 0, none⟩) x8_2.length co31, .int .i64 0, .int .i64 0]) ?_ 2 _ rfl; (with_reducible repeat (first | refine blk_drewN ?_ _ | refine blk_drew ?_ | refine blk_alloc ?_ _)); refine blk_put (cs := #[.int .i64 a1_0, .slice none 0 0, .int .i64 0, .int .i64 0]) ?_ 1 _ rfl; (with_reducible repeat (first | refine blk_drewN ?_ _ | refine blk_drew ?_ | refine blk_alloc ?_ _)); refine blk_put (cs := #[.int .i64 0, .slice none 0 0, .int .i64 0, .int .i64 0]) ?_ 0 _ rfl; (with_reducible repeat (first | refine blk_drewN ?_ _ | refine blk_drew ?_ | refine blk_alloc ?_ _)); exact BK211.out) Try.underlying34 rfl (by kernel_rfl)) rfl ?_
           exact ⟨_, by first | rfl | (simp [errW_none, errW_some] <;> rfl) | (simp only [← hji27]; first | rfl | (simp [errW_none, errW_some] <;> rfl)) | (simp [*, errW_none, errW_some] <;> rfl), by (with_reducible repeat (first | apply Kd.R_alloc | apply Kd.R_drewN | apply Kd.R_drew)); exact Kd.R_mono (Kd.R_far (p := ⟨gb211, 3, none⟩) (Kd.R_far (p := ⟨gb211, 2, none⟩) (Kd.R_far (p := ⟨gb211, 1, none⟩) (Kd.R_far (p := ⟨gb211, 0, none⟩) (Kd.R_types HO_8.out BK211.out (by decide)) (fun _ hk => hk.2) (.int .i64 a1_0)) (fun _ hk => hk.2) (.slice (some ⟨go30, 0, none⟩) x8_2.length co31)) (fun _ hk => hk.2) (.int .i64 a1_2)) (fun _ hk => hk.2) (.int .i64 0)) (fun _ hk => trivial), by repeat (first | (with_reducible first | exact HB.out | apply below_alloc | apply pw_below_drewN | apply below_drew1 | refine below_set ?_ GE210.out | refine below_set ?_ GE211.out) | exact HB.out)⟩
          ·rw [if_neg c29] at H
           exact absurd H (by simp)
         ·rw [if_neg c28] at H
          exact absurd H (by simp)
     ·rw [if_neg c22] at H
      have c22b0 : decide (0 ≤ (wrap64 (a2 - t212))) = false := decide_eq_false c22
      clear c22
      have H' := Aside0.mk H
      clear H
      obtain ⟨Ao37, co37, eo37⟩ := Kd.R_slice HO_8.out
      subst eo37
      go_wp2
      go_loopg [9, 10] kj5 (fun kq v9 v10 w' => ∃ (x8_2 : List Int) (x9_2 : Int) (x10_2 : Int), v9 = .int .i64 x9_2 ∧ v10 = .int .i64 x10_2 ∧ Aside0 (governorref16_sized.l1 kq x8_2 x9_2 x10_2 a1_0 l1_1 a1_2 a1_3 = some (r1, r2, r3, r4)) ∧ Aside0 (kq ≤ kj5) ∧ Aside0 (Kd.R (Kd.int .i64) 3 w' w.heap.size (fun _ => True) (.slice Ao37 y216.length co37) x8_2) ∧ Aside0 (w'.heap[gb210]? = some (.cells #[.int .i64 a1_0, (.slice A1_1 l1_1.length c1_1), .int .i64 a1_2, .int .i64 a1_3] 34 (0, 0))) ∧ Aside0 (w'.heap[gb211]? = some (.cells #[.int .i64 0, (.slice none 0 0), .int .i64 0, .int .i64 0] 34 (0, 0))) ∧ Aside0 (Below w.heap.size w w'))
      case atStart => exact ⟨(y216), (wrap64 (-(wrap64 (a2 - t212)))), (wrap64 ((y216.length : Int) - 1)), (by first | rfl | (simp; done) | (simp [*]; done)), (by first | rfl | (simp; done) | (simp [*]; done)), H', ⟨Nat.le_refl _⟩, ⟨by (with_reducible repeat (first | apply Kd.R_alloc | apply Kd.R_drewN | apply Kd.R_drew)); exact HO_8.out⟩, ⟨by (with_reducible repeat (first | refine blk_drewN ?_ _ | refine blk_drew ?_ | refine blk_alloc ?_ _)); exact BK210.out⟩, ⟨by (with_reducible repeat (first | refine blk_drewN ?_ _ | refine blk_drew ?_ | refine blk_alloc ?_ _)); exact BK211.out⟩, ⟨by repeat (first | (with_reducible first | exact HB.out | apply below_alloc | apply pw_below_drewN | apply below_drew1 | refine below_set ?_ GE210.out | refine below_set ?_ GE211.out) | exact HB.out)⟩⟩
      case round =>
       clear H'
       try clear c1
       try clear c2
       try clear p2
       try clear q2
       try clear hx2
       try clear c3
       try clear p3
       try clear q3
       try clear hx3
       try clear hf3
       try clear c4
       try clear c5
       try clear p6
       try clear c9
       try clear c16
       try clear c16b0
       try clear c16b1
       try clear c17
       try clear c18
       try clear c22
       try clear c22b0
       try clear p22
       try clear q22
       try clear hx22
       try clear c23
       try clear c23b0
       try clear c24
       try clear c28
       try clear c28b0
       try clear c29
       try clear c29b0
       try clear p30
       try clear q30
       try clear hx30
       try clear hf30
       try clear c34
       try clear hcz10_0
       try clear hcz10_1
       try clear hcz10_2
       try clear hcz10_3
       try clear hcz14_0
       try clear hcz14_1
       try clear hcz14_2
       try clear hcz14_3
       try clear hcz19_0
       try clear hcz19_1
       try clear hcz19_2
       try clear hcz19_3
       try clear hcz21_0
       try clear hcz21_1
       try clear hcz21_2
       try clear hcz21_3
       try clear hcz35_0
       try clear hcz35_1
       try clear hcz35_2
       try clear hcz35_3
       try clear hcz36_0
       try clear hcz36_1
       try clear hcz36_2
       try clear hcz36_3
       try clear hfz10_0
       try clear hfz10_1
       try clear hfz10_2
       try clear hfz10_3
       try clear hfz14_0
       try clear hfz14_1
       try clear hfz14_2
       try clear hfz14_3
       try clear hfz19_0
       try clear hfz19_1
       try clear hfz19_2
       try clear hfz19_3
       try clear hfz21_0
       try clear hfz21_1
       try clear hfz21_2
       try clear hfz21_3
       try clear hfz35_0
       try clear hfz35_1
       try clear hfz35_2
       try clear hfz35_3
       try clear hfz36_0
       try clear hfz36_1
       try clear hfz36_2
       try clear hfz36_3
       try clear hx222_0
       try clear hx30_0
       try clear p2
       try clear p222
       try clear p30
       try clear p6
       try clear q222
       try clear q30
       obtain ⟨x8_2, x9_2, x10_2, rfl, rfl, HA, HK2, HO_8, BK210, BK211, HB⟩ := hrel
       have hl8_2 := (Kd.R_reads' HO_8.out).1
       rw [hl8_2] at HO_8
       (try simp only [hl8_2])
       (try simp only [hl8_2] at BK210)
       (try simp only [hl8_2] at BK211)
       cases gk with
       | zero => exact absurd HA.out (by simp [governorref16_sized.l1])
       | succ k2 =>
        have H := HA.out
        clear HA
        simp only [governorref16_sized.l1] at H
        by_cases c38 : x10_2 ≥ 0
        ·rw [if_pos c38] at H
         have c38b0 : decide (0 ≤ x10_2) = true := decide_eq_true c38
         clear c38
         by_cases c39 : 0 ≤ x10_2
         ·rw [if_pos c39] at H
          have c39b0 : decide (0 ≤ x10_2) = true := decide_eq_true c39
          clear c39
          by_cases c40 : x10_2 < (x8_2.length : Int)
          ·rw [if_pos c40] at H
           have c40b0 : decide (x10_2 < (x8_2.length : Int)) = true := decide_eq_true c40
           clear c40
           obtain ⟨ji41, hji41⟩ : ∃ j_ : Int, (mn (rd x8_2 x10_2) x9_2) = j_ := ⟨_, rfl⟩
           replace H : (governorref16_sized.l1 k2 (x8_2.set (x10_2 : Int).toNat (wrap64 ((rd x8_2 x10_2) - (ji41)))) (wrap64 (x9_2 - (ji41))) (wrap64 (x10_2 - 1)) a1_0 l1_1 a1_2 a1_3) = some (r1, r2, r3, r4) := by first | (rw [hji41] at H; exact H) | (simp only [hji41] at H ⊢; exact H)
           have hji41_ : (if x9_2 < (rd x8_2 x10_2) then x9_2 else (rd x8_2 x10_2)) = ji41 := hji41
           obtain ⟨y226, hy226⟩ : ∃ y_ : List Int, y_ = (x8_2.set (x10_2 : Int).toNat (wrap64 ((rd x8_2 x10_2) - (ji41)))) := ⟨_, rfl⟩
           replace H : (governorref16_sized.l1 k2 y226 (wrap64 (x9_2 - (ji41))) (wrap64 (x10_2 - 1)) a1_0 l1_1 a1_2 a1_3) = some (r1, r2, r3, r4) := by first | (rw [hy226]; with_reducible exact H) | (have H2_ := (Option.bind_some _ _).symm.trans H; rw [hy226]; with_reducible exact H2_) | (have H2_ := (Option.bind_some _ _).symm.trans H; with_reducible exact H2_) | with_reducible exact H | (rw [hy226]; exact H) | exact H
           have Ny226 := Aside0.mk hy226
           clear hy226
           have H' := Aside0.mk H
           clear H
           have p224 : 0 ≤ (x10_2 : Int) := of_decide_eq_true (by first | (with_reducible assumption) | assumption)
           have q224 : x10_2 < (x8_2.length : Int) := of_decide_eq_true (by first | (with_reducible assumption) | assumption)
           obtain ⟨ad224, e224, hx224_0⟩ := Kd.at_int (Kd.R_reads' HO_8.out).2.2 x10_2 p224 q224
           cases e224
           replace p224 := eq_true p224
           replace q224 := eq_true q224
           have p225 : 0 ≤ (x10_2 : Int) := of_decide_eq_true (by first | (with_reducible assumption) | assumption)
           have q225 : x10_2 < (x8_2.length : Int) := of_decide_eq_true (by first | (with_reducible assumption) | assumption)
           obtain ⟨ad225, e225, hx225_0⟩ := Kd.at_int (Kd.R_reads' HO_8.out).2.2 x10_2 p225 q225
           obtain rfl : ad224 = ad225 := (by injection e225)
           replace p225 := eq_true p225
           replace q225 := eq_true q225
           have p42 : 0 ≤ (x10_2 : Int) := of_decide_eq_true (by first | (with_reducible assumption) | assumption)
           have q42 : (x10_2 : Int) < ((x8_2.length : Int) : Int) := of_decide_eq_true (by first | (with_reducible assumption) | assumption)
           obtain ⟨go42, co42, eo42, gb42, gl42, cl42, HG42⟩ := Kd.R_form HO_8.out (by omega)
           (first | cases eo42 | (injection eo42 with ea_ en_ ec_; (first | subst ea_ | (injection ea_ with ea_; subst ea_)); subst ec_; clear en_))
           have GB42 := Aside0.mk gb42
           have GG42 := Aside0.mk HG42
           clear gb42 gl42 HG42
           (first | simp only [add_plain] at hx224_0 | skip)
           (first | simp only [add_plain] at hx225_0 | skip)
           obtain ⟨hx42_0, hf42_0⟩ := Kd.R_celln 0 HO_8.out (x10_2 : Int) p42 q42
           replace p42 := eq_true p42
           replace q42 := eq_true q42
           have HP43 := Kd.R_putg HO_8.out (x10_2 : Int) (wrap64 ((rd x8_2 x10_2) - (ji41)))
           go_wp2_with (first | ((with_reducible refine gate_store (t := 3) (p := 83) rfl ?_); refine store_event (t := 3) (p := 83) (v := ?vo_w44) (w1 := (wr.setCell ⟨go42, (x10_2 : Int).toNat, none⟩ (.int .i64 (wrap64 ((rd x8_2 x10_2) - (ji41)))))) ?hg ?ho ?hn ?hr ?_; (case ho => rfl); (case hg => rfl); (case hn => rfl); (case hr => first | (go_simp; done) | (go_simp; rfl)); intro w44 hw; have hg : wr.grownBy w44 (some go42) := (by rw [hw]; exact HP43.2); have hp_ : Kd.R (Kd.int .i64) 3 w44 w.heap.size (fun _ => True) (.slice (some ⟨go42, 0, none⟩) x8_2.length co37) y226 := (by rw [hw, Ny226.out]; exact HP43.1); clear HP43; have n0_ := Aside0.mk (hp_); have n1_ := Aside0.mk (blk_grown (g := gb210) (o := .cells #[.int .i64 a1_0, .slice A1_1 l1_1.length c1_1, .int .i64 a1_2, .int .i64 a1_3] 34 (0, 0)) (by (with_reducible repeat (first | refine blk_drewN ?_ _ | refine blk_drew ?_ | refine blk_alloc ?_ _)); exact BK210.out) hg (Kd.R_ne HO_8.out BK210.out (by decide))); have n2_ := Aside0.mk (blk_grown (g := gb211) (o := .cells #[.int .i64 0, .slice none 0 0, .int .i64 0, .int .i64 0] 34 (0, 0)) (by (with_reducible repeat (first | refine blk_drewN ?_ _ | refine blk_drew ?_ | refine blk_alloc ?_ _)); exact BK211.out) hg (Kd.R_ne HO_8.out BK211.out (by decide))); have n3_ := Aside0.mk ((by rw [hw]; exact below_set (HB.out) GB42.out : Below w.heap.size w w44)); clear HO_8; clear BK210; clear BK211; clear HB; have HO_8 := n0_; have BK210 := n1_; have BK211 := n2_; have HB := n3_; clear n0_ n1_ n2_ n3_; clear hg hw hp_))
           (try simp only [← hl8_2])
           go_roundg k2
           case measure => have := HJ5.out; have := HK2.out; omega
           case rel => exact ⟨(y226), (wrap64 (x9_2 - (ji41))), (wrap64 (x10_2 - 1)), (by first | rfl | (simp; done) | (simp only [← hji41] <;> (first | rfl | simp)) | (simp [*]; done)), (by first | rfl | (simp; done) | (simp [*]; done)), H', ⟨by have := HJ5.out; have := HK2.out; omega⟩, ⟨by (try simp only [hl8_2]); (with_reducible repeat (first | apply Kd.R_alloc | apply Kd.R_drewN | apply Kd.R_drew)); exact HO_8.out⟩, ⟨by (try simp only [hl8_2]); (with_reducible repeat (first | refine blk_drewN ?_ _ | refine blk_drew ?_ | refine blk_alloc ?_ _)); exact BK210.out⟩, ⟨by (try simp only [hl8_2]); (with_reducible repeat (first | refine blk_drewN ?_ _ | refine blk_drew ?_ | refine blk_alloc ?_ _)); exact BK211.out⟩, ⟨by repeat (first | (with_reducible first | exact HB.out | apply below_alloc | apply pw_below_drewN | apply below_drew1 | refine below_set ?_ GE210.out | refine below_set ?_ GE211.out) | exact HB.out)⟩⟩
          ·rw [if_neg c40] at H
           exact absurd H (by simp)
         ·rw [if_neg c39] at H
          exact absurd H (by simp)
        ·rw [if_neg c38] at H
         have c38b0 : decide (0 ≤ x10_2) = false := decide_eq_false c38
         clear c38
         simp only [Option.some.injEq, Prod.mk.injEq] at H
         obtain ⟨rfl, rfl, rfl, rfl⟩ := H
         have hnb45 := NB210_211.out
         have hnc45 := NB211_210.out
         have hcz46_0 : wr.cell? ⟨gb210, 0, none⟩ = some (.int .i64 a1_0) := (blk_cell BK210.out 0).trans rfl
         have hcz46_1 : wr.cell? ⟨gb210, 1, none⟩ = some (.slice A1_1 l1_1.length c1_1) := (blk_cell BK210.out 1).trans rfl
         have hcz46_2 : wr.cell? ⟨gb210, 2, none⟩ = some (.int .i64 a1_2) := (blk_cell BK210.out 2).trans rfl
         have hcz46_3 : wr.cell? ⟨gb210, 3, none⟩ = some (.int .i64 a1_3) := (blk_cell BK210.out 3).trans rfl
         have hfz46_0 := blk_frozen BK210.out 0
         have hfz46_1 := blk_frozen BK210.out 1
         have hfz46_2 := blk_frozen BK210.out 2
         have hfz46_3 := blk_frozen BK210.out 3
         have hcz47_0 : wr.cell? ⟨gb211, 0, none⟩ = some (.int .i64 0) := (blk_cell BK211.out 0).trans rfl
         have hcz47_1 : wr.cell? ⟨gb211, 1, none⟩ = some (.slice none 0 0) := (blk_cell BK211.out 1).trans rfl
         have hcz47_2 : wr.cell? ⟨gb211, 2, none⟩ = some (.int .i64 0) := (blk_cell BK211.out 2).trans rfl
         have hcz47_3 : wr.cell? ⟨gb211, 3, none⟩ = some (.int .i64 0) := (blk_cell BK211.out 3).trans rfl
         have hfz47_0 := blk_frozen BK211.out 0
         have hfz47_1 := blk_frozen BK211.out 1
         have hfz47_2 := blk_frozen BK211.out 2
         have hfz47_3 := blk_frozen BK211.out 3
         go_wp2
         refine bodyPost_ret (results_cell_row rfl _ _ gb211 34 #[.int .i64 (wrap64 (a1_0 - x9_2)), .slice Ao37 x8_2.length co37, .int .i64 a1_2, .int .i64 0] (0, 0) _ rfl (by (with_reducible repeat (first | refine blk_drewN ?_ _ | refine blk_drew ?_ | refine blk_alloc ?_ _)); refine blk_put (cs := #[.int .i64 (wrap64 (a1_0 - x9_2)), .slice Ao37 x8_2.length co37, .int .i64 a1_2, .int .i64 0]) ?_ 3 _ rfl; (with_reducible repeat (first | refine blk_drewN ?_ _ | refine blk_drew ?_ | refine blk_alloc ?_ _)); refine blk_put (cs := #[.int .i64 (wrap64 (a1_0 - x9_2)), .slice Ao37 x8_2.length co37, .int .i64 0, .int .i64 0]) ?_ 2 _ rfl; (with_reducible repeat (first | refine blk_drewN ?_ _ | refine blk_drew ?_ | refine blk_alloc ?_ _)); refine blk_put (cs := #[.int .i64 (wrap64 (a1_0 - x9_2)), .slice none 0 0, .int .i64 0, .int .i64 0]) ?_ 1 _ rfl; (with_reducible repeat (first | refine blk_drewN ?_ _ | refine blk_drew ?_ | refine blk_alloc ?_ _)); refine blk_put (cs := #[.int .i64 0, .slice none 0 0, .int .i64 0, .int .i64 0]) ?_ 0 _ rfl; (with_reducible repeat (first | refine blk_drewN ?_ _ | refine blk_drew ?_ | refine blk_alloc ?_ _)); exact BK211.out) Try.underlying34 rfl (by kernel_rfl)) rfl ?_
         exact ⟨_, by first | rfl | (simp [errW_none, errW_some] <;> rfl) | (simp [*, errW_none, errW_some] <;> rfl), by (with_reducible repeat (first | apply Kd.R_alloc | apply Kd.R_drewN | apply Kd.R_drew)); exact Kd.R_mono (Kd.R_far (p := ⟨gb211, 3, none⟩) (Kd.R_far (p := ⟨gb211, 2, none⟩) (Kd.R_far (p := ⟨gb211, 1, none⟩) (Kd.R_far (p := ⟨gb211, 0, none⟩) (Kd.R_types HO_8.out BK211.out (by decide)) (fun _ hk => hk.2) (.int .i64 (wrap64 (a1_0 - x9_2)))) (fun _ hk => hk.2) (.slice Ao37 x8_2.length co37)) (fun _ hk => hk.2) (.int .i64 a1_2)) (fun _ hk => hk.2) (.int .i64 0)) (fun _ hk => trivial), by repeat (first | (with_reducible first | exact HB.out | apply below_alloc | apply pw_below_drewN | apply below_drew1 | refine below_set ?_ GE210.out | refine below_set ?_ GE211.out) | exact HB.out)⟩
 ·rw [if_neg c5] at H
  exact absurd H (by simp)
/-! ### governorref16_Step: function 35 -/
/-- What Step of the document knows: the blocks of c, of the two results and of x. -/
structure RS (w W : World) (G : Nat) (cc ca cm xc : Array Value) : Prop where
 hC : W.heap[w.heap.size]? = some (.cells cc 23 (0, 0))
 hA : W.heap[w.heap.size + 1 + 1]? = some (.cells ca 34 (0, 0))
 hM : W.heap[w.heap.size + 1 + 1 + 1]? = some (.cells cm 52 (0, 0))
 hX : W.heap[G]? = some (.cells xc 34 (0, 0))
 lt : w.heap.size + 1 + 1 + 1 < G
 hB : Below w.heap.size w W
section
variable {w W W1 : World} {G : Nat} {cc ca cm xc c' : Array Value}
theorem RS.below (h : RS w W G cc ca cm xc) (hb : Below W.heap.size W W1) : RS w W1 G cc ca cm xc :=
 ⟨blk_below h.hC hb, blk_below h.hA hb, blk_below h.hM hb, blk_below h.hX hb, h.lt, below_step h.hB hb⟩
theorem RS.putX (h : RS w W G cc ca cm xc) (j : Nat) (u : Value) (e : xc.setIfInBounds j u = c') : RS w (W.setCell ⟨G, j, none⟩ u) G cc ca cm c' :=
 have l := h.lt
 ⟨blk_far h.hC (by show w.heap.size ≠ G; omega) u, blk_far h.hA (by show w.heap.size + 1 + 1 ≠ G; omega) u, blk_far h.hM (by show w.heap.size + 1 + 1 + 1 ≠ G; omega) u, blk_put h.hX j u e, l, below_set h.hB (by omega)⟩
theorem RS.putA (h : RS w W G cc ca cm xc) (j : Nat) (u : Value) (e : ca.setIfInBounds j u = c') : RS w (W.setCell ⟨w.heap.size + 1 + 1, j, none⟩ u) G cc c' cm xc :=
 have l := h.lt
 ⟨blk_far h.hC (by show w.heap.size ≠ w.heap.size + 1 + 1; omega) u, blk_put h.hA j u e, blk_far h.hM (by show w.heap.size + 1 + 1 + 1 ≠ w.heap.size + 1 + 1; omega) u, blk_far h.hX (by show G ≠ w.heap.size + 1 + 1; omega) u, l, below_set h.hB (by omega)⟩
theorem RS.putM (h : RS w W G cc ca cm xc) (j : Nat) (u : Value) (e : cm.setIfInBounds j u = c') : RS w (W.setCell ⟨w.heap.size + 1 + 1 + 1, j, none⟩ u) G cc ca c' xc :=
 have l := h.lt
 ⟨blk_far h.hC (by show w.heap.size ≠ w.heap.size + 1 + 1 + 1; omega) u, blk_far h.hA (by show w.heap.size + 1 + 1 ≠ w.heap.size + 1 + 1 + 1; omega) u, blk_put h.hM j u e, blk_far h.hX (by show G ≠ w.heap.size + 1 + 1 + 1; omega) u, l, below_set h.hB (by omega)⟩
theorem q_at {v : Value} {l : List Int} {g t : Nat} {c : Array Value} (hq : (Kd.int .i64).Q 3 W w.heap.size (fun _ => True) v l) (hk : W.heap[g]? = some (.cells c t (0, 0))) (ht : ∀ q ∈ 3 :: (Kd.int .i64).E, q ≠ t) (j : Nat) (u : Value) : (Kd.int .i64).Q 3 (W.setCell ⟨g, j, none⟩ u) w.heap.size (fun _ => True) v l :=
 Kd.Q_mono (Kd.Q_set hq hk ht j u) (fun _ _ => trivial)
end
def governorref16_Step.f (k : Nat) (a0_0 : Int) (a0_1 : Int) (a0_2 : Int) (a0_3 : Int) (a0_4 : Int) (a0_5 : Int) (a0_6 : Int) (a0_7 : Int) (a0_8 : Int) (a0_9 : Int) (a0_10 : Int) (a0_11 : Int) (a1_0 : Int) (l1_1 : List Int) (a1_2 : Int) (a1_3 : Int) (a2 : Int) (a3 : Int) : Option (Int × List Int × Int × Int × Int × Bool) :=
 if l1_1.length < 17592186044416 then (governorref16_sized.f k a0_5 (readyL a1_0 l1_1) (l1_1.drop 1) a1_2 0 (mn (mx a2 0) 1000)).bind fun s => if s.2.1.length < 140737488355328 then (governorref08_Add.f s.2.2.1 (mn (mx a3 0) 1000000)).bind fun todo => (governorref08_Div.f k todo (mn (wrap64 (s.1 * a0_4)) 1000000000)).bind fun ut =>
  some (s.1, trimL s.2.1, (mx (wrap64 (todo - (mn (wrap64 (s.1 * a0_4)) 1000000000))) 0), ut, allL s.1 (trimL s.2.1), decide (a0_6 < (mx (wrap64 (todo - (mn (wrap64 (s.1 * a0_4)) 1000000000))) 0))) else none else none
set_option maxHeartbeats 8000000 in
set_option maxRecDepth 100000 in
theorem governorref16_Step.calls (k : Nat) (a0_0 : Int) (a0_1 : Int) (a0_2 : Int) (a0_3 : Int) (a0_4 : Int) (a0_5 : Int) (a0_6 : Int) (a0_7 : Int) (a0_8 : Int) (a0_9 : Int) (a0_10 : Int) (a0_11 : Int) (a1_0 : Int) (A1_1 : Option Addr) (c1_1 : Nat) (l1_1 : List Int) (a1_2 : Int) (a1_3 : Int) (a2 : Int) (a3 : Int) (r1 : Int) (r2 : List Int) (r3 : Int) (r4 : Int) (r5 : Int) (r6 : Bool) (w : World) (hr1_1 : Kd.C (Kd.int .i64) w A1_1 l1_1.length l1_1) (hc1_1 : l1_1.length ≤ c1_1) (h : governorref16_Step.f k a0_0 a0_1 a0_2 a0_3 a0_4 a0_5 a0_6 a0_7 a0_8 a0_9 a0_10 a0_11 a1_0 l1_1 a1_2 a1_3 a2 a3 = some (r1, r2, r3, r4, r5, r6)) :
  Calls Try.prog 35 #[.agg #[.int .i64 a0_0, .int .i64 a0_1, .int .i64 a0_2, .int .i64 a0_3, .int .i64 a0_4, .int .i64 a0_5, .int .i64 a0_6, .int .i64 a0_7, .int .i64 a0_8, .int .i64 a0_9, .int .i64 a0_10, .int .i64 a0_11], .agg #[.int .i64 a1_0, .slice A1_1 l1_1.length c1_1, .int .i64 a1_2, .int .i64 a1_3], .int .i64 a2, .int .i64 a3] w fun e w' => ∃ v1_ : Value, e = .returned (.tuple #[.agg #[.int .i64 r1, v1_, .int .i64 r3, .int .i64 r4], .agg #[.int .i64 r5, .bool r6]]) ∧ Kd.Q (Kd.int .i64) 3 w' w.heap.size (fun _ => True) v1_ r2 ∧ Below w.heap.size w w' := by
 have hu0 := Try.underlying23
 have hu1 := Try.underlying34
 have hu2 := Try.underlying52
 have HR := Aside0.mk hr1_1
 have HC := Aside0.mk hc1_1
 clear hr1_1 hc1_1
 unfold governorref16_Step.f at h
 by_cases hL : l1_1.length < 17592186044416
 rotate_left
 ·rw [if_neg hL] at h
  cases h
 rw [if_pos hL] at h
 have HL := Aside0.mk hL
 have Hh := Aside0.mk h
 clear h hL
 go_enter Try.func35, Try.ntmps35
 go_upto_region 1 with (fail)
 have n1 := PlB.new w #[.int .i64 a0_0, .int .i64 a0_1, .int .i64 a0_2, .int .i64 a0_3, .int .i64 a0_4, .int .i64 a0_5, .int .i64 a0_6, .int .i64 a0_7, .int .i64 a0_8, .int .i64 a0_9, .int .i64 a0_10, .int .i64 a0_11] #[.int .i64 a1_0, .slice A1_1 l1_1.length c1_1, .int .i64 a1_2, .int .i64 a1_3]
 generalize (((w.alloc _).alloc _).alloc _).alloc _ = W0 at n1 ⊢
 refine start_ (n := 11) (S := fun w' => w'.heap[w.heap.size + 1]? = some (.cells #[.int .i64 a1_0, .slice A1_1 l1_1.length c1_1, .int .i64 a1_2, .int .i64 a1_3] 34 (0, 0))) (ds := []) #[false, false, false, false, false, false, false, false, false, false, false] (by kernel_rfl) rfl rfl n1.hP (fun hHeld => ?_)
 replace n1 := n1.below (below_drew1 (Below.refl _ _))
 generalize W0.drew = w9 at n1 hHeld ⊢
 refine pu_ 0 13 #[true, false, false, false, false, false, false, false, false, false, false] ?_
 refine pu_ 3 16 #[true, false, false, true, false, false, false, false, false, false, false] ?_
 refine pu_ 6 19 #[true, false, false, true, false, false, true, false, false, false, false] ?_
 refine ta_ 1 14 #[true, true, false, true, false, false, true, false, false, false, false] hHeld (v := ?_) ?_ ?_
 rotate_left
 ·intro w' hS
  have s0 := blk_cell hS 0
  have s1 := blk_cell hS 1
  have s2 := blk_cell hS 2
  have s3 := blk_cell hS 3
  simp only [List.getElem?_toArray, List.getElem?_cons_zero, List.getElem?_cons_succ] at s0 s1 s2 s3
  clear hS
  go_simp
  with_reducible rfl
 refine ta_ 4 17 #[true, true, false, true, true, false, true, false, false, false, false] hHeld (v := ?_) ?_ ?_
 rotate_left
 ·intro w' hS
  have s0 := blk_cell hS 0
  have s1 := blk_cell hS 1
  have s2 := blk_cell hS 2
  have s3 := blk_cell hS 3
  simp only [List.getElem?_toArray, List.getElem?_cons_zero, List.getElem?_cons_succ] at s0 s1 s2 s3
  clear hS
  go_simp
  with_reducible rfl
 refine ta_ 7 20 #[true, true, false, true, true, false, true, true, false, false, false] hHeld (v := ?_) ?_ ?_
 rotate_left
 ·intro w' hS
  have s0 := blk_cell hS 0
  have s1 := blk_cell hS 1
  have s2 := blk_cell hS 2
  have s3 := blk_cell hS 3
  simp only [List.getElem?_toArray, List.getElem?_cons_zero, List.getElem?_cons_succ] at s0 s1 s2 s3
  clear hS
  go_simp
  with_reducible rfl
 refine join_ (σ := Option Addr × Nat × Nat × Value) 1 #[true, true, true, true, true, true, true, true, true, true, false] (fun s_ => [(15, s_.2.2.2), (18, .slice s_.1 l1_1.length s_.2.1), (10, .pointer (some ⟨s_.2.2.1, 0, none⟩)), (21, .agg #[.int .i64 a1_0, .slice s_.1 l1_1.length s_.2.1, .int .i64 a1_2, .int .i64 0])]) (fun s_ w' => w'.heap[w.heap.size + 1]? = some (.cells #[.int .i64 a1_0, .slice A1_1 l1_1.length c1_1, .int .i64 a1_2, .int .i64 a1_3] 34 (0, 0)) ∧ PlB w w' #[.int .i64 a0_0, .int .i64 a0_1, .int .i64 a0_2, .int .i64 a0_3, .int .i64 a0_4, .int .i64 a0_5, .int .i64 a0_6, .int .i64 a0_7, .int .i64 a0_8, .int .i64 a0_9, .int .i64 a0_10, .int .i64 a0_11] #[.int .i64 a1_0, .slice A1_1 l1_1.length c1_1, .int .i64 a1_2, .int .i64 a1_3] ∧ w'.heap[s_.2.2.1]? = some (.cells #[.int .i64 0, .slice none 0 0, .int .i64 0, .int .i64 0] 34 (0, 0)) ∧ w.heap.size + 1 + 1 + 1 < s_.2.2.1 ∧ Kd.R (Kd.int .i64) 3 w' w.heap.size (fun _ => True) (.slice s_.1 l1_1.length s_.2.1) l1_1) ?_ ?_
 rotate_left
 ·intro hCont
  refine two_ (i := 2) (j := 9) (Ni := some 15) (Nj := some 10) #[true, true, true, true, true, false, true, true, false, false, false] #[true, true, false, true, true, false, true, true, false, true, false] rfl rfl rfl rfl (by kernel_rfl) (by decide) (by decide) (fun K hK => ?_) (fun K hK => ?_)
  ·skip
   refine Kd.R_lit_step (Kd.int .i64) _ 3 ?hg (N := 15) ?hd (xs := ([] : List Int)) (inner := []) (ok := fun _ => True) (okp := fun _ => True) ?hr ?hp (fun _ hk => hk) trivial (Below.refl _ _) (Nat.le_refl _) (by simp) ?_; (case hd => rfl); (case hg => rfl); (case hr => first | (go_simp; done) | (go_simp; rfl)); (case hp => exact (Reps.none _ _))
   intro v0 w1 ho hb _ _
   (try simp only [Int.reduceToNat] at ho)
   have HO := Aside0.mk (Kd.R_lower ho n1.hB.size)
   replace n1 := n1.below hb
   clear hb ho
   refine hK.out _ _ n1.hP (fun hHeld => ?_)
   clear hK K
   refine no_ 15 ?_
   refine two_ (i := 5) (j := 9) (Ni := some 18) (Nj := some 10) #[true, true, true, true, true, true, true, true, false, false, false] #[true, true, true, true, true, false, true, true, false, true, false] rfl rfl rfl rfl (by kernel_rfl) (by decide) (by decide) (fun K hK => ?_) (fun K hK => ?_)
   ·skip
    refine Kd.R_append_rows_step (Kd.int .i64) (w0 := w) w.heap.size (by rfl) (.tmp 15) (.tmp 17) 32 3 (.int .i64 0) 8 rfl Try.underlying32 info3 rfl (by decide) (by omega) v0 [] l1_1 _ _ _ (fun _ => True) (fun _ => False) rfl rfl ?aO ?aR (fun _ _ h => h) (fun _ h => h.elim) ?aF ?aB ?aS ?aL ?_
    (case aR => exact Kd.C_below HR.out n1.hB)
    (case aB => exact n1.hB)
    (case aF => exact fun _ _ => trivial)
    (case aO => exact HO.out)
    (case aS => exact n1.hB.size)
    (case aL => have := HL.out; simp only [List.length_nil]; omega)
    intro v1 w2 ho hb hg _
    rw [List.nil_append] at ho
    replace n1 : PlB w w2 #[.int .i64 a0_0, .int .i64 a0_1, .int .i64 a0_2, .int .i64 a0_3, .int .i64 a0_4, .int .i64 a0_5, .int .i64 a0_6, .int .i64 a0_7, .int .i64 a0_8, .int .i64 a0_9, .int .i64 a0_10, .int .i64 a0_11] #[.int .i64 a1_0, .slice A1_1 l1_1.length c1_1, .int .i64 a1_2, .int .i64 a1_3] := ⟨blk_grown n1.hC hg (Kd.R_ne HO.out n1.hC (by decide)), blk_grown n1.hP hg (Kd.R_ne HO.out n1.hP (by decide)), blk_grown n1.hA hg (Kd.R_ne HO.out n1.hA (by decide)), blk_grown n1.hM hg (Kd.R_ne HO.out n1.hM (by decide)), hb⟩
    obtain ⟨A', c', rfl⟩ := Kd.R_slice ho
    replace HO := Aside0.mk ho
    clear hb ho hg
    refine hK.out _ _ n1.hP (fun hHeld => ?_)
    clear hK K
    refine no_ 18 ?_
    refine pu_ 8 21 #[true, true, true, true, true, true, true, true, true, false, false] ?_
    refine one_ (i := 9) (N := some 10) #[true, true, true, true, true, true, true, true, true, true, false] rfl rfl (by kernel_rfl) (by decide) (fun K hK => ?_)
    refine box_step ?hg (N := 10) ?hd (cs := #[.int .i64 0, .slice none 0 0, .int .i64 0, .int .i64 0]) (t := 34) ?hr ?_; (case hd => rfl); (case hg => rfl); (case hr => first | (go_simp; done) | (go_simp; rfl))
    intro G hg w3 hz hb
    have hlt : w.heap.size + 1 + 1 + 1 < G := by rw [hg]; exact blk_lt n1.hM
    replace n1 := n1.below hb
    replace HO := Aside0.mk (Kd.R_below HO.out hb)
    clear hb hg
    refine hK.out _ _ n1.hP (fun hHeld => ?_)
    clear hK K
    refine no_ 10 ?_
    exact norm_ (by simp only [putAll, Act.put, List.setIfInBounds_toArray, List.set_cons_zero, List.set_cons_succ]) (hCont (A', c', G, v0) _ ⟨hHeld, n1, hz, hlt, HO.out⟩)
   ·skip
    refine box_step ?hg (N := 10) ?hd (cs := #[.int .i64 0, .slice none 0 0, .int .i64 0, .int .i64 0]) (t := 34) ?hr ?_; (case hd => rfl); (case hg => rfl); (case hr => first | (go_simp; done) | (go_simp; rfl))
    intro G hg w3 hz hb
    have hlt : w.heap.size + 1 + 1 + 1 < G := by rw [hg]; exact blk_lt n1.hM
    replace n1 := n1.below hb
    replace HO := Aside0.mk (Kd.R_below HO.out hb)
    clear hb hg
    refine hK.out _ _ n1.hP (fun hHeld => ?_)
    clear hK K
    refine no_ 10 ?_
    refine one_ (i := 5) (N := some 18) #[true, true, true, true, true, true, true, true, false, true, false] rfl rfl (by kernel_rfl) (by decide) (fun K hK => ?_)
    refine Kd.R_append_rows_step (Kd.int .i64) (w0 := w) w.heap.size (by rfl) (.tmp 15) (.tmp 17) 32 3 (.int .i64 0) 8 rfl Try.underlying32 info3 rfl (by decide) (by omega) v0 [] l1_1 _ _ _ (fun _ => True) (fun _ => False) rfl rfl ?aO ?aR (fun _ _ h => h) (fun _ h => h.elim) ?aF ?aB ?aS ?aL ?_
    (case aR => exact Kd.C_below HR.out n1.hB)
    (case aB => exact n1.hB)
    (case aF => exact fun _ _ => trivial)
    (case aO => exact HO.out)
    (case aS => exact n1.hB.size)
    (case aL => have := HL.out; simp only [List.length_nil]; omega)
    intro v1 w2 ho hb hg _
    rw [List.nil_append] at ho
    replace n1 : PlB w w2 #[.int .i64 a0_0, .int .i64 a0_1, .int .i64 a0_2, .int .i64 a0_3, .int .i64 a0_4, .int .i64 a0_5, .int .i64 a0_6, .int .i64 a0_7, .int .i64 a0_8, .int .i64 a0_9, .int .i64 a0_10, .int .i64 a0_11] #[.int .i64 a1_0, .slice A1_1 l1_1.length c1_1, .int .i64 a1_2, .int .i64 a1_3] := ⟨blk_grown n1.hC hg (Kd.R_ne HO.out n1.hC (by decide)), blk_grown n1.hP hg (Kd.R_ne HO.out n1.hP (by decide)), blk_grown n1.hA hg (Kd.R_ne HO.out n1.hA (by decide)), blk_grown n1.hM hg (Kd.R_ne HO.out n1.hM (by decide)), hb⟩
    replace hz := blk_grown hz hg (Kd.R_ne HO.out hz (by decide))
    obtain ⟨A', c', rfl⟩ := Kd.R_slice ho
    replace HO := Aside0.mk ho
    clear hb ho hg
    refine hK.out _ _ n1.hP (fun hHeld => ?_)
    clear hK K
    refine no_ 18 ?_
    refine pu_ 8 21 #[true, true, true, true, true, true, true, true, true, true, false] ?_
    exact norm_ (by simp only [putAll, Act.put, List.setIfInBounds_toArray, List.set_cons_zero, List.set_cons_succ]) (hCont (A', c', G, v0) _ ⟨hHeld, n1, hz, hlt, HO.out⟩)
  ·skip
   refine box_step ?hg (N := 10) ?hd (cs := #[.int .i64 0, .slice none 0 0, .int .i64 0, .int .i64 0]) (t := 34) ?hr ?_; (case hd => rfl); (case hg => rfl); (case hr => first | (go_simp; done) | (go_simp; rfl))
   intro G hg w3 hz hb
   have hlt : w.heap.size + 1 + 1 + 1 < G := by rw [hg]; exact blk_lt n1.hM
   replace n1 := n1.below hb
   clear hb hg
   refine hK.out _ _ n1.hP (fun hHeld => ?_)
   clear hK K
   refine no_ 10 ?_
   refine one_ (i := 2) (N := some 15) #[true, true, true, true, true, false, true, true, false, true, false] rfl rfl (by kernel_rfl) (by decide) (fun K hK => ?_)
   refine Kd.R_lit_step (Kd.int .i64) _ 3 ?hg (N := 15) ?hd (xs := ([] : List Int)) (inner := []) (ok := fun _ => True) (okp := fun _ => True) ?hr ?hp (fun _ hk => hk) trivial (Below.refl _ _) (Nat.le_refl _) (by simp) ?_; (case hd => rfl); (case hg => rfl); (case hr => first | (go_simp; done) | (go_simp; rfl)); (case hp => exact (Reps.none _ _))
   intro v0 w1 ho hb _ _
   (try simp only [Int.reduceToNat] at ho)
   have HO := Aside0.mk (Kd.R_lower ho n1.hB.size)
   replace n1 := n1.below hb
   replace hz := blk_below hz hb
   clear hb ho
   refine hK.out _ _ n1.hP (fun hHeld => ?_)
   clear hK K
   refine no_ 15 ?_
   refine one_ (i := 5) (N := some 18) #[true, true, true, true, true, true, true, true, false, true, false] rfl rfl (by kernel_rfl) (by decide) (fun K hK => ?_)
   refine Kd.R_append_rows_step (Kd.int .i64) (w0 := w) w.heap.size (by rfl) (.tmp 15) (.tmp 17) 32 3 (.int .i64 0) 8 rfl Try.underlying32 info3 rfl (by decide) (by omega) v0 [] l1_1 _ _ _ (fun _ => True) (fun _ => False) rfl rfl ?aO ?aR (fun _ _ h => h) (fun _ h => h.elim) ?aF ?aB ?aS ?aL ?_
   (case aR => exact Kd.C_below HR.out n1.hB)
   (case aB => exact n1.hB)
   (case aF => exact fun _ _ => trivial)
   (case aO => exact HO.out)
   (case aS => exact n1.hB.size)
   (case aL => have := HL.out; simp only [List.length_nil]; omega)
   intro v1 w2 ho hb hg _
   rw [List.nil_append] at ho
   replace n1 : PlB w w2 #[.int .i64 a0_0, .int .i64 a0_1, .int .i64 a0_2, .int .i64 a0_3, .int .i64 a0_4, .int .i64 a0_5, .int .i64 a0_6, .int .i64 a0_7, .int .i64 a0_8, .int .i64 a0_9, .int .i64 a0_10, .int .i64 a0_11] #[.int .i64 a1_0, .slice A1_1 l1_1.length c1_1, .int .i64 a1_2, .int .i64 a1_3] := ⟨blk_grown n1.hC hg (Kd.R_ne HO.out n1.hC (by decide)), blk_grown n1.hP hg (Kd.R_ne HO.out n1.hP (by decide)), blk_grown n1.hA hg (Kd.R_ne HO.out n1.hA (by decide)), blk_grown n1.hM hg (Kd.R_ne HO.out n1.hM (by decide)), hb⟩
   replace hz := blk_grown hz hg (Kd.R_ne HO.out hz (by decide))
   obtain ⟨A', c', rfl⟩ := Kd.R_slice ho
   replace HO := Aside0.mk ho
   clear hb ho hg
   refine hK.out _ _ n1.hP (fun hHeld => ?_)
   clear hK K
   refine no_ 18 ?_
   refine pu_ 8 21 #[true, true, true, true, true, true, true, true, true, true, false] ?_
   exact norm_ (by simp only [putAll, Act.put, List.setIfInBounds_toArray, List.set_cons_zero, List.set_cons_succ]) (hCont (A', c', G, v0) _ ⟨hHeld, n1, hz, hlt, HO.out⟩)
 rintro ⟨A', c', G, v0⟩ w4 ⟨hHeld, n2, hz, hlt, ho⟩
 have S : RS w w4 G #[.int .i64 a0_0, .int .i64 a0_1, .int .i64 a0_2, .int .i64 a0_3, .int .i64 a0_4, .int .i64 a0_5, .int .i64 a0_6, .int .i64 a0_7, .int .i64 a0_8, .int .i64 a0_9, .int .i64 a0_10, .int .i64 a0_11] #[.int .i64 0, .slice none 0 0, .int .i64 0, .int .i64 0] #[.int .i64 0, .bool false] #[.int .i64 0, .slice none 0 0, .int .i64 0, .int .i64 0] := ⟨n2.hC, n2.hA, n2.hM, hz, hlt, n2.hB⟩
 have Q := Kd.Q_of_R ho
 clear n1 hlt ho
 refine norm_ (a' := ?_) ?_ ?_
 rotate_left
 ·simp only [putAll, Act.put, List.setIfInBounds_toArray, List.set_cons_zero, List.set_cons_succ]
  rfl
 refine one_ (i := 10) (N := none) #[true, true, true, true, true, true, true, true, true, true, true] rfl rfl (by kernel_rfl) (by decide) (fun K hK => ?_)
 have z := blk_cell hz
 have zf := blk_frozen hz
 have z0 := z 0
 have z1 := z 1
 have z2 := z 2
 have z3 := z 3
 simp only [List.getElem?_toArray, List.getElem?_cons_zero, List.getElem?_cons_succ] at z0 z1 z2 z3
 refine skip_ (w1 := ?_) (by rfl) rfl ?_ ?_
 rotate_left
 ·go_simp
  rfl
 clear z zf z0 z1 z2 z3 hz
 replace Q := q_at Q S.hX (by decide) 0 (.int .i64 a1_0)
 replace S := S.putX 0 (.int .i64 a1_0) rfl
 replace Q := q_at Q S.hX (by decide) 1 (.slice A' l1_1.length c')
 replace S := S.putX 1 (.slice A' l1_1.length c') rfl
 replace Q := q_at Q S.hX (by decide) 2 (.int .i64 a1_2)
 replace S := S.putX 2 (.int .i64 a1_2) rfl
 replace Q := q_at Q S.hX (by decide) 3 (.int .i64 0)
 replace S := S.putX 3 (.int .i64 0) rfl
 have hne : w.heap.size + 1 ≠ G := by have := S.lt; omega
 replace hHeld := blk_far (p := ⟨G, 3, none⟩) (blk_far (p := ⟨G, 2, none⟩) (blk_far (p := ⟨G, 1, none⟩) (blk_far (p := ⟨G, 0, none⟩) (n2.hP) hne (.int .i64 a1_0)) hne (.slice A' l1_1.length c')) hne (.int .i64 a1_2)) hne (.int .i64 0)
 clear n2 hne
 generalize (((w4.setCell _ _).setCell _ _).setCell _ _).setCell _ _ = W1 at S Q hHeld ⊢
 refine hK.out _ _ hHeld (fun hHeld => ?_)
 clear hK K hHeld
 refine done_ (by kernel_rfl) ?_
 replace S : RS w W1 G #[.int .i64 a0_0, .int .i64 a0_1, .int .i64 a0_2, .int .i64 a0_3, .int .i64 a0_4, .int .i64 a0_5, .int .i64 a0_6, .int .i64 a0_7, .int .i64 a0_8, .int .i64 a0_9, .int .i64 a0_10, .int .i64 a0_11] #[.int .i64 0, .slice none 0 0, .int .i64 0, .int .i64 0] #[.int .i64 0, .bool false] #[.int .i64 a1_0, .slice A' l1_1.length c', .int .i64 a1_2, .int .i64 0] := S
 have x := blk_cell S.hX
 go_upto_if 25 with (fail)
 go_cut [] (fun wx => ∃ v', RS w wx G #[.int .i64 a0_0, .int .i64 a0_1, .int .i64 a0_2, .int .i64 a0_3, .int .i64 a0_4, .int .i64 a0_5, .int .i64 a0_6, .int .i64 a0_7, .int .i64 a0_8, .int .i64 a0_9, .int .i64 a0_10, .int .i64 a0_11] #[.int .i64 0, .slice none 0 0, .int .i64 0, .int .i64 0] #[.int .i64 0, .bool false] #[.int .i64 (readyL a1_0 l1_1), v', .int .i64 a1_2, .int .i64 0] ∧ (Kd.int .i64).Q 3 wx w.heap.size (fun _ => True) v' (l1_1.drop 1))
 case first => as_aux_lemma =>
  clear Hh HR HC
  by_cases hl : 0 < l1_1.length
  ·have b1 : decide (0 < l1_1.length) = true := decide_eq_true hl
   obtain ⟨g, o, c2, hv, hg1, hg2, _⟩ := Kd.Q_form Q hl
   injection hv with e1 _ e3
   subst e1
   subst e3
   obtain ⟨c1, _⟩ := Kd.Q_cell (0 : Int) Q 0 (by omega) (by omega)
   obtain ⟨y, hy⟩ : ∃ y, rd l1_1 0 = y := ⟨_, rfl⟩
   have c1' : W1.cell? ⟨g, o, none⟩ = some (.int .i64 y) := by rw [← hy]; exact c1
   have h0 : (0 : Int) < (l1_1.length : Int) := by omega
   clear c1
   rw [b1]
   go_upto_region 3 with (fail)
   clear x
   refine start_ (n := 9) (S := fun w' => w'.heap[G]? = some (.cells #[.int .i64 a1_0, .slice (some ⟨g, o, none⟩) l1_1.length c', .int .i64 a1_2, .int .i64 0] 34 (0, 0)) ∧ w'.cell? ⟨g, o, none⟩ = some (.int .i64 y)) (ds := [8]) #[false, false, false, false, false, false, false, false, false] (by kernel_rfl) rfl rfl ⟨S.hX, c1'⟩ (fun hHeld => ?_)
   have hd := below_drew1 (Below.refl W1.heap.size W1)
   replace S := S.below hd
   replace Q := Kd.Q_below Q hd
   clear hd c1'
   generalize W1.drew = W2 at S Q hHeld ⊢
   refine pu_ 0 26 #[true, false, false, false, false, false, false, false, false] ?_
   refine pu_ 2 28 #[true, false, true, false, false, false, false, false, false] ?_
   refine ta_ 1 27 #[true, true, true, false, false, false, false, false, false] hHeld (v := ?_) ?_ ?_
   rotate_left
   ·intro w' hS
    have s := blk_cell hS.1
    have s0 := s 0
    have s1 := s 1
    have s4 := hS.2
    simp only [List.getElem?_toArray, List.getElem?_cons_zero, List.getElem?_cons_succ] at s0 s1
    clear hS
    go_simp
    with_reducible rfl
   refine ta_ 3 29 #[true, true, true, true, false, false, false, false, false] hHeld (v := ?_) ?_ ?_
   rotate_left
   ·intro w' hS
    have s := blk_cell hS.1
    have s0 := s 0
    have s1 := s 1
    have s4 := hS.2
    simp only [List.getElem?_toArray, List.getElem?_cons_zero, List.getElem?_cons_succ] at s0 s1
    clear hS
    go_simp
    with_reducible rfl
   refine pu_ 4 30 #[true, true, true, true, true, false, false, false, false] ?_
   refine ta_ 5 31 #[true, true, true, true, true, true, false, false, false] hHeld (v := ?_) ?_ ?_
   rotate_left
   ·intro w' hS
    have s := blk_cell hS.1
    have s0 := s 0
    have s1 := s 1
    have s4 := hS.2
    simp only [List.getElem?_toArray, List.getElem?_cons_zero, List.getElem?_cons_succ] at s0 s1
    clear hS
    go_simp
    with_reducible rfl
   refine pu_ 6 32 #[true, true, true, true, true, true, true, false, false] ?_
   refine pu_ 7 33 #[true, true, true, true, true, true, true, true, false] ?_
   refine last_ (i := 8) (N := none) #[true, true, true, true, true, true, true, true, true] rfl rfl (by kernel_rfl) (by decide) (fun K hK => ?_)
   have z := blk_cell S.hX 0
   have zf := blk_frozen S.hX 0
   simp only [List.getElem?_toArray, List.getElem?_cons_zero, List.getElem?_cons_succ] at z
   refine skip_ (w1 := ?_) (by rfl) rfl ?_ ?_
   rotate_left
   ·go_simp
    rfl
   clear z zf
   replace Q := q_at Q S.hX (by decide) 0 (.int .i64 (wrap64 (a1_0 + y)))
   replace S := S.putX 0 (.int .i64 (wrap64 (a1_0 + y))) rfl
   generalize W2.setCell _ _ = W3 at S Q ⊢
   refine hK.out _ _ ?_
   clear hK K
   refine done_ (by kernel_rfl) ?_
   replace S : RS w W3 G #[.int .i64 a0_0, .int .i64 a0_1, .int .i64 a0_2, .int .i64 a0_3, .int .i64 a0_4, .int .i64 a0_5, .int .i64 a0_6, .int .i64 a0_7, .int .i64 a0_8, .int .i64 a0_9, .int .i64 a0_10, .int .i64 a0_11] #[.int .i64 0, .slice none 0 0, .int .i64 0, .int .i64 0] #[.int .i64 0, .bool false] #[.int .i64 (wrap64 (a1_0 + y)), .slice (some ⟨g, o, none⟩) l1_1.length c', .int .i64 a1_2, .int .i64 0] := S
   have x := blk_cell S.hX
   have xf := blk_frozen S.hX
   have hr := Kd.Q_drop (k := 1) Q (by omega)
   obtain ⟨i0, hi0, _, hsz, _⟩ := info_parts info3
   have hcut := cut_from (P := Try.prog) 32 3 .i64 Try.underlying32 hi0 1 hsz (some ⟨g, o, none⟩) l1_1.length c' 1 (by omega) (by omega)
   obtain ⟨A3, hA3⟩ : ∃ A3, A3 = (if c' = 1 then (some ⟨g, o, none⟩) else (some (⟨g, o, none⟩ : Addr)).map (·.add (1 * 1))) := ⟨_, rfl⟩
   obtain ⟨n3, hn3⟩ : ∃ n3, n3 = l1_1.length - 1 := ⟨_, rfl⟩
   obtain ⟨c3, hc3⟩ : ∃ c3, c3 = c' - 1 := ⟨_, rfl⟩
   rw [show (1 : Int).toNat = 1 from rfl, ← hn3, ← hc3, ← hA3] at hcut
   replace hr : (Kd.int .i64).Q 3 W3 w.heap.size (fun _ => True) (.slice A3 n3 c3) (l1_1.drop 1) := by rw [hA3, hn3, hc3]; exact hr
   have HS := Aside0.mk (S.putX (c' := #[.int .i64 (wrap64 (a1_0 + y)), .slice A3 n3 c3, .int .i64 a1_2, .int .i64 0]) 1 (.slice A3 n3 c3) rfl)
   have HQ := Aside0.mk (q_at hr S.hX (by decide) 1 (.slice A3 n3 c3))
   have HY := Aside0.mk hy
   have HP := Aside0.mk hl
   clear hA3 hn3 hc3 hi0 hsz Q S hr hg1 hg2 hHeld hy hl
   go_wp2
   go_meet
   refine ⟨_, ?_, HQ.out⟩
   have z := HS.out
   rw [← HY.out] at z
   unfold readyL
   rw [if_pos HP.out]
   exact z
  ·have b1 : decide (0 < l1_1.length) = false := decide_eq_false hl
   have hz : l1_1 = [] := List.eq_nil_of_length_eq_zero (by omega)
   have HS := Aside0.mk S
   have HQ := Aside0.mk Q
   have HZ := Aside0.mk hz
   clear S Q hl hz
   rw [b1]
   go_wp2
   go_meet
   have hz := HZ.out
   subst hz
   exact ⟨_, HS.out, HQ.out⟩
 case rest =>
  clear S Q x
  obtain ⟨v1, S1, Q1⟩ := hcut
  obtain ⟨R1, hR1⟩ : ∃ R1, readyL a1_0 l1_1 = R1 := ⟨_, rfl⟩
  obtain ⟨l1, hl1⟩ : ∃ l1, l1_1.drop 1 = l1 := ⟨_, rfl⟩
  have h := Hh.out
  rw [hR1, hl1] at h
  rw [hR1] at S1
  rw [hl1] at Q1
  clear Hh hR1 hl1 HR HC HL
  obtain ⟨⟨R2, l2, wt0, ut0⟩, hz, h1⟩ := Option.bind_eq_some_iff.1 h
  clear h
  dsimp only at h1
  by_cases hl2 : l2.length < 140737488355328
  rotate_left
  ·rw [if_neg hl2] at h1
   cases h1
  rw [if_pos hl2] at h1
  obtain ⟨todo, ht, h2⟩ := Option.bind_eq_some_iff.1 h1
  obtain ⟨ut, hd, h⟩ := Option.bind_eq_some_iff.1 h2
  clear h1 h2
  simp only [Option.some.injEq, Prod.mk.injEq] at h
  obtain ⟨e1, e2, e3, e4, e5, e6⟩ := h
  obtain ⟨m1, hm1⟩ : ∃ z, mx a2 0 = z := ⟨_, rfl⟩
  have hm1' : (if a2 < 0 then 0 else a2) = m1 := hm1
  obtain ⟨wn, hwn⟩ : ∃ z, mn m1 1000 = z := ⟨_, rfl⟩
  have hwn' : (if 1000 < m1 then 1000 else m1) = wn := hwn
  obtain ⟨d1, hd1⟩ : ∃ z, mx a3 0 = z := ⟨_, rfl⟩
  have hd1' : (if a3 < 0 then 0 else a3) = d1 := hd1
  obtain ⟨dm, hdm⟩ : ∃ z, mn d1 1000000 = z := ⟨_, rfl⟩
  have hdm' : (if 1000000 < d1 then 1000000 else d1) = dm := hdm
  obtain ⟨pr, hpr⟩ : ∃ z, wrap64 (R2 * a0_4) = z := ⟨_, rfl⟩
  obtain ⟨can, hcan⟩ : ∃ z, mn pr 1000000000 = z := ⟨_, rfl⟩
  have hcan' : (if 1000000000 < pr then 1000000000 else pr) = can := hcan
  obtain ⟨wd, hwd⟩ : ∃ z, wrap64 (todo - can) = z := ⟨_, rfl⟩
  obtain ⟨wt, hwt⟩ : ∃ z, mx wd 0 = z := ⟨_, rfl⟩
  have hwt' : (if wd < 0 then 0 else wd) = wt := hwt
  rw [hm1, hwn] at hz
  rw [hd1, hdm] at ht
  rw [hpr, hcan] at hd e3 e6
  rw [hwd, hwt] at e3 e6
  clear hm1 hwn hd1 hdm hcan hwt
  subst e1
  subst e3
  subst e4
  have HZ := Aside0.mk hz
  clear hz
  have HT := Aside0.mk ht
  clear ht
  have HD := Aside0.mk hd
  clear hd
  have H2 := Aside0.mk e2
  clear e2
  have H5 := Aside0.mk e5
  clear e5
  have H6 := Aside0.mk e6
  clear e6
  have HL2 := Aside0.mk hl2
  clear hl2
  obtain ⟨A1, c1, rfl, hc1⟩ := Kd.Q_slice Q1
  have HS := Aside0.mk S1
  have HQ := Aside0.mk Q1
  have x := blk_cell S1.hX
  have xf := blk_frozen S1.hX
  have c := blk_cell S1.hC
  clear S1 Q1 hc1
  go_upto_block 0 with (first
   | (go_at_call 57; refine (governorref16_sized.calls k a0_5 R1 A1 c1 l1 a1_2 0 wn _ _ _ _ _ (Kd.Q_reads' HQ.out).2.2 (Kd.Q_reads' HQ.out).2.1 HZ.out).mono ?_; rintro e_ w5 ⟨v2, rfl, ho, hb⟩; obtain ⟨A2, c2, rfl⟩ := Kd.R_slice ho; replace HQ := Aside0.mk (Kd.Q_of_R (Kd.R_lower ho HS.out.hB.size)); replace HS := Aside0.mk (HS.out.below hb); clear ho; clear hb x xf c; have x := blk_cell HS.out.hX; have xf := blk_frozen HS.out.hX; have c := blk_cell HS.out.hC)
   | (go_at_call 58; refine (governorref08_Add.calls _ _ _ _ HT.out).mono ?_; rintro e_ w6 ⟨rfl, hn⟩; obtain ⟨na, rfl⟩ := hn)
   | (go_at_call 59; refine (governorref08_Div.calls k _ _ _ _ HD.out).mono ?_; rintro e_ w7 ⟨rfl, hn⟩; obtain ⟨nd, rfl⟩ := hn))
  clear x xf c hm1' hwn' hd1' hdm' hcan' hwt' hpr hwd HZ HT HD
  have S := HS.out
  have Q := HQ.out
  clear HS HQ
  replace Q := q_at Q S.hX (by decide) 0 (.int .i64 R2)
  replace S := S.putX 0 (.int .i64 R2) rfl
  replace Q := q_at Q S.hX (by decide) 1 (.slice A2 l2.length c2)
  replace S := S.putX 1 (.slice A2 l2.length c2) rfl
  replace Q := q_at Q S.hX (by decide) 2 (.int .i64 wt0)
  replace S := S.putX 2 (.int .i64 wt0) rfl
  replace Q := q_at Q S.hX (by decide) 3 (.int .i64 ut0)
  replace S := S.putX 3 (.int .i64 ut0) rfl
  replace Q := Kd.Q_below Q (pw_below_drewN (Below.refl _ _) na)
  replace S := S.below (pw_below_drewN (Below.refl _ _) na)
  replace Q := q_at Q S.hX (by decide) 2 (.int .i64 wt)
  replace S := S.putX 2 (.int .i64 wt) rfl
  replace Q := Kd.Q_below Q (pw_below_drewN (Below.refl _ _) nd)
  replace S := S.below (pw_below_drewN (Below.refl _ _) nd)
  replace Q := q_at Q S.hX (by decide) 3 (.int .i64 ut)
  replace S := S.putX 3 (.int .i64 ut) rfl
  generalize World.setCell _ _ (.int .i64 ut) = W6 at S Q ⊢
  replace S : RS w W6 G #[.int .i64 a0_0, .int .i64 a0_1, .int .i64 a0_2, .int .i64 a0_3, .int .i64 a0_4, .int .i64 a0_5, .int .i64 a0_6, .int .i64 a0_7, .int .i64 a0_8, .int .i64 a0_9, .int .i64 a0_10, .int .i64 a0_11] #[.int .i64 0, .slice none 0 0, .int .i64 0, .int .i64 0] #[.int .i64 0, .bool false] #[.int .i64 R2, .slice A2 l2.length c2, .int .i64 wt, .int .i64 ut] := S
  go_cut [] (fun wx => ∃ v', RS w wx G #[.int .i64 a0_0, .int .i64 a0_1, .int .i64 a0_2, .int .i64 a0_3, .int .i64 a0_4, .int .i64 a0_5, .int .i64 a0_6, .int .i64 a0_7, .int .i64 a0_8, .int .i64 a0_9, .int .i64 a0_10, .int .i64 a0_11] #[.int .i64 0, .slice none 0 0, .int .i64 0, .int .i64 0] #[.int .i64 0, .bool false] #[.int .i64 R2, v', .int .i64 wt, .int .i64 ut] ∧ (Kd.int .i64).Q 3 wx w.heap.size (fun _ => True) v' (trimL l2))
  case first => as_aux_lemma =>
   clear H2 H5 H6
   go_wp2
   go_loopg [] l2.length (fun kq wr => ∃ (v : Value) (l : List Int), RS w wr G #[.int .i64 a0_0, .int .i64 a0_1, .int .i64 a0_2, .int .i64 a0_3, .int .i64 a0_4, .int .i64 a0_5, .int .i64 a0_6, .int .i64 a0_7, .int .i64 a0_8, .int .i64 a0_9, .int .i64 a0_10, .int .i64 a0_11] #[.int .i64 0, .slice none 0 0, .int .i64 0, .int .i64 0] #[.int .i64 0, .bool false] #[.int .i64 R2, v, .int .i64 wt, .int .i64 ut] ∧ (Kd.int .i64).Q 3 wr w.heap.size (fun _ => True) v l ∧ l.length = kq ∧ Aside0 (trimL l = trimL l2) ∧ Aside0 (l.length < 140737488355328))
   case atStart => exact ⟨_, l2, S, Q, rfl, ⟨rfl⟩, HL2⟩
   case round =>
    clear S Q HL2
    obtain ⟨v, l, S, Q, rfl, HT, HL⟩ := hrel
    obtain ⟨A, c, rfl, hc⟩ := Kd.Q_slice Q
    have x := blk_cell S.hX
    have xf := blk_frozen S.hX
    by_cases hl : 0 < l.length
    ·have hl8 := HL.out
     have b1 : decide (0 < l.length) = true := decide_eq_true hl
     obtain ⟨g, o, c2, hv, hg1, hg2, _⟩ := Kd.Q_form Q hl
     injection hv with e1 _ e3
     subst e1
     subst e3
     obtain ⟨c1', _⟩ := Kd.Q_cell (0 : Int) Q ((l.length : Int) - 1) (by omega) (by omega)
     obtain ⟨y, hy⟩ : ∃ y, rd l ((l.length : Int) - 1) = y := ⟨_, rfl⟩
     have c1 : wr.cell? ⟨g, o + (l.length - 1), none⟩ = some (.int .i64 y) := by
      rw [← hy, show l.length - 1 = ((l.length : Int) - 1).toNat by omega]
      exact c1'
     have c2 : wr.cell? ⟨g, o + ((l.length : Int) - 1).toNat, none⟩ = some (.int .i64 y) := by
      rw [← hy]
      exact c1'
     have w1 : wrap64 ((l.length : Int) - 1) = (l.length : Int) - 1 := IntWalk.wrap64_in _ (by omega)
     have b3 : 0 ≤ (l.length : Int) - 1 := by omega
     have b4 : (l.length : Int) - 1 < (l.length : Int) := by omega
     clear c1' hc
     have HX := Aside0.mk hy
     have HP := Aside0.mk hl
     have HS := Aside0.mk S
     have HQ := Aside0.mk Q
     by_cases hz : y = 0
     ·subst hz
      have hr := Kd.Q_take (m := l.length - 1) Q (by omega)
      obtain ⟨i0, hi0, _, hsz, _⟩ := info_parts info3
      have hcut := cut_to (P := Try.prog) 32 3 .i64 Try.underlying32 hi0 (some ⟨g, o, none⟩) l.length c ((l.length : Int) - 1) (by omega) (by omega) (Kd.Q_reads' Q).2.1
      rw [show ((l.length : Int) - 1).toNat = l.length - 1 by omega] at hcut
      have HR := Aside0.mk (q_at hr S.hX (by decide) 1 (.slice (some ⟨g, o, none⟩) (l.length - 1) c))
      clear hi0 hsz hr hy S Q hl hl8 hg1 hg2
      go_wp2
      go_roundg (l.length - 1)
      case measure => have := HP.out; omega
      case rel => exact ⟨_, l.take (l.length - 1), HS.out.putX 1 _ rfl, HR.out, by rw [List.length_take]; omega, ⟨(trimL_end0 l HP.out HX.out).trans HT.out⟩, ⟨by have := HL.out; rw [List.length_take]; omega⟩⟩
     ·have b5 : (y == 0) = false := by simp [hz]
      have HZ := Aside0.mk hz
      clear hy S Q hl hl8 hg1 hg2 hz
      go_wp2
      go_meet
      have e := trimL_end l HP.out (by rw [HX.out]; exact HZ.out)
      rw [← HT.out, e]
      exact ⟨_, HS.out, HQ.out⟩
    ·have b1 : decide (0 < l.length) = false := decide_eq_false hl
     have hz : l = [] := List.eq_nil_of_length_eq_zero (by omega)
     have HS := Aside0.mk S
     have HQ := Aside0.mk Q
     have HZ := Aside0.mk hz
     clear S Q hl hz
     go_wp2
     go_meet
     have hz := HZ.out
     rw [← HT.out]
     subst hz
     exact ⟨_, HS.out, HQ.out⟩
  case rest =>
   clear S Q
   obtain ⟨v3, S, Q⟩ := hcut
   obtain ⟨A7, c7, rfl, hc7⟩ := Kd.Q_slice Q
   obtain ⟨l3, hl3⟩ : ∃ l3, trimL l2 = l3 := ⟨_, rfl⟩
   have hlen : l3.length < 140737488355328 := by have h1 := HL2.out; have h2 := trimL_length l2; rw [hl3] at h2; omega
   have h2 := H2.out
   have h5 := H5.out
   have h6 := H6.out
   rw [hl3] at S Q h2 h5
   clear H2 H5 H6 HL2 hl3 hc7
   subst h2
   subst h6
   have HF := Aside0.mk (show governorref16_All.f R2 l3 wt ut = some r5 by unfold governorref16_All.f; rw [if_pos hlen, h5])
   clear h5 hlen
   have x := blk_cell S.hX
   go_upto_region 12 with (fail)
   clear x
   refine start_ (n := 11) (S := fun w' => w'.heap[w.heap.size]? = some (.cells #[.int .i64 a0_0, .int .i64 a0_1, .int .i64 a0_2, .int .i64 a0_3, .int .i64 a0_4, .int .i64 a0_5, .int .i64 a0_6, .int .i64 a0_7, .int .i64 a0_8, .int .i64 a0_9, .int .i64 a0_10, .int .i64 a0_11] 23 (0, 0)) ∧ w'.heap[G]? = some (.cells #[.int .i64 R2, .slice A7 l3.length c7, .int .i64 wt, .int .i64 ut] 34 (0, 0))) (ds := []) #[false, false, false, false, false, false, false, false, false, false, false] (by kernel_rfl) rfl rfl ⟨S.hC, S.hX⟩ (fun hHeld => ?_)
   replace Q := Kd.Q_below Q (below_drew1 (Below.refl _ _))
   replace S := S.below (below_drew1 (Below.refl _ _))
   generalize World.drew _ = W7 at S Q hHeld ⊢
   refine ta_ 0 89 #[true, false, false, false, false, false, false, false, false, false, false] hHeld (v := ?_) ?_ ?_
   rotate_left
   ·intro w' hS
    have s0 := blk_cell hS.2 0
    have s1 := blk_cell hS.2 1
    have s2 := blk_cell hS.2 2
    have s3 := blk_cell hS.2 3
    simp only [List.getElem?_toArray, List.getElem?_cons_zero, List.getElem?_cons_succ] at s0 s1 s2 s3
    clear hS
    go_simp
    with_reducible rfl
   refine ta_ 1 90 #[true, true, false, false, false, false, false, false, false, false, false] hHeld (v := ?_) ?_ ?_
   rotate_left
   ·intro w' hS
    have s0 := blk_cell hS.2 0
    have s1 := blk_cell hS.2 1
    have s2 := blk_cell hS.2 2
    have s3 := blk_cell hS.2 3
    simp only [List.getElem?_toArray, List.getElem?_cons_zero, List.getElem?_cons_succ] at s0 s1 s2 s3
    clear hS
    go_simp
    with_reducible rfl
   refine pu_ 3 92 #[true, true, false, true, false, false, false, false, false, false, false] ?_
   refine pu_ 5 94 #[true, true, false, true, false, true, false, false, false, false, false] ?_
   refine ta_ 4 93 #[true, true, false, true, true, true, false, false, false, false, false] hHeld (v := ?_) ?_ ?_
   rotate_left
   ·intro w' hS
    have s0 := blk_cell hS.2 0
    have s1 := blk_cell hS.2 1
    have s2 := blk_cell hS.2 2
    have s3 := blk_cell hS.2 3
    simp only [List.getElem?_toArray, List.getElem?_cons_zero, List.getElem?_cons_succ] at s0 s1 s2 s3
    clear hS
    go_simp
    with_reducible rfl
   refine ta_ 6 95 #[true, true, false, true, true, true, true, false, false, false, false] hHeld (v := ?_) ?_ ?_
   rotate_left
   ·intro w' hS
    have s6 := blk_cell hS.1 6
    simp only [List.getElem?_toArray, List.getElem?_cons_zero, List.getElem?_cons_succ] at s6
    clear hS
    go_simp
    with_reducible rfl
   refine pu_ 7 96 #[true, true, false, true, true, true, true, true, false, false, false] ?_
   refine one_ (i := 2) (N := some 91) #[true, true, true, true, true, true, true, true, false, false, false] rfl rfl (by kernel_rfl) (by decide) (fun K hK => ?_)
   refine goes_ Try.func47 (by kernel_rfl) rfl #[.agg #[.int .i64 R2, .slice A7 l3.length c7, .int .i64 wt, .int .i64 ut]] (by rfl) rfl rfl (by simp only [List.map_toArray, List.map_cons, List.map_nil]; rfl) ?_
   refine (governorref16_All.calls R2 A7 c7 l3 wt ut _ _ (Kd.Q_reads' Q).2.2 (Kd.Q_reads' Q).2.1 HF.out).mono ?_
   rintro e_ w8 ⟨rfl, hb⟩
   refine ⟨_, rfl, ?_⟩
   replace Q := Kd.Q_below Q hb
   replace S := S.below hb
   clear hb
   refine hK.out _ _ ⟨S.hC, S.hX⟩ (fun hHeld => ?_)
   clear hK K
   refine no_ 91 ?_
   refine pu_ 8 97 #[true, true, true, true, true, true, true, true, true, false, false] ?_
   refine one_ (i := 9) (N := none) #[true, true, true, true, true, true, true, true, true, true, false] rfl rfl (by kernel_rfl) (by decide) (fun K hK => ?_)
   have z := blk_cell S.hA
   have zf := blk_frozen S.hA
   have z0 := z 0
   have z1 := z 1
   have z2 := z 2
   have z3 := z 3
   simp only [List.getElem?_toArray, List.getElem?_cons_zero, List.getElem?_cons_succ] at z0 z1 z2 z3
   refine skip_ (w1 := ?_) (by rfl) rfl ?_ ?_
   rotate_left
   ·go_simp
    rfl
   clear z zf z0 z1 z2 z3
   replace Q := q_at Q S.hA (by decide) 0 (.int .i64 R2)
   replace S := S.putA 0 (.int .i64 R2) rfl
   replace Q := q_at Q S.hA (by decide) 1 (.slice A7 l3.length c7)
   replace S := S.putA 1 (.slice A7 l3.length c7) rfl
   replace Q := q_at Q S.hA (by decide) 2 (.int .i64 wt)
   replace S := S.putA 2 (.int .i64 wt) rfl
   replace Q := q_at Q S.hA (by decide) 3 (.int .i64 ut)
   replace S := S.putA 3 (.int .i64 ut) rfl
   generalize (((w8.setCell _ _).setCell _ _).setCell _ _).setCell _ _ = W9 at S Q ⊢
   refine hK.out _ _ ⟨S.hC, S.hX⟩ (fun hHeld => ?_)
   clear hK K
   refine one_ (i := 10) (N := none) #[true, true, true, true, true, true, true, true, true, true, true] rfl rfl (by kernel_rfl) (by decide) (fun K hK => ?_)
   have z := blk_cell S.hM
   have zf := blk_frozen S.hM
   have z0 := z 0
   have z1 := z 1
   simp only [List.getElem?_toArray, List.getElem?_cons_zero, List.getElem?_cons_succ] at z0 z1
   refine skip_ (w1 := ?_) (by rfl) rfl ?_ ?_
   rotate_left
   ·go_simp
    rfl
   clear z zf z0 z1
   replace Q := q_at Q S.hM (by decide) 0 (.int .i64 r5)
   replace S := S.putM 0 (.int .i64 r5) rfl
   replace Q := q_at Q S.hM (by decide) 1 (.bool (decide (a0_6 < wt)))
   replace S := S.putM 1 (.bool (decide (a0_6 < wt))) rfl
   generalize (W9.setCell _ _).setCell _ _ = W10 at S Q ⊢
   refine hK.out _ _ ⟨S.hC, S.hX⟩ (fun hHeld => ?_)
   clear hK K
   refine done_ (by kernel_rfl) ?_
   replace S : RS w W10 G #[.int .i64 a0_0, .int .i64 a0_1, .int .i64 a0_2, .int .i64 a0_3, .int .i64 a0_4, .int .i64 a0_5, .int .i64 a0_6, .int .i64 a0_7, .int .i64 a0_8, .int .i64 a0_9, .int .i64 a0_10, .int .i64 a0_11] #[.int .i64 R2, .slice A7 l3.length c7, .int .i64 wt, .int .i64 ut] #[.int .i64 r5, .bool (decide (a0_6 < wt))] #[.int .i64 R2, .slice A7 l3.length c7, .int .i64 wt, .int .i64 ut] := S
   have HS := Aside0.mk S
   have HQ := Aside0.mk Q
   clear S Q hHeld
   go_wp2
   refine bodyPost_ret (results_cc rfl _ _ (w.heap.size + 1 + 1) (w.heap.size + 1 + 1 + 1) 34 52 _ _ (0, 0) (0, 0) _ _ rfl HS.out.hA hu1 rfl (by kernel_rfl) rfl HS.out.hM hu2 rfl (by kernel_rfl)) rfl ?_
   exact ⟨_, rfl, HQ.out, HS.out.hB⟩
end Go.Proofs.Ytefgoffaidjiaaa.PAll
