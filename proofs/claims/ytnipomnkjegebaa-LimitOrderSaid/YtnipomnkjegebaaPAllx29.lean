-- laid by a program of this session (tprint.py) out of the translation and of texts typed by hand; Lean checks it
import Derived.Test.YtnipomnkjegebaaPAllx0
import Derived.Test.YtnipomnkjegebaaPAllx1
import Derived.Test.YtnipomnkjegebaaPAllx18
import Derived.Test.YtnipomnkjegebaaPAllx20
import Derived.Test.YtnipomnkjegebaaPAllx21
import Derived.Test.YtnipomnkjegebaaPAllx22
namespace Go.Proofs.Ytnipomnkjegebaa.PAll
open Go.RowKit Go.Proofs.YtnipomnkjegebaaW.PrintWords Go.Proofs.YtnipomnkjegebaaW.PrintLast Go.Proofs.YtnipomnkjegebaaW.PrintMore
attribute [local go_sem] max2_int min2_int max_two min_two max_three min_three max_four min_four   -- for this text's walks alone
set_option linter.unusedVariables false
set_option linter.unusedSimpArgs false

attribute [local go_sem high] eqA39
/-! ### governorlaw15_LimitOrder: function 13 -/
def governorlaw15_LimitOrder.j0 : Nat → Int → Int → Int → Bool → Bool → Int → Int → Int → Int → Int → Int → Int → Int → Int → Int → Int → Int → Int → Int → Bool → Option (Bool)
  | 0, _, _, _, _, _, _, _, _, _, _, _, _, _, _, _, _, _, _, _, _ => none
  | k + 1, x2, x3, x4, x11, x23, x320000, x320001, x320002, x320003, x320004, x320005, x320006, x320007, x320008, x320009, x320010, x320011, x321000, x321001, x321002 => if x23 = true then (some x11) else ((limit_Next.f x320000 x320001 x320002 x320003 x320004 x320005 x320006 x320007 x320008 x320009 x320010 x320011 x321000 x321001 x321002 (wrap64 (x2)) (wrap64 (x4))).bind fun bt324 => ((limit_Next.f x320000 x320001 x320002 x320003 x320004 x320005 x320006 x320007 x320008 x320009 x320010 x320011 x321000 x321001 x321002 (wrap64 ((wrap64 (x2)) + (wrap64 (x3)))) (wrap64 (x4))).bind fun bt328 => (if x11 = true then (if bt324.1 ≤ bt328.1 then (if bt324.1 = bt328.1 then (some (bt324.1 == bt328.1 && (bt324.2.1 == bt328.2.1 && (bt324.2.2 == bt328.2.2)))) else (some true)) else (some false)) else (some false))))
def governorlaw15_LimitOrder.f (k : Nat) (a0_0 : Int) (a0_1 : Int) (a0_2 : Int) (a0_3 : Int) (a0_4 : Int) (a0_5 : Int) (a0_6 : Int) (a0_7 : Int) (a0_8 : Int) (a0_9 : Int) (a0_10 : Int) (a0_11 : Int) (a1_0 : Int) (a1_1 : Int) (a1_2 : Bool) (a2 : Int) (a3 : Int) (a4 : Int) : Option (Bool) := (governorlaw15_head.f).bind fun t321 => ((governorref09_Conf.f a0_0 a0_1 a0_2 a0_3 a0_4 a0_5 a0_6 a0_7 a0_8 a0_9 a0_10 a0_11).bind fun t322 => (if t322 = true then ((governorlaw15_time.f a1_1).bind fun t323 => (governorlaw15_LimitOrder.j0 k a2 a3 a4 t321 (!t323) a0_0 a0_1 a0_2 a0_3 a0_4 a0_5 a0_6 a0_7 a0_8 a0_9 a0_10 a0_11 a1_0 a1_1 a1_2)) else (governorlaw15_LimitOrder.j0 k a2 a3 a4 t321 true a0_0 a0_1 a0_2 a0_3 a0_4 a0_5 a0_6 a0_7 a0_8 a0_9 a0_10 a0_11 a1_0 a1_1 a1_2)))
theorem governorlaw15_LimitOrder.mono_l : ∀ k, (∀ y0 y1 y2 y3 y4 y5 y6 y7 y8 y9 y10 y11 y12 y13 y14 y15 y16 y17 y18 y19, LeO (governorlaw15_LimitOrder.j0 k y0 y1 y2 y3 y4 y5 y6 y7 y8 y9 y10 y11 y12 y13 y14 y15 y16 y17 y18 y19) (governorlaw15_LimitOrder.j0 (k + 1) y0 y1 y2 y3 y4 y5 y6 y7 y8 y9 y10 y11 y12 y13 y14 y15 y16 y17 y18 y19))
  | 0 => fun _ _ _ _ _ _ _ _ _ _ _ _ _ _ _ _ _ _ _ _ r h => by simp [governorlaw15_LimitOrder.j0] at h
  | k + 1 => by
    have ih0 := governorlaw15_LimitOrder.mono_l k
    · intro y0 y1 y2 y3 y4 y5 y6 y7 y8 y9 y10 y11 y12 y13 y14 y15 y16 y17 y18 y19
      unfold governorlaw15_LimitOrder.j0
      repeat' first
      | (with_reducible exact ih0 _ _ _ _ _ _ _ _ _ _ _ _ _ _ _ _ _ _ _ _)
      | (with_reducible exact LeO.refl _)
      | (with_reducible exact LeO.none _)
      | (with_reducible refine LeO.ite ?_ ?_)
      | (with_reducible refine LeO.bind ?_ (fun _ => ?_))
      | exact ih0 _ _ _ _ _ _ _ _ _ _ _ _ _ _ _ _ _ _ _ _
      | exact LeO.none _
      | refine LeO.ite ?_ ?_
      | refine LeO.bind ?_ (fun _ => ?_)
theorem governorlaw15_LimitOrder.mono : ∀ a0 a1 a2 a3 a4 a5 a6 a7 a8 a9 a10 a11 a12 a13 a14 a15 a16 a17 k, LeO (governorlaw15_LimitOrder.f k a0 a1 a2 a3 a4 a5 a6 a7 a8 a9 a10 a11 a12 a13 a14 a15 a16 a17) (governorlaw15_LimitOrder.f (k + 1) a0 a1 a2 a3 a4 a5 a6 a7 a8 a9 a10 a11 a12 a13 a14 a15 a16 a17) := by
  intro a0 a1 a2 a3 a4 a5 a6 a7 a8 a9 a10 a11 a12 a13 a14 a15 a16 a17 k
  have ih0 := governorlaw15_LimitOrder.mono_l k
  unfold governorlaw15_LimitOrder.f
  repeat' first
      | (with_reducible exact ih0 _ _ _ _ _ _ _ _ _ _ _ _ _ _ _ _ _ _ _ _)
      | (with_reducible exact LeO.refl _)
      | (with_reducible exact LeO.none _)
      | (with_reducible refine LeO.ite ?_ ?_)
      | (with_reducible refine LeO.bind ?_ (fun _ => ?_))
      | exact ih0 _ _ _ _ _ _ _ _ _ _ _ _ _ _ _ _ _ _ _ _
      | exact LeO.none _
      | refine LeO.ite ?_ ?_
      | refine LeO.bind ?_ (fun _ => ?_)
set_option maxHeartbeats 8000000 in
set_option maxRecDepth 100000 in
theorem governorlaw15_LimitOrder.calls (k : Nat) (a0_0 : Int) (a0_1 : Int) (a0_2 : Int) (a0_3 : Int) (a0_4 : Int) (a0_5 : Int) (a0_6 : Int) (a0_7 : Int) (a0_8 : Int) (a0_9 : Int) (a0_10 : Int) (a0_11 : Int) (a1_0 : Int) (a1_1 : Int) (a1_2 : Bool) (a2 : Int) (a3 : Int) (a4 : Int) (r : Bool) (w : World) (hrT : r = true) (h : governorlaw15_LimitOrder.f k a0_0 a0_1 a0_2 a0_3 a0_4 a0_5 a0_6 a0_7 a0_8 a0_9 a0_10 a0_11 a1_0 a1_1 a1_2 a2 a3 a4 = some r) :
    Calls Try.prog 13 #[.agg #[.int .i64 a0_0, .int .i64 a0_1, .int .i64 a0_2, .int .i64 a0_3, .int .i64 a0_4, .int .i64 a0_5, .int .i64 a0_6, .int .i64 a0_7, .int .i64 a0_8, .int .i64 a0_9, .int .i64 a0_10, .int .i64 a0_11], .agg #[.int .i64 a1_0, .int .i64 a1_1, .bool a1_2], .int .i16 a2, .int .u16 a3, .int .u16 a4] w fun e w' => e = .returned (.bool r) ∧ Below w.heap.size w w' := by
  have hu37 := Try.underlying37
  have hu39 := Try.underlying39
  have HB := Aside0.mk (Below.refl w.heap.size w)
  have HRT := Aside0.mk hrT
  clear hrT
  have H : ((governorlaw15_head.f).bind fun t321 => ((governorref09_Conf.f a0_0 a0_1 a0_2 a0_3 a0_4 a0_5 a0_6 a0_7 a0_8 a0_9 a0_10 a0_11).bind fun t322 => (if t322 = true then ((governorlaw15_time.f a1_1).bind fun t323 => (governorlaw15_LimitOrder.j0 k a2 a3 a4 t321 (!t323) a0_0 a0_1 a0_2 a0_3 a0_4 a0_5 a0_6 a0_7 a0_8 a0_9 a0_10 a0_11 a1_0 a1_1 a1_2)) else (governorlaw15_LimitOrder.j0 k a2 a3 a4 t321 true a0_0 a0_1 a0_2 a0_3 a0_4 a0_5 a0_6 a0_7 a0_8 a0_9 a0_10 a0_11 a1_0 a1_1 a1_2)))) = some r := h
  clear h
  replace H := Option.bind_eq_some_iff.mp H
  obtain ⟨t321, A60, H⟩ := H
  replace H : ((governorref09_Conf.f a0_0 a0_1 a0_2 a0_3 a0_4 a0_5 a0_6 a0_7 a0_8 a0_9 a0_10 a0_11).bind fun t322 => (if t322 = true then ((governorlaw15_time.f a1_1).bind fun t323 => (governorlaw15_LimitOrder.j0 k a2 a3 a4 t321 (!t323) a0_0 a0_1 a0_2 a0_3 a0_4 a0_5 a0_6 a0_7 a0_8 a0_9 a0_10 a0_11 a1_0 a1_1 a1_2)) else (governorlaw15_LimitOrder.j0 k a2 a3 a4 t321 true a0_0 a0_1 a0_2 a0_3 a0_4 a0_5 a0_6 a0_7 a0_8 a0_9 a0_10 a0_11 a1_0 a1_1 a1_2))) = some r := H
  have A6 := Aside0.mk A60
  clear A60
  have HC7 := Aside0.mk H
  clear H
  go_enter Try.func13, Try.ntmps13
  go_upto_region 2 with (first | ((with_reducible refine gate_dst (N := 5) rfl ?_); refine box_event ?hg (N := 5) ?hd (cs := #[.int .i64 a0_0, .int .i64 a0_1, .int .i64 a0_2, .int .i64 a0_3, .int .i64 a0_4, .int .i64 a0_5, .int .i64 a0_6, .int .i64 a0_7, .int .i64 a0_8, .int .i64 a0_9, .int .i64 a0_10, .int .i64 a0_11]) (t := 37) ?hr ?_; (case hd => rfl); (case hg => rfl); (case hr => first | (go_simp; done) | (go_simp; rfl)); intro gb319 hg w8 hbox hb; have n0_ := Aside0.mk (below_step (by repeat (first | (with_reducible first | exact HB.out | apply below_alloc | apply pw_below_drewN | apply below_drew1) | exact HB.out)) hb); have n1_ := Aside0.mk (hbox); have n2_ := Aside0.mk ((by rw [hg]; exact (below_size (by repeat (first | (with_reducible first | exact HB.out | apply below_alloc | apply pw_below_drewN | apply below_drew1) | exact HB.out))) : w.heap.size ≤ gb319)); have n3_ := Aside0.mk ((by rw [hg]; exact (below_size (by repeat (first | (with_reducible first | exact HB.out | apply below_alloc | apply pw_below_drewN | apply below_drew1) | exact HB.out))) : w.heap.size ≤ gb319)); clear HB; have HB := n0_; have BK319 := n1_; have GW319 := n2_; have GE319 := n3_; clear n0_ n1_ n2_ n3_; clear hb hbox hg) | ((with_reducible refine gate_dst (N := 6) rfl ?_); refine box_event ?hg (N := 6) ?hd (cs := #[.int .i64 a1_0, .int .i64 a1_1, .bool a1_2]) (t := 39) ?hr ?_; (case hd => rfl); (case hg => rfl); (case hr => first | (go_simp; done) | (go_simp; rfl)); intro gb320 hg w9 hbox hb; have n0_ := Aside0.mk (blk_below (g := gb319) (o := .cells #[.int .i64 a0_0, .int .i64 a0_1, .int .i64 a0_2, .int .i64 a0_3, .int .i64 a0_4, .int .i64 a0_5, .int .i64 a0_6, .int .i64 a0_7, .int .i64 a0_8, .int .i64 a0_9, .int .i64 a0_10, .int .i64 a0_11] 37 (0, 0)) (by (with_reducible repeat (first | refine blk_drewN ?_ _ | refine blk_drew ?_ | refine blk_alloc ?_ _)); exact BK319.out) hb); have n1_ := Aside0.mk (below_step (by repeat (first | (with_reducible first | exact HB.out | apply below_alloc | apply pw_below_drewN | apply below_drew1 | refine below_set ?_ GE319.out) | exact HB.out)) hb); have n2_ := Aside0.mk (hbox); have n3_ := Aside0.mk ((by rw [hg]; exact (below_size (by repeat (first | (with_reducible first | exact HB.out | apply below_alloc | apply pw_below_drewN | apply below_drew1 | refine below_set ?_ GE319.out) | exact HB.out))) : w.heap.size ≤ gb320)); have n4_ := Aside0.mk ((by rw [hg]; exact (below_size (by repeat (first | (with_reducible first | exact HB.out | apply below_alloc | apply pw_below_drewN | apply below_drew1 | refine below_set ?_ GE319.out) | exact HB.out))) : w.heap.size ≤ gb320)); have n5_ := Aside0.mk ((by rw [hg]; exact Nat.ne_of_lt (blk_lt (g := gb319) (o := .cells #[.int .i64 a0_0, .int .i64 a0_1, .int .i64 a0_2, .int .i64 a0_3, .int .i64 a0_4, .int .i64 a0_5, .int .i64 a0_6, .int .i64 a0_7, .int .i64 a0_8, .int .i64 a0_9, .int .i64 a0_10, .int .i64 a0_11] 37 (0, 0)) (by (with_reducible repeat (first | refine blk_drewN ?_ _ | refine blk_drew ?_ | refine blk_alloc ?_ _)); exact BK319.out)) : gb319 ≠ gb320)); have n6_ := Aside0.mk ((by rw [hg]; exact Nat.ne_of_gt (blk_lt (g := gb319) (o := .cells #[.int .i64 a0_0, .int .i64 a0_1, .int .i64 a0_2, .int .i64 a0_3, .int .i64 a0_4, .int .i64 a0_5, .int .i64 a0_6, .int .i64 a0_7, .int .i64 a0_8, .int .i64 a0_9, .int .i64 a0_10, .int .i64 a0_11] 37 (0, 0)) (by (with_reducible repeat (first | refine blk_drewN ?_ _ | refine blk_drew ?_ | refine blk_alloc ?_ _)); exact BK319.out)) : gb320 ≠ gb319)); clear BK319; clear HB; have BK319 := n0_; have HB := n1_; have BK320 := n2_; have GW320 := n3_; have GE320 := n4_; have NB319_320 := n5_; have NB320_319 := n6_; clear n0_ n1_ n2_ n3_ n4_ n5_ n6_; clear hb hbox hg) | ((with_reducible refine gate_callee (f := 21) rfl ?_); refine goesL_ (some 14) rfl rfl Try.func21 (by kernel_rfl) rfl #[] rfl (by (try simp only [List.map_toArray, List.map_cons, List.map_nil]); first | done | rfl | (simp only [List.length_drop, List.length_take]; rfl)) ?_; (with_reducible refine (governorlaw15_head.calls  t321 _ A6.out).mono ?_); rintro e w10 ⟨rfl, hb⟩; refine ⟨_, rfl, ?_⟩; have n0_ := Aside0.mk (blk_below (g := gb319) (o := .cells #[.int .i64 a0_0, .int .i64 a0_1, .int .i64 a0_2, .int .i64 a0_3, .int .i64 a0_4, .int .i64 a0_5, .int .i64 a0_6, .int .i64 a0_7, .int .i64 a0_8, .int .i64 a0_9, .int .i64 a0_10, .int .i64 a0_11] 37 (0, 0)) (by (with_reducible repeat (first | refine blk_drewN ?_ _ | refine blk_drew ?_ | refine blk_alloc ?_ _)); exact BK319.out) hb); have n1_ := Aside0.mk (blk_below (g := gb320) (o := .cells #[.int .i64 a1_0, .int .i64 a1_1, .bool a1_2] 39 (0, 0)) (by (with_reducible repeat (first | refine blk_drewN ?_ _ | refine blk_drew ?_ | refine blk_alloc ?_ _)); exact BK320.out) hb); have n2_ := Aside0.mk (below_step (by repeat (first | (with_reducible first | exact HB.out | apply below_alloc | apply pw_below_drewN | apply below_drew1 | refine below_set ?_ GE319.out | refine below_set ?_ GE320.out) | exact HB.out)) hb); clear BK319; clear BK320; clear HB; have BK319 := n0_; have BK320 := n1_; have HB := n2_; clear n0_ n1_ n2_; (try clear hb); (try clear hb2); (try clear hk); (try clear hi)))
  (try simp only [Act.put, List.setIfInBounds_toArray, List.set_cons_zero, List.set_cons_succ])
  go_cut [23] (fun v23 wc => ∃ (kq : Nat) (x23_6 : Bool), v23 = .bool x23_6 ∧ Aside0 (governorlaw15_LimitOrder.j0 kq a2 a3 a4 t321 x23_6 a0_0 a0_1 a0_2 a0_3 a0_4 a0_5 a0_6 a0_7 a0_8 a0_9 a0_10 a0_11 a1_0 a1_1 a1_2 = some r) ∧ Aside0 (kq ≤ k) ∧ Aside0 (wc.heap[gb319]? = some (.cells #[.int .i64 a0_0, .int .i64 a0_1, .int .i64 a0_2, .int .i64 a0_3, .int .i64 a0_4, .int .i64 a0_5, .int .i64 a0_6, .int .i64 a0_7, .int .i64 a0_8, .int .i64 a0_9, .int .i64 a0_10, .int .i64 a0_11] 37 (0, 0))) ∧ Aside0 (wc.heap[gb320]? = some (.cells #[.int .i64 a1_0, .int .i64 a1_1, .bool a1_2] 39 (0, 0))) ∧ Aside0 (Below w.heap.size w wc))
  case first =>
    have H := HC7.out
    clear HC7
    replace H := Option.bind_eq_some_iff.mp H
    obtain ⟨t322, A110, H⟩ := H
    replace H : (if t322 = true then ((governorlaw15_time.f a1_1).bind fun t323 => (governorlaw15_LimitOrder.j0 k a2 a3 a4 t321 (!t323) a0_0 a0_1 a0_2 a0_3 a0_4 a0_5 a0_6 a0_7 a0_8 a0_9 a0_10 a0_11 a1_0 a1_1 a1_2)) else (governorlaw15_LimitOrder.j0 k a2 a3 a4 t321 true a0_0 a0_1 a0_2 a0_3 a0_4 a0_5 a0_6 a0_7 a0_8 a0_9 a0_10 a0_11 a1_0 a1_1 a1_2)) = some r := H
    have A11 := Aside0.mk A110
    clear A110
    by_cases c12 : t322 = true
    · subst c12
      have H1 : ((governorlaw15_time.f a1_1).bind fun t323 => (governorlaw15_LimitOrder.j0 k a2 a3 a4 t321 (!t323) a0_0 a0_1 a0_2 a0_3 a0_4 a0_5 a0_6 a0_7 a0_8 a0_9 a0_10 a0_11 a1_0 a1_1 a1_2)) = some r := by rw [if_pos rfl] at H; exact H
      clear H
      have H := H1
      clear H1
      replace H := Option.bind_eq_some_iff.mp H
      obtain ⟨t323, A130, H⟩ := H
      replace H : (governorlaw15_LimitOrder.j0 k a2 a3 a4 t321 (!t323) a0_0 a0_1 a0_2 a0_3 a0_4 a0_5 a0_6 a0_7 a0_8 a0_9 a0_10 a0_11 a1_0 a1_1 a1_2) = some r := H
      have A13 := Aside0.mk A130
      clear A130
      have H' := Aside0.mk H
      clear H
      have hnb14 := NB319_320.out
      have hnc14 := NB320_319.out
      have hcz15_0 : w10.cell? ⟨gb319, 0, none⟩ = some (.int .i64 a0_0) := (blk_cell BK319.out 0).trans rfl
      have hcz15_1 : w10.cell? ⟨gb319, 1, none⟩ = some (.int .i64 a0_1) := (blk_cell BK319.out 1).trans rfl
      have hcz15_2 : w10.cell? ⟨gb319, 2, none⟩ = some (.int .i64 a0_2) := (blk_cell BK319.out 2).trans rfl
      have hcz15_3 : w10.cell? ⟨gb319, 3, none⟩ = some (.int .i64 a0_3) := (blk_cell BK319.out 3).trans rfl
      have hcz15_4 : w10.cell? ⟨gb319, 4, none⟩ = some (.int .i64 a0_4) := (blk_cell BK319.out 4).trans rfl
      have hcz15_5 : w10.cell? ⟨gb319, 5, none⟩ = some (.int .i64 a0_5) := (blk_cell BK319.out 5).trans rfl
      have hcz15_6 : w10.cell? ⟨gb319, 6, none⟩ = some (.int .i64 a0_6) := (blk_cell BK319.out 6).trans rfl
      have hcz15_7 : w10.cell? ⟨gb319, 7, none⟩ = some (.int .i64 a0_7) := (blk_cell BK319.out 7).trans rfl
      have hcz15_8 : w10.cell? ⟨gb319, 8, none⟩ = some (.int .i64 a0_8) := (blk_cell BK319.out 8).trans rfl
      have hcz15_9 : w10.cell? ⟨gb319, 9, none⟩ = some (.int .i64 a0_9) := (blk_cell BK319.out 9).trans rfl
      have hcz15_10 : w10.cell? ⟨gb319, 10, none⟩ = some (.int .i64 a0_10) := (blk_cell BK319.out 10).trans rfl
      have hcz15_11 : w10.cell? ⟨gb319, 11, none⟩ = some (.int .i64 a0_11) := (blk_cell BK319.out 11).trans rfl
      have hfz15_0 := blk_frozen BK319.out 0
      have hfz15_1 := blk_frozen BK319.out 1
      have hfz15_2 := blk_frozen BK319.out 2
      have hfz15_3 := blk_frozen BK319.out 3
      have hfz15_4 := blk_frozen BK319.out 4
      have hfz15_5 := blk_frozen BK319.out 5
      have hfz15_6 := blk_frozen BK319.out 6
      have hfz15_7 := blk_frozen BK319.out 7
      have hfz15_8 := blk_frozen BK319.out 8
      have hfz15_9 := blk_frozen BK319.out 9
      have hfz15_10 := blk_frozen BK319.out 10
      have hfz15_11 := blk_frozen BK319.out 11
      go_wp2_with (first | ((with_reducible refine gate_callee (f := 22) rfl ?_); refine goesL_ (some 16) rfl rfl Try.func22 (by kernel_rfl) rfl #[.agg #[.int .i64 a0_0, .int .i64 a0_1, .int .i64 a0_2, .int .i64 a0_3, .int .i64 a0_4, .int .i64 a0_5, .int .i64 a0_6, .int .i64 a0_7, .int .i64 a0_8, .int .i64 a0_9, .int .i64 a0_10, .int .i64 a0_11]] rfl (by (try simp only [List.map_toArray, List.map_cons, List.map_nil]); first | done | rfl | (simp only [List.length_drop, List.length_take]; rfl)) ?_; (with_reducible refine (governorref09_Conf.calls a0_0 a0_1 a0_2 a0_3 a0_4 a0_5 a0_6 a0_7 a0_8 a0_9 a0_10 a0_11 true _ A11.out).mono ?_); rintro e w16 ⟨rfl, hb⟩; refine ⟨_, rfl, ?_⟩; have n0_ := Aside0.mk (blk_below (g := gb319) (o := .cells #[.int .i64 a0_0, .int .i64 a0_1, .int .i64 a0_2, .int .i64 a0_3, .int .i64 a0_4, .int .i64 a0_5, .int .i64 a0_6, .int .i64 a0_7, .int .i64 a0_8, .int .i64 a0_9, .int .i64 a0_10, .int .i64 a0_11] 37 (0, 0)) (by (with_reducible repeat (first | refine blk_drewN ?_ _ | refine blk_drew ?_ | refine blk_alloc ?_ _)); exact BK319.out) hb); have n1_ := Aside0.mk (blk_below (g := gb320) (o := .cells #[.int .i64 a1_0, .int .i64 a1_1, .bool a1_2] 39 (0, 0)) (by (with_reducible repeat (first | refine blk_drewN ?_ _ | refine blk_drew ?_ | refine blk_alloc ?_ _)); exact BK320.out) hb); have n2_ := Aside0.mk (below_step (by repeat (first | (with_reducible first | exact HB.out | apply below_alloc | apply pw_below_drewN | apply below_drew1 | refine below_set ?_ GE319.out | refine below_set ?_ GE320.out) | exact HB.out)) hb); clear BK319; clear BK320; clear HB; have BK319 := n0_; have BK320 := n1_; have HB := n2_; clear n0_ n1_ n2_; (try clear hb); (try clear hb2); (try clear hk); (try clear hi); have hcz17_0 : w16.cell? ⟨gb320, 0, none⟩ = some (.int .i64 a1_0) := (blk_cell BK320.out 0).trans rfl; have hcz17_1 : w16.cell? ⟨gb320, 1, none⟩ = some (.int .i64 a1_1) := (blk_cell BK320.out 1).trans rfl; have hcz17_2 : w16.cell? ⟨gb320, 2, none⟩ = some (.bool a1_2) := (blk_cell BK320.out 2).trans rfl; have hfz17_0 := blk_frozen BK320.out 0; have hfz17_1 := blk_frozen BK320.out 1; have hfz17_2 := blk_frozen BK320.out 2) | (go_at_call 23; (with_reducible refine (governorlaw15_time.calls a1_1 t323 _ A13.out).mono ?_); rintro e w' ⟨rfl, ⟨nd, rfl⟩⟩))
      go_meet
      case rel => exact ⟨_, (!t323), (by first | rfl | (simp; done) | (simp [*]; done)), H', ⟨by first | omega | exact Nat.le_refl _⟩, ⟨by (with_reducible repeat (first | refine blk_drewN ?_ _ | refine blk_drew ?_ | refine blk_alloc ?_ _)); exact BK319.out⟩, ⟨by (with_reducible repeat (first | refine blk_drewN ?_ _ | refine blk_drew ?_ | refine blk_alloc ?_ _)); exact BK320.out⟩, ⟨by repeat (first | (with_reducible first | exact HB.out | apply below_alloc | apply pw_below_drewN | apply below_drew1 | refine below_set ?_ GE319.out | refine below_set ?_ GE320.out) | exact HB.out)⟩⟩
    · replace c12 := Bool.eq_false_iff.mpr c12
      subst c12
      have H1 : (governorlaw15_LimitOrder.j0 k a2 a3 a4 t321 true a0_0 a0_1 a0_2 a0_3 a0_4 a0_5 a0_6 a0_7 a0_8 a0_9 a0_10 a0_11 a1_0 a1_1 a1_2) = some r := by rw [if_neg (show ¬ (false = true) by decide)] at H; exact H
      clear H
      have H := H1
      clear H1
      have H' := Aside0.mk H
      clear H
      have hnb18 := NB319_320.out
      have hnc18 := NB320_319.out
      have hcz19_0 : w10.cell? ⟨gb319, 0, none⟩ = some (.int .i64 a0_0) := (blk_cell BK319.out 0).trans rfl
      have hcz19_1 : w10.cell? ⟨gb319, 1, none⟩ = some (.int .i64 a0_1) := (blk_cell BK319.out 1).trans rfl
      have hcz19_2 : w10.cell? ⟨gb319, 2, none⟩ = some (.int .i64 a0_2) := (blk_cell BK319.out 2).trans rfl
      have hcz19_3 : w10.cell? ⟨gb319, 3, none⟩ = some (.int .i64 a0_3) := (blk_cell BK319.out 3).trans rfl
      have hcz19_4 : w10.cell? ⟨gb319, 4, none⟩ = some (.int .i64 a0_4) := (blk_cell BK319.out 4).trans rfl
      have hcz19_5 : w10.cell? ⟨gb319, 5, none⟩ = some (.int .i64 a0_5) := (blk_cell BK319.out 5).trans rfl
      have hcz19_6 : w10.cell? ⟨gb319, 6, none⟩ = some (.int .i64 a0_6) := (blk_cell BK319.out 6).trans rfl
      have hcz19_7 : w10.cell? ⟨gb319, 7, none⟩ = some (.int .i64 a0_7) := (blk_cell BK319.out 7).trans rfl
      have hcz19_8 : w10.cell? ⟨gb319, 8, none⟩ = some (.int .i64 a0_8) := (blk_cell BK319.out 8).trans rfl
      have hcz19_9 : w10.cell? ⟨gb319, 9, none⟩ = some (.int .i64 a0_9) := (blk_cell BK319.out 9).trans rfl
      have hcz19_10 : w10.cell? ⟨gb319, 10, none⟩ = some (.int .i64 a0_10) := (blk_cell BK319.out 10).trans rfl
      have hcz19_11 : w10.cell? ⟨gb319, 11, none⟩ = some (.int .i64 a0_11) := (blk_cell BK319.out 11).trans rfl
      have hfz19_0 := blk_frozen BK319.out 0
      have hfz19_1 := blk_frozen BK319.out 1
      have hfz19_2 := blk_frozen BK319.out 2
      have hfz19_3 := blk_frozen BK319.out 3
      have hfz19_4 := blk_frozen BK319.out 4
      have hfz19_5 := blk_frozen BK319.out 5
      have hfz19_6 := blk_frozen BK319.out 6
      have hfz19_7 := blk_frozen BK319.out 7
      have hfz19_8 := blk_frozen BK319.out 8
      have hfz19_9 := blk_frozen BK319.out 9
      have hfz19_10 := blk_frozen BK319.out 10
      have hfz19_11 := blk_frozen BK319.out 11
      go_wp2_with (first | ((with_reducible refine gate_callee (f := 22) rfl ?_); refine goesL_ (some 16) rfl rfl Try.func22 (by kernel_rfl) rfl #[.agg #[.int .i64 a0_0, .int .i64 a0_1, .int .i64 a0_2, .int .i64 a0_3, .int .i64 a0_4, .int .i64 a0_5, .int .i64 a0_6, .int .i64 a0_7, .int .i64 a0_8, .int .i64 a0_9, .int .i64 a0_10, .int .i64 a0_11]] rfl (by (try simp only [List.map_toArray, List.map_cons, List.map_nil]); first | done | rfl | (simp only [List.length_drop, List.length_take]; rfl)) ?_; (with_reducible refine (governorref09_Conf.calls a0_0 a0_1 a0_2 a0_3 a0_4 a0_5 a0_6 a0_7 a0_8 a0_9 a0_10 a0_11 false _ A11.out).mono ?_); rintro e w20 ⟨rfl, hb⟩; refine ⟨_, rfl, ?_⟩; have n0_ := Aside0.mk (blk_below (g := gb319) (o := .cells #[.int .i64 a0_0, .int .i64 a0_1, .int .i64 a0_2, .int .i64 a0_3, .int .i64 a0_4, .int .i64 a0_5, .int .i64 a0_6, .int .i64 a0_7, .int .i64 a0_8, .int .i64 a0_9, .int .i64 a0_10, .int .i64 a0_11] 37 (0, 0)) (by (with_reducible repeat (first | refine blk_drewN ?_ _ | refine blk_drew ?_ | refine blk_alloc ?_ _)); exact BK319.out) hb); have n1_ := Aside0.mk (blk_below (g := gb320) (o := .cells #[.int .i64 a1_0, .int .i64 a1_1, .bool a1_2] 39 (0, 0)) (by (with_reducible repeat (first | refine blk_drewN ?_ _ | refine blk_drew ?_ | refine blk_alloc ?_ _)); exact BK320.out) hb); have n2_ := Aside0.mk (below_step (by repeat (first | (with_reducible first | exact HB.out | apply below_alloc | apply pw_below_drewN | apply below_drew1 | refine below_set ?_ GE319.out | refine below_set ?_ GE320.out) | exact HB.out)) hb); clear BK319; clear BK320; clear HB; have BK319 := n0_; have BK320 := n1_; have HB := n2_; clear n0_ n1_ n2_; (try clear hb); (try clear hb2); (try clear hk); (try clear hi)))
      go_meet
      case rel => exact ⟨_, (true), (by first | rfl | (simp; done) | (simp [*]; done)), H', ⟨by first | omega | exact Nat.le_refl _⟩, ⟨by (with_reducible repeat (first | refine blk_drewN ?_ _ | refine blk_drew ?_ | refine blk_alloc ?_ _)); exact BK319.out⟩, ⟨by (with_reducible repeat (first | refine blk_drewN ?_ _ | refine blk_drew ?_ | refine blk_alloc ?_ _)); exact BK320.out⟩, ⟨by repeat (first | (with_reducible first | exact HB.out | apply below_alloc | apply pw_below_drewN | apply below_drew1 | refine below_set ?_ GE319.out | refine below_set ?_ GE320.out) | exact HB.out)⟩⟩
  case rest =>
    clear HC7
    try clear c1
    try clear c2
    try clear p2
    try clear c12
    try clear c13
    try clear c14
    try clear c18
    try clear hcz15_0
    try clear hcz15_1
    try clear hcz15_10
    try clear hcz15_11
    try clear hcz15_2
    try clear hcz15_3
    try clear hcz15_4
    try clear hcz15_5
    try clear hcz15_6
    try clear hcz15_7
    try clear hcz15_8
    try clear hcz15_9
    try clear hcz17_0
    try clear hcz17_1
    try clear hcz17_2
    try clear hcz19_0
    try clear hcz19_1
    try clear hcz19_10
    try clear hcz19_11
    try clear hcz19_2
    try clear hcz19_3
    try clear hcz19_4
    try clear hcz19_5
    try clear hcz19_6
    try clear hcz19_7
    try clear hcz19_8
    try clear hcz19_9
    try clear hfz15_0
    try clear hfz15_1
    try clear hfz15_10
    try clear hfz15_11
    try clear hfz15_2
    try clear hfz15_3
    try clear hfz15_4
    try clear hfz15_5
    try clear hfz15_6
    try clear hfz15_7
    try clear hfz15_8
    try clear hfz15_9
    try clear hfz17_0
    try clear hfz17_1
    try clear hfz17_2
    try clear hfz19_0
    try clear hfz19_1
    try clear hfz19_10
    try clear hfz19_11
    try clear hfz19_2
    try clear hfz19_3
    try clear hfz19_4
    try clear hfz19_5
    try clear hfz19_6
    try clear hfz19_7
    try clear hfz19_8
    try clear hfz19_9
    obtain ⟨kq, x23_6, rfl, HA, HJ6, BK319, BK320, HB⟩ := hcut
    cases kq with
    | zero => exact absurd HA.out (by simp [governorlaw15_LimitOrder.j0])
    | succ kj6 =>
      have H := HA.out
      clear HA
      simp only [governorlaw15_LimitOrder.j0] at H
      by_cases c21 : x23_6 = true
      · subst c21
        have H1 : (some t321) = some r := by rw [if_pos rfl] at H; exact H
        clear H
        have H := H1
        clear H1
        obtain rfl := Option.some.inj H
        go_wp2
        go_ret
        exact ⟨by first | rfl | (simp [errW_none, errW_some] <;> rfl) | (simp [*, errW_none, errW_some] <;> rfl), by repeat (first | (with_reducible first | exact HB.out | apply below_alloc | apply pw_below_drewN | apply below_drew1 | refine below_set ?_ GE319.out | refine below_set ?_ GE320.out) | exact HB.out)⟩
      · replace c21 := Bool.eq_false_iff.mpr c21
        subst c21
        have H1 : ((limit_Next.f a0_0 a0_1 a0_2 a0_3 a0_4 a0_5 a0_6 a0_7 a0_8 a0_9 a0_10 a0_11 a1_0 a1_1 a1_2 (wrap64 (a2)) (wrap64 (a4))).bind fun bt324 => ((limit_Next.f a0_0 a0_1 a0_2 a0_3 a0_4 a0_5 a0_6 a0_7 a0_8 a0_9 a0_10 a0_11 a1_0 a1_1 a1_2 (wrap64 ((wrap64 (a2)) + (wrap64 (a3)))) (wrap64 (a4))).bind fun bt328 => (if t321 = true then (if bt324.1 ≤ bt328.1 then (if bt324.1 = bt328.1 then (some (bt324.1 == bt328.1 && (bt324.2.1 == bt328.2.1 && (bt324.2.2 == bt328.2.2)))) else (some true)) else (some false)) else (some false)))) = some r := by rw [if_neg (show ¬ (false = true) by decide)] at H; exact H
        clear H
        have H := H1
        clear H1
        replace H := Option.bind_eq_some_iff.mp H
        obtain ⟨⟨t324, t325, t326⟩, A220, H⟩ := H
        replace H : ((limit_Next.f a0_0 a0_1 a0_2 a0_3 a0_4 a0_5 a0_6 a0_7 a0_8 a0_9 a0_10 a0_11 a1_0 a1_1 a1_2 (wrap64 ((wrap64 (a2)) + (wrap64 (a3)))) (wrap64 (a4))).bind fun bt328 => (if t321 = true then (if t324 ≤ bt328.1 then (if t324 = bt328.1 then (some (t324 == bt328.1 && (t325 == bt328.2.1 && (t326 == bt328.2.2)))) else (some true)) else (some false)) else (some false))) = some r := H
        have A22 := Aside0.mk A220
        clear A220
        replace H := Option.bind_eq_some_iff.mp H
        obtain ⟨⟨t328, t329, t330⟩, A230, H⟩ := H
        replace H : (if t321 = true then (if t324 ≤ t328 then (if t324 = t328 then (some (t324 == t328 && (t325 == t329 && (t326 == t330)))) else (some true)) else (some false)) else (some false)) = some r := H
        have A23 := Aside0.mk A230
        clear A230
        by_cases c24 : t321 = true
        · subst c24
          have H1 : (if t324 ≤ t328 then (if t324 = t328 then (some (t324 == t328 && (t325 == t329 && (t326 == t330)))) else (some true)) else (some false)) = some r := by rw [if_pos rfl] at H; exact H
          clear H
          have H := H1
          clear H1
          by_cases c25 : t324 ≤ t328
          · rw [if_pos c25] at H
            have c25b0 : decide (t324 ≤ t328) = true := decide_eq_true c25
            clear c25
            by_cases c26 : t324 = t328
            · rw [if_pos c26] at H
              have c26b0 : (t324 == t328) = true := beq_iff_eq.mpr c26
              have c26b1 : (t324 != t328) = false := bne_eq_false_iff_eq.mpr c26
              clear c26
              obtain rfl := Option.some.inj H
              have hnb27 := NB319_320.out
              have hnc27 := NB320_319.out
              have hcz28_0 : wc.cell? ⟨gb319, 0, none⟩ = some (.int .i64 a0_0) := (blk_cell BK319.out 0).trans rfl
              have hcz28_1 : wc.cell? ⟨gb319, 1, none⟩ = some (.int .i64 a0_1) := (blk_cell BK319.out 1).trans rfl
              have hcz28_2 : wc.cell? ⟨gb319, 2, none⟩ = some (.int .i64 a0_2) := (blk_cell BK319.out 2).trans rfl
              have hcz28_3 : wc.cell? ⟨gb319, 3, none⟩ = some (.int .i64 a0_3) := (blk_cell BK319.out 3).trans rfl
              have hcz28_4 : wc.cell? ⟨gb319, 4, none⟩ = some (.int .i64 a0_4) := (blk_cell BK319.out 4).trans rfl
              have hcz28_5 : wc.cell? ⟨gb319, 5, none⟩ = some (.int .i64 a0_5) := (blk_cell BK319.out 5).trans rfl
              have hcz28_6 : wc.cell? ⟨gb319, 6, none⟩ = some (.int .i64 a0_6) := (blk_cell BK319.out 6).trans rfl
              have hcz28_7 : wc.cell? ⟨gb319, 7, none⟩ = some (.int .i64 a0_7) := (blk_cell BK319.out 7).trans rfl
              have hcz28_8 : wc.cell? ⟨gb319, 8, none⟩ = some (.int .i64 a0_8) := (blk_cell BK319.out 8).trans rfl
              have hcz28_9 : wc.cell? ⟨gb319, 9, none⟩ = some (.int .i64 a0_9) := (blk_cell BK319.out 9).trans rfl
              have hcz28_10 : wc.cell? ⟨gb319, 10, none⟩ = some (.int .i64 a0_10) := (blk_cell BK319.out 10).trans rfl
              have hcz28_11 : wc.cell? ⟨gb319, 11, none⟩ = some (.int .i64 a0_11) := (blk_cell BK319.out 11).trans rfl
              have hfz28_0 := blk_frozen BK319.out 0
              have hfz28_1 := blk_frozen BK319.out 1
              have hfz28_2 := blk_frozen BK319.out 2
              have hfz28_3 := blk_frozen BK319.out 3
              have hfz28_4 := blk_frozen BK319.out 4
              have hfz28_5 := blk_frozen BK319.out 5
              have hfz28_6 := blk_frozen BK319.out 6
              have hfz28_7 := blk_frozen BK319.out 7
              have hfz28_8 := blk_frozen BK319.out 8
              have hfz28_9 := blk_frozen BK319.out 9
              have hfz28_10 := blk_frozen BK319.out 10
              have hfz28_11 := blk_frozen BK319.out 11
              have hcz29_0 : wc.cell? ⟨gb320, 0, none⟩ = some (.int .i64 a1_0) := (blk_cell BK320.out 0).trans rfl
              have hcz29_1 : wc.cell? ⟨gb320, 1, none⟩ = some (.int .i64 a1_1) := (blk_cell BK320.out 1).trans rfl
              have hcz29_2 : wc.cell? ⟨gb320, 2, none⟩ = some (.bool a1_2) := (blk_cell BK320.out 2).trans rfl
              have hfz29_0 := blk_frozen BK320.out 0
              have hfz29_1 := blk_frozen BK320.out 1
              have hfz29_2 := blk_frozen BK320.out 2
              go_wp2_with (first | ((with_reducible refine gate_callee (f := 26) rfl ?_); refine goesL_ (some 31) rfl rfl Try.func26 (by kernel_rfl) rfl #[.agg #[.int .i64 a0_0, .int .i64 a0_1, .int .i64 a0_2, .int .i64 a0_3, .int .i64 a0_4, .int .i64 a0_5, .int .i64 a0_6, .int .i64 a0_7, .int .i64 a0_8, .int .i64 a0_9, .int .i64 a0_10, .int .i64 a0_11], .agg #[.int .i64 a1_0, .int .i64 a1_1, .bool a1_2], .int .i64 (wrap64 (a2)), .int .i64 (wrap64 (a4))] rfl (by (try simp only [List.map_toArray, List.map_cons, List.map_nil]); first | done | rfl | (simp only [List.length_drop, List.length_take]; rfl)) ?_; (with_reducible refine (limit_Next.calls a0_0 a0_1 a0_2 a0_3 a0_4 a0_5 a0_6 a0_7 a0_8 a0_9 a0_10 a0_11 a1_0 a1_1 a1_2 (wrap64 (a2)) (wrap64 (a4)) t324 t325 t326 _ A22.out).mono ?_); rintro e w30 ⟨rfl, hb⟩; refine ⟨_, rfl, ?_⟩; have n0_ := Aside0.mk (blk_below (g := gb319) (o := .cells #[.int .i64 a0_0, .int .i64 a0_1, .int .i64 a0_2, .int .i64 a0_3, .int .i64 a0_4, .int .i64 a0_5, .int .i64 a0_6, .int .i64 a0_7, .int .i64 a0_8, .int .i64 a0_9, .int .i64 a0_10, .int .i64 a0_11] 37 (0, 0)) (by (with_reducible repeat (first | refine blk_drewN ?_ _ | refine blk_drew ?_ | refine blk_alloc ?_ _)); exact BK319.out) hb); have n1_ := Aside0.mk (blk_below (g := gb320) (o := .cells #[.int .i64 a1_0, .int .i64 a1_1, .bool a1_2] 39 (0, 0)) (by (with_reducible repeat (first | refine blk_drewN ?_ _ | refine blk_drew ?_ | refine blk_alloc ?_ _)); exact BK320.out) hb); have n2_ := Aside0.mk (below_step (by repeat (first | (with_reducible first | exact HB.out | apply below_alloc | apply pw_below_drewN | apply below_drew1 | refine below_set ?_ GE319.out | refine below_set ?_ GE320.out) | exact HB.out)) hb); clear BK319; clear BK320; clear HB; have BK319 := n0_; have BK320 := n1_; have HB := n2_; clear n0_ n1_ n2_; (try clear hb); (try clear hb2); (try clear hk); (try clear hi)) | ((with_reducible refine gate_dst (N := 12) rfl ?_); refine box_event ?hg (N := 12) ?hd (cs := #[.int .i64 0, .int .i64 0, .bool false]) (t := 39) ?hr ?_; (case hd => rfl); (case hg => rfl); (case hr => first | (go_simp; done) | (go_simp; rfl)); intro gb327 hg w31 hbox hb; have n0_ := Aside0.mk (blk_below (g := gb319) (o := .cells #[.int .i64 a0_0, .int .i64 a0_1, .int .i64 a0_2, .int .i64 a0_3, .int .i64 a0_4, .int .i64 a0_5, .int .i64 a0_6, .int .i64 a0_7, .int .i64 a0_8, .int .i64 a0_9, .int .i64 a0_10, .int .i64 a0_11] 37 (0, 0)) (by (with_reducible repeat (first | refine blk_drewN ?_ _ | refine blk_drew ?_ | refine blk_alloc ?_ _)); exact BK319.out) hb); have n1_ := Aside0.mk (blk_below (g := gb320) (o := .cells #[.int .i64 a1_0, .int .i64 a1_1, .bool a1_2] 39 (0, 0)) (by (with_reducible repeat (first | refine blk_drewN ?_ _ | refine blk_drew ?_ | refine blk_alloc ?_ _)); exact BK320.out) hb); have n2_ := Aside0.mk (below_step (by repeat (first | (with_reducible first | exact HB.out | apply below_alloc | apply pw_below_drewN | apply below_drew1 | refine below_set ?_ GE319.out | refine below_set ?_ GE320.out) | exact HB.out)) hb); have n3_ := Aside0.mk (hbox); have n4_ := Aside0.mk ((by rw [hg]; exact (below_size (by repeat (first | (with_reducible first | exact HB.out | apply below_alloc | apply pw_below_drewN | apply below_drew1 | refine below_set ?_ GE319.out | refine below_set ?_ GE320.out) | exact HB.out))) : w.heap.size ≤ gb327)); have n5_ := Aside0.mk ((by rw [hg]; exact (below_size (by repeat (first | (with_reducible first | exact HB.out | apply below_alloc | apply pw_below_drewN | apply below_drew1 | refine below_set ?_ GE319.out | refine below_set ?_ GE320.out) | exact HB.out))) : w.heap.size ≤ gb327)); have n6_ := Aside0.mk ((by rw [hg]; exact Nat.ne_of_lt (blk_lt (g := gb319) (o := .cells #[.int .i64 a0_0, .int .i64 a0_1, .int .i64 a0_2, .int .i64 a0_3, .int .i64 a0_4, .int .i64 a0_5, .int .i64 a0_6, .int .i64 a0_7, .int .i64 a0_8, .int .i64 a0_9, .int .i64 a0_10, .int .i64 a0_11] 37 (0, 0)) (by (with_reducible repeat (first | refine blk_drewN ?_ _ | refine blk_drew ?_ | refine blk_alloc ?_ _)); exact BK319.out)) : gb319 ≠ gb327)); have n7_ := Aside0.mk ((by rw [hg]; exact Nat.ne_of_gt (blk_lt (g := gb319) (o := .cells #[.int .i64 a0_0, .int .i64 a0_1, .int .i64 a0_2, .int .i64 a0_3, .int .i64 a0_4, .int .i64 a0_5, .int .i64 a0_6, .int .i64 a0_7, .int .i64 a0_8, .int .i64 a0_9, .int .i64 a0_10, .int .i64 a0_11] 37 (0, 0)) (by (with_reducible repeat (first | refine blk_drewN ?_ _ | refine blk_drew ?_ | refine blk_alloc ?_ _)); exact BK319.out)) : gb327 ≠ gb319)); have n8_ := Aside0.mk ((by rw [hg]; exact Nat.ne_of_lt (blk_lt (g := gb320) (o := .cells #[.int .i64 a1_0, .int .i64 a1_1, .bool a1_2] 39 (0, 0)) (by (with_reducible repeat (first | refine blk_drewN ?_ _ | refine blk_drew ?_ | refine blk_alloc ?_ _)); exact BK320.out)) : gb320 ≠ gb327)); have n9_ := Aside0.mk ((by rw [hg]; exact Nat.ne_of_gt (blk_lt (g := gb320) (o := .cells #[.int .i64 a1_0, .int .i64 a1_1, .bool a1_2] 39 (0, 0)) (by (with_reducible repeat (first | refine blk_drewN ?_ _ | refine blk_drew ?_ | refine blk_alloc ?_ _)); exact BK320.out)) : gb327 ≠ gb320)); clear BK319; clear BK320; clear HB; have BK319 := n0_; have BK320 := n1_; have HB := n2_; have BK327 := n3_; have GW327 := n4_; have GE327 := n5_; have NB319_327 := n6_; have NB327_319 := n7_; have NB320_327 := n8_; have NB327_320 := n9_; clear n0_ n1_ n2_ n3_ n4_ n5_ n6_ n7_ n8_ n9_; clear hb hbox hg; have hnb32 := NB327_319.out; have hnc32 := NB319_327.out; have hnb33 := NB327_320.out; have hnc33 := NB320_327.out; have hcz34_0 : w31.cell? ⟨gb327, 0, none⟩ = some (.int .i64 0) := (blk_cell BK327.out 0).trans rfl; have hcz34_1 : w31.cell? ⟨gb327, 1, none⟩ = some (.int .i64 0) := (blk_cell BK327.out 1).trans rfl; have hcz34_2 : w31.cell? ⟨gb327, 2, none⟩ = some (.bool false) := (blk_cell BK327.out 2).trans rfl; have hfz34_0 := blk_frozen BK327.out 0; have hfz34_1 := blk_frozen BK327.out 1; have hfz34_2 := blk_frozen BK327.out 2; have hcz35_0 : w31.cell? ⟨gb319, 0, none⟩ = some (.int .i64 a0_0) := (blk_cell BK319.out 0).trans rfl; have hcz35_1 : w31.cell? ⟨gb319, 1, none⟩ = some (.int .i64 a0_1) := (blk_cell BK319.out 1).trans rfl; have hcz35_2 : w31.cell? ⟨gb319, 2, none⟩ = some (.int .i64 a0_2) := (blk_cell BK319.out 2).trans rfl; have hcz35_3 : w31.cell? ⟨gb319, 3, none⟩ = some (.int .i64 a0_3) := (blk_cell BK319.out 3).trans rfl; have hcz35_4 : w31.cell? ⟨gb319, 4, none⟩ = some (.int .i64 a0_4) := (blk_cell BK319.out 4).trans rfl; have hcz35_5 : w31.cell? ⟨gb319, 5, none⟩ = some (.int .i64 a0_5) := (blk_cell BK319.out 5).trans rfl; have hcz35_6 : w31.cell? ⟨gb319, 6, none⟩ = some (.int .i64 a0_6) := (blk_cell BK319.out 6).trans rfl; have hcz35_7 : w31.cell? ⟨gb319, 7, none⟩ = some (.int .i64 a0_7) := (blk_cell BK319.out 7).trans rfl; have hcz35_8 : w31.cell? ⟨gb319, 8, none⟩ = some (.int .i64 a0_8) := (blk_cell BK319.out 8).trans rfl; have hcz35_9 : w31.cell? ⟨gb319, 9, none⟩ = some (.int .i64 a0_9) := (blk_cell BK319.out 9).trans rfl; have hcz35_10 : w31.cell? ⟨gb319, 10, none⟩ = some (.int .i64 a0_10) := (blk_cell BK319.out 10).trans rfl; have hcz35_11 : w31.cell? ⟨gb319, 11, none⟩ = some (.int .i64 a0_11) := (blk_cell BK319.out 11).trans rfl; have hfz35_0 := blk_frozen BK319.out 0; have hfz35_1 := blk_frozen BK319.out 1; have hfz35_2 := blk_frozen BK319.out 2; have hfz35_3 := blk_frozen BK319.out 3; have hfz35_4 := blk_frozen BK319.out 4; have hfz35_5 := blk_frozen BK319.out 5; have hfz35_6 := blk_frozen BK319.out 6; have hfz35_7 := blk_frozen BK319.out 7; have hfz35_8 := blk_frozen BK319.out 8; have hfz35_9 := blk_frozen BK319.out 9; have hfz35_10 := blk_frozen BK319.out 10; have hfz35_11 := blk_frozen BK319.out 11; have hcz36_0 : w31.cell? ⟨gb320, 0, none⟩ = some (.int .i64 a1_0) := (blk_cell BK320.out 0).trans rfl; have hcz36_1 : w31.cell? ⟨gb320, 1, none⟩ = some (.int .i64 a1_1) := (blk_cell BK320.out 1).trans rfl; have hcz36_2 : w31.cell? ⟨gb320, 2, none⟩ = some (.bool a1_2) := (blk_cell BK320.out 2).trans rfl; have hfz36_0 := blk_frozen BK320.out 0; have hfz36_1 := blk_frozen BK320.out 1; have hfz36_2 := blk_frozen BK320.out 2) | ((with_reducible refine gate_callee (f := 26) rfl ?_); refine goesL_ (some 41) rfl rfl Try.func26 (by kernel_rfl) rfl #[.agg #[.int .i64 a0_0, .int .i64 a0_1, .int .i64 a0_2, .int .i64 a0_3, .int .i64 a0_4, .int .i64 a0_5, .int .i64 a0_6, .int .i64 a0_7, .int .i64 a0_8, .int .i64 a0_9, .int .i64 a0_10, .int .i64 a0_11], .agg #[.int .i64 a1_0, .int .i64 a1_1, .bool a1_2], .int .i64 (wrap64 ((wrap64 (a2)) + (wrap64 (a3)))), .int .i64 (wrap64 (a4))] rfl (by (try simp only [List.map_toArray, List.map_cons, List.map_nil]); first | done | rfl | (simp only [List.length_drop, List.length_take]; rfl)) ?_; (with_reducible refine (limit_Next.calls a0_0 a0_1 a0_2 a0_3 a0_4 a0_5 a0_6 a0_7 a0_8 a0_9 a0_10 a0_11 a1_0 a1_1 a1_2 (wrap64 ((wrap64 (a2)) + (wrap64 (a3)))) (wrap64 (a4)) t328 t329 t330 _ A23.out).mono ?_); rintro e w37 ⟨rfl, hb⟩; refine ⟨_, rfl, ?_⟩; have n0_ := Aside0.mk (blk_below (g := gb319) (o := .cells #[.int .i64 a0_0, .int .i64 a0_1, .int .i64 a0_2, .int .i64 a0_3, .int .i64 a0_4, .int .i64 a0_5, .int .i64 a0_6, .int .i64 a0_7, .int .i64 a0_8, .int .i64 a0_9, .int .i64 a0_10, .int .i64 a0_11] 37 (0, 0)) (by (with_reducible repeat (first | refine blk_drewN ?_ _ | refine blk_drew ?_ | refine blk_alloc ?_ _)); refine blk_far ?_ NB319_327.out _; (with_reducible repeat (first | refine blk_drewN ?_ _ | refine blk_drew ?_ | refine blk_alloc ?_ _)); refine blk_far ?_ NB319_327.out _; (with_reducible repeat (first | refine blk_drewN ?_ _ | refine blk_drew ?_ | refine blk_alloc ?_ _)); refine blk_far ?_ NB319_327.out _; (with_reducible repeat (first | refine blk_drewN ?_ _ | refine blk_drew ?_ | refine blk_alloc ?_ _)); exact BK319.out) hb); have n1_ := Aside0.mk (blk_below (g := gb320) (o := .cells #[.int .i64 a1_0, .int .i64 a1_1, .bool a1_2] 39 (0, 0)) (by (with_reducible repeat (first | refine blk_drewN ?_ _ | refine blk_drew ?_ | refine blk_alloc ?_ _)); refine blk_far ?_ NB320_327.out _; (with_reducible repeat (first | refine blk_drewN ?_ _ | refine blk_drew ?_ | refine blk_alloc ?_ _)); refine blk_far ?_ NB320_327.out _; (with_reducible repeat (first | refine blk_drewN ?_ _ | refine blk_drew ?_ | refine blk_alloc ?_ _)); refine blk_far ?_ NB320_327.out _; (with_reducible repeat (first | refine blk_drewN ?_ _ | refine blk_drew ?_ | refine blk_alloc ?_ _)); exact BK320.out) hb); have n2_ := Aside0.mk (blk_below (g := gb327) (o := .cells #[.int .i64 t324, .int .i64 t325, .bool t326] 39 (0, 0)) (by (with_reducible repeat (first | refine blk_drewN ?_ _ | refine blk_drew ?_ | refine blk_alloc ?_ _)); refine blk_put (cs := #[.int .i64 t324, .int .i64 t325, .bool false]) ?_ 2 _ rfl; (with_reducible repeat (first | refine blk_drewN ?_ _ | refine blk_drew ?_ | refine blk_alloc ?_ _)); refine blk_put (cs := #[.int .i64 t324, .int .i64 0, .bool false]) ?_ 1 _ rfl; (with_reducible repeat (first | refine blk_drewN ?_ _ | refine blk_drew ?_ | refine blk_alloc ?_ _)); refine blk_put (cs := #[.int .i64 0, .int .i64 0, .bool false]) ?_ 0 _ rfl; (with_reducible repeat (first | refine blk_drewN ?_ _ | refine blk_drew ?_ | refine blk_alloc ?_ _)); exact BK327.out) hb); have n3_ := Aside0.mk (below_step (by repeat (first | (with_reducible first | exact HB.out | apply below_alloc | apply pw_below_drewN | apply below_drew1 | refine below_set ?_ GE319.out | refine below_set ?_ GE320.out | refine below_set ?_ GE327.out) | exact HB.out)) hb); clear BK319; clear BK320; clear BK327; clear HB; have BK319 := n0_; have BK320 := n1_; have BK327 := n2_; have HB := n3_; clear n0_ n1_ n2_ n3_; (try clear hb); (try clear hb2); (try clear hk); (try clear hi)) | ((with_reducible refine gate_dst (N := 13) rfl ?_); refine box_event ?hg (N := 13) ?hd (cs := #[.int .i64 0, .int .i64 0, .bool false]) (t := 39) ?hr ?_; (case hd => rfl); (case hg => rfl); (case hr => first | (go_simp; done) | (go_simp; rfl)); intro gb331 hg w38 hbox hb; have n0_ := Aside0.mk (blk_below (g := gb319) (o := .cells #[.int .i64 a0_0, .int .i64 a0_1, .int .i64 a0_2, .int .i64 a0_3, .int .i64 a0_4, .int .i64 a0_5, .int .i64 a0_6, .int .i64 a0_7, .int .i64 a0_8, .int .i64 a0_9, .int .i64 a0_10, .int .i64 a0_11] 37 (0, 0)) (by (with_reducible repeat (first | refine blk_drewN ?_ _ | refine blk_drew ?_ | refine blk_alloc ?_ _)); exact BK319.out) hb); have n1_ := Aside0.mk (blk_below (g := gb320) (o := .cells #[.int .i64 a1_0, .int .i64 a1_1, .bool a1_2] 39 (0, 0)) (by (with_reducible repeat (first | refine blk_drewN ?_ _ | refine blk_drew ?_ | refine blk_alloc ?_ _)); exact BK320.out) hb); have n2_ := Aside0.mk (blk_below (g := gb327) (o := .cells #[.int .i64 t324, .int .i64 t325, .bool t326] 39 (0, 0)) (by (with_reducible repeat (first | refine blk_drewN ?_ _ | refine blk_drew ?_ | refine blk_alloc ?_ _)); exact BK327.out) hb); have n3_ := Aside0.mk (below_step (by repeat (first | (with_reducible first | exact HB.out | apply below_alloc | apply pw_below_drewN | apply below_drew1 | refine below_set ?_ GE319.out | refine below_set ?_ GE320.out | refine below_set ?_ GE327.out) | exact HB.out)) hb); have n4_ := Aside0.mk (hbox); have n5_ := Aside0.mk ((by rw [hg]; exact (below_size (by repeat (first | (with_reducible first | exact HB.out | apply below_alloc | apply pw_below_drewN | apply below_drew1 | refine below_set ?_ GE319.out | refine below_set ?_ GE320.out | refine below_set ?_ GE327.out) | exact HB.out))) : w.heap.size ≤ gb331)); have n6_ := Aside0.mk ((by rw [hg]; exact (below_size (by repeat (first | (with_reducible first | exact HB.out | apply below_alloc | apply pw_below_drewN | apply below_drew1 | refine below_set ?_ GE319.out | refine below_set ?_ GE320.out | refine below_set ?_ GE327.out) | exact HB.out))) : w.heap.size ≤ gb331)); have n7_ := Aside0.mk ((by rw [hg]; exact Nat.ne_of_lt (blk_lt (g := gb319) (o := .cells #[.int .i64 a0_0, .int .i64 a0_1, .int .i64 a0_2, .int .i64 a0_3, .int .i64 a0_4, .int .i64 a0_5, .int .i64 a0_6, .int .i64 a0_7, .int .i64 a0_8, .int .i64 a0_9, .int .i64 a0_10, .int .i64 a0_11] 37 (0, 0)) (by (with_reducible repeat (first | refine blk_drewN ?_ _ | refine blk_drew ?_ | refine blk_alloc ?_ _)); exact BK319.out)) : gb319 ≠ gb331)); have n8_ := Aside0.mk ((by rw [hg]; exact Nat.ne_of_gt (blk_lt (g := gb319) (o := .cells #[.int .i64 a0_0, .int .i64 a0_1, .int .i64 a0_2, .int .i64 a0_3, .int .i64 a0_4, .int .i64 a0_5, .int .i64 a0_6, .int .i64 a0_7, .int .i64 a0_8, .int .i64 a0_9, .int .i64 a0_10, .int .i64 a0_11] 37 (0, 0)) (by (with_reducible repeat (first | refine blk_drewN ?_ _ | refine blk_drew ?_ | refine blk_alloc ?_ _)); exact BK319.out)) : gb331 ≠ gb319)); have n9_ := Aside0.mk ((by rw [hg]; exact Nat.ne_of_lt (blk_lt (g := gb320) (o := .cells #[.int .i64 a1_0, .int .i64 a1_1, .bool a1_2] 39 (0, 0)) (by (with_reducible repeat (first | refine blk_drewN ?_ _ | refine blk_drew ?_ | refine blk_alloc ?_ _)); exact BK320.out)) : gb320 ≠ gb331)); have n10_ := Aside0.mk ((by rw [hg]; exact Nat.ne_of_gt (blk_lt (g := gb320) (o := .cells #[.int .i64 a1_0, .int .i64 a1_1, .bool a1_2] 39 (0, 0)) (by (with_reducible repeat (first | refine blk_drewN ?_ _ | refine blk_drew ?_ | refine blk_alloc ?_ _)); exact BK320.out)) : gb331 ≠ gb320)); have n11_ := Aside0.mk ((by rw [hg]; exact Nat.ne_of_lt (blk_lt (g := gb327) (o := .cells #[.int .i64 t324, .int .i64 t325, .bool t326] 39 (0, 0)) (by (with_reducible repeat (first | refine blk_drewN ?_ _ | refine blk_drew ?_ | refine blk_alloc ?_ _)); exact BK327.out)) : gb327 ≠ gb331)); have n12_ := Aside0.mk ((by rw [hg]; exact Nat.ne_of_gt (blk_lt (g := gb327) (o := .cells #[.int .i64 t324, .int .i64 t325, .bool t326] 39 (0, 0)) (by (with_reducible repeat (first | refine blk_drewN ?_ _ | refine blk_drew ?_ | refine blk_alloc ?_ _)); exact BK327.out)) : gb331 ≠ gb327)); clear BK319; clear BK320; clear BK327; clear HB; have BK319 := n0_; have BK320 := n1_; have BK327 := n2_; have HB := n3_; have BK331 := n4_; have GW331 := n5_; have GE331 := n6_; have NB319_331 := n7_; have NB331_319 := n8_; have NB320_331 := n9_; have NB331_320 := n10_; have NB327_331 := n11_; have NB331_327 := n12_; clear n0_ n1_ n2_ n3_ n4_ n5_ n6_ n7_ n8_ n9_ n10_ n11_ n12_; clear hb hbox hg; have hnb39 := NB331_319.out; have hnc39 := NB319_331.out; have hnb40 := NB331_320.out; have hnc40 := NB320_331.out; have hnb41 := NB331_327.out; have hnc41 := NB327_331.out; have hcz42_0 : w38.cell? ⟨gb331, 0, none⟩ = some (.int .i64 0) := (blk_cell BK331.out 0).trans rfl; have hcz42_1 : w38.cell? ⟨gb331, 1, none⟩ = some (.int .i64 0) := (blk_cell BK331.out 1).trans rfl; have hcz42_2 : w38.cell? ⟨gb331, 2, none⟩ = some (.bool false) := (blk_cell BK331.out 2).trans rfl; have hfz42_0 := blk_frozen BK331.out 0; have hfz42_1 := blk_frozen BK331.out 1; have hfz42_2 := blk_frozen BK331.out 2; have hcz43_0 : w38.cell? ⟨gb327, 0, none⟩ = some (.int .i64 t324) := (blk_cell BK327.out 0).trans rfl; have hcz43_1 : w38.cell? ⟨gb327, 1, none⟩ = some (.int .i64 t325) := (blk_cell BK327.out 1).trans rfl; have hcz43_2 : w38.cell? ⟨gb327, 2, none⟩ = some (.bool t326) := (blk_cell BK327.out 2).trans rfl; have hfz43_0 := blk_frozen BK327.out 0; have hfz43_1 := blk_frozen BK327.out 1; have hfz43_2 := blk_frozen BK327.out 2))
              go_ret
              exact ⟨by first | rfl | (simp [errW_none, errW_some] <;> rfl) | (simp [*, errW_none, errW_some] <;> rfl), by repeat (first | (with_reducible first | exact HB.out | apply below_alloc | apply pw_below_drewN | apply below_drew1 | refine below_set ?_ GE319.out | refine below_set ?_ GE320.out | refine below_set ?_ GE327.out | refine below_set ?_ GE331.out) | exact HB.out)⟩
            · rw [if_neg c26] at H
              have c26b0 : (t324 == t328) = false := beq_eq_false_iff_ne.mpr c26
              have c26b1 : (t324 != t328) = true := bne_iff_ne.mpr c26
              obtain rfl := Option.some.inj H
              have hnb44 := NB319_320.out
              have hnc44 := NB320_319.out
              have hcz45_0 : wc.cell? ⟨gb319, 0, none⟩ = some (.int .i64 a0_0) := (blk_cell BK319.out 0).trans rfl
              have hcz45_1 : wc.cell? ⟨gb319, 1, none⟩ = some (.int .i64 a0_1) := (blk_cell BK319.out 1).trans rfl
              have hcz45_2 : wc.cell? ⟨gb319, 2, none⟩ = some (.int .i64 a0_2) := (blk_cell BK319.out 2).trans rfl
              have hcz45_3 : wc.cell? ⟨gb319, 3, none⟩ = some (.int .i64 a0_3) := (blk_cell BK319.out 3).trans rfl
              have hcz45_4 : wc.cell? ⟨gb319, 4, none⟩ = some (.int .i64 a0_4) := (blk_cell BK319.out 4).trans rfl
              have hcz45_5 : wc.cell? ⟨gb319, 5, none⟩ = some (.int .i64 a0_5) := (blk_cell BK319.out 5).trans rfl
              have hcz45_6 : wc.cell? ⟨gb319, 6, none⟩ = some (.int .i64 a0_6) := (blk_cell BK319.out 6).trans rfl
              have hcz45_7 : wc.cell? ⟨gb319, 7, none⟩ = some (.int .i64 a0_7) := (blk_cell BK319.out 7).trans rfl
              have hcz45_8 : wc.cell? ⟨gb319, 8, none⟩ = some (.int .i64 a0_8) := (blk_cell BK319.out 8).trans rfl
              have hcz45_9 : wc.cell? ⟨gb319, 9, none⟩ = some (.int .i64 a0_9) := (blk_cell BK319.out 9).trans rfl
              have hcz45_10 : wc.cell? ⟨gb319, 10, none⟩ = some (.int .i64 a0_10) := (blk_cell BK319.out 10).trans rfl
              have hcz45_11 : wc.cell? ⟨gb319, 11, none⟩ = some (.int .i64 a0_11) := (blk_cell BK319.out 11).trans rfl
              have hfz45_0 := blk_frozen BK319.out 0
              have hfz45_1 := blk_frozen BK319.out 1
              have hfz45_2 := blk_frozen BK319.out 2
              have hfz45_3 := blk_frozen BK319.out 3
              have hfz45_4 := blk_frozen BK319.out 4
              have hfz45_5 := blk_frozen BK319.out 5
              have hfz45_6 := blk_frozen BK319.out 6
              have hfz45_7 := blk_frozen BK319.out 7
              have hfz45_8 := blk_frozen BK319.out 8
              have hfz45_9 := blk_frozen BK319.out 9
              have hfz45_10 := blk_frozen BK319.out 10
              have hfz45_11 := blk_frozen BK319.out 11
              have hcz46_0 : wc.cell? ⟨gb320, 0, none⟩ = some (.int .i64 a1_0) := (blk_cell BK320.out 0).trans rfl
              have hcz46_1 : wc.cell? ⟨gb320, 1, none⟩ = some (.int .i64 a1_1) := (blk_cell BK320.out 1).trans rfl
              have hcz46_2 : wc.cell? ⟨gb320, 2, none⟩ = some (.bool a1_2) := (blk_cell BK320.out 2).trans rfl
              have hfz46_0 := blk_frozen BK320.out 0
              have hfz46_1 := blk_frozen BK320.out 1
              have hfz46_2 := blk_frozen BK320.out 2
              go_wp2_with (first | ((with_reducible refine gate_callee (f := 26) rfl ?_); refine goesL_ (some 31) rfl rfl Try.func26 (by kernel_rfl) rfl #[.agg #[.int .i64 a0_0, .int .i64 a0_1, .int .i64 a0_2, .int .i64 a0_3, .int .i64 a0_4, .int .i64 a0_5, .int .i64 a0_6, .int .i64 a0_7, .int .i64 a0_8, .int .i64 a0_9, .int .i64 a0_10, .int .i64 a0_11], .agg #[.int .i64 a1_0, .int .i64 a1_1, .bool a1_2], .int .i64 (wrap64 (a2)), .int .i64 (wrap64 (a4))] rfl (by (try simp only [List.map_toArray, List.map_cons, List.map_nil]); first | done | rfl | (simp only [List.length_drop, List.length_take]; rfl)) ?_; (with_reducible refine (limit_Next.calls a0_0 a0_1 a0_2 a0_3 a0_4 a0_5 a0_6 a0_7 a0_8 a0_9 a0_10 a0_11 a1_0 a1_1 a1_2 (wrap64 (a2)) (wrap64 (a4)) t324 t325 t326 _ A22.out).mono ?_); rintro e w47 ⟨rfl, hb⟩; refine ⟨_, rfl, ?_⟩; have n0_ := Aside0.mk (blk_below (g := gb319) (o := .cells #[.int .i64 a0_0, .int .i64 a0_1, .int .i64 a0_2, .int .i64 a0_3, .int .i64 a0_4, .int .i64 a0_5, .int .i64 a0_6, .int .i64 a0_7, .int .i64 a0_8, .int .i64 a0_9, .int .i64 a0_10, .int .i64 a0_11] 37 (0, 0)) (by (with_reducible repeat (first | refine blk_drewN ?_ _ | refine blk_drew ?_ | refine blk_alloc ?_ _)); exact BK319.out) hb); have n1_ := Aside0.mk (blk_below (g := gb320) (o := .cells #[.int .i64 a1_0, .int .i64 a1_1, .bool a1_2] 39 (0, 0)) (by (with_reducible repeat (first | refine blk_drewN ?_ _ | refine blk_drew ?_ | refine blk_alloc ?_ _)); exact BK320.out) hb); have n2_ := Aside0.mk (below_step (by repeat (first | (with_reducible first | exact HB.out | apply below_alloc | apply pw_below_drewN | apply below_drew1 | refine below_set ?_ GE319.out | refine below_set ?_ GE320.out) | exact HB.out)) hb); clear BK319; clear BK320; clear HB; have BK319 := n0_; have BK320 := n1_; have HB := n2_; clear n0_ n1_ n2_; (try clear hb); (try clear hb2); (try clear hk); (try clear hi)) | ((with_reducible refine gate_dst (N := 12) rfl ?_); refine box_event ?hg (N := 12) ?hd (cs := #[.int .i64 0, .int .i64 0, .bool false]) (t := 39) ?hr ?_; (case hd => rfl); (case hg => rfl); (case hr => first | (go_simp; done) | (go_simp; rfl)); intro gb327 hg w48 hbox hb; have n0_ := Aside0.mk (blk_below (g := gb319) (o := .cells #[.int .i64 a0_0, .int .i64 a0_1, .int .i64 a0_2, .int .i64 a0_3, .int .i64 a0_4, .int .i64 a0_5, .int .i64 a0_6, .int .i64 a0_7, .int .i64 a0_8, .int .i64 a0_9, .int .i64 a0_10, .int .i64 a0_11] 37 (0, 0)) (by (with_reducible repeat (first | refine blk_drewN ?_ _ | refine blk_drew ?_ | refine blk_alloc ?_ _)); exact BK319.out) hb); have n1_ := Aside0.mk (blk_below (g := gb320) (o := .cells #[.int .i64 a1_0, .int .i64 a1_1, .bool a1_2] 39 (0, 0)) (by (with_reducible repeat (first | refine blk_drewN ?_ _ | refine blk_drew ?_ | refine blk_alloc ?_ _)); exact BK320.out) hb); have n2_ := Aside0.mk (below_step (by repeat (first | (with_reducible first | exact HB.out | apply below_alloc | apply pw_below_drewN | apply below_drew1 | refine below_set ?_ GE319.out | refine below_set ?_ GE320.out) | exact HB.out)) hb); have n3_ := Aside0.mk (hbox); have n4_ := Aside0.mk ((by rw [hg]; exact (below_size (by repeat (first | (with_reducible first | exact HB.out | apply below_alloc | apply pw_below_drewN | apply below_drew1 | refine below_set ?_ GE319.out | refine below_set ?_ GE320.out) | exact HB.out))) : w.heap.size ≤ gb327)); have n5_ := Aside0.mk ((by rw [hg]; exact (below_size (by repeat (first | (with_reducible first | exact HB.out | apply below_alloc | apply pw_below_drewN | apply below_drew1 | refine below_set ?_ GE319.out | refine below_set ?_ GE320.out) | exact HB.out))) : w.heap.size ≤ gb327)); have n6_ := Aside0.mk ((by rw [hg]; exact Nat.ne_of_lt (blk_lt (g := gb319) (o := .cells #[.int .i64 a0_0, .int .i64 a0_1, .int .i64 a0_2, .int .i64 a0_3, .int .i64 a0_4, .int .i64 a0_5, .int .i64 a0_6, .int .i64 a0_7, .int .i64 a0_8, .int .i64 a0_9, .int .i64 a0_10, .int .i64 a0_11] 37 (0, 0)) (by (with_reducible repeat (first | refine blk_drewN ?_ _ | refine blk_drew ?_ | refine blk_alloc ?_ _)); exact BK319.out)) : gb319 ≠ gb327)); have n7_ := Aside0.mk ((by rw [hg]; exact Nat.ne_of_gt (blk_lt (g := gb319) (o := .cells #[.int .i64 a0_0, .int .i64 a0_1, .int .i64 a0_2, .int .i64 a0_3, .int .i64 a0_4, .int .i64 a0_5, .int .i64 a0_6, .int .i64 a0_7, .int .i64 a0_8, .int .i64 a0_9, .int .i64 a0_10, .int .i64 a0_11] 37 (0, 0)) (by (with_reducible repeat (first | refine blk_drewN ?_ _ | refine blk_drew ?_ | refine blk_alloc ?_ _)); exact BK319.out)) : gb327 ≠ gb319)); have n8_ := Aside0.mk ((by rw [hg]; exact Nat.ne_of_lt (blk_lt (g := gb320) (o := .cells #[.int .i64 a1_0, .int .i64 a1_1, .bool a1_2] 39 (0, 0)) (by (with_reducible repeat (first | refine blk_drewN ?_ _ | refine blk_drew ?_ | refine blk_alloc ?_ _)); exact BK320.out)) : gb320 ≠ gb327)); have n9_ := Aside0.mk ((by rw [hg]; exact Nat.ne_of_gt (blk_lt (g := gb320) (o := .cells #[.int .i64 a1_0, .int .i64 a1_1, .bool a1_2] 39 (0, 0)) (by (with_reducible repeat (first | refine blk_drewN ?_ _ | refine blk_drew ?_ | refine blk_alloc ?_ _)); exact BK320.out)) : gb327 ≠ gb320)); clear BK319; clear BK320; clear HB; have BK319 := n0_; have BK320 := n1_; have HB := n2_; have BK327 := n3_; have GW327 := n4_; have GE327 := n5_; have NB319_327 := n6_; have NB327_319 := n7_; have NB320_327 := n8_; have NB327_320 := n9_; clear n0_ n1_ n2_ n3_ n4_ n5_ n6_ n7_ n8_ n9_; clear hb hbox hg; have hnb49 := NB327_319.out; have hnc49 := NB319_327.out; have hnb50 := NB327_320.out; have hnc50 := NB320_327.out; have hcz51_0 : w48.cell? ⟨gb327, 0, none⟩ = some (.int .i64 0) := (blk_cell BK327.out 0).trans rfl; have hcz51_1 : w48.cell? ⟨gb327, 1, none⟩ = some (.int .i64 0) := (blk_cell BK327.out 1).trans rfl; have hcz51_2 : w48.cell? ⟨gb327, 2, none⟩ = some (.bool false) := (blk_cell BK327.out 2).trans rfl; have hfz51_0 := blk_frozen BK327.out 0; have hfz51_1 := blk_frozen BK327.out 1; have hfz51_2 := blk_frozen BK327.out 2; have hcz52_0 : w48.cell? ⟨gb319, 0, none⟩ = some (.int .i64 a0_0) := (blk_cell BK319.out 0).trans rfl; have hcz52_1 : w48.cell? ⟨gb319, 1, none⟩ = some (.int .i64 a0_1) := (blk_cell BK319.out 1).trans rfl; have hcz52_2 : w48.cell? ⟨gb319, 2, none⟩ = some (.int .i64 a0_2) := (blk_cell BK319.out 2).trans rfl; have hcz52_3 : w48.cell? ⟨gb319, 3, none⟩ = some (.int .i64 a0_3) := (blk_cell BK319.out 3).trans rfl; have hcz52_4 : w48.cell? ⟨gb319, 4, none⟩ = some (.int .i64 a0_4) := (blk_cell BK319.out 4).trans rfl; have hcz52_5 : w48.cell? ⟨gb319, 5, none⟩ = some (.int .i64 a0_5) := (blk_cell BK319.out 5).trans rfl; have hcz52_6 : w48.cell? ⟨gb319, 6, none⟩ = some (.int .i64 a0_6) := (blk_cell BK319.out 6).trans rfl; have hcz52_7 : w48.cell? ⟨gb319, 7, none⟩ = some (.int .i64 a0_7) := (blk_cell BK319.out 7).trans rfl; have hcz52_8 : w48.cell? ⟨gb319, 8, none⟩ = some (.int .i64 a0_8) := (blk_cell BK319.out 8).trans rfl; have hcz52_9 : w48.cell? ⟨gb319, 9, none⟩ = some (.int .i64 a0_9) := (blk_cell BK319.out 9).trans rfl; have hcz52_10 : w48.cell? ⟨gb319, 10, none⟩ = some (.int .i64 a0_10) := (blk_cell BK319.out 10).trans rfl; have hcz52_11 : w48.cell? ⟨gb319, 11, none⟩ = some (.int .i64 a0_11) := (blk_cell BK319.out 11).trans rfl; have hfz52_0 := blk_frozen BK319.out 0; have hfz52_1 := blk_frozen BK319.out 1; have hfz52_2 := blk_frozen BK319.out 2; have hfz52_3 := blk_frozen BK319.out 3; have hfz52_4 := blk_frozen BK319.out 4; have hfz52_5 := blk_frozen BK319.out 5; have hfz52_6 := blk_frozen BK319.out 6; have hfz52_7 := blk_frozen BK319.out 7; have hfz52_8 := blk_frozen BK319.out 8; have hfz52_9 := blk_frozen BK319.out 9; have hfz52_10 := blk_frozen BK319.out 10; have hfz52_11 := blk_frozen BK319.out 11; have hcz53_0 : w48.cell? ⟨gb320, 0, none⟩ = some (.int .i64 a1_0) := (blk_cell BK320.out 0).trans rfl; have hcz53_1 : w48.cell? ⟨gb320, 1, none⟩ = some (.int .i64 a1_1) := (blk_cell BK320.out 1).trans rfl; have hcz53_2 : w48.cell? ⟨gb320, 2, none⟩ = some (.bool a1_2) := (blk_cell BK320.out 2).trans rfl; have hfz53_0 := blk_frozen BK320.out 0; have hfz53_1 := blk_frozen BK320.out 1; have hfz53_2 := blk_frozen BK320.out 2) | ((with_reducible refine gate_callee (f := 26) rfl ?_); refine goesL_ (some 41) rfl rfl Try.func26 (by kernel_rfl) rfl #[.agg #[.int .i64 a0_0, .int .i64 a0_1, .int .i64 a0_2, .int .i64 a0_3, .int .i64 a0_4, .int .i64 a0_5, .int .i64 a0_6, .int .i64 a0_7, .int .i64 a0_8, .int .i64 a0_9, .int .i64 a0_10, .int .i64 a0_11], .agg #[.int .i64 a1_0, .int .i64 a1_1, .bool a1_2], .int .i64 (wrap64 ((wrap64 (a2)) + (wrap64 (a3)))), .int .i64 (wrap64 (a4))] rfl (by (try simp only [List.map_toArray, List.map_cons, List.map_nil]); first | done | rfl | (simp only [List.length_drop, List.length_take]; rfl)) ?_; (with_reducible refine (limit_Next.calls a0_0 a0_1 a0_2 a0_3 a0_4 a0_5 a0_6 a0_7 a0_8 a0_9 a0_10 a0_11 a1_0 a1_1 a1_2 (wrap64 ((wrap64 (a2)) + (wrap64 (a3)))) (wrap64 (a4)) t328 t329 t330 _ A23.out).mono ?_); rintro e w54 ⟨rfl, hb⟩; refine ⟨_, rfl, ?_⟩; have n0_ := Aside0.mk (blk_below (g := gb319) (o := .cells #[.int .i64 a0_0, .int .i64 a0_1, .int .i64 a0_2, .int .i64 a0_3, .int .i64 a0_4, .int .i64 a0_5, .int .i64 a0_6, .int .i64 a0_7, .int .i64 a0_8, .int .i64 a0_9, .int .i64 a0_10, .int .i64 a0_11] 37 (0, 0)) (by (with_reducible repeat (first | refine blk_drewN ?_ _ | refine blk_drew ?_ | refine blk_alloc ?_ _)); refine blk_far ?_ NB319_327.out _; (with_reducible repeat (first | refine blk_drewN ?_ _ | refine blk_drew ?_ | refine blk_alloc ?_ _)); refine blk_far ?_ NB319_327.out _; (with_reducible repeat (first | refine blk_drewN ?_ _ | refine blk_drew ?_ | refine blk_alloc ?_ _)); refine blk_far ?_ NB319_327.out _; (with_reducible repeat (first | refine blk_drewN ?_ _ | refine blk_drew ?_ | refine blk_alloc ?_ _)); exact BK319.out) hb); have n1_ := Aside0.mk (blk_below (g := gb320) (o := .cells #[.int .i64 a1_0, .int .i64 a1_1, .bool a1_2] 39 (0, 0)) (by (with_reducible repeat (first | refine blk_drewN ?_ _ | refine blk_drew ?_ | refine blk_alloc ?_ _)); refine blk_far ?_ NB320_327.out _; (with_reducible repeat (first | refine blk_drewN ?_ _ | refine blk_drew ?_ | refine blk_alloc ?_ _)); refine blk_far ?_ NB320_327.out _; (with_reducible repeat (first | refine blk_drewN ?_ _ | refine blk_drew ?_ | refine blk_alloc ?_ _)); refine blk_far ?_ NB320_327.out _; (with_reducible repeat (first | refine blk_drewN ?_ _ | refine blk_drew ?_ | refine blk_alloc ?_ _)); exact BK320.out) hb); have n2_ := Aside0.mk (blk_below (g := gb327) (o := .cells #[.int .i64 t324, .int .i64 t325, .bool t326] 39 (0, 0)) (by (with_reducible repeat (first | refine blk_drewN ?_ _ | refine blk_drew ?_ | refine blk_alloc ?_ _)); refine blk_put (cs := #[.int .i64 t324, .int .i64 t325, .bool false]) ?_ 2 _ rfl; (with_reducible repeat (first | refine blk_drewN ?_ _ | refine blk_drew ?_ | refine blk_alloc ?_ _)); refine blk_put (cs := #[.int .i64 t324, .int .i64 0, .bool false]) ?_ 1 _ rfl; (with_reducible repeat (first | refine blk_drewN ?_ _ | refine blk_drew ?_ | refine blk_alloc ?_ _)); refine blk_put (cs := #[.int .i64 0, .int .i64 0, .bool false]) ?_ 0 _ rfl; (with_reducible repeat (first | refine blk_drewN ?_ _ | refine blk_drew ?_ | refine blk_alloc ?_ _)); exact BK327.out) hb); have n3_ := Aside0.mk (below_step (by repeat (first | (with_reducible first | exact HB.out | apply below_alloc | apply pw_below_drewN | apply below_drew1 | refine below_set ?_ GE319.out | refine below_set ?_ GE320.out | refine below_set ?_ GE327.out) | exact HB.out)) hb); clear BK319; clear BK320; clear BK327; clear HB; have BK319 := n0_; have BK320 := n1_; have BK327 := n2_; have HB := n3_; clear n0_ n1_ n2_ n3_; (try clear hb); (try clear hb2); (try clear hk); (try clear hi)) | ((with_reducible refine gate_dst (N := 13) rfl ?_); refine box_event ?hg (N := 13) ?hd (cs := #[.int .i64 0, .int .i64 0, .bool false]) (t := 39) ?hr ?_; (case hd => rfl); (case hg => rfl); (case hr => first | (go_simp; done) | (go_simp; rfl)); intro gb331 hg w55 hbox hb; have n0_ := Aside0.mk (blk_below (g := gb319) (o := .cells #[.int .i64 a0_0, .int .i64 a0_1, .int .i64 a0_2, .int .i64 a0_3, .int .i64 a0_4, .int .i64 a0_5, .int .i64 a0_6, .int .i64 a0_7, .int .i64 a0_8, .int .i64 a0_9, .int .i64 a0_10, .int .i64 a0_11] 37 (0, 0)) (by (with_reducible repeat (first | refine blk_drewN ?_ _ | refine blk_drew ?_ | refine blk_alloc ?_ _)); exact BK319.out) hb); have n1_ := Aside0.mk (blk_below (g := gb320) (o := .cells #[.int .i64 a1_0, .int .i64 a1_1, .bool a1_2] 39 (0, 0)) (by (with_reducible repeat (first | refine blk_drewN ?_ _ | refine blk_drew ?_ | refine blk_alloc ?_ _)); exact BK320.out) hb); have n2_ := Aside0.mk (blk_below (g := gb327) (o := .cells #[.int .i64 t324, .int .i64 t325, .bool t326] 39 (0, 0)) (by (with_reducible repeat (first | refine blk_drewN ?_ _ | refine blk_drew ?_ | refine blk_alloc ?_ _)); exact BK327.out) hb); have n3_ := Aside0.mk (below_step (by repeat (first | (with_reducible first | exact HB.out | apply below_alloc | apply pw_below_drewN | apply below_drew1 | refine below_set ?_ GE319.out | refine below_set ?_ GE320.out | refine below_set ?_ GE327.out) | exact HB.out)) hb); have n4_ := Aside0.mk (hbox); have n5_ := Aside0.mk ((by rw [hg]; exact (below_size (by repeat (first | (with_reducible first | exact HB.out | apply below_alloc | apply pw_below_drewN | apply below_drew1 | refine below_set ?_ GE319.out | refine below_set ?_ GE320.out | refine below_set ?_ GE327.out) | exact HB.out))) : w.heap.size ≤ gb331)); have n6_ := Aside0.mk ((by rw [hg]; exact (below_size (by repeat (first | (with_reducible first | exact HB.out | apply below_alloc | apply pw_below_drewN | apply below_drew1 | refine below_set ?_ GE319.out | refine below_set ?_ GE320.out | refine below_set ?_ GE327.out) | exact HB.out))) : w.heap.size ≤ gb331)); have n7_ := Aside0.mk ((by rw [hg]; exact Nat.ne_of_lt (blk_lt (g := gb319) (o := .cells #[.int .i64 a0_0, .int .i64 a0_1, .int .i64 a0_2, .int .i64 a0_3, .int .i64 a0_4, .int .i64 a0_5, .int .i64 a0_6, .int .i64 a0_7, .int .i64 a0_8, .int .i64 a0_9, .int .i64 a0_10, .int .i64 a0_11] 37 (0, 0)) (by (with_reducible repeat (first | refine blk_drewN ?_ _ | refine blk_drew ?_ | refine blk_alloc ?_ _)); exact BK319.out)) : gb319 ≠ gb331)); have n8_ := Aside0.mk ((by rw [hg]; exact Nat.ne_of_gt (blk_lt (g := gb319) (o := .cells #[.int .i64 a0_0, .int .i64 a0_1, .int .i64 a0_2, .int .i64 a0_3, .int .i64 a0_4, .int .i64 a0_5, .int .i64 a0_6, .int .i64 a0_7, .int .i64 a0_8, .int .i64 a0_9, .int .i64 a0_10, .int .i64 a0_11] 37 (0, 0)) (by (with_reducible repeat (first | refine blk_drewN ?_ _ | refine blk_drew ?_ | refine blk_alloc ?_ _)); exact BK319.out)) : gb331 ≠ gb319)); have n9_ := Aside0.mk ((by rw [hg]; exact Nat.ne_of_lt (blk_lt (g := gb320) (o := .cells #[.int .i64 a1_0, .int .i64 a1_1, .bool a1_2] 39 (0, 0)) (by (with_reducible repeat (first | refine blk_drewN ?_ _ | refine blk_drew ?_ | refine blk_alloc ?_ _)); exact BK320.out)) : gb320 ≠ gb331)); have n10_ := Aside0.mk ((by rw [hg]; exact Nat.ne_of_gt (blk_lt (g := gb320) (o := .cells #[.int .i64 a1_0, .int .i64 a1_1, .bool a1_2] 39 (0, 0)) (by (with_reducible repeat (first | refine blk_drewN ?_ _ | refine blk_drew ?_ | refine blk_alloc ?_ _)); exact BK320.out)) : gb331 ≠ gb320)); have n11_ := Aside0.mk ((by rw [hg]; exact Nat.ne_of_lt (blk_lt (g := gb327) (o := .cells #[.int .i64 t324, .int .i64 t325, .bool t326] 39 (0, 0)) (by (with_reducible repeat (first | refine blk_drewN ?_ _ | refine blk_drew ?_ | refine blk_alloc ?_ _)); exact BK327.out)) : gb327 ≠ gb331)); have n12_ := Aside0.mk ((by rw [hg]; exact Nat.ne_of_gt (blk_lt (g := gb327) (o := .cells #[.int .i64 t324, .int .i64 t325, .bool t326] 39 (0, 0)) (by (with_reducible repeat (first | refine blk_drewN ?_ _ | refine blk_drew ?_ | refine blk_alloc ?_ _)); exact BK327.out)) : gb331 ≠ gb327)); clear BK319; clear BK320; clear BK327; clear HB; have BK319 := n0_; have BK320 := n1_; have BK327 := n2_; have HB := n3_; have BK331 := n4_; have GW331 := n5_; have GE331 := n6_; have NB319_331 := n7_; have NB331_319 := n8_; have NB320_331 := n9_; have NB331_320 := n10_; have NB327_331 := n11_; have NB331_327 := n12_; clear n0_ n1_ n2_ n3_ n4_ n5_ n6_ n7_ n8_ n9_ n10_ n11_ n12_; clear hb hbox hg; have hnb56 := NB331_319.out; have hnc56 := NB319_331.out; have hnb57 := NB331_320.out; have hnc57 := NB320_331.out; have hnb58 := NB331_327.out; have hnc58 := NB327_331.out; have hcz59_0 : w55.cell? ⟨gb331, 0, none⟩ = some (.int .i64 0) := (blk_cell BK331.out 0).trans rfl; have hcz59_1 : w55.cell? ⟨gb331, 1, none⟩ = some (.int .i64 0) := (blk_cell BK331.out 1).trans rfl; have hcz59_2 : w55.cell? ⟨gb331, 2, none⟩ = some (.bool false) := (blk_cell BK331.out 2).trans rfl; have hfz59_0 := blk_frozen BK331.out 0; have hfz59_1 := blk_frozen BK331.out 1; have hfz59_2 := blk_frozen BK331.out 2; have hcz60_0 : w55.cell? ⟨gb327, 0, none⟩ = some (.int .i64 t324) := (blk_cell BK327.out 0).trans rfl; have hcz60_1 : w55.cell? ⟨gb327, 1, none⟩ = some (.int .i64 t325) := (blk_cell BK327.out 1).trans rfl; have hcz60_2 : w55.cell? ⟨gb327, 2, none⟩ = some (.bool t326) := (blk_cell BK327.out 2).trans rfl; have hfz60_0 := blk_frozen BK327.out 0; have hfz60_1 := blk_frozen BK327.out 1; have hfz60_2 := blk_frozen BK327.out 2))
              go_ret
              exact ⟨by first | rfl | (simp [errW_none, errW_some] <;> rfl) | (simp [*, errW_none, errW_some] <;> rfl), by repeat (first | (with_reducible first | exact HB.out | apply below_alloc | apply pw_below_drewN | apply below_drew1 | refine below_set ?_ GE319.out | refine below_set ?_ GE320.out | refine below_set ?_ GE327.out | refine below_set ?_ GE331.out) | exact HB.out)⟩
          · rw [if_neg c25] at H
            have c25b0 : decide (t324 ≤ t328) = false := decide_eq_false c25
            clear c25
            exact absurd (Option.some.inj H) (by rw [HRT.out]; decide)
        · replace c24 := Bool.eq_false_iff.mpr c24
          subst c24
          have H1 : (some false) = some r := by rw [if_neg (show ¬ (false = true) by decide)] at H; exact H
          clear H
          have H := H1
          clear H1
          exact absurd (Option.some.inj H) (by rw [HRT.out]; decide)

end Go.Proofs.Ytnipomnkjegebaa.PAll
