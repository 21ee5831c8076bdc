-- laid by a program of this session (tprint.py) out of the translation and of texts typed by hand; Lean checks it
import Derived.Test.YtgeldfjpafimpaaPAllx0
import Derived.Test.YtgeldfjpafimpaaPAllx11
import Derived.Test.YtgeldfjpafimpaaPAllx12
import Derived.Test.YtgeldfjpafimpaaPAllx15
import Derived.Test.YtgeldfjpafimpaaPAllx17
import Derived.Test.YtgeldfjpafimpaaPAllx18
namespace Go.Proofs.Ytgeldfjpafimpaa.PAll
open Go.RowKit Go.Proofs.YtgeldfjpafimpaaW.PrintWords Go.Proofs.YtgeldfjpafimpaaW.PrintLast Go.Proofs.YtgeldfjpafimpaaW.PrintMore
attribute [local go_sem] max2_int min2_int max_two min_two max_three min_three max_four min_four   -- for this text's walks alone
set_option linter.unusedVariables false
set_option linter.unusedSimpArgs false

/-! ### governorlaw16_PlantOwn: function 8 -/
mutual
def governorlaw16_PlantOwn.j0 : Nat → Int → Int → Bool → Bool → Int → Int → Int → Int → Int → Int → Int → Int → Int → Int → Int → Int → Int → List Int → Int → Int → Option (Bool)
  | 0, _, _, _, _, _, _, _, _, _, _, _, _, _, _, _, _, _, _, _, _ => none
  | k + 1, x2, x3, x9, x29, x372000, x372001, x372002, x372003, x372004, x372005, x372006, x372007, x372008, x372009, x372010, x372011, x373000, x373001, x373002, x373003 => if x29 = true then (some x9) else ((some (([] : List Int) : List Int)).bind fun y377 => (if y377.length + x373001.length < 17592186044416 then ((some (y377 ++ x373001 : List Int)).bind fun y380 => ((plant_Step.f x372000 x372001 x372002 x372003 x372004 x372005 x372006 x372007 x372008 x372009 x372010 x372011 x373000 y380 x373002 x373003 x2 x3).bind fun bt383 => ((governorref16_Same.f k x373000 y380 x373002 x373003 x373000 x373001 x373002 x373003).bind fun t393 => (if t393 = true then ((some (([] : List Int) : List Int)).bind fun y395 => (if y395.length + bt383.2.1.length < 17592186044416 then (governorlaw16_PlantOwn.l0 k x9 0 x373000 y380 x373002 x373003 bt383.1 bt383.2.1 bt383.2.2.1 bt383.2.2.2.1 bt383.1 (y395 ++ bt383.2.1) bt383.2.2.1 bt383.2.2.2.1) else (none))) else (some false))))) else (none)))
def governorlaw16_PlantOwn.l0 : Nat → Bool → Int → Int → List Int → Int → Int → Int → List Int → Int → Int → Int → List Int → Int → Int → Option (Bool)
  | 0, _, _, _, _, _, _, _, _, _, _, _, _, _, _ => none
  | k + 1, x9, x14, x377000, x377001, x377002, x377003, x392000, x392001, x392002, x392003, x395000, x395001, x395002, x395003 => if x14 < (x377001.length : Int) then (if 0 ≤ x14 then (governorlaw16_PlantOwn.l0 k x9 (wrap64 (x14 + 1)) x377000 (x377001.set (x14 : Int).toNat 999) x377002 x377003 x392000 x392001 x392002 x392003 x395000 x395001 x395002 x395003) else (none)) else (if x9 = true then ((governorref16_Same.f k x392000 x392001 x392002 x392003 x395000 x395001 x395002 x395003).bind fun t402 => (some t402)) else (some false))
end
def governorlaw16_PlantOwn.f (k : Nat) (a0_0 : Int) (a0_1 : Int) (a0_2 : Int) (a0_3 : Int) (a0_4 : Int) (a0_5 : Int) (a0_6 : Int) (a0_7 : Int) (a0_8 : Int) (a0_9 : Int) (a0_10 : Int) (a0_11 : Int) (a1_0 : Int) (l1_1 : List Int) (a1_2 : Int) (a1_3 : Int) (a2 : Int) (a3 : Int) : Option (Bool) := (governorlaw16_head.f k).bind fun t373 => ((governorref09_Conf.f a0_0 a0_1 a0_2 a0_3 a0_4 a0_5 a0_6 a0_7 a0_8 a0_9 a0_10 a0_11).bind fun t374 => (if t374 = true then (if (l1_1.length : Int) > 8 then (governorlaw16_PlantOwn.j0 k a2 a3 t373 true a0_0 a0_1 a0_2 a0_3 a0_4 a0_5 a0_6 a0_7 a0_8 a0_9 a0_10 a0_11 a1_0 l1_1 a1_2 a1_3) else ((governorref16_Right.f k a1_0 l1_1 a1_2 a1_3).bind fun t375 => (governorlaw16_PlantOwn.j0 k a2 a3 t373 (!t375) a0_0 a0_1 a0_2 a0_3 a0_4 a0_5 a0_6 a0_7 a0_8 a0_9 a0_10 a0_11 a1_0 l1_1 a1_2 a1_3))) else (governorlaw16_PlantOwn.j0 k a2 a3 t373 true a0_0 a0_1 a0_2 a0_3 a0_4 a0_5 a0_6 a0_7 a0_8 a0_9 a0_10 a0_11 a1_0 l1_1 a1_2 a1_3)))
theorem governorlaw16_PlantOwn.mono_l : ∀ k, (∀ y0 y1 y2 y3 y4 y5 y6 y7 y8 y9 y10 y11 y12 y13 y14 y15 y16 y17 y18 y19, LeO (governorlaw16_PlantOwn.j0 k y0 y1 y2 y3 y4 y5 y6 y7 y8 y9 y10 y11 y12 y13 y14 y15 y16 y17 y18 y19) (governorlaw16_PlantOwn.j0 (k + 1) y0 y1 y2 y3 y4 y5 y6 y7 y8 y9 y10 y11 y12 y13 y14 y15 y16 y17 y18 y19)) ∧ (∀ y0 y1 y2 y3 y4 y5 y6 y7 y8 y9 y10 y11 y12 y13, LeO (governorlaw16_PlantOwn.l0 k y0 y1 y2 y3 y4 y5 y6 y7 y8 y9 y10 y11 y12 y13) (governorlaw16_PlantOwn.l0 (k + 1) y0 y1 y2 y3 y4 y5 y6 y7 y8 y9 y10 y11 y12 y13))
  | 0 => ⟨fun _ _ _ _ _ _ _ _ _ _ _ _ _ _ _ _ _ _ _ _ r h => by simp [governorlaw16_PlantOwn.j0] at h, fun _ _ _ _ _ _ _ _ _ _ _ _ _ _ r h => by simp [governorlaw16_PlantOwn.l0] at h⟩
  | k + 1 => by
    obtain ⟨ih0, ih1⟩ := governorlaw16_PlantOwn.mono_l k
    refine ⟨?_, ?_⟩
    · intro y0 y1 y2 y3 y4 y5 y6 y7 y8 y9 y10 y11 y12 y13 y14 y15 y16 y17 y18 y19
      unfold governorlaw16_PlantOwn.j0
      repeat' first
      | (with_reducible exact ih0 _ _ _ _ _ _ _ _ _ _ _ _ _ _ _ _ _ _ _ _)
      | (with_reducible exact ih1 _ _ _ _ _ _ _ _ _ _ _ _ _ _)
      | (with_reducible exact governorlaw16_head.mono _)
      | (with_reducible exact governorref16_Right.mono _ _ _ _ _)
      | (with_reducible exact governorref16_Same.mono _ _ _ _ _ _ _ _ _)
      | (with_reducible exact LeO.refl _)
      | (with_reducible exact LeO.none _)
      | (with_reducible refine LeO.ite ?_ ?_)
      | (with_reducible refine LeO.bind ?_ (fun _ => ?_))
      | exact ih0 _ _ _ _ _ _ _ _ _ _ _ _ _ _ _ _ _ _ _ _
      | exact ih1 _ _ _ _ _ _ _ _ _ _ _ _ _ _
      | exact governorlaw16_head.mono _
      | exact governorref16_Right.mono _ _ _ _ _
      | exact governorref16_Same.mono _ _ _ _ _ _ _ _ _
      | exact LeO.none _
      | refine LeO.ite ?_ ?_
      | refine LeO.bind ?_ (fun _ => ?_)
    · intro y0 y1 y2 y3 y4 y5 y6 y7 y8 y9 y10 y11 y12 y13
      unfold governorlaw16_PlantOwn.l0
      repeat' first
      | (with_reducible exact ih0 _ _ _ _ _ _ _ _ _ _ _ _ _ _ _ _ _ _ _ _)
      | (with_reducible exact ih1 _ _ _ _ _ _ _ _ _ _ _ _ _ _)
      | (with_reducible exact governorlaw16_head.mono _)
      | (with_reducible exact governorref16_Right.mono _ _ _ _ _)
      | (with_reducible exact governorref16_Same.mono _ _ _ _ _ _ _ _ _)
      | (with_reducible exact LeO.refl _)
      | (with_reducible exact LeO.none _)
      | (with_reducible refine LeO.ite ?_ ?_)
      | (with_reducible refine LeO.bind ?_ (fun _ => ?_))
      | exact ih0 _ _ _ _ _ _ _ _ _ _ _ _ _ _ _ _ _ _ _ _
      | exact ih1 _ _ _ _ _ _ _ _ _ _ _ _ _ _
      | exact governorlaw16_head.mono _
      | exact governorref16_Right.mono _ _ _ _ _
      | exact governorref16_Same.mono _ _ _ _ _ _ _ _ _
      | exact LeO.none _
      | refine LeO.ite ?_ ?_
      | refine LeO.bind ?_ (fun _ => ?_)
theorem governorlaw16_PlantOwn.mono : ∀ a0 a1 a2 a3 a4 a5 a6 a7 a8 a9 a10 a11 a12 a13 a14 a15 a16 a17 k, LeO (governorlaw16_PlantOwn.f k a0 a1 a2 a3 a4 a5 a6 a7 a8 a9 a10 a11 a12 a13 a14 a15 a16 a17) (governorlaw16_PlantOwn.f (k + 1) a0 a1 a2 a3 a4 a5 a6 a7 a8 a9 a10 a11 a12 a13 a14 a15 a16 a17) := by
  intro a0 a1 a2 a3 a4 a5 a6 a7 a8 a9 a10 a11 a12 a13 a14 a15 a16 a17 k
  obtain ⟨ih0, ih1⟩ := governorlaw16_PlantOwn.mono_l k
  unfold governorlaw16_PlantOwn.f
  repeat' first
      | (with_reducible exact ih0 _ _ _ _ _ _ _ _ _ _ _ _ _ _ _ _ _ _ _ _)
      | (with_reducible exact ih1 _ _ _ _ _ _ _ _ _ _ _ _ _ _)
      | (with_reducible exact governorlaw16_head.mono _)
      | (with_reducible exact governorref16_Right.mono _ _ _ _ _)
      | (with_reducible exact governorref16_Same.mono _ _ _ _ _ _ _ _ _)
      | (with_reducible exact LeO.refl _)
      | (with_reducible exact LeO.none _)
      | (with_reducible refine LeO.ite ?_ ?_)
      | (with_reducible refine LeO.bind ?_ (fun _ => ?_))
      | exact ih0 _ _ _ _ _ _ _ _ _ _ _ _ _ _ _ _ _ _ _ _
      | exact ih1 _ _ _ _ _ _ _ _ _ _ _ _ _ _
      | exact governorlaw16_head.mono _
      | exact governorref16_Right.mono _ _ _ _ _
      | exact governorref16_Same.mono _ _ _ _ _ _ _ _ _
      | exact LeO.none _
      | refine LeO.ite ?_ ?_
      | refine LeO.bind ?_ (fun _ => ?_)
set_option maxHeartbeats 8000000 in
set_option maxRecDepth 100000 in
theorem governorlaw16_PlantOwn.calls (k : Nat) (a0_0 : Int) (a0_1 : Int) (a0_2 : Int) (a0_3 : Int) (a0_4 : Int) (a0_5 : Int) (a0_6 : Int) (a0_7 : Int) (a0_8 : Int) (a0_9 : Int) (a0_10 : Int) (a0_11 : Int) (a1_0 : Int) (A1_1 : Option Addr) (c1_1 : Nat) (l1_1 : List Int) (a1_2 : Int) (a1_3 : Int) (a2 : Int) (a3 : Int) (r : Bool) (w : World) (hr1_1 : Kd.C (Kd.int .i64) w A1_1 l1_1.length l1_1) (hc1_1 : l1_1.length ≤ c1_1) (hrT : r = true) (h : governorlaw16_PlantOwn.f k a0_0 a0_1 a0_2 a0_3 a0_4 a0_5 a0_6 a0_7 a0_8 a0_9 a0_10 a0_11 a1_0 l1_1 a1_2 a1_3 a2 a3 = some r) :
    Calls Try.prog 8 #[.agg #[.int .i64 a0_0, .int .i64 a0_1, .int .i64 a0_2, .int .i64 a0_3, .int .i64 a0_4, .int .i64 a0_5, .int .i64 a0_6, .int .i64 a0_7, .int .i64 a0_8, .int .i64 a0_9, .int .i64 a0_10, .int .i64 a0_11], .agg #[.int .i64 a1_0, .slice A1_1 l1_1.length c1_1, .int .i64 a1_2, .int .i64 a1_3], .int .i64 a2, .int .i64 a3] w fun e w' => e = .returned (.bool r) ∧ Below w.heap.size w w' := by
  have hu23 := Try.underlying23
  have hu26 := Try.underlying26
  have hu31 := Try.underlying31
  have HR1_1 := Aside0.mk hr1_1
  have HC1_1 := Aside0.mk hc1_1
  clear hr1_1 hc1_1
  have HB := Aside0.mk (Below.refl w.heap.size w)
  have HRT := Aside0.mk hrT
  clear hrT
  have H : ((governorlaw16_head.f k).bind fun t373 => ((governorref09_Conf.f a0_0 a0_1 a0_2 a0_3 a0_4 a0_5 a0_6 a0_7 a0_8 a0_9 a0_10 a0_11).bind fun t374 => (if t374 = true then (if (l1_1.length : Int) > 8 then (governorlaw16_PlantOwn.j0 k a2 a3 t373 true a0_0 a0_1 a0_2 a0_3 a0_4 a0_5 a0_6 a0_7 a0_8 a0_9 a0_10 a0_11 a1_0 l1_1 a1_2 a1_3) else ((governorref16_Right.f k a1_0 l1_1 a1_2 a1_3).bind fun t375 => (governorlaw16_PlantOwn.j0 k a2 a3 t373 (!t375) a0_0 a0_1 a0_2 a0_3 a0_4 a0_5 a0_6 a0_7 a0_8 a0_9 a0_10 a0_11 a1_0 l1_1 a1_2 a1_3))) else (governorlaw16_PlantOwn.j0 k a2 a3 t373 true a0_0 a0_1 a0_2 a0_3 a0_4 a0_5 a0_6 a0_7 a0_8 a0_9 a0_10 a0_11 a1_0 l1_1 a1_2 a1_3)))) = some r := h
  clear h
  replace H := Option.bind_eq_some_iff.mp H
  obtain ⟨t373, A50, H⟩ := H
  replace H : ((governorref09_Conf.f a0_0 a0_1 a0_2 a0_3 a0_4 a0_5 a0_6 a0_7 a0_8 a0_9 a0_10 a0_11).bind fun t374 => (if t374 = true then (if (l1_1.length : Int) > 8 then (governorlaw16_PlantOwn.j0 k a2 a3 t373 true a0_0 a0_1 a0_2 a0_3 a0_4 a0_5 a0_6 a0_7 a0_8 a0_9 a0_10 a0_11 a1_0 l1_1 a1_2 a1_3) else ((governorref16_Right.f k a1_0 l1_1 a1_2 a1_3).bind fun t375 => (governorlaw16_PlantOwn.j0 k a2 a3 t373 (!t375) a0_0 a0_1 a0_2 a0_3 a0_4 a0_5 a0_6 a0_7 a0_8 a0_9 a0_10 a0_11 a1_0 l1_1 a1_2 a1_3))) else (governorlaw16_PlantOwn.j0 k a2 a3 t373 true a0_0 a0_1 a0_2 a0_3 a0_4 a0_5 a0_6 a0_7 a0_8 a0_9 a0_10 a0_11 a1_0 l1_1 a1_2 a1_3))) = some r := H
  have A5 := Aside0.mk A50
  clear A50
  have HC6 := Aside0.mk H
  clear H
  go_enter Try.func8, Try.ntmps8
  go_upto_region 2 with (first | ((with_reducible refine gate_dst (N := 4) rfl ?_); (try (refine gate_guard (by rfl) ?_; dsimp only)); refine box_event ?hg (N := 4) ?hd (cs := #[.int .i64 a0_0, .int .i64 a0_1, .int .i64 a0_2, .int .i64 a0_3, .int .i64 a0_4, .int .i64 a0_5, .int .i64 a0_6, .int .i64 a0_7, .int .i64 a0_8, .int .i64 a0_9, .int .i64 a0_10, .int .i64 a0_11]) (t := 23) ?hr ?_; (case hd => rfl); (case hg => rfl); (case hr => first | (go_simp; done) | (go_simp; rfl)); intro gb371 hg w7 hbox hb; have n0_ := Aside0.mk (below_step (by repeat (first | (with_reducible first | exact HB.out | apply below_alloc | apply pw_below_drewN | apply below_drew1) | exact HB.out)) hb); have n1_ := Aside0.mk (hbox); have n2_ := Aside0.mk ((by rw [hg]; exact (below_size (by repeat (first | (with_reducible first | exact HB.out | apply below_alloc | apply pw_below_drewN | apply below_drew1) | exact HB.out))) : w.heap.size ≤ gb371)); have n3_ := Aside0.mk ((by rw [hg]; exact (below_size (by repeat (first | (with_reducible first | exact HB.out | apply below_alloc | apply pw_below_drewN | apply below_drew1) | exact HB.out))) : w.heap.size ≤ gb371)); clear HB; have HB := n0_; have BK371 := n1_; have GW371 := n2_; have GE371 := n3_; clear n0_ n1_ n2_ n3_; clear hb hbox hg) | ((with_reducible refine gate_dst (N := 5) rfl ?_); (try (refine gate_guard (by rfl) ?_; dsimp only)); refine box_event ?hg (N := 5) ?hd (cs := #[.int .i64 a1_0, .slice A1_1 l1_1.length c1_1, .int .i64 a1_2, .int .i64 a1_3]) (t := 26) ?hr ?_; (case hd => rfl); (case hg => rfl); (case hr => first | (go_simp; done) | (go_simp; rfl)); intro gb372 hg w8 hbox hb; have n0_ := Aside0.mk (blk_below (g := gb371) (o := .cells #[.int .i64 a0_0, .int .i64 a0_1, .int .i64 a0_2, .int .i64 a0_3, .int .i64 a0_4, .int .i64 a0_5, .int .i64 a0_6, .int .i64 a0_7, .int .i64 a0_8, .int .i64 a0_9, .int .i64 a0_10, .int .i64 a0_11] 23 (0, 0)) (by (with_reducible repeat (first | refine blk_drewN ?_ _ | refine blk_drew ?_ | refine blk_alloc ?_ _)); exact BK371.out) hb); have n1_ := Aside0.mk (below_step (by repeat (first | (with_reducible first | exact HB.out | apply below_alloc | apply pw_below_drewN | apply below_drew1 | refine below_set ?_ GE371.out) | exact HB.out)) hb); have n2_ := Aside0.mk (hbox); have n3_ := Aside0.mk ((by rw [hg]; exact (below_size (by repeat (first | (with_reducible first | exact HB.out | apply below_alloc | apply pw_below_drewN | apply below_drew1 | refine below_set ?_ GE371.out) | exact HB.out))) : w.heap.size ≤ gb372)); have n4_ := Aside0.mk ((by rw [hg]; exact (below_size (by repeat (first | (with_reducible first | exact HB.out | apply below_alloc | apply pw_below_drewN | apply below_drew1 | refine below_set ?_ GE371.out) | exact HB.out))) : w.heap.size ≤ gb372)); have n5_ := Aside0.mk ((by rw [hg]; exact Nat.ne_of_lt (blk_lt (g := gb371) (o := .cells #[.int .i64 a0_0, .int .i64 a0_1, .int .i64 a0_2, .int .i64 a0_3, .int .i64 a0_4, .int .i64 a0_5, .int .i64 a0_6, .int .i64 a0_7, .int .i64 a0_8, .int .i64 a0_9, .int .i64 a0_10, .int .i64 a0_11] 23 (0, 0)) (by (with_reducible repeat (first | refine blk_drewN ?_ _ | refine blk_drew ?_ | refine blk_alloc ?_ _)); exact BK371.out)) : gb371 ≠ gb372)); have n6_ := Aside0.mk ((by rw [hg]; exact Nat.ne_of_gt (blk_lt (g := gb371) (o := .cells #[.int .i64 a0_0, .int .i64 a0_1, .int .i64 a0_2, .int .i64 a0_3, .int .i64 a0_4, .int .i64 a0_5, .int .i64 a0_6, .int .i64 a0_7, .int .i64 a0_8, .int .i64 a0_9, .int .i64 a0_10, .int .i64 a0_11] 23 (0, 0)) (by (with_reducible repeat (first | refine blk_drewN ?_ _ | refine blk_drew ?_ | refine blk_alloc ?_ _)); exact BK371.out)) : gb372 ≠ gb371)); clear BK371; clear HB; have BK371 := n0_; have HB := n1_; have BK372 := n2_; have GW372 := n3_; have GE372 := n4_; have NB371_372 := n5_; have NB372_371 := n6_; clear n0_ n1_ n2_ n3_ n4_ n5_ n6_; clear hb hbox hg) | ((with_reducible refine gate_callee (f := 15) rfl ?_); refine goesL_ (some 15) rfl rfl Try.func15 (by kernel_rfl) rfl #[] rfl (by (try simp only [List.map_toArray, List.map_cons, List.map_nil]); first | done | rfl | (simp only [List.length_drop, List.length_take]; rfl)) ?_; (with_reducible refine (governorlaw16_head.calls k  t373 _ A5.out).mono ?_); rintro e w9 ⟨rfl, hb⟩; refine ⟨_, rfl, ?_⟩; have n0_ := Aside0.mk (blk_below (g := gb371) (o := .cells #[.int .i64 a0_0, .int .i64 a0_1, .int .i64 a0_2, .int .i64 a0_3, .int .i64 a0_4, .int .i64 a0_5, .int .i64 a0_6, .int .i64 a0_7, .int .i64 a0_8, .int .i64 a0_9, .int .i64 a0_10, .int .i64 a0_11] 23 (0, 0)) (by (with_reducible repeat (first | refine blk_drewN ?_ _ | refine blk_drew ?_ | refine blk_alloc ?_ _)); exact BK371.out) hb); have n1_ := Aside0.mk (blk_below (g := gb372) (o := .cells #[.int .i64 a1_0, .slice A1_1 l1_1.length c1_1, .int .i64 a1_2, .int .i64 a1_3] 26 (0, 0)) (by (with_reducible repeat (first | refine blk_drewN ?_ _ | refine blk_drew ?_ | refine blk_alloc ?_ _)); exact BK372.out) hb); have n2_ := Aside0.mk (below_step (by repeat (first | (with_reducible first | exact HB.out | apply below_alloc | apply pw_below_drewN | apply below_drew1 | refine below_set ?_ GE371.out | refine below_set ?_ GE372.out) | exact HB.out)) hb); clear BK371; clear BK372; clear HB; have BK371 := n0_; have BK372 := n1_; have HB := n2_; clear n0_ n1_ n2_; (try clear hb); (try clear hb2); (try clear hk); (try clear hi)))
  (try simp only [Act.put, List.setIfInBounds_toArray, List.set_cons_zero, List.set_cons_succ])
  go_cut [29] (fun v29 wc => ∃ (kq : Nat) (x29_5 : Bool), v29 = .bool x29_5 ∧ Aside0 (governorlaw16_PlantOwn.j0 kq a2 a3 t373 x29_5 a0_0 a0_1 a0_2 a0_3 a0_4 a0_5 a0_6 a0_7 a0_8 a0_9 a0_10 a0_11 a1_0 l1_1 a1_2 a1_3 = some r) ∧ Aside0 (kq ≤ k) ∧ Aside0 (wc.heap[gb371]? = some (.cells #[.int .i64 a0_0, .int .i64 a0_1, .int .i64 a0_2, .int .i64 a0_3, .int .i64 a0_4, .int .i64 a0_5, .int .i64 a0_6, .int .i64 a0_7, .int .i64 a0_8, .int .i64 a0_9, .int .i64 a0_10, .int .i64 a0_11] 23 (0, 0))) ∧ Aside0 (wc.heap[gb372]? = some (.cells #[.int .i64 a1_0, (.slice A1_1 l1_1.length c1_1), .int .i64 a1_2, .int .i64 a1_3] 26 (0, 0))) ∧ Aside0 (Below w.heap.size w wc))
  case first =>
    have H := HC6.out
    clear HC6
    replace H := Option.bind_eq_some_iff.mp H
    obtain ⟨t374, A100, H⟩ := H
    replace H : (if t374 = true then (if (l1_1.length : Int) > 8 then (governorlaw16_PlantOwn.j0 k a2 a3 t373 true a0_0 a0_1 a0_2 a0_3 a0_4 a0_5 a0_6 a0_7 a0_8 a0_9 a0_10 a0_11 a1_0 l1_1 a1_2 a1_3) else ((governorref16_Right.f k a1_0 l1_1 a1_2 a1_3).bind fun t375 => (governorlaw16_PlantOwn.j0 k a2 a3 t373 (!t375) a0_0 a0_1 a0_2 a0_3 a0_4 a0_5 a0_6 a0_7 a0_8 a0_9 a0_10 a0_11 a1_0 l1_1 a1_2 a1_3))) else (governorlaw16_PlantOwn.j0 k a2 a3 t373 true a0_0 a0_1 a0_2 a0_3 a0_4 a0_5 a0_6 a0_7 a0_8 a0_9 a0_10 a0_11 a1_0 l1_1 a1_2 a1_3)) = some r := H
    have A10 := Aside0.mk A100
    clear A100
    by_cases c11 : t374 = true
    · subst c11
      have H1 : (if (l1_1.length : Int) > 8 then (governorlaw16_PlantOwn.j0 k a2 a3 t373 true a0_0 a0_1 a0_2 a0_3 a0_4 a0_5 a0_6 a0_7 a0_8 a0_9 a0_10 a0_11 a1_0 l1_1 a1_2 a1_3) else ((governorref16_Right.f k a1_0 l1_1 a1_2 a1_3).bind fun t375 => (governorlaw16_PlantOwn.j0 k a2 a3 t373 (!t375) a0_0 a0_1 a0_2 a0_3 a0_4 a0_5 a0_6 a0_7 a0_8 a0_9 a0_10 a0_11 a1_0 l1_1 a1_2 a1_3))) = some r := by rw [if_pos rfl] at H; exact H
      clear H
      have H := H1
      clear H1
      by_cases c12 : (l1_1.length : Int) > 8
      · rw [if_pos c12] at H
        have c12b0 : decide (8 < (l1_1.length : Int)) = true := decide_eq_true c12
        have c12b1 : decide (8 < l1_1.length) = true := decide_eq_true (by omega)
        clear c12
        (first | rw [c12b0] | rw [c12b1] | (simp only [i64_w, i32_w]; rw [c12b0]) | skip)
        have H' := Aside0.mk H
        clear H
        have hnb13 := NB371_372.out
        have hnc13 := NB372_371.out
        have hcz14_0 : w9.cell? ⟨gb371, 0, none⟩ = some (.int .i64 a0_0) := (blk_cell BK371.out 0).trans rfl
        have hcz14_1 : w9.cell? ⟨gb371, 1, none⟩ = some (.int .i64 a0_1) := (blk_cell BK371.out 1).trans rfl
        have hcz14_2 : w9.cell? ⟨gb371, 2, none⟩ = some (.int .i64 a0_2) := (blk_cell BK371.out 2).trans rfl
        have hcz14_3 : w9.cell? ⟨gb371, 3, none⟩ = some (.int .i64 a0_3) := (blk_cell BK371.out 3).trans rfl
        have hcz14_4 : w9.cell? ⟨gb371, 4, none⟩ = some (.int .i64 a0_4) := (blk_cell BK371.out 4).trans rfl
        have hcz14_5 : w9.cell? ⟨gb371, 5, none⟩ = some (.int .i64 a0_5) := (blk_cell BK371.out 5).trans rfl
        have hcz14_6 : w9.cell? ⟨gb371, 6, none⟩ = some (.int .i64 a0_6) := (blk_cell BK371.out 6).trans rfl
        have hcz14_7 : w9.cell? ⟨gb371, 7, none⟩ = some (.int .i64 a0_7) := (blk_cell BK371.out 7).trans rfl
        have hcz14_8 : w9.cell? ⟨gb371, 8, none⟩ = some (.int .i64 a0_8) := (blk_cell BK371.out 8).trans rfl
        have hcz14_9 : w9.cell? ⟨gb371, 9, none⟩ = some (.int .i64 a0_9) := (blk_cell BK371.out 9).trans rfl
        have hcz14_10 : w9.cell? ⟨gb371, 10, none⟩ = some (.int .i64 a0_10) := (blk_cell BK371.out 10).trans rfl
        have hcz14_11 : w9.cell? ⟨gb371, 11, none⟩ = some (.int .i64 a0_11) := (blk_cell BK371.out 11).trans rfl
        have hfz14_0 := blk_frozen BK371.out 0
        have hfz14_1 := blk_frozen BK371.out 1
        have hfz14_2 := blk_frozen BK371.out 2
        have hfz14_3 := blk_frozen BK371.out 3
        have hfz14_4 := blk_frozen BK371.out 4
        have hfz14_5 := blk_frozen BK371.out 5
        have hfz14_6 := blk_frozen BK371.out 6
        have hfz14_7 := blk_frozen BK371.out 7
        have hfz14_8 := blk_frozen BK371.out 8
        have hfz14_9 := blk_frozen BK371.out 9
        have hfz14_10 := blk_frozen BK371.out 10
        have hfz14_11 := blk_frozen BK371.out 11
        go_wp2_with (first | ((with_reducible refine gate_callee (f := 16) rfl ?_); refine goesL_ (some 17) rfl rfl Try.func16 (by kernel_rfl) rfl #[.agg #[.int .i64 a0_0, .int .i64 a0_1, .int .i64 a0_2, .int .i64 a0_3, .int .i64 a0_4, .int .i64 a0_5, .int .i64 a0_6, .int .i64 a0_7, .int .i64 a0_8, .int .i64 a0_9, .int .i64 a0_10, .int .i64 a0_11]] rfl (by (try simp only [List.map_toArray, List.map_cons, List.map_nil]); first | done | rfl | (simp only [List.length_drop, List.length_take]; rfl)) ?_; (with_reducible refine (governorref09_Conf.calls a0_0 a0_1 a0_2 a0_3 a0_4 a0_5 a0_6 a0_7 a0_8 a0_9 a0_10 a0_11 true _ A10.out).mono ?_); rintro e w15 ⟨rfl, hb⟩; refine ⟨_, rfl, ?_⟩; have n0_ := Aside0.mk (blk_below (g := gb371) (o := .cells #[.int .i64 a0_0, .int .i64 a0_1, .int .i64 a0_2, .int .i64 a0_3, .int .i64 a0_4, .int .i64 a0_5, .int .i64 a0_6, .int .i64 a0_7, .int .i64 a0_8, .int .i64 a0_9, .int .i64 a0_10, .int .i64 a0_11] 23 (0, 0)) (by (with_reducible repeat (first | refine blk_drewN ?_ _ | refine blk_drew ?_ | refine blk_alloc ?_ _)); exact BK371.out) hb); have n1_ := Aside0.mk (blk_below (g := gb372) (o := .cells #[.int .i64 a1_0, .slice A1_1 l1_1.length c1_1, .int .i64 a1_2, .int .i64 a1_3] 26 (0, 0)) (by (with_reducible repeat (first | refine blk_drewN ?_ _ | refine blk_drew ?_ | refine blk_alloc ?_ _)); exact BK372.out) hb); have n2_ := Aside0.mk (below_step (by repeat (first | (with_reducible first | exact HB.out | apply below_alloc | apply pw_below_drewN | apply below_drew1 | refine below_set ?_ GE371.out | refine below_set ?_ GE372.out) | exact HB.out)) hb); clear BK371; clear BK372; clear HB; have BK371 := n0_; have BK372 := n1_; have HB := n2_; clear n0_ n1_ n2_; (try clear hb); (try clear hb2); (try clear hk); (try clear hi); have hcz16_0 : w15.cell? ⟨gb372, 0, none⟩ = some (.int .i64 a1_0) := (blk_cell BK372.out 0).trans rfl; have hcz16_1 : w15.cell? ⟨gb372, 1, none⟩ = some (.slice A1_1 l1_1.length c1_1) := (blk_cell BK372.out 1).trans rfl; have hcz16_2 : w15.cell? ⟨gb372, 2, none⟩ = some (.int .i64 a1_2) := (blk_cell BK372.out 2).trans rfl; have hcz16_3 : w15.cell? ⟨gb372, 3, none⟩ = some (.int .i64 a1_3) := (blk_cell BK372.out 3).trans rfl; have hfz16_0 := blk_frozen BK372.out 0; have hfz16_1 := blk_frozen BK372.out 1; have hfz16_2 := blk_frozen BK372.out 2; have hfz16_3 := blk_frozen BK372.out 3))
        go_meet
        case rel => exact ⟨_, (true), (by first | rfl | (simp; done) | (simp [*]; done)), H', ⟨by first | omega | exact Nat.le_refl _⟩, ⟨by (with_reducible repeat (first | refine blk_drewN ?_ _ | refine blk_drew ?_ | refine blk_alloc ?_ _)); exact BK371.out⟩, ⟨by (with_reducible repeat (first | refine blk_drewN ?_ _ | refine blk_drew ?_ | refine blk_alloc ?_ _)); exact BK372.out⟩, ⟨by repeat (first | (with_reducible first | exact HB.out | apply below_alloc | apply pw_below_drewN | apply below_drew1 | refine below_set ?_ GE371.out | refine below_set ?_ GE372.out) | exact HB.out)⟩⟩
      · rw [if_neg c12] at H
        have c12b0 : decide (8 < (l1_1.length : Int)) = false := decide_eq_false c12
        have c12b1 : decide (8 < l1_1.length) = false := decide_eq_false (by omega)
        clear c12
        (first | rw [c12b0] | rw [c12b1] | (simp only [i64_w, i32_w]; rw [c12b0]) | skip)
        replace H := Option.bind_eq_some_iff.mp H
        obtain ⟨t375, A170, H⟩ := H
        replace H : (governorlaw16_PlantOwn.j0 k a2 a3 t373 (!t375) a0_0 a0_1 a0_2 a0_3 a0_4 a0_5 a0_6 a0_7 a0_8 a0_9 a0_10 a0_11 a1_0 l1_1 a1_2 a1_3) = some r := H
        have A17 := Aside0.mk A170
        clear A170
        have H' := Aside0.mk H
        clear H
        have hnb18 := NB371_372.out
        have hnc18 := NB372_371.out
        have hcz19_0 : w9.cell? ⟨gb371, 0, none⟩ = some (.int .i64 a0_0) := (blk_cell BK371.out 0).trans rfl
        have hcz19_1 : w9.cell? ⟨gb371, 1, none⟩ = some (.int .i64 a0_1) := (blk_cell BK371.out 1).trans rfl
        have hcz19_2 : w9.cell? ⟨gb371, 2, none⟩ = some (.int .i64 a0_2) := (blk_cell BK371.out 2).trans rfl
        have hcz19_3 : w9.cell? ⟨gb371, 3, none⟩ = some (.int .i64 a0_3) := (blk_cell BK371.out 3).trans rfl
        have hcz19_4 : w9.cell? ⟨gb371, 4, none⟩ = some (.int .i64 a0_4) := (blk_cell BK371.out 4).trans rfl
        have hcz19_5 : w9.cell? ⟨gb371, 5, none⟩ = some (.int .i64 a0_5) := (blk_cell BK371.out 5).trans rfl
        have hcz19_6 : w9.cell? ⟨gb371, 6, none⟩ = some (.int .i64 a0_6) := (blk_cell BK371.out 6).trans rfl
        have hcz19_7 : w9.cell? ⟨gb371, 7, none⟩ = some (.int .i64 a0_7) := (blk_cell BK371.out 7).trans rfl
        have hcz19_8 : w9.cell? ⟨gb371, 8, none⟩ = some (.int .i64 a0_8) := (blk_cell BK371.out 8).trans rfl
        have hcz19_9 : w9.cell? ⟨gb371, 9, none⟩ = some (.int .i64 a0_9) := (blk_cell BK371.out 9).trans rfl
        have hcz19_10 : w9.cell? ⟨gb371, 10, none⟩ = some (.int .i64 a0_10) := (blk_cell BK371.out 10).trans rfl
        have hcz19_11 : w9.cell? ⟨gb371, 11, none⟩ = some (.int .i64 a0_11) := (blk_cell BK371.out 11).trans rfl
        have hfz19_0 := blk_frozen BK371.out 0
        have hfz19_1 := blk_frozen BK371.out 1
        have hfz19_2 := blk_frozen BK371.out 2
        have hfz19_3 := blk_frozen BK371.out 3
        have hfz19_4 := blk_frozen BK371.out 4
        have hfz19_5 := blk_frozen BK371.out 5
        have hfz19_6 := blk_frozen BK371.out 6
        have hfz19_7 := blk_frozen BK371.out 7
        have hfz19_8 := blk_frozen BK371.out 8
        have hfz19_9 := blk_frozen BK371.out 9
        have hfz19_10 := blk_frozen BK371.out 10
        have hfz19_11 := blk_frozen BK371.out 11
        go_wp2_with (first | ((with_reducible refine gate_callee (f := 16) rfl ?_); refine goesL_ (some 17) rfl rfl Try.func16 (by kernel_rfl) rfl #[.agg #[.int .i64 a0_0, .int .i64 a0_1, .int .i64 a0_2, .int .i64 a0_3, .int .i64 a0_4, .int .i64 a0_5, .int .i64 a0_6, .int .i64 a0_7, .int .i64 a0_8, .int .i64 a0_9, .int .i64 a0_10, .int .i64 a0_11]] rfl (by (try simp only [List.map_toArray, List.map_cons, List.map_nil]); first | done | rfl | (simp only [List.length_drop, List.length_take]; rfl)) ?_; (with_reducible refine (governorref09_Conf.calls a0_0 a0_1 a0_2 a0_3 a0_4 a0_5 a0_6 a0_7 a0_8 a0_9 a0_10 a0_11 true _ A10.out).mono ?_); rintro e w20 ⟨rfl, hb⟩; refine ⟨_, rfl, ?_⟩; have n0_ := Aside0.mk (blk_below (g := gb371) (o := .cells #[.int .i64 a0_0, .int .i64 a0_1, .int .i64 a0_2, .int .i64 a0_3, .int .i64 a0_4, .int .i64 a0_5, .int .i64 a0_6, .int .i64 a0_7, .int .i64 a0_8, .int .i64 a0_9, .int .i64 a0_10, .int .i64 a0_11] 23 (0, 0)) (by (with_reducible repeat (first | refine blk_drewN ?_ _ | refine blk_drew ?_ | refine blk_alloc ?_ _)); exact BK371.out) hb); have n1_ := Aside0.mk (blk_below (g := gb372) (o := .cells #[.int .i64 a1_0, .slice A1_1 l1_1.length c1_1, .int .i64 a1_2, .int .i64 a1_3] 26 (0, 0)) (by (with_reducible repeat (first | refine blk_drewN ?_ _ | refine blk_drew ?_ | refine blk_alloc ?_ _)); exact BK372.out) hb); have n2_ := Aside0.mk (below_step (by repeat (first | (with_reducible first | exact HB.out | apply below_alloc | apply pw_below_drewN | apply below_drew1 | refine below_set ?_ GE371.out | refine below_set ?_ GE372.out) | exact HB.out)) hb); clear BK371; clear BK372; clear HB; have BK371 := n0_; have BK372 := n1_; have HB := n2_; clear n0_ n1_ n2_; (try clear hb); (try clear hb2); (try clear hk); (try clear hi); have hcz21_0 : w20.cell? ⟨gb372, 0, none⟩ = some (.int .i64 a1_0) := (blk_cell BK372.out 0).trans rfl; have hcz21_1 : w20.cell? ⟨gb372, 1, none⟩ = some (.slice A1_1 l1_1.length c1_1) := (blk_cell BK372.out 1).trans rfl; have hcz21_2 : w20.cell? ⟨gb372, 2, none⟩ = some (.int .i64 a1_2) := (blk_cell BK372.out 2).trans rfl; have hcz21_3 : w20.cell? ⟨gb372, 3, none⟩ = some (.int .i64 a1_3) := (blk_cell BK372.out 3).trans rfl; have hfz21_0 := blk_frozen BK372.out 0; have hfz21_1 := blk_frozen BK372.out 1; have hfz21_2 := blk_frozen BK372.out 2; have hfz21_3 := blk_frozen BK372.out 3) | (go_at_call 17; (with_reducible refine (governorref16_Right.calls k a1_0 _ _ l1_1 a1_2 a1_3 t375 _ ?side1 ?side2 A17.out).mono ?_); (case side1 => repeat (first | exact (Kd.C_below HR1_1.out HB.out) | (with_reducible refine Kd.C_alloc ?_ _) | (with_reducible refine Kd.C_drewN ?_ _) | (with_reducible refine Kd.C_drew ?_))); (case side2 => exact HC1_1.out); rintro e w22 ⟨rfl, hb⟩; have n0_ := Aside0.mk (blk_below (g := gb371) (o := .cells #[.int .i64 a0_0, .int .i64 a0_1, .int .i64 a0_2, .int .i64 a0_3, .int .i64 a0_4, .int .i64 a0_5, .int .i64 a0_6, .int .i64 a0_7, .int .i64 a0_8, .int .i64 a0_9, .int .i64 a0_10, .int .i64 a0_11] 23 (0, 0)) (by (with_reducible repeat (first | refine blk_drewN ?_ _ | refine blk_drew ?_ | refine blk_alloc ?_ _)); exact BK371.out) hb); have n1_ := Aside0.mk (blk_below (g := gb372) (o := .cells #[.int .i64 a1_0, .slice A1_1 l1_1.length c1_1, .int .i64 a1_2, .int .i64 a1_3] 26 (0, 0)) (by (with_reducible repeat (first | refine blk_drewN ?_ _ | refine blk_drew ?_ | refine blk_alloc ?_ _)); exact BK372.out) hb); have n2_ := Aside0.mk (below_step (by repeat (first | (with_reducible first | exact HB.out | apply below_alloc | apply pw_below_drewN | apply below_drew1 | refine below_set ?_ GE371.out | refine below_set ?_ GE372.out) | exact HB.out)) hb); clear BK371; clear BK372; clear HB; have BK371 := n0_; have BK372 := n1_; have HB := n2_; clear n0_ n1_ n2_; (try clear hb); (try clear hb2); (try clear hk); (try clear hi)))
        go_meet
        case rel => exact ⟨_, (!t375), (by first | rfl | (simp; done) | (simp [*]; done)), H', ⟨by first | omega | exact Nat.le_refl _⟩, ⟨by (with_reducible repeat (first | refine blk_drewN ?_ _ | refine blk_drew ?_ | refine blk_alloc ?_ _)); exact BK371.out⟩, ⟨by (with_reducible repeat (first | refine blk_drewN ?_ _ | refine blk_drew ?_ | refine blk_alloc ?_ _)); exact BK372.out⟩, ⟨by repeat (first | (with_reducible first | exact HB.out | apply below_alloc | apply pw_below_drewN | apply below_drew1 | refine below_set ?_ GE371.out | refine below_set ?_ GE372.out) | exact HB.out)⟩⟩
    · replace c11 := Bool.eq_false_iff.mpr c11
      subst c11
      have H1 : (governorlaw16_PlantOwn.j0 k a2 a3 t373 true a0_0 a0_1 a0_2 a0_3 a0_4 a0_5 a0_6 a0_7 a0_8 a0_9 a0_10 a0_11 a1_0 l1_1 a1_2 a1_3) = some r := by rw [if_neg (show ¬ (false = true) by decide)] at H; exact H
      clear H
      have H := H1
      clear H1
      have H' := Aside0.mk H
      clear H
      have hnb23 := NB371_372.out
      have hnc23 := NB372_371.out
      have hcz24_0 : w9.cell? ⟨gb371, 0, none⟩ = some (.int .i64 a0_0) := (blk_cell BK371.out 0).trans rfl
      have hcz24_1 : w9.cell? ⟨gb371, 1, none⟩ = some (.int .i64 a0_1) := (blk_cell BK371.out 1).trans rfl
      have hcz24_2 : w9.cell? ⟨gb371, 2, none⟩ = some (.int .i64 a0_2) := (blk_cell BK371.out 2).trans rfl
      have hcz24_3 : w9.cell? ⟨gb371, 3, none⟩ = some (.int .i64 a0_3) := (blk_cell BK371.out 3).trans rfl
      have hcz24_4 : w9.cell? ⟨gb371, 4, none⟩ = some (.int .i64 a0_4) := (blk_cell BK371.out 4).trans rfl
      have hcz24_5 : w9.cell? ⟨gb371, 5, none⟩ = some (.int .i64 a0_5) := (blk_cell BK371.out 5).trans rfl
      have hcz24_6 : w9.cell? ⟨gb371, 6, none⟩ = some (.int .i64 a0_6) := (blk_cell BK371.out 6).trans rfl
      have hcz24_7 : w9.cell? ⟨gb371, 7, none⟩ = some (.int .i64 a0_7) := (blk_cell BK371.out 7).trans rfl
      have hcz24_8 : w9.cell? ⟨gb371, 8, none⟩ = some (.int .i64 a0_8) := (blk_cell BK371.out 8).trans rfl
      have hcz24_9 : w9.cell? ⟨gb371, 9, none⟩ = some (.int .i64 a0_9) := (blk_cell BK371.out 9).trans rfl
      have hcz24_10 : w9.cell? ⟨gb371, 10, none⟩ = some (.int .i64 a0_10) := (blk_cell BK371.out 10).trans rfl
      have hcz24_11 : w9.cell? ⟨gb371, 11, none⟩ = some (.int .i64 a0_11) := (blk_cell BK371.out 11).trans rfl
      have hfz24_0 := blk_frozen BK371.out 0
      have hfz24_1 := blk_frozen BK371.out 1
      have hfz24_2 := blk_frozen BK371.out 2
      have hfz24_3 := blk_frozen BK371.out 3
      have hfz24_4 := blk_frozen BK371.out 4
      have hfz24_5 := blk_frozen BK371.out 5
      have hfz24_6 := blk_frozen BK371.out 6
      have hfz24_7 := blk_frozen BK371.out 7
      have hfz24_8 := blk_frozen BK371.out 8
      have hfz24_9 := blk_frozen BK371.out 9
      have hfz24_10 := blk_frozen BK371.out 10
      have hfz24_11 := blk_frozen BK371.out 11
      go_wp2_with (first | ((with_reducible refine gate_callee (f := 16) rfl ?_); refine goesL_ (some 17) rfl rfl Try.func16 (by kernel_rfl) rfl #[.agg #[.int .i64 a0_0, .int .i64 a0_1, .int .i64 a0_2, .int .i64 a0_3, .int .i64 a0_4, .int .i64 a0_5, .int .i64 a0_6, .int .i64 a0_7, .int .i64 a0_8, .int .i64 a0_9, .int .i64 a0_10, .int .i64 a0_11]] rfl (by (try simp only [List.map_toArray, List.map_cons, List.map_nil]); first | done | rfl | (simp only [List.length_drop, List.length_take]; rfl)) ?_; (with_reducible refine (governorref09_Conf.calls a0_0 a0_1 a0_2 a0_3 a0_4 a0_5 a0_6 a0_7 a0_8 a0_9 a0_10 a0_11 false _ A10.out).mono ?_); rintro e w25 ⟨rfl, hb⟩; refine ⟨_, rfl, ?_⟩; have n0_ := Aside0.mk (blk_below (g := gb371) (o := .cells #[.int .i64 a0_0, .int .i64 a0_1, .int .i64 a0_2, .int .i64 a0_3, .int .i64 a0_4, .int .i64 a0_5, .int .i64 a0_6, .int .i64 a0_7, .int .i64 a0_8, .int .i64 a0_9, .int .i64 a0_10, .int .i64 a0_11] 23 (0, 0)) (by (with_reducible repeat (first | refine blk_drewN ?_ _ | refine blk_drew ?_ | refine blk_alloc ?_ _)); exact BK371.out) hb); have n1_ := Aside0.mk (blk_below (g := gb372) (o := .cells #[.int .i64 a1_0, .slice A1_1 l1_1.length c1_1, .int .i64 a1_2, .int .i64 a1_3] 26 (0, 0)) (by (with_reducible repeat (first | refine blk_drewN ?_ _ | refine blk_drew ?_ | refine blk_alloc ?_ _)); exact BK372.out) hb); have n2_ := Aside0.mk (below_step (by repeat (first | (with_reducible first | exact HB.out | apply below_alloc | apply pw_below_drewN | apply below_drew1 | refine below_set ?_ GE371.out | refine below_set ?_ GE372.out) | exact HB.out)) hb); clear BK371; clear BK372; clear HB; have BK371 := n0_; have BK372 := n1_; have HB := n2_; clear n0_ n1_ n2_; (try clear hb); (try clear hb2); (try clear hk); (try clear hi)))
      go_meet
      case rel => exact ⟨_, (true), (by first | rfl | (simp; done) | (simp [*]; done)), H', ⟨by first | omega | exact Nat.le_refl _⟩, ⟨by (with_reducible repeat (first | refine blk_drewN ?_ _ | refine blk_drew ?_ | refine blk_alloc ?_ _)); exact BK371.out⟩, ⟨by (with_reducible repeat (first | refine blk_drewN ?_ _ | refine blk_drew ?_ | refine blk_alloc ?_ _)); exact BK372.out⟩, ⟨by repeat (first | (with_reducible first | exact HB.out | apply below_alloc | apply pw_below_drewN | apply below_drew1 | refine below_set ?_ GE371.out | refine below_set ?_ GE372.out) | exact HB.out)⟩⟩
  case rest =>
    clear HC6
    try clear c1
    try clear c2
    try clear p2
    try clear c8
    try clear c11
    try clear c12
    try clear c12b0
    try clear c12b1
    try clear c13
    try clear c15
    try clear c16
    try clear c18
    try clear c23
    try clear hcz14_0
    try clear hcz14_1
    try clear hcz14_10
    try clear hcz14_11
    try clear hcz14_2
    try clear hcz14_3
    try clear hcz14_4
    try clear hcz14_5
    try clear hcz14_6
    try clear hcz14_7
    try clear hcz14_8
    try clear hcz14_9
    try clear hcz16_0
    try clear hcz16_1
    try clear hcz16_2
    try clear hcz16_3
    try clear hcz19_0
    try clear hcz19_1
    try clear hcz19_10
    try clear hcz19_11
    try clear hcz19_2
    try clear hcz19_3
    try clear hcz19_4
    try clear hcz19_5
    try clear hcz19_6
    try clear hcz19_7
    try clear hcz19_8
    try clear hcz19_9
    try clear hcz21_0
    try clear hcz21_1
    try clear hcz21_2
    try clear hcz21_3
    try clear hcz24_0
    try clear hcz24_1
    try clear hcz24_10
    try clear hcz24_11
    try clear hcz24_2
    try clear hcz24_3
    try clear hcz24_4
    try clear hcz24_5
    try clear hcz24_6
    try clear hcz24_7
    try clear hcz24_8
    try clear hcz24_9
    try clear hfz14_0
    try clear hfz14_1
    try clear hfz14_10
    try clear hfz14_11
    try clear hfz14_2
    try clear hfz14_3
    try clear hfz14_4
    try clear hfz14_5
    try clear hfz14_6
    try clear hfz14_7
    try clear hfz14_8
    try clear hfz14_9
    try clear hfz16_0
    try clear hfz16_1
    try clear hfz16_2
    try clear hfz16_3
    try clear hfz19_0
    try clear hfz19_1
    try clear hfz19_10
    try clear hfz19_11
    try clear hfz19_2
    try clear hfz19_3
    try clear hfz19_4
    try clear hfz19_5
    try clear hfz19_6
    try clear hfz19_7
    try clear hfz19_8
    try clear hfz19_9
    try clear hfz21_0
    try clear hfz21_1
    try clear hfz21_2
    try clear hfz21_3
    try clear hfz24_0
    try clear hfz24_1
    try clear hfz24_10
    try clear hfz24_11
    try clear hfz24_2
    try clear hfz24_3
    try clear hfz24_4
    try clear hfz24_5
    try clear hfz24_6
    try clear hfz24_7
    try clear hfz24_8
    try clear hfz24_9
    obtain ⟨kq, x29_5, rfl, HA, HJ5, BK371, BK372, HB⟩ := hcut
    cases kq with
    | zero => exact absurd HA.out (by simp [governorlaw16_PlantOwn.j0])
    | succ kj5 =>
      have H := HA.out
      clear HA
      simp only [governorlaw16_PlantOwn.j0] at H
      by_cases c26 : x29_5 = true
      · subst c26
        have H1 : (some t373) = some r := by rw [if_pos rfl] at H; exact H
        clear H
        have H := H1
        clear H1
        obtain rfl := Option.some.inj H
        go_wp2
        go_ret
        exact ⟨by first | rfl | (simp [errW_none, errW_some] <;> rfl) | (simp [*, errW_none, errW_some] <;> rfl), by repeat (first | (with_reducible first | exact HB.out | apply below_alloc | apply pw_below_drewN | apply below_drew1 | refine below_set ?_ GE371.out | refine below_set ?_ GE372.out) | exact HB.out)⟩
      · replace c26 := Bool.eq_false_iff.mpr c26
        subst c26
        have H1 : ((some (([] : List Int) : List Int)).bind fun y377 => (if y377.length + l1_1.length < 17592186044416 then ((some (y377 ++ l1_1 : List Int)).bind fun y380 => ((plant_Step.f a0_0 a0_1 a0_2 a0_3 a0_4 a0_5 a0_6 a0_7 a0_8 a0_9 a0_10 a0_11 a1_0 y380 a1_2 a1_3 a2 a3).bind fun bt383 => ((governorref16_Same.f kj5 a1_0 y380 a1_2 a1_3 a1_0 l1_1 a1_2 a1_3).bind fun t393 => (if t393 = true then ((some (([] : List Int) : List Int)).bind fun y395 => (if y395.length + bt383.2.1.length < 17592186044416 then (governorlaw16_PlantOwn.l0 kj5 t373 0 a1_0 y380 a1_2 a1_3 bt383.1 bt383.2.1 bt383.2.2.1 bt383.2.2.2.1 bt383.1 (y395 ++ bt383.2.1) bt383.2.2.1 bt383.2.2.2.1) else (none))) else (some false))))) else (none))) = some r := by rw [if_neg (show ¬ (false = true) by decide)] at H; exact H
        clear H
        have H := H1
        clear H1
        obtain ⟨y377, hy377⟩ : ∃ y_ : List Int, y_ = (([] : List Int)) := ⟨_, rfl⟩
        replace H : (if y377.length + l1_1.length < 17592186044416 then ((some (y377 ++ l1_1 : List Int)).bind fun y380 => ((plant_Step.f a0_0 a0_1 a0_2 a0_3 a0_4 a0_5 a0_6 a0_7 a0_8 a0_9 a0_10 a0_11 a1_0 y380 a1_2 a1_3 a2 a3).bind fun bt383 => ((governorref16_Same.f kj5 a1_0 y380 a1_2 a1_3 a1_0 l1_1 a1_2 a1_3).bind fun t393 => (if t393 = true then ((some (([] : List Int) : List Int)).bind fun y395 => (if y395.length + bt383.2.1.length < 17592186044416 then (governorlaw16_PlantOwn.l0 kj5 t373 0 a1_0 y380 a1_2 a1_3 bt383.1 bt383.2.1 bt383.2.2.1 bt383.2.2.2.1 bt383.1 (y395 ++ bt383.2.1) bt383.2.2.1 bt383.2.2.2.1) else (none))) else (some false))))) else (none)) = some r := by first | (rw [hy377]; with_reducible exact H) | (have H2_ := (Option.bind_some _ _).symm.trans H; rw [hy377]; with_reducible exact H2_) | (have H2_ := (Option.bind_some _ _).symm.trans H; with_reducible exact H2_) | with_reducible exact H | (rw [hy377]; exact H) | exact H
        have Ny377 := Aside0.mk hy377
        clear hy377
        by_cases c27 : y377.length + l1_1.length < 17592186044416
        · rw [if_pos c27] at H
          have LMc27 := Aside0.mk c27
          clear c27
          obtain ⟨y380, hy380⟩ : ∃ y_ : List Int, y_ = (y377 ++ l1_1) := ⟨_, rfl⟩
          replace H : ((plant_Step.f a0_0 a0_1 a0_2 a0_3 a0_4 a0_5 a0_6 a0_7 a0_8 a0_9 a0_10 a0_11 a1_0 y380 a1_2 a1_3 a2 a3).bind fun bt383 => ((governorref16_Same.f kj5 a1_0 y380 a1_2 a1_3 a1_0 l1_1 a1_2 a1_3).bind fun t393 => (if t393 = true then ((some (([] : List Int) : List Int)).bind fun y395 => (if y395.length + bt383.2.1.length < 17592186044416 then (governorlaw16_PlantOwn.l0 kj5 t373 0 a1_0 y380 a1_2 a1_3 bt383.1 bt383.2.1 bt383.2.2.1 bt383.2.2.2.1 bt383.1 (y395 ++ bt383.2.1) bt383.2.2.1 bt383.2.2.2.1) else (none))) else (some false)))) = some r := by first | (rw [hy380]; with_reducible exact H) | (have H2_ := (Option.bind_some _ _).symm.trans H; rw [hy380]; with_reducible exact H2_) | (have H2_ := (Option.bind_some _ _).symm.trans H; with_reducible exact H2_) | with_reducible exact H | (rw [hy380]; exact H) | exact H
          have Ny380 := Aside0.mk hy380
          clear hy380
          replace H := Option.bind_eq_some_iff.mp H
          obtain ⟨⟨t383, t384, t387, t388, t389, t390⟩, A280, H⟩ := H
          replace H : ((governorref16_Same.f kj5 a1_0 y380 a1_2 a1_3 a1_0 l1_1 a1_2 a1_3).bind fun t393 => (if t393 = true then ((some (([] : List Int) : List Int)).bind fun y395 => (if y395.length + t384.length < 17592186044416 then (governorlaw16_PlantOwn.l0 kj5 t373 0 a1_0 y380 a1_2 a1_3 t383 t384 t387 t388 t383 (y395 ++ t384) t387 t388) else (none))) else (some false))) = some r := H
          have A28 := Aside0.mk A280
          clear A280
          replace H := Option.bind_eq_some_iff.mp H
          obtain ⟨t393, A290, H⟩ := H
          replace H : (if t393 = true then ((some (([] : List Int) : List Int)).bind fun y395 => (if y395.length + t384.length < 17592186044416 then (governorlaw16_PlantOwn.l0 kj5 t373 0 a1_0 y380 a1_2 a1_3 t383 t384 t387 t388 t383 (y395 ++ t384) t387 t388) else (none))) else (some false)) = some r := H
          have A29 := Aside0.mk A290
          clear A290
          by_cases c30 : t393 = true
          · subst c30
            have H1 : ((some (([] : List Int) : List Int)).bind fun y395 => (if y395.length + t384.length < 17592186044416 then (governorlaw16_PlantOwn.l0 kj5 t373 0 a1_0 y380 a1_2 a1_3 t383 t384 t387 t388 t383 (y395 ++ t384) t387 t388) else (none))) = some r := by rw [if_pos rfl] at H; exact H
            clear H
            have H := H1
            clear H1
            obtain ⟨y395, hy395⟩ : ∃ y_ : List Int, y_ = (([] : List Int)) := ⟨_, rfl⟩
            replace H : (if y395.length + t384.length < 17592186044416 then (governorlaw16_PlantOwn.l0 kj5 t373 0 a1_0 y380 a1_2 a1_3 t383 t384 t387 t388 t383 (y395 ++ t384) t387 t388) else (none)) = some r := by first | (rw [hy395]; with_reducible exact H) | (have H2_ := (Option.bind_some _ _).symm.trans H; rw [hy395]; with_reducible exact H2_) | (have H2_ := (Option.bind_some _ _).symm.trans H; with_reducible exact H2_) | with_reducible exact H | (rw [hy395]; exact H) | exact H
            have Ny395 := Aside0.mk hy395
            clear hy395
            by_cases c31 : y395.length + t384.length < 17592186044416
            · rw [if_pos c31] at H
              have LMc31 := Aside0.mk c31
              clear c31
              obtain ⟨y398, hy398⟩ : ∃ y_ : List Int, y_ = (y395 ++ t384) := ⟨_, rfl⟩
              replace H : (governorlaw16_PlantOwn.l0 kj5 t373 0 a1_0 y380 a1_2 a1_3 t383 t384 t387 t388 t383 y398 t387 t388) = some r := by first | (rw [hy398]; with_reducible exact H) | (have H2_ := (Option.bind_some _ _).symm.trans H; rw [hy398]; with_reducible exact H2_) | (have H2_ := (Option.bind_some _ _).symm.trans H; with_reducible exact H2_) | with_reducible exact H | (rw [hy398]; exact H) | exact H
              have Ny398 := Aside0.mk hy398
              clear hy398
              have H' := Aside0.mk H
              clear H
              have hnb32 := NB372_371.out
              have hnc32 := NB371_372.out
              have hcz33_0 : wc.cell? ⟨gb372, 0, none⟩ = some (.int .i64 a1_0) := (blk_cell BK372.out 0).trans rfl
              have hcz33_1 : wc.cell? ⟨gb372, 1, none⟩ = some (.slice A1_1 l1_1.length c1_1) := (blk_cell BK372.out 1).trans rfl
              have hcz33_2 : wc.cell? ⟨gb372, 2, none⟩ = some (.int .i64 a1_2) := (blk_cell BK372.out 2).trans rfl
              have hcz33_3 : wc.cell? ⟨gb372, 3, none⟩ = some (.int .i64 a1_3) := (blk_cell BK372.out 3).trans rfl
              have hfz33_0 := blk_frozen BK372.out 0
              have hfz33_1 := blk_frozen BK372.out 1
              have hfz33_2 := blk_frozen BK372.out 2
              have hfz33_3 := blk_frozen BK372.out 3
              go_wp2_with (first | ((with_reducible refine gate_dst (N := 10) rfl ?_); (try (refine gate_guard (by rfl) ?_; dsimp only)); refine box_event ?hg (N := 10) ?hd (cs := #[.int .i64 0, .slice none 0 0, .int .i64 0, .int .i64 0]) (t := 26) ?hr ?_; (case hd => rfl); (case hg => rfl); (case hr => first | (go_simp; done) | (go_simp; rfl)); intro gb376 hg w34 hbox hb; have n0_ := Aside0.mk (blk_below (g := gb371) (o := .cells #[.int .i64 a0_0, .int .i64 a0_1, .int .i64 a0_2, .int .i64 a0_3, .int .i64 a0_4, .int .i64 a0_5, .int .i64 a0_6, .int .i64 a0_7, .int .i64 a0_8, .int .i64 a0_9, .int .i64 a0_10, .int .i64 a0_11] 23 (0, 0)) (by (with_reducible repeat (first | refine blk_drewN ?_ _ | refine blk_drew ?_ | refine blk_alloc ?_ _)); exact BK371.out) hb); have n1_ := Aside0.mk (blk_below (g := gb372) (o := .cells #[.int .i64 a1_0, .slice A1_1 l1_1.length c1_1, .int .i64 a1_2, .int .i64 a1_3] 26 (0, 0)) (by (with_reducible repeat (first | refine blk_drewN ?_ _ | refine blk_drew ?_ | refine blk_alloc ?_ _)); exact BK372.out) hb); have n2_ := Aside0.mk (below_step (by repeat (first | (with_reducible first | exact HB.out | apply below_alloc | apply pw_below_drewN | apply below_drew1 | refine below_set ?_ GE371.out | refine below_set ?_ GE372.out) | exact HB.out)) hb); have n3_ := Aside0.mk (hbox); have n4_ := Aside0.mk ((by rw [hg]; exact (below_size (by repeat (first | (with_reducible first | exact HB.out | apply below_alloc | apply pw_below_drewN | apply below_drew1 | refine below_set ?_ GE371.out | refine below_set ?_ GE372.out) | exact HB.out))) : w.heap.size ≤ gb376)); have n5_ := Aside0.mk ((by rw [hg]; exact (below_size (by repeat (first | (with_reducible first | exact HB.out | apply below_alloc | apply pw_below_drewN | apply below_drew1 | refine below_set ?_ GE371.out | refine below_set ?_ GE372.out) | exact HB.out))) : w.heap.size ≤ gb376)); have n6_ := Aside0.mk ((by rw [hg]; exact Nat.ne_of_lt (blk_lt (g := gb371) (o := .cells #[.int .i64 a0_0, .int .i64 a0_1, .int .i64 a0_2, .int .i64 a0_3, .int .i64 a0_4, .int .i64 a0_5, .int .i64 a0_6, .int .i64 a0_7, .int .i64 a0_8, .int .i64 a0_9, .int .i64 a0_10, .int .i64 a0_11] 23 (0, 0)) (by (with_reducible repeat (first | refine blk_drewN ?_ _ | refine blk_drew ?_ | refine blk_alloc ?_ _)); exact BK371.out)) : gb371 ≠ gb376)); have n7_ := Aside0.mk ((by rw [hg]; exact Nat.ne_of_gt (blk_lt (g := gb371) (o := .cells #[.int .i64 a0_0, .int .i64 a0_1, .int .i64 a0_2, .int .i64 a0_3, .int .i64 a0_4, .int .i64 a0_5, .int .i64 a0_6, .int .i64 a0_7, .int .i64 a0_8, .int .i64 a0_9, .int .i64 a0_10, .int .i64 a0_11] 23 (0, 0)) (by (with_reducible repeat (first | refine blk_drewN ?_ _ | refine blk_drew ?_ | refine blk_alloc ?_ _)); exact BK371.out)) : gb376 ≠ gb371)); have n8_ := Aside0.mk ((by rw [hg]; exact Nat.ne_of_lt (blk_lt (g := gb372) (o := .cells #[.int .i64 a1_0, .slice A1_1 l1_1.length c1_1, .int .i64 a1_2, .int .i64 a1_3] 26 (0, 0)) (by (with_reducible repeat (first | refine blk_drewN ?_ _ | refine blk_drew ?_ | refine blk_alloc ?_ _)); exact BK372.out)) : gb372 ≠ gb376)); have n9_ := Aside0.mk ((by rw [hg]; exact Nat.ne_of_gt (blk_lt (g := gb372) (o := .cells #[.int .i64 a1_0, .slice A1_1 l1_1.length c1_1, .int .i64 a1_2, .int .i64 a1_3] 26 (0, 0)) (by (with_reducible repeat (first | refine blk_drewN ?_ _ | refine blk_drew ?_ | refine blk_alloc ?_ _)); exact BK372.out)) : gb376 ≠ gb372)); clear BK371; clear BK372; clear HB; have BK371 := n0_; have BK372 := n1_; have HB := n2_; have BK376 := n3_; have GW376 := n4_; have GE376 := n5_; have NB371_376 := n6_; have NB376_371 := n7_; have NB372_376 := n8_; have NB376_372 := n9_; clear n0_ n1_ n2_ n3_ n4_ n5_ n6_ n7_ n8_ n9_; clear hb hbox hg; have hnb35 := NB376_371.out; have hnc35 := NB371_376.out; have hnb36 := NB376_372.out; have hnc36 := NB372_376.out; have hcz37_0 : w34.cell? ⟨gb376, 0, none⟩ = some (.int .i64 0) := (blk_cell BK376.out 0).trans rfl; have hcz37_1 : w34.cell? ⟨gb376, 1, none⟩ = some (.slice none 0 0) := (blk_cell BK376.out 1).trans rfl; have hcz37_2 : w34.cell? ⟨gb376, 2, none⟩ = some (.int .i64 0) := (blk_cell BK376.out 2).trans rfl; have hcz37_3 : w34.cell? ⟨gb376, 3, none⟩ = some (.int .i64 0) := (blk_cell BK376.out 3).trans rfl; have hfz37_0 := blk_frozen BK376.out 0; have hfz37_1 := blk_frozen BK376.out 1; have hfz37_2 := blk_frozen BK376.out 2; have hfz37_3 := blk_frozen BK376.out 3) | ((with_reducible refine gate_dst (N := 32) rfl ?_); (try (refine gate_guard (by rfl) ?_; dsimp only)); refine Kd.R_lit (Kd.int .i64) _ 3 ?hg (N := 32) ?hd (xs := ([] : List Int)) (inner := []) (ok := fun _ => True) (okp := fun _ => True) ?hr ?hp (fun _ hk => hk) trivial (Below.refl _ _) (Nat.le_refl _) (by simp) ?_; (case hd => rfl); (case hg => rfl); (case hr => first | (go_simp; done) | (go_simp; rfl)); (case hp => exact (Reps.none _ _)); intro v378 w38 ho39 hb hg_ hnew_; clear hg_ hnew_; (first | rw [← Ny377.out] at ho39 | (simp only [Int.reduceToNat] at ho39; rw [← Ny377.out] at ho39)); have n0_ := Aside0.mk (Kd.R_lower ho39 (below_size (by repeat (first | (with_reducible first | exact HB.out | apply below_alloc | apply pw_below_drewN | apply below_drew1 | refine below_set ?_ GE371.out | refine below_set ?_ GE372.out | refine below_set ?_ GE376.out) | exact HB.out)))); have n1_ := Aside0.mk (blk_below (g := gb371) (o := .cells #[.int .i64 a0_0, .int .i64 a0_1, .int .i64 a0_2, .int .i64 a0_3, .int .i64 a0_4, .int .i64 a0_5, .int .i64 a0_6, .int .i64 a0_7, .int .i64 a0_8, .int .i64 a0_9, .int .i64 a0_10, .int .i64 a0_11] 23 (0, 0)) (by (with_reducible repeat (first | refine blk_drewN ?_ _ | refine blk_drew ?_ | refine blk_alloc ?_ _)); refine blk_far ?_ NB371_376.out _; (with_reducible repeat (first | refine blk_drewN ?_ _ | refine blk_drew ?_ | refine blk_alloc ?_ _)); refine blk_far ?_ NB371_376.out _; (with_reducible repeat (first | refine blk_drewN ?_ _ | refine blk_drew ?_ | refine blk_alloc ?_ _)); refine blk_far ?_ NB371_376.out _; (with_reducible repeat (first | refine blk_drewN ?_ _ | refine blk_drew ?_ | refine blk_alloc ?_ _)); refine blk_far ?_ NB371_376.out _; (with_reducible repeat (first | refine blk_drewN ?_ _ | refine blk_drew ?_ | refine blk_alloc ?_ _)); exact BK371.out) hb); have n2_ := Aside0.mk (blk_below (g := gb372) (o := .cells #[.int .i64 a1_0, .slice A1_1 l1_1.length c1_1, .int .i64 a1_2, .int .i64 a1_3] 26 (0, 0)) (by (with_reducible repeat (first | refine blk_drewN ?_ _ | refine blk_drew ?_ | refine blk_alloc ?_ _)); refine blk_far ?_ NB372_376.out _; (with_reducible repeat (first | refine blk_drewN ?_ _ | refine blk_drew ?_ | refine blk_alloc ?_ _)); refine blk_far ?_ NB372_376.out _; (with_reducible repeat (first | refine blk_drewN ?_ _ | refine blk_drew ?_ | refine blk_alloc ?_ _)); refine blk_far ?_ NB372_376.out _; (with_reducible repeat (first | refine blk_drewN ?_ _ | refine blk_drew ?_ | refine blk_alloc ?_ _)); refine blk_far ?_ NB372_376.out _; (with_reducible repeat (first | refine blk_drewN ?_ _ | refine blk_drew ?_ | refine blk_alloc ?_ _)); exact BK372.out) hb); have n3_ := Aside0.mk (blk_below (g := gb376) (o := .cells #[.int .i64 a1_0, .slice A1_1 l1_1.length c1_1, .int .i64 a1_2, .int .i64 a1_3] 26 (0, 0)) (by (with_reducible repeat (first | refine blk_drewN ?_ _ | refine blk_drew ?_ | refine blk_alloc ?_ _)); refine blk_put (cs := #[.int .i64 a1_0, .slice A1_1 l1_1.length c1_1, .int .i64 a1_2, .int .i64 0]) ?_ 3 _ rfl; (with_reducible repeat (first | refine blk_drewN ?_ _ | refine blk_drew ?_ | refine blk_alloc ?_ _)); refine blk_put (cs := #[.int .i64 a1_0, .slice A1_1 l1_1.length c1_1, .int .i64 0, .int .i64 0]) ?_ 2 _ rfl; (with_reducible repeat (first | refine blk_drewN ?_ _ | refine blk_drew ?_ | refine blk_alloc ?_ _)); refine blk_put (cs := #[.int .i64 a1_0, .slice none 0 0, .int .i64 0, .int .i64 0]) ?_ 1 _ rfl; (with_reducible repeat (first | refine blk_drewN ?_ _ | refine blk_drew ?_ | refine blk_alloc ?_ _)); refine blk_put (cs := #[.int .i64 0, .slice none 0 0, .int .i64 0, .int .i64 0]) ?_ 0 _ rfl; (with_reducible repeat (first | refine blk_drewN ?_ _ | refine blk_drew ?_ | refine blk_alloc ?_ _)); exact BK376.out) hb); have n4_ := Aside0.mk (below_step (by repeat (first | (with_reducible first | exact HB.out | apply below_alloc | apply pw_below_drewN | apply below_drew1 | refine below_set ?_ GE371.out | refine below_set ?_ GE372.out | refine below_set ?_ GE376.out) | exact HB.out)) hb); clear BK371; clear BK372; clear BK376; clear HB; have HO379 := n0_; have BK371 := n1_; have BK372 := n2_; have BK376 := n3_; have HB := n4_; clear n0_ n1_ n2_ n3_ n4_; clear hb ho39; have hcz40_0 : w38.cell? ⟨gb372, 0, none⟩ = some (.int .i64 a1_0) := (blk_cell BK372.out 0).trans rfl; have hcz40_1 : w38.cell? ⟨gb372, 1, none⟩ = some (.slice A1_1 l1_1.length c1_1) := (blk_cell BK372.out 1).trans rfl; have hcz40_2 : w38.cell? ⟨gb372, 2, none⟩ = some (.int .i64 a1_2) := (blk_cell BK372.out 2).trans rfl; have hcz40_3 : w38.cell? ⟨gb372, 3, none⟩ = some (.int .i64 a1_3) := (blk_cell BK372.out 3).trans rfl; have hfz40_0 := blk_frozen BK372.out 0; have hfz40_1 := blk_frozen BK372.out 1; have hfz40_2 := blk_frozen BK372.out 2; have hfz40_3 := blk_frozen BK372.out 3) | ((with_reducible refine gate_builtin (b := .append) (xs := #[.tmp 32, .tmp 34]) rfl ?_); (try (refine gate_guard (by rfl) ?_; dsimp only)); at_builtin; refine Kd.R_append_rows (Kd.int .i64) (w0 := w) w.heap.size rfl (.tmp 32) (.tmp 34) 24 3 (.int .i64 0) 8 rfl Try.underlying24 info3 rfl (by decide) (by omega) v378 y377 l1_1 _ _ _ (fun _ => True) (fun _ => False) rfl rfl ?aO ?aR (fun _ _ h => h) (fun _ h => h.elim) ?aF ?aB ?aS ?aL ?_; (case aR => repeat (first | exact (Kd.C_below HR1_1.out HB.out) | (with_reducible refine Kd.C_alloc ?_ _) | (with_reducible refine Kd.C_drewN ?_ _) | (with_reducible refine Kd.C_drew ?_))); (case aB => exact (by repeat (first | (with_reducible first | exact HB.out | apply below_alloc | apply pw_below_drewN | apply below_drew1 | refine below_set ?_ GE371.out | refine below_set ?_ GE372.out | refine below_set ?_ GE376.out) | exact HB.out))); (case aF => exact (fun _ _ => trivial)); (case aO => exact (by (with_reducible repeat (first | apply Kd.R_alloc | apply Kd.R_drewN | apply Kd.R_drew)); exact HO379.out)); (case aS => exact (below_size (by repeat (first | (with_reducible first | exact HB.out | apply below_alloc | apply pw_below_drewN | apply below_drew1 | refine below_set ?_ GE371.out | refine below_set ?_ GE372.out | refine below_set ?_ GE376.out) | exact HB.out)))); (case aL => have := LMc27.out; omega); intro v381 w41 ho hb hg hat; rw [← Ny380.out] at ho; have n0_ := Aside0.mk (blk_grown (g := gb371) (o := .cells #[.int .i64 a0_0, .int .i64 a0_1, .int .i64 a0_2, .int .i64 a0_3, .int .i64 a0_4, .int .i64 a0_5, .int .i64 a0_6, .int .i64 a0_7, .int .i64 a0_8, .int .i64 a0_9, .int .i64 a0_10, .int .i64 a0_11] 23 (0, 0)) (by (with_reducible repeat (first | refine blk_drewN ?_ _ | refine blk_drew ?_ | refine blk_alloc ?_ _)); exact BK371.out) hg (Kd.R_ne HO379.out BK371.out (by decide))); have n1_ := Aside0.mk (blk_grown (g := gb372) (o := .cells #[.int .i64 a1_0, .slice A1_1 l1_1.length c1_1, .int .i64 a1_2, .int .i64 a1_3] 26 (0, 0)) (by (with_reducible repeat (first | refine blk_drewN ?_ _ | refine blk_drew ?_ | refine blk_alloc ?_ _)); exact BK372.out) hg (Kd.R_ne HO379.out BK372.out (by decide))); have n2_ := Aside0.mk (blk_grown (g := gb376) (o := .cells #[.int .i64 a1_0, .slice A1_1 l1_1.length c1_1, .int .i64 a1_2, .int .i64 a1_3] 26 (0, 0)) (by (with_reducible repeat (first | refine blk_drewN ?_ _ | refine blk_drew ?_ | refine blk_alloc ?_ _)); exact BK376.out) hg (Kd.R_ne HO379.out BK376.out (by decide))); have n3_ := Aside0.mk (hb); have n4_ := Aside0.mk (ho); clear BK371; clear BK372; clear BK376; clear HB; clear HO379; have BK371 := n0_; have BK372 := n1_; have BK376 := n2_; have HB := n3_; have HO382 := n4_; clear n0_ n1_ n2_ n3_ n4_; clear ho hb hg hat; obtain ⟨Ao42, co42, eo42⟩ := Kd.R_slice HO382.out; subst eo42; have hcz43_0 : w41.cell? ⟨gb376, 0, none⟩ = some (.int .i64 a1_0) := (blk_cell BK376.out 0).trans rfl; have hcz43_1 : w41.cell? ⟨gb376, 1, none⟩ = some (.slice A1_1 l1_1.length c1_1) := (blk_cell BK376.out 1).trans rfl; have hcz43_2 : w41.cell? ⟨gb376, 2, none⟩ = some (.int .i64 a1_2) := (blk_cell BK376.out 2).trans rfl; have hcz43_3 : w41.cell? ⟨gb376, 3, none⟩ = some (.int .i64 a1_3) := (blk_cell BK376.out 3).trans rfl; have hfz43_0 := blk_frozen BK376.out 0; have hfz43_1 := blk_frozen BK376.out 1; have hfz43_2 := blk_frozen BK376.out 2; have hfz43_3 := blk_frozen BK376.out 3; have hcz44_0 : w41.cell? ⟨gb371, 0, none⟩ = some (.int .i64 a0_0) := (blk_cell BK371.out 0).trans rfl; have hcz44_1 : w41.cell? ⟨gb371, 1, none⟩ = some (.int .i64 a0_1) := (blk_cell BK371.out 1).trans rfl; have hcz44_2 : w41.cell? ⟨gb371, 2, none⟩ = some (.int .i64 a0_2) := (blk_cell BK371.out 2).trans rfl; have hcz44_3 : w41.cell? ⟨gb371, 3, none⟩ = some (.int .i64 a0_3) := (blk_cell BK371.out 3).trans rfl; have hcz44_4 : w41.cell? ⟨gb371, 4, none⟩ = some (.int .i64 a0_4) := (blk_cell BK371.out 4).trans rfl; have hcz44_5 : w41.cell? ⟨gb371, 5, none⟩ = some (.int .i64 a0_5) := (blk_cell BK371.out 5).trans rfl; have hcz44_6 : w41.cell? ⟨gb371, 6, none⟩ = some (.int .i64 a0_6) := (blk_cell BK371.out 6).trans rfl; have hcz44_7 : w41.cell? ⟨gb371, 7, none⟩ = some (.int .i64 a0_7) := (blk_cell BK371.out 7).trans rfl; have hcz44_8 : w41.cell? ⟨gb371, 8, none⟩ = some (.int .i64 a0_8) := (blk_cell BK371.out 8).trans rfl; have hcz44_9 : w41.cell? ⟨gb371, 9, none⟩ = some (.int .i64 a0_9) := (blk_cell BK371.out 9).trans rfl; have hcz44_10 : w41.cell? ⟨gb371, 10, none⟩ = some (.int .i64 a0_10) := (blk_cell BK371.out 10).trans rfl; have hcz44_11 : w41.cell? ⟨gb371, 11, none⟩ = some (.int .i64 a0_11) := (blk_cell BK371.out 11).trans rfl; have hfz44_0 := blk_frozen BK371.out 0; have hfz44_1 := blk_frozen BK371.out 1; have hfz44_2 := blk_frozen BK371.out 2; have hfz44_3 := blk_frozen BK371.out 3; have hfz44_4 := blk_frozen BK371.out 4; have hfz44_5 := blk_frozen BK371.out 5; have hfz44_6 := blk_frozen BK371.out 6; have hfz44_7 := blk_frozen BK371.out 7; have hfz44_8 := blk_frozen BK371.out 8; have hfz44_9 := blk_frozen BK371.out 9; have hfz44_10 := blk_frozen BK371.out 10; have hfz44_11 := blk_frozen BK371.out 11) | ((with_reducible refine gate_callee (f := 18) rfl ?_); refine goesL_ (some 42) rfl rfl Try.func18 (by kernel_rfl) rfl #[.agg #[.int .i64 a0_0, .int .i64 a0_1, .int .i64 a0_2, .int .i64 a0_3, .int .i64 a0_4, .int .i64 a0_5, .int .i64 a0_6, .int .i64 a0_7, .int .i64 a0_8, .int .i64 a0_9, .int .i64 a0_10, .int .i64 a0_11], .agg #[.int .i64 a1_0, .slice Ao42 y380.length co42, .int .i64 a1_2, .int .i64 a1_3], .int .i64 a2, .int .i64 a3] rfl (by (try simp only [List.map_toArray, List.map_cons, List.map_nil]); first | done | rfl | (simp only [List.length_drop, List.length_take]; rfl)) ?_; (with_reducible refine (plant_Step.calls a0_0 a0_1 a0_2 a0_3 a0_4 a0_5 a0_6 a0_7 a0_8 a0_9 a0_10 a0_11 a1_0 _ _ y380 a1_2 a1_3 a2 a3 t383 t384 t387 t388 t389 t390 _ ?side1 ?side2 A28.out).mono ?_); (case side1 => refine (Kd.R_reads' (e := 3) (base := w.heap.size) (ok := fun k_ => True) (n := y380.length) (c := co42) ?_).2.2; exact (by (with_reducible repeat (first | apply Kd.R_alloc | apply Kd.R_drewN | apply Kd.R_drew)); exact (Kd.R_mono (Kd.R_far (p := ⟨gb376, 1, none⟩) (Kd.R_types HO382.out BK376.out (by decide)) (fun _ hk => hk.2) (.slice Ao42 y380.length co42)) (fun _ h_ => h_.1)))); (case side2 => exact (Kd.R_reads' HO382.out).2.1); rintro e w45 ⟨v385, rfl, ho0, hb⟩; refine ⟨_, rfl, ?_⟩; have n0_ := Aside0.mk (Kd.R_elder' (by (with_reducible repeat (first | apply Kd.R_alloc | apply Kd.R_drewN | apply Kd.R_drew)); exact (Kd.R_mono (Kd.R_far (p := ⟨gb376, 1, none⟩) (Kd.R_types HO382.out BK376.out (by decide)) (fun _ hk => hk.2) (.slice Ao42 y380.length co42)) (fun _ h_ => h_.1))) (Kd.Q_base ho0) hb); have n1_ := Aside0.mk (Kd.Q_lower (Kd.Q_new' ho0 (Kd.R_lt (by (with_reducible repeat (first | apply Kd.R_alloc | apply Kd.R_drewN | apply Kd.R_drew)); exact (Kd.R_mono (Kd.R_far (p := ⟨gb376, 1, none⟩) (Kd.R_types HO382.out BK376.out (by decide)) (fun _ hk => hk.2) (.slice Ao42 y380.length co42)) (fun _ h_ => h_.1))))) (below_size (by repeat (first | (with_reducible first | exact HB.out | apply below_alloc | apply pw_below_drewN | apply below_drew1 | refine below_set ?_ GE371.out | refine below_set ?_ GE372.out | refine below_set ?_ GE376.out) | exact HB.out)))); have n2_ := Aside0.mk (blk_below (g := gb371) (o := .cells #[.int .i64 a0_0, .int .i64 a0_1, .int .i64 a0_2, .int .i64 a0_3, .int .i64 a0_4, .int .i64 a0_5, .int .i64 a0_6, .int .i64 a0_7, .int .i64 a0_8, .int .i64 a0_9, .int .i64 a0_10, .int .i64 a0_11] 23 (0, 0)) (by (with_reducible repeat (first | refine blk_drewN ?_ _ | refine blk_drew ?_ | refine blk_alloc ?_ _)); refine blk_far ?_ NB371_376.out _; (with_reducible repeat (first | refine blk_drewN ?_ _ | refine blk_drew ?_ | refine blk_alloc ?_ _)); exact BK371.out) hb); have n3_ := Aside0.mk (blk_below (g := gb372) (o := .cells #[.int .i64 a1_0, .slice A1_1 l1_1.length c1_1, .int .i64 a1_2, .int .i64 a1_3] 26 (0, 0)) (by (with_reducible repeat (first | refine blk_drewN ?_ _ | refine blk_drew ?_ | refine blk_alloc ?_ _)); refine blk_far ?_ NB372_376.out _; (with_reducible repeat (first | refine blk_drewN ?_ _ | refine blk_drew ?_ | refine blk_alloc ?_ _)); exact BK372.out) hb); have n4_ := Aside0.mk (blk_below (g := gb376) (o := .cells #[.int .i64 a1_0, .slice Ao42 y380.length co42, .int .i64 a1_2, .int .i64 a1_3] 26 (0, 0)) (by (with_reducible repeat (first | refine blk_drewN ?_ _ | refine blk_drew ?_ | refine blk_alloc ?_ _)); refine blk_put (cs := #[.int .i64 a1_0, .slice A1_1 l1_1.length c1_1, .int .i64 a1_2, .int .i64 a1_3]) ?_ 1 _ rfl; (with_reducible repeat (first | refine blk_drewN ?_ _ | refine blk_drew ?_ | refine blk_alloc ?_ _)); exact BK376.out) hb); have n5_ := Aside0.mk (below_step (by repeat (first | (with_reducible first | exact HB.out | apply below_alloc | apply pw_below_drewN | apply below_drew1 | refine below_set ?_ GE371.out | refine below_set ?_ GE372.out | refine below_set ?_ GE376.out) | exact HB.out)) hb); clear HO382; clear BK371; clear BK372; clear BK376; clear HB; have HO382 := n0_; have HO386 := n1_; have BK371 := n2_; have BK372 := n3_; have BK376 := n4_; have HB := n5_; clear n0_ n1_ n2_ n3_ n4_ n5_; (try clear hb); (try clear hb2); (try clear hk); (try clear hi); (try clear ho0)) | ((with_reducible refine gate_dst (N := 11) rfl ?_); (try (refine gate_guard (by rfl) ?_; dsimp only)); refine box_event ?hg (N := 11) ?hd (cs := #[.int .i64 0, .slice none 0 0, .int .i64 0, .int .i64 0]) (t := 26) ?hr ?_; (case hd => rfl); (case hg => rfl); (case hr => first | (go_simp; done) | (go_simp; rfl)); intro gb391 hg w46 hbox hb; have n0_ := Aside0.mk (Kd.R_below (by (with_reducible repeat (first | apply Kd.R_alloc | apply Kd.R_drewN | apply Kd.R_drew)); exact HO382.out) hb); have n1_ := Aside0.mk (Kd.Q_below (by (with_reducible repeat (first | apply Kd.Q_alloc | apply Kd.Q_drewN | apply Kd.Q_drew)); exact HO386.out) hb); have n2_ := Aside0.mk (blk_below (g := gb371) (o := .cells #[.int .i64 a0_0, .int .i64 a0_1, .int .i64 a0_2, .int .i64 a0_3, .int .i64 a0_4, .int .i64 a0_5, .int .i64 a0_6, .int .i64 a0_7, .int .i64 a0_8, .int .i64 a0_9, .int .i64 a0_10, .int .i64 a0_11] 23 (0, 0)) (by (with_reducible repeat (first | refine blk_drewN ?_ _ | refine blk_drew ?_ | refine blk_alloc ?_ _)); exact BK371.out) hb); have n3_ := Aside0.mk (blk_below (g := gb372) (o := .cells #[.int .i64 a1_0, .slice A1_1 l1_1.length c1_1, .int .i64 a1_2, .int .i64 a1_3] 26 (0, 0)) (by (with_reducible repeat (first | refine blk_drewN ?_ _ | refine blk_drew ?_ | refine blk_alloc ?_ _)); exact BK372.out) hb); have n4_ := Aside0.mk (blk_below (g := gb376) (o := .cells #[.int .i64 a1_0, .slice Ao42 y380.length co42, .int .i64 a1_2, .int .i64 a1_3] 26 (0, 0)) (by (with_reducible repeat (first | refine blk_drewN ?_ _ | refine blk_drew ?_ | refine blk_alloc ?_ _)); exact BK376.out) hb); have n5_ := Aside0.mk (below_step (by repeat (first | (with_reducible first | exact HB.out | apply below_alloc | apply pw_below_drewN | apply below_drew1 | refine below_set ?_ GE371.out | refine below_set ?_ GE372.out | refine below_set ?_ GE376.out) | exact HB.out)) hb); have n6_ := Aside0.mk (hbox); have n7_ := Aside0.mk ((by rw [hg]; exact (below_size (by repeat (first | (with_reducible first | exact HB.out | apply below_alloc | apply pw_below_drewN | apply below_drew1 | refine below_set ?_ GE371.out | refine below_set ?_ GE372.out | refine below_set ?_ GE376.out) | exact HB.out))) : w.heap.size ≤ gb391)); have n8_ := Aside0.mk ((by rw [hg]; exact (below_size (by repeat (first | (with_reducible first | exact HB.out | apply below_alloc | apply pw_below_drewN | apply below_drew1 | refine below_set ?_ GE371.out | refine below_set ?_ GE372.out | refine below_set ?_ GE376.out) | exact HB.out))) : w.heap.size ≤ gb391)); have n9_ := Aside0.mk ((by rw [hg]; exact Nat.ne_of_lt (blk_lt (g := gb371) (o := .cells #[.int .i64 a0_0, .int .i64 a0_1, .int .i64 a0_2, .int .i64 a0_3, .int .i64 a0_4, .int .i64 a0_5, .int .i64 a0_6, .int .i64 a0_7, .int .i64 a0_8, .int .i64 a0_9, .int .i64 a0_10, .int .i64 a0_11] 23 (0, 0)) (by (with_reducible repeat (first | refine blk_drewN ?_ _ | refine blk_drew ?_ | refine blk_alloc ?_ _)); exact BK371.out)) : gb371 ≠ gb391)); have n10_ := Aside0.mk ((by rw [hg]; exact Nat.ne_of_gt (blk_lt (g := gb371) (o := .cells #[.int .i64 a0_0, .int .i64 a0_1, .int .i64 a0_2, .int .i64 a0_3, .int .i64 a0_4, .int .i64 a0_5, .int .i64 a0_6, .int .i64 a0_7, .int .i64 a0_8, .int .i64 a0_9, .int .i64 a0_10, .int .i64 a0_11] 23 (0, 0)) (by (with_reducible repeat (first | refine blk_drewN ?_ _ | refine blk_drew ?_ | refine blk_alloc ?_ _)); exact BK371.out)) : gb391 ≠ gb371)); have n11_ := Aside0.mk ((by rw [hg]; exact Nat.ne_of_lt (blk_lt (g := gb372) (o := .cells #[.int .i64 a1_0, .slice A1_1 l1_1.length c1_1, .int .i64 a1_2, .int .i64 a1_3] 26 (0, 0)) (by (with_reducible repeat (first | refine blk_drewN ?_ _ | refine blk_drew ?_ | refine blk_alloc ?_ _)); exact BK372.out)) : gb372 ≠ gb391)); have n12_ := Aside0.mk ((by rw [hg]; exact Nat.ne_of_gt (blk_lt (g := gb372) (o := .cells #[.int .i64 a1_0, .slice A1_1 l1_1.length c1_1, .int .i64 a1_2, .int .i64 a1_3] 26 (0, 0)) (by (with_reducible repeat (first | refine blk_drewN ?_ _ | refine blk_drew ?_ | refine blk_alloc ?_ _)); exact BK372.out)) : gb391 ≠ gb372)); have n13_ := Aside0.mk ((by rw [hg]; exact Nat.ne_of_lt (blk_lt (g := gb376) (o := .cells #[.int .i64 a1_0, .slice Ao42 y380.length co42, .int .i64 a1_2, .int .i64 a1_3] 26 (0, 0)) (by (with_reducible repeat (first | refine blk_drewN ?_ _ | refine blk_drew ?_ | refine blk_alloc ?_ _)); exact BK376.out)) : gb376 ≠ gb391)); have n14_ := Aside0.mk ((by rw [hg]; exact Nat.ne_of_gt (blk_lt (g := gb376) (o := .cells #[.int .i64 a1_0, .slice Ao42 y380.length co42, .int .i64 a1_2, .int .i64 a1_3] 26 (0, 0)) (by (with_reducible repeat (first | refine blk_drewN ?_ _ | refine blk_drew ?_ | refine blk_alloc ?_ _)); exact BK376.out)) : gb391 ≠ gb376)); clear HO382; clear HO386; clear BK371; clear BK372; clear BK376; clear HB; have HO382 := n0_; have HO386 := n1_; have BK371 := n2_; have BK372 := n3_; have BK376 := n4_; have HB := n5_; have BK391 := n6_; have GW391 := n7_; have GE391 := n8_; have NB371_391 := n9_; have NB391_371 := n10_; have NB372_391 := n11_; have NB391_372 := n12_; have NB376_391 := n13_; have NB391_376 := n14_; clear n0_ n1_ n2_ n3_ n4_ n5_ n6_ n7_ n8_ n9_ n10_ n11_ n12_ n13_ n14_; clear hb hbox hg) | ((with_reducible refine gate_dst (N := 12) rfl ?_); (try (refine gate_guard (by rfl) ?_; dsimp only)); refine box_event ?hg (N := 12) ?hd (cs := #[.int .i64 0, .bool false]) (t := 31) ?hr ?_; (case hd => rfl); (case hg => rfl); (case hr => first | (go_simp; done) | (go_simp; rfl)); intro gb392 hg w47 hbox hb; have n0_ := Aside0.mk (Kd.R_below (by (with_reducible repeat (first | apply Kd.R_alloc | apply Kd.R_drewN | apply Kd.R_drew)); exact HO382.out) hb); have n1_ := Aside0.mk (Kd.Q_below (by (with_reducible repeat (first | apply Kd.Q_alloc | apply Kd.Q_drewN | apply Kd.Q_drew)); exact HO386.out) hb); have n2_ := Aside0.mk (blk_below (g := gb371) (o := .cells #[.int .i64 a0_0, .int .i64 a0_1, .int .i64 a0_2, .int .i64 a0_3, .int .i64 a0_4, .int .i64 a0_5, .int .i64 a0_6, .int .i64 a0_7, .int .i64 a0_8, .int .i64 a0_9, .int .i64 a0_10, .int .i64 a0_11] 23 (0, 0)) (by (with_reducible repeat (first | refine blk_drewN ?_ _ | refine blk_drew ?_ | refine blk_alloc ?_ _)); exact BK371.out) hb); have n3_ := Aside0.mk (blk_below (g := gb372) (o := .cells #[.int .i64 a1_0, .slice A1_1 l1_1.length c1_1, .int .i64 a1_2, .int .i64 a1_3] 26 (0, 0)) (by (with_reducible repeat (first | refine blk_drewN ?_ _ | refine blk_drew ?_ | refine blk_alloc ?_ _)); exact BK372.out) hb); have n4_ := Aside0.mk (blk_below (g := gb376) (o := .cells #[.int .i64 a1_0, .slice Ao42 y380.length co42, .int .i64 a1_2, .int .i64 a1_3] 26 (0, 0)) (by (with_reducible repeat (first | refine blk_drewN ?_ _ | refine blk_drew ?_ | refine blk_alloc ?_ _)); exact BK376.out) hb); have n5_ := Aside0.mk (blk_below (g := gb391) (o := .cells #[.int .i64 0, .slice none 0 0, .int .i64 0, .int .i64 0] 26 (0, 0)) (by (with_reducible repeat (first | refine blk_drewN ?_ _ | refine blk_drew ?_ | refine blk_alloc ?_ _)); exact BK391.out) hb); have n6_ := Aside0.mk (below_step (by repeat (first | (with_reducible first | exact HB.out | apply below_alloc | apply pw_below_drewN | apply below_drew1 | refine below_set ?_ GE371.out | refine below_set ?_ GE372.out | refine below_set ?_ GE376.out | refine below_set ?_ GE391.out) | exact HB.out)) hb); have n7_ := Aside0.mk (hbox); have n8_ := Aside0.mk ((by rw [hg]; exact (below_size (by repeat (first | (with_reducible first | exact HB.out | apply below_alloc | apply pw_below_drewN | apply below_drew1 | refine below_set ?_ GE371.out | refine below_set ?_ GE372.out | refine below_set ?_ GE376.out | refine below_set ?_ GE391.out) | exact HB.out))) : w.heap.size ≤ gb392)); have n9_ := Aside0.mk ((by rw [hg]; exact (below_size (by repeat (first | (with_reducible first | exact HB.out | apply below_alloc | apply pw_below_drewN | apply below_drew1 | refine below_set ?_ GE371.out | refine below_set ?_ GE372.out | refine below_set ?_ GE376.out | refine below_set ?_ GE391.out) | exact HB.out))) : w.heap.size ≤ gb392)); have n10_ := Aside0.mk ((by rw [hg]; exact Nat.ne_of_lt (blk_lt (g := gb371) (o := .cells #[.int .i64 a0_0, .int .i64 a0_1, .int .i64 a0_2, .int .i64 a0_3, .int .i64 a0_4, .int .i64 a0_5, .int .i64 a0_6, .int .i64 a0_7, .int .i64 a0_8, .int .i64 a0_9, .int .i64 a0_10, .int .i64 a0_11] 23 (0, 0)) (by (with_reducible repeat (first | refine blk_drewN ?_ _ | refine blk_drew ?_ | refine blk_alloc ?_ _)); exact BK371.out)) : gb371 ≠ gb392)); have n11_ := Aside0.mk ((by rw [hg]; exact Nat.ne_of_gt (blk_lt (g := gb371) (o := .cells #[.int .i64 a0_0, .int .i64 a0_1, .int .i64 a0_2, .int .i64 a0_3, .int .i64 a0_4, .int .i64 a0_5, .int .i64 a0_6, .int .i64 a0_7, .int .i64 a0_8, .int .i64 a0_9, .int .i64 a0_10, .int .i64 a0_11] 23 (0, 0)) (by (with_reducible repeat (first | refine blk_drewN ?_ _ | refine blk_drew ?_ | refine blk_alloc ?_ _)); exact BK371.out)) : gb392 ≠ gb371)); have n12_ := Aside0.mk ((by rw [hg]; exact Nat.ne_of_lt (blk_lt (g := gb372) (o := .cells #[.int .i64 a1_0, .slice A1_1 l1_1.length c1_1, .int .i64 a1_2, .int .i64 a1_3] 26 (0, 0)) (by (with_reducible repeat (first | refine blk_drewN ?_ _ | refine blk_drew ?_ | refine blk_alloc ?_ _)); exact BK372.out)) : gb372 ≠ gb392)); have n13_ := Aside0.mk ((by rw [hg]; exact Nat.ne_of_gt (blk_lt (g := gb372) (o := .cells #[.int .i64 a1_0, .slice A1_1 l1_1.length c1_1, .int .i64 a1_2, .int .i64 a1_3] 26 (0, 0)) (by (with_reducible repeat (first | refine blk_drewN ?_ _ | refine blk_drew ?_ | refine blk_alloc ?_ _)); exact BK372.out)) : gb392 ≠ gb372)); have n14_ := Aside0.mk ((by rw [hg]; exact Nat.ne_of_lt (blk_lt (g := gb376) (o := .cells #[.int .i64 a1_0, .slice Ao42 y380.length co42, .int .i64 a1_2, .int .i64 a1_3] 26 (0, 0)) (by (with_reducible repeat (first | refine blk_drewN ?_ _ | refine blk_drew ?_ | refine blk_alloc ?_ _)); exact BK376.out)) : gb376 ≠ gb392)); have n15_ := Aside0.mk ((by rw [hg]; exact Nat.ne_of_gt (blk_lt (g := gb376) (o := .cells #[.int .i64 a1_0, .slice Ao42 y380.length co42, .int .i64 a1_2, .int .i64 a1_3] 26 (0, 0)) (by (with_reducible repeat (first | refine blk_drewN ?_ _ | refine blk_drew ?_ | refine blk_alloc ?_ _)); exact BK376.out)) : gb392 ≠ gb376)); have n16_ := Aside0.mk ((by rw [hg]; exact Nat.ne_of_lt (blk_lt (g := gb391) (o := .cells #[.int .i64 0, .slice none 0 0, .int .i64 0, .int .i64 0] 26 (0, 0)) (by (with_reducible repeat (first | refine blk_drewN ?_ _ | refine blk_drew ?_ | refine blk_alloc ?_ _)); exact BK391.out)) : gb391 ≠ gb392)); have n17_ := Aside0.mk ((by rw [hg]; exact Nat.ne_of_gt (blk_lt (g := gb391) (o := .cells #[.int .i64 0, .slice none 0 0, .int .i64 0, .int .i64 0] 26 (0, 0)) (by (with_reducible repeat (first | refine blk_drewN ?_ _ | refine blk_drew ?_ | refine blk_alloc ?_ _)); exact BK391.out)) : gb392 ≠ gb391)); clear HO382; clear HO386; clear BK371; clear BK372; clear BK376; clear BK391; clear HB; have HO382 := n0_; have HO386 := n1_; have BK371 := n2_; have BK372 := n3_; have BK376 := n4_; have BK391 := n5_; have HB := n6_; have BK392 := n7_; have GW392 := n8_; have GE392 := n9_; have NB371_392 := n10_; have NB392_371 := n11_; have NB372_392 := n12_; have NB392_372 := n13_; have NB376_392 := n14_; have NB392_376 := n15_; have NB391_392 := n16_; have NB392_391 := n17_; clear n0_ n1_ n2_ n3_ n4_ n5_ n6_ n7_ n8_ n9_ n10_ n11_ n12_ n13_ n14_ n15_ n16_ n17_; clear hb hbox hg; have hnb48 := NB391_371.out; have hnc48 := NB371_391.out; have hnb49 := NB391_372.out; have hnc49 := NB372_391.out; have hnb50 := NB391_376.out; have hnc50 := NB376_391.out; have hnb51 := NB391_392.out; have hnc51 := NB392_391.out; have hcz52_0 : w47.cell? ⟨gb391, 0, none⟩ = some (.int .i64 0) := (blk_cell BK391.out 0).trans rfl; have hcz52_1 : w47.cell? ⟨gb391, 1, none⟩ = some (.slice none 0 0) := (blk_cell BK391.out 1).trans rfl; have hcz52_2 : w47.cell? ⟨gb391, 2, none⟩ = some (.int .i64 0) := (blk_cell BK391.out 2).trans rfl; have hcz52_3 : w47.cell? ⟨gb391, 3, none⟩ = some (.int .i64 0) := (blk_cell BK391.out 3).trans rfl; have hfz52_0 := blk_frozen BK391.out 0; have hfz52_1 := blk_frozen BK391.out 1; have hfz52_2 := blk_frozen BK391.out 2; have hfz52_3 := blk_frozen BK391.out 3; obtain ⟨Ao53, co53, eo53, _⟩ := Kd.Q_slice HO386.out; subst eo53; have hnb54 := NB392_371.out; have hnc54 := NB371_392.out; have hnb55 := NB392_372.out; have hnc55 := NB372_392.out; have hnb56 := NB392_376.out; have hnc56 := NB376_392.out; have hcz57_0 : w47.cell? ⟨gb392, 0, none⟩ = some (.int .i64 0) := (blk_cell BK392.out 0).trans rfl; have hcz57_1 : w47.cell? ⟨gb392, 1, none⟩ = some (.bool false) := (blk_cell BK392.out 1).trans rfl; have hfz57_0 := blk_frozen BK392.out 0; have hfz57_1 := blk_frozen BK392.out 1; have hcz58_0 : w47.cell? ⟨gb376, 0, none⟩ = some (.int .i64 a1_0) := (blk_cell BK376.out 0).trans rfl; have hcz58_1 : w47.cell? ⟨gb376, 1, none⟩ = some (.slice Ao42 y380.length co42) := (blk_cell BK376.out 1).trans rfl; have hcz58_2 : w47.cell? ⟨gb376, 2, none⟩ = some (.int .i64 a1_2) := (blk_cell BK376.out 2).trans rfl; have hcz58_3 : w47.cell? ⟨gb376, 3, none⟩ = some (.int .i64 a1_3) := (blk_cell BK376.out 3).trans rfl; have hfz58_0 := blk_frozen BK376.out 0; have hfz58_1 := blk_frozen BK376.out 1; have hfz58_2 := blk_frozen BK376.out 2; have hfz58_3 := blk_frozen BK376.out 3; have hcz59_0 : w47.cell? ⟨gb372, 0, none⟩ = some (.int .i64 a1_0) := (blk_cell BK372.out 0).trans rfl; have hcz59_1 : w47.cell? ⟨gb372, 1, none⟩ = some (.slice A1_1 l1_1.length c1_1) := (blk_cell BK372.out 1).trans rfl; have hcz59_2 : w47.cell? ⟨gb372, 2, none⟩ = some (.int .i64 a1_2) := (blk_cell BK372.out 2).trans rfl; have hcz59_3 : w47.cell? ⟨gb372, 3, none⟩ = some (.int .i64 a1_3) := (blk_cell BK372.out 3).trans rfl; have hfz59_0 := blk_frozen BK372.out 0; have hfz59_1 := blk_frozen BK372.out 1; have hfz59_2 := blk_frozen BK372.out 2; have hfz59_3 := blk_frozen BK372.out 3) | ((with_reducible refine gate_callee (f := 20) rfl ?_); refine goesL_ (some 47) rfl rfl Try.func20 (by kernel_rfl) rfl #[.agg #[.int .i64 a1_0, .slice Ao42 y380.length co42, .int .i64 a1_2, .int .i64 a1_3], .agg #[.int .i64 a1_0, .slice A1_1 l1_1.length c1_1, .int .i64 a1_2, .int .i64 a1_3]] rfl (by (try simp only [List.map_toArray, List.map_cons, List.map_nil]); first | done | rfl | (simp only [List.length_drop, List.length_take]; rfl)) ?_; (with_reducible refine (governorref16_Same.calls kj5 a1_0 _ _ y380 a1_2 a1_3 a1_0 _ _ l1_1 a1_2 a1_3 true _ ?side1 ?side2 ?side3 ?side4 A29.out).mono ?_); (case side1 => refine (Kd.R_reads' (e := 3) (base := w.heap.size) (ok := fun k_ => (True ∧ some k_ ≠ (.slice Ao53 t384.length co53 : Value).ownBlock)) (n := y380.length) (c := co42) ?_).2.2; exact (by (with_reducible repeat (first | apply Kd.R_alloc | apply Kd.R_drewN | apply Kd.R_drew)); exact (Kd.R_mono (Kd.R_mono (Kd.R_far (p := ⟨gb392, 1, none⟩) (Kd.R_far (p := ⟨gb392, 0, none⟩) (Kd.R_far (p := ⟨gb391, 3, none⟩) (Kd.R_far (p := ⟨gb391, 2, none⟩) (Kd.R_far (p := ⟨gb391, 1, none⟩) (Kd.R_far (p := ⟨gb391, 0, none⟩) (Kd.R_types (Kd.R_types HO382.out BK391.out (by decide)) BK392.out (by decide)) (fun _ hk => hk.1.2) (.int .i64 t383)) (fun _ hk => hk.1.2) (.slice Ao53 t384.length co53)) (fun _ hk => hk.1.2) (.int .i64 t387)) (fun _ hk => hk.1.2) (.int .i64 t388)) (fun _ hk => hk.2) (.int .i64 t389)) (fun _ hk => hk.2) (.bool t390)) (fun _ h_ => h_.1)) (fun _ h_ => h_.1)))); (case side2 => exact (Kd.R_reads' HO382.out).2.1); (case side3 => exact Kd.C_below HR1_1.out (by repeat (first | (with_reducible first | exact HB.out | apply below_alloc | apply pw_below_drewN | apply below_drew1 | refine below_set ?_ GE371.out | refine below_set ?_ GE372.out | refine below_set ?_ GE376.out | refine below_set ?_ GE391.out | refine below_set ?_ GE392.out) | exact HB.out))); (case side4 => exact HC1_1.out); rintro e w60 ⟨rfl, hb⟩; refine ⟨_, rfl, ?_⟩; have n0_ := Aside0.mk (Kd.R_below (by (with_reducible repeat (first | apply Kd.R_alloc | apply Kd.R_drewN | apply Kd.R_drew)); exact (Kd.R_mono (Kd.R_mono (Kd.R_far (p := ⟨gb392, 1, none⟩) (Kd.R_far (p := ⟨gb392, 0, none⟩) (Kd.R_far (p := ⟨gb391, 3, none⟩) (Kd.R_far (p := ⟨gb391, 2, none⟩) (Kd.R_far (p := ⟨gb391, 1, none⟩) (Kd.R_far (p := ⟨gb391, 0, none⟩) (Kd.R_types (Kd.R_types HO382.out BK391.out (by decide)) BK392.out (by decide)) (fun _ hk => hk.1.2) (.int .i64 t383)) (fun _ hk => hk.1.2) (.slice Ao53 t384.length co53)) (fun _ hk => hk.1.2) (.int .i64 t387)) (fun _ hk => hk.1.2) (.int .i64 t388)) (fun _ hk => hk.2) (.int .i64 t389)) (fun _ hk => hk.2) (.bool t390)) (fun _ h_ => h_.1)) (fun _ h_ => h_.1))) hb); have n1_ := Aside0.mk (Kd.Q_below (by (with_reducible repeat (first | apply Kd.Q_alloc | apply Kd.Q_drewN | apply Kd.Q_drew)); exact (Kd.Q_mono (Kd.Q_mono (Kd.Q_far (p := ⟨gb392, 1, none⟩) (Kd.Q_far (p := ⟨gb392, 0, none⟩) (Kd.Q_far (p := ⟨gb391, 3, none⟩) (Kd.Q_far (p := ⟨gb391, 2, none⟩) (Kd.Q_far (p := ⟨gb391, 1, none⟩) (Kd.Q_far (p := ⟨gb391, 0, none⟩) (Kd.Q_types (Kd.Q_types HO386.out BK391.out (by decide)) BK392.out (by decide)) (fun _ hk => hk.1.2) (.int .i64 t383)) (fun _ hk => hk.1.2) (.slice Ao53 t384.length co53)) (fun _ hk => hk.1.2) (.int .i64 t387)) (fun _ hk => hk.1.2) (.int .i64 t388)) (fun _ hk => hk.2) (.int .i64 t389)) (fun _ hk => hk.2) (.bool t390)) (fun _ h_ => h_.1)) (fun _ h_ => h_.1))) hb); have n2_ := Aside0.mk (blk_below (g := gb371) (o := .cells #[.int .i64 a0_0, .int .i64 a0_1, .int .i64 a0_2, .int .i64 a0_3, .int .i64 a0_4, .int .i64 a0_5, .int .i64 a0_6, .int .i64 a0_7, .int .i64 a0_8, .int .i64 a0_9, .int .i64 a0_10, .int .i64 a0_11] 23 (0, 0)) (by (with_reducible repeat (first | refine blk_drewN ?_ _ | refine blk_drew ?_ | refine blk_alloc ?_ _)); refine blk_far ?_ NB371_392.out _; (with_reducible repeat (first | refine blk_drewN ?_ _ | refine blk_drew ?_ | refine blk_alloc ?_ _)); refine blk_far ?_ NB371_392.out _; (with_reducible repeat (first | refine blk_drewN ?_ _ | refine blk_drew ?_ | refine blk_alloc ?_ _)); refine blk_far ?_ NB371_391.out _; (with_reducible repeat (first | refine blk_drewN ?_ _ | refine blk_drew ?_ | refine blk_alloc ?_ _)); refine blk_far ?_ NB371_391.out _; (with_reducible repeat (first | refine blk_drewN ?_ _ | refine blk_drew ?_ | refine blk_alloc ?_ _)); refine blk_far ?_ NB371_391.out _; (with_reducible repeat (first | refine blk_drewN ?_ _ | refine blk_drew ?_ | refine blk_alloc ?_ _)); refine blk_far ?_ NB371_391.out _; (with_reducible repeat (first | refine blk_drewN ?_ _ | refine blk_drew ?_ | refine blk_alloc ?_ _)); exact BK371.out) hb); have n3_ := Aside0.mk (blk_below (g := gb372) (o := .cells #[.int .i64 a1_0, .slice A1_1 l1_1.length c1_1, .int .i64 a1_2, .int .i64 a1_3] 26 (0, 0)) (by (with_reducible repeat (first | refine blk_drewN ?_ _ | refine blk_drew ?_ | refine blk_alloc ?_ _)); refine blk_far ?_ NB372_392.out _; (with_reducible repeat (first | refine blk_drewN ?_ _ | refine blk_drew ?_ | refine blk_alloc ?_ _)); refine blk_far ?_ NB372_392.out _; (with_reducible repeat (first | refine blk_drewN ?_ _ | refine blk_drew ?_ | refine blk_alloc ?_ _)); refine blk_far ?_ NB372_391.out _; (with_reducible repeat (first | refine blk_drewN ?_ _ | refine blk_drew ?_ | refine blk_alloc ?_ _)); refine blk_far ?_ NB372_391.out _; (with_reducible repeat (first | refine blk_drewN ?_ _ | refine blk_drew ?_ | refine blk_alloc ?_ _)); refine blk_far ?_ NB372_391.out _; (with_reducible repeat (first | refine blk_drewN ?_ _ | refine blk_drew ?_ | refine blk_alloc ?_ _)); refine blk_far ?_ NB372_391.out _; (with_reducible repeat (first | refine blk_drewN ?_ _ | refine blk_drew ?_ | refine blk_alloc ?_ _)); exact BK372.out) hb); have n4_ := Aside0.mk (blk_below (g := gb376) (o := .cells #[.int .i64 a1_0, .slice Ao42 y380.length co42, .int .i64 a1_2, .int .i64 a1_3] 26 (0, 0)) (by (with_reducible repeat (first | refine blk_drewN ?_ _ | refine blk_drew ?_ | refine blk_alloc ?_ _)); refine blk_far ?_ NB376_392.out _; (with_reducible repeat (first | refine blk_drewN ?_ _ | refine blk_drew ?_ | refine blk_alloc ?_ _)); refine blk_far ?_ NB376_392.out _; (with_reducible repeat (first | refine blk_drewN ?_ _ | refine blk_drew ?_ | refine blk_alloc ?_ _)); refine blk_far ?_ NB376_391.out _; (with_reducible repeat (first | refine blk_drewN ?_ _ | refine blk_drew ?_ | refine blk_alloc ?_ _)); refine blk_far ?_ NB376_391.out _; (with_reducible repeat (first | refine blk_drewN ?_ _ | refine blk_drew ?_ | refine blk_alloc ?_ _)); refine blk_far ?_ NB376_391.out _; (with_reducible repeat (first | refine blk_drewN ?_ _ | refine blk_drew ?_ | refine blk_alloc ?_ _)); refine blk_far ?_ NB376_391.out _; (with_reducible repeat (first | refine blk_drewN ?_ _ | refine blk_drew ?_ | refine blk_alloc ?_ _)); exact BK376.out) hb); have n5_ := Aside0.mk (blk_below (g := gb391) (o := .cells #[.int .i64 t383, .slice Ao53 t384.length co53, .int .i64 t387, .int .i64 t388] 26 (0, 0)) (by (with_reducible repeat (first | refine blk_drewN ?_ _ | refine blk_drew ?_ | refine blk_alloc ?_ _)); refine blk_far ?_ NB391_392.out _; (with_reducible repeat (first | refine blk_drewN ?_ _ | refine blk_drew ?_ | refine blk_alloc ?_ _)); refine blk_far ?_ NB391_392.out _; (with_reducible repeat (first | refine blk_drewN ?_ _ | refine blk_drew ?_ | refine blk_alloc ?_ _)); refine blk_put (cs := #[.int .i64 t383, .slice Ao53 t384.length co53, .int .i64 t387, .int .i64 0]) ?_ 3 _ rfl; (with_reducible repeat (first | refine blk_drewN ?_ _ | refine blk_drew ?_ | refine blk_alloc ?_ _)); refine blk_put (cs := #[.int .i64 t383, .slice Ao53 t384.length co53, .int .i64 0, .int .i64 0]) ?_ 2 _ rfl; (with_reducible repeat (first | refine blk_drewN ?_ _ | refine blk_drew ?_ | refine blk_alloc ?_ _)); refine blk_put (cs := #[.int .i64 t383, .slice none 0 0, .int .i64 0, .int .i64 0]) ?_ 1 _ rfl; (with_reducible repeat (first | refine blk_drewN ?_ _ | refine blk_drew ?_ | refine blk_alloc ?_ _)); refine blk_put (cs := #[.int .i64 0, .slice none 0 0, .int .i64 0, .int .i64 0]) ?_ 0 _ rfl; (with_reducible repeat (first | refine blk_drewN ?_ _ | refine blk_drew ?_ | refine blk_alloc ?_ _)); exact BK391.out) hb); have n6_ := Aside0.mk (blk_below (g := gb392) (o := .cells #[.int .i64 t389, .bool t390] 31 (0, 0)) (by (with_reducible repeat (first | refine blk_drewN ?_ _ | refine blk_drew ?_ | refine blk_alloc ?_ _)); refine blk_put (cs := #[.int .i64 t389, .bool false]) ?_ 1 _ rfl; (with_reducible repeat (first | refine blk_drewN ?_ _ | refine blk_drew ?_ | refine blk_alloc ?_ _)); refine blk_put (cs := #[.int .i64 0, .bool false]) ?_ 0 _ rfl; (with_reducible repeat (first | refine blk_drewN ?_ _ | refine blk_drew ?_ | refine blk_alloc ?_ _)); refine blk_far ?_ NB392_391.out _; (with_reducible repeat (first | refine blk_drewN ?_ _ | refine blk_drew ?_ | refine blk_alloc ?_ _)); refine blk_far ?_ NB392_391.out _; (with_reducible repeat (first | refine blk_drewN ?_ _ | refine blk_drew ?_ | refine blk_alloc ?_ _)); refine blk_far ?_ NB392_391.out _; (with_reducible repeat (first | refine blk_drewN ?_ _ | refine blk_drew ?_ | refine blk_alloc ?_ _)); refine blk_far ?_ NB392_391.out _; (with_reducible repeat (first | refine blk_drewN ?_ _ | refine blk_drew ?_ | refine blk_alloc ?_ _)); exact BK392.out) hb); have n7_ := Aside0.mk (below_step (by repeat (first | (with_reducible first | exact HB.out | apply below_alloc | apply pw_below_drewN | apply below_drew1 | refine below_set ?_ GE371.out | refine below_set ?_ GE372.out | refine below_set ?_ GE376.out | refine below_set ?_ GE391.out | refine below_set ?_ GE392.out) | exact HB.out)) hb); clear HO382; clear HO386; clear BK371; clear BK372; clear BK376; clear BK391; clear BK392; clear HB; have HO382 := n0_; have HO386 := n1_; have BK371 := n2_; have BK372 := n3_; have BK376 := n4_; have BK391 := n5_; have BK392 := n6_; have HB := n7_; clear n0_ n1_ n2_ n3_ n4_ n5_ n6_ n7_; (try clear hb); (try clear hb2); (try clear hk); (try clear hi); have hcz61_0 : w60.cell? ⟨gb391, 0, none⟩ = some (.int .i64 t383) := (blk_cell BK391.out 0).trans rfl; have hcz61_1 : w60.cell? ⟨gb391, 1, none⟩ = some (.slice Ao53 t384.length co53) := (blk_cell BK391.out 1).trans rfl; have hcz61_2 : w60.cell? ⟨gb391, 2, none⟩ = some (.int .i64 t387) := (blk_cell BK391.out 2).trans rfl; have hcz61_3 : w60.cell? ⟨gb391, 3, none⟩ = some (.int .i64 t388) := (blk_cell BK391.out 3).trans rfl; have hfz61_0 := blk_frozen BK391.out 0; have hfz61_1 := blk_frozen BK391.out 1; have hfz61_2 := blk_frozen BK391.out 2; have hfz61_3 := blk_frozen BK391.out 3) | ((with_reducible refine gate_dst (N := 13) rfl ?_); (try (refine gate_guard (by rfl) ?_; dsimp only)); refine box_event ?hg (N := 13) ?hd (cs := #[.int .i64 0, .slice none 0 0, .int .i64 0, .int .i64 0]) (t := 26) ?hr ?_; (case hd => rfl); (case hg => rfl); (case hr => first | (go_simp; done) | (go_simp; rfl)); intro gb394 hg w62 hbox hb; have n0_ := Aside0.mk (Kd.R_below (by (with_reducible repeat (first | apply Kd.R_alloc | apply Kd.R_drewN | apply Kd.R_drew)); exact HO382.out) hb); have n1_ := Aside0.mk (Kd.Q_below (by (with_reducible repeat (first | apply Kd.Q_alloc | apply Kd.Q_drewN | apply Kd.Q_drew)); exact HO386.out) hb); have n2_ := Aside0.mk (blk_below (g := gb371) (o := .cells #[.int .i64 a0_0, .int .i64 a0_1, .int .i64 a0_2, .int .i64 a0_3, .int .i64 a0_4, .int .i64 a0_5, .int .i64 a0_6, .int .i64 a0_7, .int .i64 a0_8, .int .i64 a0_9, .int .i64 a0_10, .int .i64 a0_11] 23 (0, 0)) (by (with_reducible repeat (first | refine blk_drewN ?_ _ | refine blk_drew ?_ | refine blk_alloc ?_ _)); exact BK371.out) hb); have n3_ := Aside0.mk (blk_below (g := gb372) (o := .cells #[.int .i64 a1_0, .slice A1_1 l1_1.length c1_1, .int .i64 a1_2, .int .i64 a1_3] 26 (0, 0)) (by (with_reducible repeat (first | refine blk_drewN ?_ _ | refine blk_drew ?_ | refine blk_alloc ?_ _)); exact BK372.out) hb); have n4_ := Aside0.mk (blk_below (g := gb376) (o := .cells #[.int .i64 a1_0, .slice Ao42 y380.length co42, .int .i64 a1_2, .int .i64 a1_3] 26 (0, 0)) (by (with_reducible repeat (first | refine blk_drewN ?_ _ | refine blk_drew ?_ | refine blk_alloc ?_ _)); exact BK376.out) hb); have n5_ := Aside0.mk (blk_below (g := gb391) (o := .cells #[.int .i64 t383, .slice Ao53 t384.length co53, .int .i64 t387, .int .i64 t388] 26 (0, 0)) (by (with_reducible repeat (first | refine blk_drewN ?_ _ | refine blk_drew ?_ | refine blk_alloc ?_ _)); exact BK391.out) hb); have n6_ := Aside0.mk (blk_below (g := gb392) (o := .cells #[.int .i64 t389, .bool t390] 31 (0, 0)) (by (with_reducible repeat (first | refine blk_drewN ?_ _ | refine blk_drew ?_ | refine blk_alloc ?_ _)); exact BK392.out) hb); have n7_ := Aside0.mk (below_step (by repeat (first | (with_reducible first | exact HB.out | apply below_alloc | apply pw_below_drewN | apply below_drew1 | refine below_set ?_ GE371.out | refine below_set ?_ GE372.out | refine below_set ?_ GE376.out | refine below_set ?_ GE391.out | refine below_set ?_ GE392.out) | exact HB.out)) hb); have n8_ := Aside0.mk (hbox); have n9_ := Aside0.mk ((by rw [hg]; exact (below_size (by repeat (first | (with_reducible first | exact HB.out | apply below_alloc | apply pw_below_drewN | apply below_drew1 | refine below_set ?_ GE371.out | refine below_set ?_ GE372.out | refine below_set ?_ GE376.out | refine below_set ?_ GE391.out | refine below_set ?_ GE392.out) | exact HB.out))) : w.heap.size ≤ gb394)); have n10_ := Aside0.mk ((by rw [hg]; exact (below_size (by repeat (first | (with_reducible first | exact HB.out | apply below_alloc | apply pw_below_drewN | apply below_drew1 | refine below_set ?_ GE371.out | refine below_set ?_ GE372.out | refine below_set ?_ GE376.out | refine below_set ?_ GE391.out | refine below_set ?_ GE392.out) | exact HB.out))) : w.heap.size ≤ gb394)); have n11_ := Aside0.mk ((by rw [hg]; exact Nat.ne_of_lt (blk_lt (g := gb371) (o := .cells #[.int .i64 a0_0, .int .i64 a0_1, .int .i64 a0_2, .int .i64 a0_3, .int .i64 a0_4, .int .i64 a0_5, .int .i64 a0_6, .int .i64 a0_7, .int .i64 a0_8, .int .i64 a0_9, .int .i64 a0_10, .int .i64 a0_11] 23 (0, 0)) (by (with_reducible repeat (first | refine blk_drewN ?_ _ | refine blk_drew ?_ | refine blk_alloc ?_ _)); exact BK371.out)) : gb371 ≠ gb394)); have n12_ := Aside0.mk ((by rw [hg]; exact Nat.ne_of_gt (blk_lt (g := gb371) (o := .cells #[.int .i64 a0_0, .int .i64 a0_1, .int .i64 a0_2, .int .i64 a0_3, .int .i64 a0_4, .int .i64 a0_5, .int .i64 a0_6, .int .i64 a0_7, .int .i64 a0_8, .int .i64 a0_9, .int .i64 a0_10, .int .i64 a0_11] 23 (0, 0)) (by (with_reducible repeat (first | refine blk_drewN ?_ _ | refine blk_drew ?_ | refine blk_alloc ?_ _)); exact BK371.out)) : gb394 ≠ gb371)); have n13_ := Aside0.mk ((by rw [hg]; exact Nat.ne_of_lt (blk_lt (g := gb372) (o := .cells #[.int .i64 a1_0, .slice A1_1 l1_1.length c1_1, .int .i64 a1_2, .int .i64 a1_3] 26 (0, 0)) (by (with_reducible repeat (first | refine blk_drewN ?_ _ | refine blk_drew ?_ | refine blk_alloc ?_ _)); exact BK372.out)) : gb372 ≠ gb394)); have n14_ := Aside0.mk ((by rw [hg]; exact Nat.ne_of_gt (blk_lt (g := gb372) (o := .cells #[.int .i64 a1_0, .slice A1_1 l1_1.length c1_1, .int .i64 a1_2, .int .i64 a1_3] 26 (0, 0)) (by (with_reducible repeat (first | refine blk_drewN ?_ _ | refine blk_drew ?_ | refine blk_alloc ?_ _)); exact BK372.out)) : gb394 ≠ gb372)); have n15_ := Aside0.mk ((by rw [hg]; exact Nat.ne_of_lt (blk_lt (g := gb376) (o := .cells #[.int .i64 a1_0, .slice Ao42 y380.length co42, .int .i64 a1_2, .int .i64 a1_3] 26 (0, 0)) (by (with_reducible repeat (first | refine blk_drewN ?_ _ | refine blk_drew ?_ | refine blk_alloc ?_ _)); exact BK376.out)) : gb376 ≠ gb394)); have n16_ := Aside0.mk ((by rw [hg]; exact Nat.ne_of_gt (blk_lt (g := gb376) (o := .cells #[.int .i64 a1_0, .slice Ao42 y380.length co42, .int .i64 a1_2, .int .i64 a1_3] 26 (0, 0)) (by (with_reducible repeat (first | refine blk_drewN ?_ _ | refine blk_drew ?_ | refine blk_alloc ?_ _)); exact BK376.out)) : gb394 ≠ gb376)); have n17_ := Aside0.mk ((by rw [hg]; exact Nat.ne_of_lt (blk_lt (g := gb391) (o := .cells #[.int .i64 t383, .slice Ao53 t384.length co53, .int .i64 t387, .int .i64 t388] 26 (0, 0)) (by (with_reducible repeat (first | refine blk_drewN ?_ _ | refine blk_drew ?_ | refine blk_alloc ?_ _)); exact BK391.out)) : gb391 ≠ gb394)); have n18_ := Aside0.mk ((by rw [hg]; exact Nat.ne_of_gt (blk_lt (g := gb391) (o := .cells #[.int .i64 t383, .slice Ao53 t384.length co53, .int .i64 t387, .int .i64 t388] 26 (0, 0)) (by (with_reducible repeat (first | refine blk_drewN ?_ _ | refine blk_drew ?_ | refine blk_alloc ?_ _)); exact BK391.out)) : gb394 ≠ gb391)); have n19_ := Aside0.mk ((by rw [hg]; exact Nat.ne_of_lt (blk_lt (g := gb392) (o := .cells #[.int .i64 t389, .bool t390] 31 (0, 0)) (by (with_reducible repeat (first | refine blk_drewN ?_ _ | refine blk_drew ?_ | refine blk_alloc ?_ _)); exact BK392.out)) : gb392 ≠ gb394)); have n20_ := Aside0.mk ((by rw [hg]; exact Nat.ne_of_gt (blk_lt (g := gb392) (o := .cells #[.int .i64 t389, .bool t390] 31 (0, 0)) (by (with_reducible repeat (first | refine blk_drewN ?_ _ | refine blk_drew ?_ | refine blk_alloc ?_ _)); exact BK392.out)) : gb394 ≠ gb392)); clear HO382; clear HO386; clear BK371; clear BK372; clear BK376; clear BK391; clear BK392; clear HB; have HO382 := n0_; have HO386 := n1_; have BK371 := n2_; have BK372 := n3_; have BK376 := n4_; have BK391 := n5_; have BK392 := n6_; have HB := n7_; have BK394 := n8_; have GW394 := n9_; have GE394 := n10_; have NB371_394 := n11_; have NB394_371 := n12_; have NB372_394 := n13_; have NB394_372 := n14_; have NB376_394 := n15_; have NB394_376 := n16_; have NB391_394 := n17_; have NB394_391 := n18_; have NB392_394 := n19_; have NB394_392 := n20_; clear n0_ n1_ n2_ n3_ n4_ n5_ n6_ n7_ n8_ n9_ n10_ n11_ n12_ n13_ n14_ n15_ n16_ n17_ n18_ n19_ n20_; clear hb hbox hg; have hnb63 := NB394_371.out; have hnc63 := NB371_394.out; have hnb64 := NB394_372.out; have hnc64 := NB372_394.out; have hnb65 := NB394_376.out; have hnc65 := NB376_394.out; have hnb66 := NB394_391.out; have hnc66 := NB391_394.out; have hnb67 := NB394_392.out; have hnc67 := NB392_394.out; have hcz68_0 : w62.cell? ⟨gb394, 0, none⟩ = some (.int .i64 0) := (blk_cell BK394.out 0).trans rfl; have hcz68_1 : w62.cell? ⟨gb394, 1, none⟩ = some (.slice none 0 0) := (blk_cell BK394.out 1).trans rfl; have hcz68_2 : w62.cell? ⟨gb394, 2, none⟩ = some (.int .i64 0) := (blk_cell BK394.out 2).trans rfl; have hcz68_3 : w62.cell? ⟨gb394, 3, none⟩ = some (.int .i64 0) := (blk_cell BK394.out 3).trans rfl; have hfz68_0 := blk_frozen BK394.out 0; have hfz68_1 := blk_frozen BK394.out 1; have hfz68_2 := blk_frozen BK394.out 2; have hfz68_3 := blk_frozen BK394.out 3) | ((with_reducible refine gate_dst (N := 50) rfl ?_); (try (refine gate_guard (by rfl) ?_; dsimp only)); refine Kd.R_lit (Kd.int .i64) _ 3 ?hg (N := 50) ?hd (xs := ([] : List Int)) (inner := []) (ok := fun _ => True) (okp := fun _ => True) ?hr ?hp (fun _ hk => hk) trivial (Below.refl _ _) (Nat.le_refl _) (by simp) ?_; (case hd => rfl); (case hg => rfl); (case hr => first | (go_simp; done) | (go_simp; rfl)); (case hp => exact (Reps.none _ _)); intro v396 w69 ho70 hb hg_ hnew_; clear hg_ hnew_; (first | rw [← Ny395.out] at ho70 | (simp only [Int.reduceToNat] at ho70; rw [← Ny395.out] at ho70)); have n0_ := Aside0.mk (Kd.R_elder' (by (with_reducible repeat (first | apply Kd.R_alloc | apply Kd.R_drewN | apply Kd.R_drew)); exact (Kd.R_mono (Kd.R_far (p := ⟨gb394, 3, none⟩) (Kd.R_far (p := ⟨gb394, 2, none⟩) (Kd.R_far (p := ⟨gb394, 1, none⟩) (Kd.R_far (p := ⟨gb394, 0, none⟩) (Kd.R_types HO382.out BK394.out (by decide)) (fun _ hk => hk.2) (.int .i64 t383)) (fun _ hk => hk.2) (.slice Ao53 t384.length co53)) (fun _ hk => hk.2) (.int .i64 t387)) (fun _ hk => hk.2) (.int .i64 t388)) (fun _ h_ => h_.1))) (Kd.R_base ho70) hb); have n1_ := Aside0.mk (Kd.Q_elder' (by (with_reducible repeat (first | apply Kd.Q_alloc | apply Kd.Q_drewN | apply Kd.Q_drew)); exact (Kd.Q_mono (Kd.Q_far (p := ⟨gb394, 3, none⟩) (Kd.Q_far (p := ⟨gb394, 2, none⟩) (Kd.Q_far (p := ⟨gb394, 1, none⟩) (Kd.Q_far (p := ⟨gb394, 0, none⟩) (Kd.Q_types HO386.out BK394.out (by decide)) (fun _ hk => hk.2) (.int .i64 t383)) (fun _ hk => hk.2) (.slice Ao53 t384.length co53)) (fun _ hk => hk.2) (.int .i64 t387)) (fun _ hk => hk.2) (.int .i64 t388)) (fun _ h_ => h_.1))) (Kd.R_base ho70) hb); have n2_ := Aside0.mk (Kd.R_lower (Kd.R_new' (Kd.R_new' ho70 (Kd.R_lt (by (with_reducible repeat (first | apply Kd.R_alloc | apply Kd.R_drewN | apply Kd.R_drew)); exact (Kd.R_mono (Kd.R_far (p := ⟨gb394, 3, none⟩) (Kd.R_far (p := ⟨gb394, 2, none⟩) (Kd.R_far (p := ⟨gb394, 1, none⟩) (Kd.R_far (p := ⟨gb394, 0, none⟩) (Kd.R_types HO382.out BK394.out (by decide)) (fun _ hk => hk.2) (.int .i64 t383)) (fun _ hk => hk.2) (.slice Ao53 t384.length co53)) (fun _ hk => hk.2) (.int .i64 t387)) (fun _ hk => hk.2) (.int .i64 t388)) (fun _ h_ => h_.1))))) (Kd.Q_lt (by (with_reducible repeat (first | apply Kd.Q_alloc | apply Kd.Q_drewN | apply Kd.Q_drew)); exact (Kd.Q_mono (Kd.Q_far (p := ⟨gb394, 3, none⟩) (Kd.Q_far (p := ⟨gb394, 2, none⟩) (Kd.Q_far (p := ⟨gb394, 1, none⟩) (Kd.Q_far (p := ⟨gb394, 0, none⟩) (Kd.Q_types HO386.out BK394.out (by decide)) (fun _ hk => hk.2) (.int .i64 t383)) (fun _ hk => hk.2) (.slice Ao53 t384.length co53)) (fun _ hk => hk.2) (.int .i64 t387)) (fun _ hk => hk.2) (.int .i64 t388)) (fun _ h_ => h_.1))))) (below_size (by repeat (first | (with_reducible first | exact HB.out | apply below_alloc | apply pw_below_drewN | apply below_drew1 | refine below_set ?_ GE371.out | refine below_set ?_ GE372.out | refine below_set ?_ GE376.out | refine below_set ?_ GE391.out | refine below_set ?_ GE392.out | refine below_set ?_ GE394.out) | exact HB.out)))); have n3_ := Aside0.mk (blk_below (g := gb371) (o := .cells #[.int .i64 a0_0, .int .i64 a0_1, .int .i64 a0_2, .int .i64 a0_3, .int .i64 a0_4, .int .i64 a0_5, .int .i64 a0_6, .int .i64 a0_7, .int .i64 a0_8, .int .i64 a0_9, .int .i64 a0_10, .int .i64 a0_11] 23 (0, 0)) (by (with_reducible repeat (first | refine blk_drewN ?_ _ | refine blk_drew ?_ | refine blk_alloc ?_ _)); refine blk_far ?_ NB371_394.out _; (with_reducible repeat (first | refine blk_drewN ?_ _ | refine blk_drew ?_ | refine blk_alloc ?_ _)); refine blk_far ?_ NB371_394.out _; (with_reducible repeat (first | refine blk_drewN ?_ _ | refine blk_drew ?_ | refine blk_alloc ?_ _)); refine blk_far ?_ NB371_394.out _; (with_reducible repeat (first | refine blk_drewN ?_ _ | refine blk_drew ?_ | refine blk_alloc ?_ _)); refine blk_far ?_ NB371_394.out _; (with_reducible repeat (first | refine blk_drewN ?_ _ | refine blk_drew ?_ | refine blk_alloc ?_ _)); exact BK371.out) hb); have n4_ := Aside0.mk (blk_below (g := gb372) (o := .cells #[.int .i64 a1_0, .slice A1_1 l1_1.length c1_1, .int .i64 a1_2, .int .i64 a1_3] 26 (0, 0)) (by (with_reducible repeat (first | refine blk_drewN ?_ _ | refine blk_drew ?_ | refine blk_alloc ?_ _)); refine blk_far ?_ NB372_394.out _; (with_reducible repeat (first | refine blk_drewN ?_ _ | refine blk_drew ?_ | refine blk_alloc ?_ _)); refine blk_far ?_ NB372_394.out _; (with_reducible repeat (first | refine blk_drewN ?_ _ | refine blk_drew ?_ | refine blk_alloc ?_ _)); refine blk_far ?_ NB372_394.out _; (with_reducible repeat (first | refine blk_drewN ?_ _ | refine blk_drew ?_ | refine blk_alloc ?_ _)); refine blk_far ?_ NB372_394.out _; (with_reducible repeat (first | refine blk_drewN ?_ _ | refine blk_drew ?_ | refine blk_alloc ?_ _)); exact BK372.out) hb); have n5_ := Aside0.mk (blk_below (g := gb376) (o := .cells #[.int .i64 a1_0, .slice Ao42 y380.length co42, .int .i64 a1_2, .int .i64 a1_3] 26 (0, 0)) (by (with_reducible repeat (first | refine blk_drewN ?_ _ | refine blk_drew ?_ | refine blk_alloc ?_ _)); refine blk_far ?_ NB376_394.out _; (with_reducible repeat (first | refine blk_drewN ?_ _ | refine blk_drew ?_ | refine blk_alloc ?_ _)); refine blk_far ?_ NB376_394.out _; (with_reducible repeat (first | refine blk_drewN ?_ _ | refine blk_drew ?_ | refine blk_alloc ?_ _)); refine blk_far ?_ NB376_394.out _; (with_reducible repeat (first | refine blk_drewN ?_ _ | refine blk_drew ?_ | refine blk_alloc ?_ _)); refine blk_far ?_ NB376_394.out _; (with_reducible repeat (first | refine blk_drewN ?_ _ | refine blk_drew ?_ | refine blk_alloc ?_ _)); exact BK376.out) hb); have n6_ := Aside0.mk (blk_below (g := gb391) (o := .cells #[.int .i64 t383, .slice Ao53 t384.length co53, .int .i64 t387, .int .i64 t388] 26 (0, 0)) (by (with_reducible repeat (first | refine blk_drewN ?_ _ | refine blk_drew ?_ | refine blk_alloc ?_ _)); refine blk_far ?_ NB391_394.out _; (with_reducible repeat (first | refine blk_drewN ?_ _ | refine blk_drew ?_ | refine blk_alloc ?_ _)); refine blk_far ?_ NB391_394.out _; (with_reducible repeat (first | refine blk_drewN ?_ _ | refine blk_drew ?_ | refine blk_alloc ?_ _)); refine blk_far ?_ NB391_394.out _; (with_reducible repeat (first | refine blk_drewN ?_ _ | refine blk_drew ?_ | refine blk_alloc ?_ _)); refine blk_far ?_ NB391_394.out _; (with_reducible repeat (first | refine blk_drewN ?_ _ | refine blk_drew ?_ | refine blk_alloc ?_ _)); exact BK391.out) hb); have n7_ := Aside0.mk (blk_below (g := gb392) (o := .cells #[.int .i64 t389, .bool t390] 31 (0, 0)) (by (with_reducible repeat (first | refine blk_drewN ?_ _ | refine blk_drew ?_ | refine blk_alloc ?_ _)); refine blk_far ?_ NB392_394.out _; (with_reducible repeat (first | refine blk_drewN ?_ _ | refine blk_drew ?_ | refine blk_alloc ?_ _)); refine blk_far ?_ NB392_394.out _; (with_reducible repeat (first | refine blk_drewN ?_ _ | refine blk_drew ?_ | refine blk_alloc ?_ _)); refine blk_far ?_ NB392_394.out _; (with_reducible repeat (first | refine blk_drewN ?_ _ | refine blk_drew ?_ | refine blk_alloc ?_ _)); refine blk_far ?_ NB392_394.out _; (with_reducible repeat (first | refine blk_drewN ?_ _ | refine blk_drew ?_ | refine blk_alloc ?_ _)); exact BK392.out) hb); have n8_ := Aside0.mk (blk_below (g := gb394) (o := .cells #[.int .i64 t383, .slice Ao53 t384.length co53, .int .i64 t387, .int .i64 t388] 26 (0, 0)) (by (with_reducible repeat (first | refine blk_drewN ?_ _ | refine blk_drew ?_ | refine blk_alloc ?_ _)); refine blk_put (cs := #[.int .i64 t383, .slice Ao53 t384.length co53, .int .i64 t387, .int .i64 0]) ?_ 3 _ rfl; (with_reducible repeat (first | refine blk_drewN ?_ _ | refine blk_drew ?_ | refine blk_alloc ?_ _)); refine blk_put (cs := #[.int .i64 t383, .slice Ao53 t384.length co53, .int .i64 0, .int .i64 0]) ?_ 2 _ rfl; (with_reducible repeat (first | refine blk_drewN ?_ _ | refine blk_drew ?_ | refine blk_alloc ?_ _)); refine blk_put (cs := #[.int .i64 t383, .slice none 0 0, .int .i64 0, .int .i64 0]) ?_ 1 _ rfl; (with_reducible repeat (first | refine blk_drewN ?_ _ | refine blk_drew ?_ | refine blk_alloc ?_ _)); refine blk_put (cs := #[.int .i64 0, .slice none 0 0, .int .i64 0, .int .i64 0]) ?_ 0 _ rfl; (with_reducible repeat (first | refine blk_drewN ?_ _ | refine blk_drew ?_ | refine blk_alloc ?_ _)); exact BK394.out) hb); have n9_ := Aside0.mk (below_step (by repeat (first | (with_reducible first | exact HB.out | apply below_alloc | apply pw_below_drewN | apply below_drew1 | refine below_set ?_ GE371.out | refine below_set ?_ GE372.out | refine below_set ?_ GE376.out | refine below_set ?_ GE391.out | refine below_set ?_ GE392.out | refine below_set ?_ GE394.out) | exact HB.out)) hb); clear HO382; clear HO386; clear BK371; clear BK372; clear BK376; clear BK391; clear BK392; clear BK394; clear HB; have HO382 := n0_; have HO386 := n1_; have HO397 := n2_; have BK371 := n3_; have BK372 := n4_; have BK376 := n5_; have BK391 := n6_; have BK392 := n7_; have BK394 := n8_; have HB := n9_; clear n0_ n1_ n2_ n3_ n4_ n5_ n6_ n7_ n8_ n9_; clear hb ho70; have hcz71_0 : w69.cell? ⟨gb391, 0, none⟩ = some (.int .i64 t383) := (blk_cell BK391.out 0).trans rfl; have hcz71_1 : w69.cell? ⟨gb391, 1, none⟩ = some (.slice Ao53 t384.length co53) := (blk_cell BK391.out 1).trans rfl; have hcz71_2 : w69.cell? ⟨gb391, 2, none⟩ = some (.int .i64 t387) := (blk_cell BK391.out 2).trans rfl; have hcz71_3 : w69.cell? ⟨gb391, 3, none⟩ = some (.int .i64 t388) := (blk_cell BK391.out 3).trans rfl; have hfz71_0 := blk_frozen BK391.out 0; have hfz71_1 := blk_frozen BK391.out 1; have hfz71_2 := blk_frozen BK391.out 2; have hfz71_3 := blk_frozen BK391.out 3) | ((with_reducible refine gate_builtin (b := .append) (xs := #[.tmp 50, .tmp 52]) rfl ?_); (try (refine gate_guard (by rfl) ?_; dsimp only)); at_builtin; refine Kd.R_append_rows (Kd.int .i64) (w0 := w) w.heap.size rfl (.tmp 50) (.tmp 52) 24 3 (.int .i64 0) 8 rfl Try.underlying24 info3 rfl (by decide) (by omega) v396 y395 t384 _ _ _ (fun k_ => some k_ ≠ (.slice Ao42 y380.length co42 : Value).ownBlock ∧ some k_ ≠ (.slice Ao53 t384.length co53 : Value).ownBlock) (fun _ => False) rfl rfl ?aO ?aR (fun _ _ h => h) (fun _ h => h.elim) ?aF ?aB ?aS ?aL ?_; (case aR => repeat (first | exact (Kd.Q_reads' HO386.out).2.2 | (with_reducible refine Kd.C_alloc ?_ _) | (with_reducible refine Kd.C_drewN ?_ _) | (with_reducible refine Kd.C_drew ?_))); (case aB => exact (by repeat (first | (with_reducible first | exact HB.out | apply below_alloc | apply pw_below_drewN | apply below_drew1 | refine below_set ?_ GE371.out | refine below_set ?_ GE372.out | refine below_set ?_ GE376.out | refine below_set ?_ GE391.out | refine below_set ?_ GE392.out | refine below_set ?_ GE394.out) | exact HB.out))); (case aF => exact (fun k_ hk => ⟨Kd.fresh' (Kd.R_lt (by (with_reducible repeat (first | apply Kd.R_alloc | apply Kd.R_drewN | apply Kd.R_drew)); exact HO382.out)) k_ hk, Kd.fresh' (Kd.Q_lt (by (with_reducible repeat (first | apply Kd.Q_alloc | apply Kd.Q_drewN | apply Kd.Q_drew)); exact HO386.out)) k_ hk⟩)); (case aO => exact (by (with_reducible repeat (first | apply Kd.R_alloc | apply Kd.R_drewN | apply Kd.R_drew)); exact Kd.R_mono HO397.out (fun _ hk => ⟨hk.1.2, hk.2⟩))); (case aS => exact (below_size (by repeat (first | (with_reducible first | exact HB.out | apply below_alloc | apply pw_below_drewN | apply below_drew1 | refine below_set ?_ GE371.out | refine below_set ?_ GE372.out | refine below_set ?_ GE376.out | refine below_set ?_ GE391.out | refine below_set ?_ GE392.out | refine below_set ?_ GE394.out) | exact HB.out)))); (case aL => have := LMc31.out; omega); intro v399 w72 ho hb hg hat; rw [← Ny398.out] at ho; have n0_ := Aside0.mk (blk_grown (g := gb371) (o := .cells #[.int .i64 a0_0, .int .i64 a0_1, .int .i64 a0_2, .int .i64 a0_3, .int .i64 a0_4, .int .i64 a0_5, .int .i64 a0_6, .int .i64 a0_7, .int .i64 a0_8, .int .i64 a0_9, .int .i64 a0_10, .int .i64 a0_11] 23 (0, 0)) (by (with_reducible repeat (first | refine blk_drewN ?_ _ | refine blk_drew ?_ | refine blk_alloc ?_ _)); exact BK371.out) hg (Kd.R_ne HO397.out BK371.out (by decide))); have n1_ := Aside0.mk (blk_grown (g := gb372) (o := .cells #[.int .i64 a1_0, .slice A1_1 l1_1.length c1_1, .int .i64 a1_2, .int .i64 a1_3] 26 (0, 0)) (by (with_reducible repeat (first | refine blk_drewN ?_ _ | refine blk_drew ?_ | refine blk_alloc ?_ _)); exact BK372.out) hg (Kd.R_ne HO397.out BK372.out (by decide))); have n2_ := Aside0.mk (blk_grown (g := gb376) (o := .cells #[.int .i64 a1_0, .slice Ao42 y380.length co42, .int .i64 a1_2, .int .i64 a1_3] 26 (0, 0)) (by (with_reducible repeat (first | refine blk_drewN ?_ _ | refine blk_drew ?_ | refine blk_alloc ?_ _)); exact BK376.out) hg (Kd.R_ne HO397.out BK376.out (by decide))); have n3_ := Aside0.mk (Kd.R_after (ok := (fun k_ => some k_ ≠ (.slice Ao53 t384.length co53 : Value).ownBlock)) (by (with_reducible repeat (first | apply Kd.R_alloc | apply Kd.R_drewN | apply Kd.R_drew)); exact Kd.R_mono HO382.out (fun _ hk => ⟨hk.1.2, hk.2⟩)) hg hat); have n4_ := Aside0.mk (Kd.Q_after (ok := (fun k_ => some k_ ≠ (.slice Ao42 y380.length co42 : Value).ownBlock)) (by (with_reducible repeat (first | apply Kd.Q_alloc | apply Kd.Q_drewN | apply Kd.Q_drew)); exact Kd.Q_mono HO386.out (fun _ hk => ⟨hk.1.2, hk.2⟩)) hg hat); have n5_ := Aside0.mk (blk_grown (g := gb391) (o := .cells #[.int .i64 t383, .slice Ao53 t384.length co53, .int .i64 t387, .int .i64 t388] 26 (0, 0)) (by (with_reducible repeat (first | refine blk_drewN ?_ _ | refine blk_drew ?_ | refine blk_alloc ?_ _)); exact BK391.out) hg (Kd.R_ne HO397.out BK391.out (by decide))); have n6_ := Aside0.mk (blk_grown (g := gb392) (o := .cells #[.int .i64 t389, .bool t390] 31 (0, 0)) (by (with_reducible repeat (first | refine blk_drewN ?_ _ | refine blk_drew ?_ | refine blk_alloc ?_ _)); exact BK392.out) hg (Kd.R_ne HO397.out BK392.out (by decide))); have n7_ := Aside0.mk (blk_grown (g := gb394) (o := .cells #[.int .i64 t383, .slice Ao53 t384.length co53, .int .i64 t387, .int .i64 t388] 26 (0, 0)) (by (with_reducible repeat (first | refine blk_drewN ?_ _ | refine blk_drew ?_ | refine blk_alloc ?_ _)); exact BK394.out) hg (Kd.R_ne HO397.out BK394.out (by decide))); have n8_ := Aside0.mk (hb); have n9_ := Aside0.mk (ho); clear BK371; clear BK372; clear BK376; clear HO382; clear HO386; clear BK391; clear BK392; clear BK394; clear HB; clear HO397; have BK371 := n0_; have BK372 := n1_; have BK376 := n2_; have HO382 := n3_; have HO386 := n4_; have BK391 := n5_; have BK392 := n6_; have BK394 := n7_; have HB := n8_; have HO400 := n9_; clear n0_ n1_ n2_ n3_ n4_ n5_ n6_ n7_ n8_ n9_; clear ho hb hg hat; obtain ⟨Ao73, co73, eo73⟩ := Kd.R_slice HO400.out; subst eo73; have hcz74_0 : w72.cell? ⟨gb394, 0, none⟩ = some (.int .i64 t383) := (blk_cell BK394.out 0).trans rfl; have hcz74_1 : w72.cell? ⟨gb394, 1, none⟩ = some (.slice Ao53 t384.length co53) := (blk_cell BK394.out 1).trans rfl; have hcz74_2 : w72.cell? ⟨gb394, 2, none⟩ = some (.int .i64 t387) := (blk_cell BK394.out 2).trans rfl; have hcz74_3 : w72.cell? ⟨gb394, 3, none⟩ = some (.int .i64 t388) := (blk_cell BK394.out 3).trans rfl; have hfz74_0 := blk_frozen BK394.out 0; have hfz74_1 := blk_frozen BK394.out 1; have hfz74_2 := blk_frozen BK394.out 2; have hfz74_3 := blk_frozen BK394.out 3))
              go_loopg [14] kj5 (fun kq v14 w' => ∃ (x14_2 : Int) (x377001_2 : List Int) (x392001_2 : List Int) (x395001_2 : List Int) (u377001 : Value) (u392001 : Value) (u395001 : Value), v14 = .int .i64 x14_2 ∧ Aside0 (governorlaw16_PlantOwn.l0 kq t373 x14_2 a1_0 x377001_2 a1_2 a1_3 t383 x392001_2 t387 t388 t383 x395001_2 t387 t388 = some r) ∧ Aside0 (kq ≤ kj5) ∧ Aside0 (Kd.Q (Kd.int .i64) 3 w' w.heap.size (fun k_ => some k_ ≠ (u392001 : Value).ownBlock ∧ some k_ ≠ (u395001 : Value).ownBlock) u377001 x377001_2) ∧ Aside0 (Kd.Q (Kd.int .i64) 3 w' w.heap.size (fun k_ => some k_ ≠ (u377001 : Value).ownBlock ∧ some k_ ≠ (u395001 : Value).ownBlock) u392001 x392001_2) ∧ Aside0 (Kd.Q (Kd.int .i64) 3 w' w.heap.size (fun k_ => some k_ ≠ (u377001 : Value).ownBlock ∧ some k_ ≠ (u392001 : Value).ownBlock) u395001 x395001_2) ∧ Aside0 (w'.heap[gb371]? = some (.cells #[.int .i64 a0_0, .int .i64 a0_1, .int .i64 a0_2, .int .i64 a0_3, .int .i64 a0_4, .int .i64 a0_5, .int .i64 a0_6, .int .i64 a0_7, .int .i64 a0_8, .int .i64 a0_9, .int .i64 a0_10, .int .i64 a0_11] 23 (0, 0))) ∧ Aside0 (w'.heap[gb372]? = some (.cells #[.int .i64 a1_0, (.slice A1_1 l1_1.length c1_1), .int .i64 a1_2, .int .i64 a1_3] 26 (0, 0))) ∧ Aside0 (w'.heap[gb376]? = some (.cells #[.int .i64 a1_0, u377001, .int .i64 a1_2, .int .i64 a1_3] 26 (0, 0))) ∧ Aside0 (w'.heap[gb391]? = some (.cells #[.int .i64 t383, u392001, .int .i64 t387, .int .i64 t388] 26 (0, 0))) ∧ Aside0 (w'.heap[gb392]? = some (.cells #[.int .i64 t389, .bool t390] 31 (0, 0))) ∧ Aside0 (w'.heap[gb394]? = some (.cells #[.int .i64 t383, u395001, .int .i64 t387, .int .i64 t388] 26 (0, 0))) ∧ Aside0 (Below w.heap.size w w'))
              case atStart => exact ⟨(0), (y380), (t384), (y398), (.slice Ao42 y380.length co42), (.slice Ao53 t384.length co53), (.slice Ao73 y398.length co73), (by first | rfl | (simp; done) | (simp [*]; done)), H', ⟨Nat.le_refl _⟩, ⟨Kd.Q_of_R (by (with_reducible repeat (first | apply Kd.R_alloc | apply Kd.R_drewN | apply Kd.R_drew)); exact Kd.R_mono (Kd.R_far (p := ⟨gb394, 1, none⟩) (Kd.R_types HO382.out BK394.out (by decide)) (fun _ hk => hk.2) (.slice Ao73 y398.length co73)) (fun _ hk => ⟨hk.1.1, hk.1.2⟩))⟩, ⟨by (with_reducible repeat (first | apply Kd.Q_alloc | apply Kd.Q_drewN | apply Kd.Q_drew)); exact Kd.Q_mono (Kd.Q_far (p := ⟨gb394, 1, none⟩) (Kd.Q_types HO386.out BK394.out (by decide)) (fun _ hk => hk.2) (.slice Ao73 y398.length co73)) (fun _ hk => ⟨hk.1.1, hk.1.2⟩)⟩, ⟨Kd.Q_of_R (by (with_reducible repeat (first | apply Kd.R_alloc | apply Kd.R_drewN | apply Kd.R_drew)); exact Kd.R_mono (Kd.R_far (p := ⟨gb394, 1, none⟩) (Kd.R_types HO400.out BK394.out (by decide)) (fun _ hk => hk.2) (.slice Ao73 y398.length co73)) (fun _ hk => ⟨hk.1.1, hk.1.2⟩))⟩, ⟨by (with_reducible repeat (first | refine blk_drewN ?_ _ | refine blk_drew ?_ | refine blk_alloc ?_ _)); refine blk_far ?_ NB371_394.out _; (with_reducible repeat (first | refine blk_drewN ?_ _ | refine blk_drew ?_ | refine blk_alloc ?_ _)); exact BK371.out⟩, ⟨by (with_reducible repeat (first | refine blk_drewN ?_ _ | refine blk_drew ?_ | refine blk_alloc ?_ _)); refine blk_far ?_ NB372_394.out _; (with_reducible repeat (first | refine blk_drewN ?_ _ | refine blk_drew ?_ | refine blk_alloc ?_ _)); exact BK372.out⟩, ⟨by (with_reducible repeat (first | refine blk_drewN ?_ _ | refine blk_drew ?_ | refine blk_alloc ?_ _)); refine blk_far ?_ NB376_394.out _; (with_reducible repeat (first | refine blk_drewN ?_ _ | refine blk_drew ?_ | refine blk_alloc ?_ _)); exact BK376.out⟩, ⟨by (with_reducible repeat (first | refine blk_drewN ?_ _ | refine blk_drew ?_ | refine blk_alloc ?_ _)); refine blk_far ?_ NB391_394.out _; (with_reducible repeat (first | refine blk_drewN ?_ _ | refine blk_drew ?_ | refine blk_alloc ?_ _)); exact BK391.out⟩, ⟨by (with_reducible repeat (first | refine blk_drewN ?_ _ | refine blk_drew ?_ | refine blk_alloc ?_ _)); refine blk_far ?_ NB392_394.out _; (with_reducible repeat (first | refine blk_drewN ?_ _ | refine blk_drew ?_ | refine blk_alloc ?_ _)); exact BK392.out⟩, ⟨by (with_reducible repeat (first | refine blk_drewN ?_ _ | refine blk_drew ?_ | refine blk_alloc ?_ _)); refine blk_put (cs := #[.int .i64 t383, .slice Ao53 t384.length co53, .int .i64 t387, .int .i64 t388]) ?_ 1 _ rfl; (with_reducible repeat (first | refine blk_drewN ?_ _ | refine blk_drew ?_ | refine blk_alloc ?_ _)); exact BK394.out⟩, ⟨by repeat (first | (with_reducible first | exact HB.out | apply below_alloc | apply pw_below_drewN | apply below_drew1 | refine below_set ?_ GE371.out | refine below_set ?_ GE372.out | refine below_set ?_ GE376.out | refine below_set ?_ GE391.out | refine below_set ?_ GE392.out | refine below_set ?_ GE394.out) | exact HB.out)⟩⟩
              case round =>
                clear H'
                try clear c1
                try clear c2
                try clear p2
                try clear c3
                try clear c4
                try clear c5
                try clear c6
                try clear c8
                try clear c11
                try clear c12
                try clear c12b0
                try clear c12b1
                try clear c13
                try clear c15
                try clear c16
                try clear c18
                try clear c20
                try clear c23
                try clear c26
                try clear c27
                try clear c30
                try clear c31
                try clear c32
                try clear c35
                try clear c36
                try clear c48
                try clear c49
                try clear c50
                try clear c51
                try clear c54
                try clear c55
                try clear c56
                try clear c63
                try clear c64
                try clear c65
                try clear c66
                try clear c67
                try clear hcz14_0
                try clear hcz14_1
                try clear hcz14_10
                try clear hcz14_11
                try clear hcz14_2
                try clear hcz14_3
                try clear hcz14_4
                try clear hcz14_5
                try clear hcz14_6
                try clear hcz14_7
                try clear hcz14_8
                try clear hcz14_9
                try clear hcz16_0
                try clear hcz16_1
                try clear hcz16_2
                try clear hcz16_3
                try clear hcz19_0
                try clear hcz19_1
                try clear hcz19_10
                try clear hcz19_11
                try clear hcz19_2
                try clear hcz19_3
                try clear hcz19_4
                try clear hcz19_5
                try clear hcz19_6
                try clear hcz19_7
                try clear hcz19_8
                try clear hcz19_9
                try clear hcz21_0
                try clear hcz21_1
                try clear hcz21_2
                try clear hcz21_3
                try clear hcz24_0
                try clear hcz24_1
                try clear hcz24_10
                try clear hcz24_11
                try clear hcz24_2
                try clear hcz24_3
                try clear hcz24_4
                try clear hcz24_5
                try clear hcz24_6
                try clear hcz24_7
                try clear hcz24_8
                try clear hcz24_9
                try clear hcz33_0
                try clear hcz33_1
                try clear hcz33_2
                try clear hcz33_3
                try clear hcz37_0
                try clear hcz37_1
                try clear hcz37_2
                try clear hcz37_3
                try clear hcz40_0
                try clear hcz40_1
                try clear hcz40_2
                try clear hcz40_3
                try clear hcz43_0
                try clear hcz43_1
                try clear hcz43_2
                try clear hcz43_3
                try clear hcz44_0
                try clear hcz44_1
                try clear hcz44_10
                try clear hcz44_11
                try clear hcz44_2
                try clear hcz44_3
                try clear hcz44_4
                try clear hcz44_5
                try clear hcz44_6
                try clear hcz44_7
                try clear hcz44_8
                try clear hcz44_9
                try clear hcz52_0
                try clear hcz52_1
                try clear hcz52_2
                try clear hcz52_3
                try clear hcz57_0
                try clear hcz57_1
                try clear hcz58_0
                try clear hcz58_1
                try clear hcz58_2
                try clear hcz58_3
                try clear hcz59_0
                try clear hcz59_1
                try clear hcz59_2
                try clear hcz59_3
                try clear hcz61_0
                try clear hcz61_1
                try clear hcz61_2
                try clear hcz61_3
                try clear hcz68_0
                try clear hcz68_1
                try clear hcz68_2
                try clear hcz68_3
                try clear hcz71_0
                try clear hcz71_1
                try clear hcz71_2
                try clear hcz71_3
                try clear hcz74_0
                try clear hcz74_1
                try clear hcz74_2
                try clear hcz74_3
                try clear hfz14_0
                try clear hfz14_1
                try clear hfz14_10
                try clear hfz14_11
                try clear hfz14_2
                try clear hfz14_3
                try clear hfz14_4
                try clear hfz14_5
                try clear hfz14_6
                try clear hfz14_7
                try clear hfz14_8
                try clear hfz14_9
                try clear hfz16_0
                try clear hfz16_1
                try clear hfz16_2
                try clear hfz16_3
                try clear hfz19_0
                try clear hfz19_1
                try clear hfz19_10
                try clear hfz19_11
                try clear hfz19_2
                try clear hfz19_3
                try clear hfz19_4
                try clear hfz19_5
                try clear hfz19_6
                try clear hfz19_7
                try clear hfz19_8
                try clear hfz19_9
                try clear hfz21_0
                try clear hfz21_1
                try clear hfz21_2
                try clear hfz21_3
                try clear hfz24_0
                try clear hfz24_1
                try clear hfz24_10
                try clear hfz24_11
                try clear hfz24_2
                try clear hfz24_3
                try clear hfz24_4
                try clear hfz24_5
                try clear hfz24_6
                try clear hfz24_7
                try clear hfz24_8
                try clear hfz24_9
                try clear hfz33_0
                try clear hfz33_1
                try clear hfz33_2
                try clear hfz33_3
                try clear hfz37_0
                try clear hfz37_1
                try clear hfz37_2
                try clear hfz37_3
                try clear hfz40_0
                try clear hfz40_1
                try clear hfz40_2
                try clear hfz40_3
                try clear hfz43_0
                try clear hfz43_1
                try clear hfz43_2
                try clear hfz43_3
                try clear hfz44_0
                try clear hfz44_1
                try clear hfz44_10
                try clear hfz44_11
                try clear hfz44_2
                try clear hfz44_3
                try clear hfz44_4
                try clear hfz44_5
                try clear hfz44_6
                try clear hfz44_7
                try clear hfz44_8
                try clear hfz44_9
                try clear hfz52_0
                try clear hfz52_1
                try clear hfz52_2
                try clear hfz52_3
                try clear hfz57_0
                try clear hfz57_1
                try clear hfz58_0
                try clear hfz58_1
                try clear hfz58_2
                try clear hfz58_3
                try clear hfz59_0
                try clear hfz59_1
                try clear hfz59_2
                try clear hfz59_3
                try clear hfz61_0
                try clear hfz61_1
                try clear hfz61_2
                try clear hfz61_3
                try clear hfz68_0
                try clear hfz68_1
                try clear hfz68_2
                try clear hfz68_3
                try clear hfz71_0
                try clear hfz71_1
                try clear hfz71_2
                try clear hfz71_3
                try clear hfz74_0
                try clear hfz74_1
                try clear hfz74_2
                try clear hfz74_3
                try clear p2
                obtain ⟨x14_2, x377001_2, x392001_2, x395001_2, u377001, u392001, u395001, rfl, HA, HK2, HO_377001, HO_392001, HO_395001, BK371, BK372, BK376, BK391, BK392, BK394, HB⟩ := hrel
                cases gk with
                | zero => exact absurd HA.out (by simp [governorlaw16_PlantOwn.l0])
                | succ k2 =>
                  have H := HA.out
                  clear HA
                  simp only [governorlaw16_PlantOwn.l0] at H
                  by_cases c75 : x14_2 < (x377001_2.length : Int)
                  · rw [if_pos c75] at H
                    have c75b0 : decide (x14_2 < (x377001_2.length : Int)) = true := decide_eq_true c75
                    clear c75
                    by_cases c76 : 0 ≤ x14_2
                    · rw [if_pos c76] at H
                      have c76b0 : decide (0 ≤ x14_2) = true := decide_eq_true c76
                      clear c76
                      obtain ⟨y401, hy401⟩ : ∃ y_ : List Int, y_ = (x377001_2.set (x14_2 : Int).toNat 999) := ⟨_, rfl⟩
                      replace H : (governorlaw16_PlantOwn.l0 k2 t373 (wrap64 (x14_2 + 1)) a1_0 y401 a1_2 a1_3 t383 x392001_2 t387 t388 t383 x395001_2 t387 t388) = some r := by first | (rw [hy401]; with_reducible exact H) | (have H2_ := (Option.bind_some _ _).symm.trans H; rw [hy401]; with_reducible exact H2_) | (have H2_ := (Option.bind_some _ _).symm.trans H; with_reducible exact H2_) | with_reducible exact H | (rw [hy401]; exact H) | exact H
                      have Ny401 := Aside0.mk hy401
                      clear hy401
                      have H' := Aside0.mk H
                      clear H
                      have hnb78 := NB376_371.out
                      have hnc78 := NB371_376.out
                      have hnb79 := NB376_372.out
                      have hnc79 := NB372_376.out
                      have hnb80 := NB376_391.out
                      have hnc80 := NB391_376.out
                      have hnb81 := NB376_392.out
                      have hnc81 := NB392_376.out
                      have hnb82 := NB376_394.out
                      have hnc82 := NB394_376.out
                      have hcz83_0 : wr.cell? ⟨gb376, 0, none⟩ = some (.int .i64 a1_0) := (blk_cell BK376.out 0).trans rfl
                      have hcz83_1 : wr.cell? ⟨gb376, 1, none⟩ = some (u377001) := (blk_cell BK376.out 1).trans rfl
                      have hcz83_2 : wr.cell? ⟨gb376, 2, none⟩ = some (.int .i64 a1_2) := (blk_cell BK376.out 2).trans rfl
                      have hcz83_3 : wr.cell? ⟨gb376, 3, none⟩ = some (.int .i64 a1_3) := (blk_cell BK376.out 3).trans rfl
                      have hfz83_0 := blk_frozen BK376.out 0
                      have hfz83_1 := blk_frozen BK376.out 1
                      have hfz83_2 := blk_frozen BK376.out 2
                      have hfz83_3 := blk_frozen BK376.out 3
                      obtain ⟨Ao84, co84, eo84, _⟩ := Kd.Q_slice HO_377001.out
                      subst eo84
                      have p77 : 0 ≤ (x14_2 : Int) := of_decide_eq_true (by first | (with_reducible assumption) | assumption)
                      have q77 : (x14_2 : Int) < ((x377001_2.length : Int) : Int) := of_decide_eq_true (by first | (with_reducible assumption) | assumption)
                      obtain ⟨go77, oo77, co77, eo77, gb77, gl77, cl77, HG77⟩ := Kd.Q_form HO_377001.out (by omega)
                      (first | cases eo77 | (injection eo77 with ea_ en_ ec_; (first | subst ea_ | (injection ea_ with ea_; subst ea_)); subst ec_; clear en_))
                      have GB77 := Aside0.mk gb77
                      have GG77 := Aside0.mk HG77
                      clear gb77 gl77 HG77
                      obtain ⟨hx77_0, hf77_0⟩ := Kd.Q_cell 0 HO_377001.out (x14_2 : Int) p77 q77
                      replace p77 := eq_true p77
                      replace q77 := eq_true q77
                      have HP85 := Kd.Q_putg HO_377001.out (x14_2 : Int) (of_decide_eq_true (by first | (with_reducible assumption) | assumption)) (by have h_ : (x14_2 : Int) < ((x377001_2.length : Int) : Int) := of_decide_eq_true (by first | (with_reducible assumption) | assumption); first | exact h_ | (have e_ := (Kd.Q_reads' HO_377001.out).1; omega) | simpa using h_) 999
                      go_wp2_with (first | ((with_reducible refine gate_store (t := 3) (p := 65) rfl ?_); refine store_event (t := 3) (p := 65) (v := ?vo_w86) (w1 := (wr.setCell ⟨go77, oo77 + (x14_2 : Int).toNat, none⟩ (.int .i64 999))) ?hg ?ho ?hn ?hr ?_; (case ho => rfl); (case hg => rfl); (case hn => rfl); (case hr => first | (go_simp; done) | (go_simp; rfl)); intro w86 hw; have hg : wr.grownBy w86 (some go77) := (by rw [hw]; exact HP85.2); have hp_ : Kd.Q (Kd.int .i64) 3 w86 w.heap.size (fun k_ => some k_ ≠ (u392001 : Value).ownBlock ∧ some k_ ≠ (u395001 : Value).ownBlock) (.slice (some ⟨go77, oo77, none⟩) x377001_2.length co84) y401 := (by rw [hw, Ny401.out]; exact HP85.1); clear HP85; have n0_ := Aside0.mk (hp_); have n1_ := Aside0.mk (Kd.Q_after (v := (.slice (some ⟨go77, oo77, none⟩) x377001_2.length co84)) (v1 := (.slice (some ⟨go77, oo77, none⟩) x377001_2.length co84)) (ok := (fun k_ => some k_ ≠ (u395001 : Value).ownBlock)) (by (with_reducible repeat (first | apply Kd.Q_alloc | apply Kd.Q_drewN | apply Kd.Q_drew)); exact Kd.Q_mono HO_392001.out (fun _ hk => ⟨hk.2, hk.1⟩)) hg (.inl rfl)); have n2_ := Aside0.mk (Kd.Q_after (v := (.slice (some ⟨go77, oo77, none⟩) x377001_2.length co84)) (v1 := (.slice (some ⟨go77, oo77, none⟩) x377001_2.length co84)) (ok := (fun k_ => some k_ ≠ (u392001 : Value).ownBlock)) (by (with_reducible repeat (first | apply Kd.Q_alloc | apply Kd.Q_drewN | apply Kd.Q_drew)); exact Kd.Q_mono HO_395001.out (fun _ hk => ⟨hk.2, hk.1⟩)) hg (.inl rfl)); have n3_ := Aside0.mk (blk_grown (g := gb371) (o := .cells #[.int .i64 a0_0, .int .i64 a0_1, .int .i64 a0_2, .int .i64 a0_3, .int .i64 a0_4, .int .i64 a0_5, .int .i64 a0_6, .int .i64 a0_7, .int .i64 a0_8, .int .i64 a0_9, .int .i64 a0_10, .int .i64 a0_11] 23 (0, 0)) (by (with_reducible repeat (first | refine blk_drewN ?_ _ | refine blk_drew ?_ | refine blk_alloc ?_ _)); exact BK371.out) hg (Kd.Q_ne HO_377001.out BK371.out (by decide))); have n4_ := Aside0.mk (blk_grown (g := gb372) (o := .cells #[.int .i64 a1_0, .slice A1_1 l1_1.length c1_1, .int .i64 a1_2, .int .i64 a1_3] 26 (0, 0)) (by (with_reducible repeat (first | refine blk_drewN ?_ _ | refine blk_drew ?_ | refine blk_alloc ?_ _)); exact BK372.out) hg (Kd.Q_ne HO_377001.out BK372.out (by decide))); have n5_ := Aside0.mk (blk_grown (g := gb376) (o := .cells #[.int .i64 a1_0, .slice (some ⟨go77, oo77, none⟩) x377001_2.length co84, .int .i64 a1_2, .int .i64 a1_3] 26 (0, 0)) (by (with_reducible repeat (first | refine blk_drewN ?_ _ | refine blk_drew ?_ | refine blk_alloc ?_ _)); exact BK376.out) hg (Kd.Q_ne HO_377001.out BK376.out (by decide))); have n6_ := Aside0.mk (blk_grown (g := gb391) (o := .cells #[.int .i64 t383, u392001, .int .i64 t387, .int .i64 t388] 26 (0, 0)) (by (with_reducible repeat (first | refine blk_drewN ?_ _ | refine blk_drew ?_ | refine blk_alloc ?_ _)); exact BK391.out) hg (Kd.Q_ne HO_377001.out BK391.out (by decide))); have n7_ := Aside0.mk (blk_grown (g := gb392) (o := .cells #[.int .i64 t389, .bool t390] 31 (0, 0)) (by (with_reducible repeat (first | refine blk_drewN ?_ _ | refine blk_drew ?_ | refine blk_alloc ?_ _)); exact BK392.out) hg (Kd.Q_ne HO_377001.out BK392.out (by decide))); have n8_ := Aside0.mk (blk_grown (g := gb394) (o := .cells #[.int .i64 t383, u395001, .int .i64 t387, .int .i64 t388] 26 (0, 0)) (by (with_reducible repeat (first | refine blk_drewN ?_ _ | refine blk_drew ?_ | refine blk_alloc ?_ _)); exact BK394.out) hg (Kd.Q_ne HO_377001.out BK394.out (by decide))); have n9_ := Aside0.mk ((by rw [hw]; exact below_set (HB.out) GB77.out : Below w.heap.size w w86)); clear HO_377001; clear HO_392001; clear HO_395001; clear BK371; clear BK372; clear BK376; clear BK391; clear BK392; clear BK394; clear HB; have HO_377001 := n0_; have HO_392001 := n1_; have HO_395001 := n2_; have BK371 := n3_; have BK372 := n4_; have BK376 := n5_; have BK391 := n6_; have BK392 := n7_; have BK394 := n8_; have HB := n9_; clear n0_ n1_ n2_ n3_ n4_ n5_ n6_ n7_ n8_ n9_; clear hg hw hp_))
                      go_roundg k2
                      case measure => have := HJ5.out; have := HK2.out; omega
                      case rel => exact ⟨(wrap64 (x14_2 + 1)), (y401), (x392001_2), (x395001_2), (.slice (some ⟨go77, oo77, none⟩) x377001_2.length co84), (u392001), (u395001), (by first | rfl | (simp; done) | (simp [*]; done)), H', ⟨by have := HJ5.out; have := HK2.out; omega⟩, ⟨by (with_reducible repeat (first | apply Kd.Q_alloc | apply Kd.Q_drewN | apply Kd.Q_drew)); exact HO_377001.out⟩, ⟨by (with_reducible repeat (first | apply Kd.Q_alloc | apply Kd.Q_drewN | apply Kd.Q_drew)); exact Kd.Q_mono HO_392001.out (fun _ hk => ⟨hk.2, hk.1⟩)⟩, ⟨by (with_reducible repeat (first | apply Kd.Q_alloc | apply Kd.Q_drewN | apply Kd.Q_drew)); exact Kd.Q_mono HO_395001.out (fun _ hk => ⟨hk.2, hk.1⟩)⟩, ⟨by (with_reducible repeat (first | refine blk_drewN ?_ _ | refine blk_drew ?_ | refine blk_alloc ?_ _)); exact BK371.out⟩, ⟨by (with_reducible repeat (first | refine blk_drewN ?_ _ | refine blk_drew ?_ | refine blk_alloc ?_ _)); exact BK372.out⟩, ⟨by (with_reducible repeat (first | refine blk_drewN ?_ _ | refine blk_drew ?_ | refine blk_alloc ?_ _)); exact BK376.out⟩, ⟨by (with_reducible repeat (first | refine blk_drewN ?_ _ | refine blk_drew ?_ | refine blk_alloc ?_ _)); exact BK391.out⟩, ⟨by (with_reducible repeat (first | refine blk_drewN ?_ _ | refine blk_drew ?_ | refine blk_alloc ?_ _)); exact BK392.out⟩, ⟨by (with_reducible repeat (first | refine blk_drewN ?_ _ | refine blk_drew ?_ | refine blk_alloc ?_ _)); exact BK394.out⟩, ⟨by repeat (first | (with_reducible first | exact HB.out | apply below_alloc | apply pw_below_drewN | apply below_drew1 | refine below_set ?_ GE371.out | refine below_set ?_ GE372.out | refine below_set ?_ GE376.out | refine below_set ?_ GE391.out | refine below_set ?_ GE392.out | refine below_set ?_ GE394.out) | exact HB.out)⟩⟩
                    · rw [if_neg c76] at H
                      exact absurd H (by simp)
                  · rw [if_neg c75] at H
                    have c75b0 : decide (x14_2 < (x377001_2.length : Int)) = false := decide_eq_false c75
                    clear c75
                    by_cases c87 : t373 = true
                    · subst c87
                      have H1 : ((governorref16_Same.f k2 t383 x392001_2 t387 t388 t383 x395001_2 t387 t388).bind fun t402 => (some t402)) = some r := by rw [if_pos rfl] at H; exact H
                      clear H
                      have H := H1
                      clear H1
                      replace H := Option.bind_eq_some_iff.mp H
                      obtain ⟨t402, A880, H⟩ := H
                      replace H : (some t402) = some r := H
                      have A88 := Aside0.mk A880
                      clear A880
                      obtain rfl := Option.some.inj H
                      have hnb89 := NB376_371.out
                      have hnc89 := NB371_376.out
                      have hnb90 := NB376_372.out
                      have hnc90 := NB372_376.out
                      have hnb91 := NB376_391.out
                      have hnc91 := NB391_376.out
                      have hnb92 := NB376_392.out
                      have hnc92 := NB392_376.out
                      have hnb93 := NB376_394.out
                      have hnc93 := NB394_376.out
                      have hcz94_0 : wr.cell? ⟨gb376, 0, none⟩ = some (.int .i64 a1_0) := (blk_cell BK376.out 0).trans rfl
                      have hcz94_1 : wr.cell? ⟨gb376, 1, none⟩ = some (u377001) := (blk_cell BK376.out 1).trans rfl
                      have hcz94_2 : wr.cell? ⟨gb376, 2, none⟩ = some (.int .i64 a1_2) := (blk_cell BK376.out 2).trans rfl
                      have hcz94_3 : wr.cell? ⟨gb376, 3, none⟩ = some (.int .i64 a1_3) := (blk_cell BK376.out 3).trans rfl
                      have hfz94_0 := blk_frozen BK376.out 0
                      have hfz94_1 := blk_frozen BK376.out 1
                      have hfz94_2 := blk_frozen BK376.out 2
                      have hfz94_3 := blk_frozen BK376.out 3
                      obtain ⟨Ao95, co95, eo95, _⟩ := Kd.Q_slice HO_377001.out
                      subst eo95
                      have hnb96 := NB391_371.out
                      have hnc96 := NB371_391.out
                      have hnb97 := NB391_372.out
                      have hnc97 := NB372_391.out
                      have hnb98 := NB391_392.out
                      have hnc98 := NB392_391.out
                      have hnb99 := NB391_394.out
                      have hnc99 := NB394_391.out
                      have hcz100_0 : wr.cell? ⟨gb391, 0, none⟩ = some (.int .i64 t383) := (blk_cell BK391.out 0).trans rfl
                      have hcz100_1 : wr.cell? ⟨gb391, 1, none⟩ = some (u392001) := (blk_cell BK391.out 1).trans rfl
                      have hcz100_2 : wr.cell? ⟨gb391, 2, none⟩ = some (.int .i64 t387) := (blk_cell BK391.out 2).trans rfl
                      have hcz100_3 : wr.cell? ⟨gb391, 3, none⟩ = some (.int .i64 t388) := (blk_cell BK391.out 3).trans rfl
                      have hfz100_0 := blk_frozen BK391.out 0
                      have hfz100_1 := blk_frozen BK391.out 1
                      have hfz100_2 := blk_frozen BK391.out 2
                      have hfz100_3 := blk_frozen BK391.out 3
                      have hnb101 := NB394_371.out
                      have hnc101 := NB371_394.out
                      have hnb102 := NB394_372.out
                      have hnc102 := NB372_394.out
                      have hnb103 := NB394_392.out
                      have hnc103 := NB392_394.out
                      have hcz104_0 : wr.cell? ⟨gb394, 0, none⟩ = some (.int .i64 t383) := (blk_cell BK394.out 0).trans rfl
                      have hcz104_1 : wr.cell? ⟨gb394, 1, none⟩ = some (u395001) := (blk_cell BK394.out 1).trans rfl
                      have hcz104_2 : wr.cell? ⟨gb394, 2, none⟩ = some (.int .i64 t387) := (blk_cell BK394.out 2).trans rfl
                      have hcz104_3 : wr.cell? ⟨gb394, 3, none⟩ = some (.int .i64 t388) := (blk_cell BK394.out 3).trans rfl
                      have hfz104_0 := blk_frozen BK394.out 0
                      have hfz104_1 := blk_frozen BK394.out 1
                      have hfz104_2 := blk_frozen BK394.out 2
                      have hfz104_3 := blk_frozen BK394.out 3
                      obtain ⟨Ao105, co105, eo105, _⟩ := Kd.Q_slice HO_392001.out
                      subst eo105
                      obtain ⟨Ao106, co106, eo106, _⟩ := Kd.Q_slice HO_395001.out
                      subst eo106
                      go_wp2_with (first | (go_at_call 20; (with_reducible refine (governorref16_Same.calls k2 t383 _ _ x392001_2 t387 t388 t383 _ _ x395001_2 t387 t388 t402 _ ?side1 ?side2 ?side3 ?side4 A88.out).mono ?_); (case side1 => repeat (first | exact (Kd.Q_reads' HO_392001.out).2.2 | (with_reducible refine Kd.C_alloc ?_ _) | (with_reducible refine Kd.C_drewN ?_ _) | (with_reducible refine Kd.C_drew ?_))); (case side2 => exact (Kd.Q_reads' HO_392001.out).2.1); (case side3 => repeat (first | exact (Kd.Q_reads' HO_395001.out).2.2 | (with_reducible refine Kd.C_alloc ?_ _) | (with_reducible refine Kd.C_drewN ?_ _) | (with_reducible refine Kd.C_drew ?_))); (case side4 => exact (Kd.Q_reads' HO_395001.out).2.1); rintro e w107 ⟨rfl, hb⟩; have n0_ := Aside0.mk (Kd.Q_below (by (with_reducible repeat (first | apply Kd.Q_alloc | apply Kd.Q_drewN | apply Kd.Q_drew)); exact HO_377001.out) hb); have n1_ := Aside0.mk (Kd.Q_below (by (with_reducible repeat (first | apply Kd.Q_alloc | apply Kd.Q_drewN | apply Kd.Q_drew)); exact HO_392001.out) hb); have n2_ := Aside0.mk (Kd.Q_below (by (with_reducible repeat (first | apply Kd.Q_alloc | apply Kd.Q_drewN | apply Kd.Q_drew)); exact HO_395001.out) hb); have n3_ := Aside0.mk (blk_below (g := gb371) (o := .cells #[.int .i64 a0_0, .int .i64 a0_1, .int .i64 a0_2, .int .i64 a0_3, .int .i64 a0_4, .int .i64 a0_5, .int .i64 a0_6, .int .i64 a0_7, .int .i64 a0_8, .int .i64 a0_9, .int .i64 a0_10, .int .i64 a0_11] 23 (0, 0)) (by (with_reducible repeat (first | refine blk_drewN ?_ _ | refine blk_drew ?_ | refine blk_alloc ?_ _)); exact BK371.out) hb); have n4_ := Aside0.mk (blk_below (g := gb372) (o := .cells #[.int .i64 a1_0, .slice A1_1 l1_1.length c1_1, .int .i64 a1_2, .int .i64 a1_3] 26 (0, 0)) (by (with_reducible repeat (first | refine blk_drewN ?_ _ | refine blk_drew ?_ | refine blk_alloc ?_ _)); exact BK372.out) hb); have n5_ := Aside0.mk (blk_below (g := gb376) (o := .cells #[.int .i64 a1_0, .slice Ao95 x377001_2.length co95, .int .i64 a1_2, .int .i64 a1_3] 26 (0, 0)) (by (with_reducible repeat (first | refine blk_drewN ?_ _ | refine blk_drew ?_ | refine blk_alloc ?_ _)); exact BK376.out) hb); have n6_ := Aside0.mk (blk_below (g := gb391) (o := .cells #[.int .i64 t383, .slice Ao105 x392001_2.length co105, .int .i64 t387, .int .i64 t388] 26 (0, 0)) (by (with_reducible repeat (first | refine blk_drewN ?_ _ | refine blk_drew ?_ | refine blk_alloc ?_ _)); exact BK391.out) hb); have n7_ := Aside0.mk (blk_below (g := gb392) (o := .cells #[.int .i64 t389, .bool t390] 31 (0, 0)) (by (with_reducible repeat (first | refine blk_drewN ?_ _ | refine blk_drew ?_ | refine blk_alloc ?_ _)); exact BK392.out) hb); have n8_ := Aside0.mk (blk_below (g := gb394) (o := .cells #[.int .i64 t383, .slice Ao106 x395001_2.length co106, .int .i64 t387, .int .i64 t388] 26 (0, 0)) (by (with_reducible repeat (first | refine blk_drewN ?_ _ | refine blk_drew ?_ | refine blk_alloc ?_ _)); exact BK394.out) hb); have n9_ := Aside0.mk (below_step (by repeat (first | (with_reducible first | exact HB.out | apply below_alloc | apply pw_below_drewN | apply below_drew1 | refine below_set ?_ GE371.out | refine below_set ?_ GE372.out | refine below_set ?_ GE376.out | refine below_set ?_ GE391.out | refine below_set ?_ GE392.out | refine below_set ?_ GE394.out) | exact HB.out)) hb); clear HO_377001; clear HO_392001; clear HO_395001; clear BK371; clear BK372; clear BK376; clear BK391; clear BK392; clear BK394; clear HB; have HO_377001 := n0_; have HO_392001 := n1_; have HO_395001 := n2_; have BK371 := n3_; have BK372 := n4_; have BK376 := n5_; have BK391 := n6_; have BK392 := n7_; have BK394 := n8_; have HB := n9_; clear n0_ n1_ n2_ n3_ n4_ n5_ n6_ n7_ n8_ n9_; (try clear hb); (try clear hb2); (try clear hk); (try clear hi)))
                      go_ret
                      exact ⟨by first | rfl | (simp [errW_none, errW_some] <;> rfl) | (simp [*, errW_none, errW_some] <;> rfl), by repeat (first | (with_reducible first | exact HB.out | apply below_alloc | apply pw_below_drewN | apply below_drew1 | refine below_set ?_ GE371.out | refine below_set ?_ GE372.out | refine below_set ?_ GE376.out | refine below_set ?_ GE391.out | refine below_set ?_ GE392.out | refine below_set ?_ GE394.out) | exact HB.out)⟩
                    · replace c87 := Bool.eq_false_iff.mpr c87
                      subst c87
                      have H1 : (some false) = some r := by rw [if_neg (show ¬ (false = true) by decide)] at H; exact H
                      clear H
                      have H := H1
                      clear H1
                      exact absurd (Option.some.inj H) (by rw [HRT.out]; decide)
            · rw [if_neg c31] at H
              exact absurd H (by simp)
          · replace c30 := Bool.eq_false_iff.mpr c30
            subst c30
            have H1 : (some false) = some r := by rw [if_neg (show ¬ (false = true) by decide)] at H; exact H
            clear H
            have H := H1
            clear H1
            exact absurd (Option.some.inj H) (by rw [HRT.out]; decide)
        · rw [if_neg c27] at H
          exact absurd H (by simp)

end Go.Proofs.Ytgeldfjpafimpaa.PAll
