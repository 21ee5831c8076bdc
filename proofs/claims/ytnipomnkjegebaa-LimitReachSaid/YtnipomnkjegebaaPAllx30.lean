-- laid by a program of this session (tprint.py) out of the translation and of texts typed by hand; Lean checks it
import Derived.Test.YtnipomnkjegebaaPAllx0
import Derived.Test.YtnipomnkjegebaaPAllx16
import Derived.Test.YtnipomnkjegebaaPAllx18
import Derived.Test.YtnipomnkjegebaaPAllx20
import Derived.Test.YtnipomnkjegebaaPAllx21
import Derived.Test.YtnipomnkjegebaaPAllx22
namespace Go.Proofs.Ytnipomnkjegebaa.PAll
open Go.RowKit Go.Proofs.YtnipomnkjegebaaW.PrintWords Go.Proofs.YtnipomnkjegebaaW.PrintLast Go.Proofs.YtnipomnkjegebaaW.PrintMore
attribute [local go_sem] max2_int min2_int max_two min_two max_three min_three max_four min_four   -- for this text's walks alone
set_option linter.unusedVariables false
set_option linter.unusedSimpArgs false

/-! ### governorlaw15_LimitReach: function 14 -/
mutual
def governorlaw15_LimitReach.j0 : Nat → Int → Bool → Bool → Int → Int → Int → Int → Int → Int → Int → Int → Int → Int → Int → Int → Int → Int → Bool → Option (Bool)
  | 0, _, _, _, _, _, _, _, _, _, _, _, _, _, _, _, _, _, _ => none
  | k + 1, x2, x7, x27, x333000, x333001, x333002, x333003, x333004, x333005, x333006, x333007, x333008, x333009, x333010, x333011, x334000, x334001, x334002 => if x27 = true then (some x7) else ((limit_Into.f x333000 x333001 x333002 x333003 x333004 x333005 x333006 x333007 x333008 x333009 x333010 x333011 x334000 x334001 x334002).bind fun bt337 => (governorlaw15_LimitReach.l0 k x2 x7 (mn (mx (wrap64 (x2)) x333000) x333001) x334001 0 x333000 x333001 x333002 x333003 x333004 x333005 x333006 x333007 x333008 x333009 x333010 x333011 bt337.1 bt337.2.1 bt337.2.2))
def governorlaw15_LimitReach.l0 : Nat → Int → Bool → Int → Int → Int → Int → Int → Int → Int → Int → Int → Int → Int → Int → Int → Int → Int → Int → Int → Bool → Option (Bool)
  | 0, _, _, _, _, _, _, _, _, _, _, _, _, _, _, _, _, _, _, _, _ => none
  | k + 1, x2, x7, x8, x10, x11, x333000, x333001, x333002, x333003, x333004, x333005, x333006, x333007, x333008, x333009, x333010, x333011, x341000, x341001, x341002 => if x11 < 1002 then ((limit_Next.f x333000 x333001 x333002 x333003 x333004 x333005 x333006 x333007 x333008 x333009 x333010 x333011 x341000 x341001 x341002 (wrap64 (x2)) (mn (wrap64 ((wrap64 (x10 + x333003)) + 1)) 1099511627776)).bind fun bt341 => (if bt341.1 = x341000 then (if x341000 = x8 then (governorlaw15_LimitReach.j2 k x2 x7 x8 (mn (wrap64 ((wrap64 (x10 + x333003)) + 1)) 1099511627776) x11 false x333000 x333001 x333002 x333003 x333004 x333005 x333006 x333007 x333008 x333009 x333010 x333011 x341000 x341001 x341002 bt341.1 bt341.2.1 bt341.2.2) else (governorlaw15_LimitReach.j2 k x2 x7 x8 (mn (wrap64 ((wrap64 (x10 + x333003)) + 1)) 1099511627776) x11 (decide ((mn (wrap64 ((wrap64 (x10 + x333003)) + 1)) 1099511627776) < 1099511627776)) x333000 x333001 x333002 x333003 x333004 x333005 x333006 x333007 x333008 x333009 x333010 x333011 x341000 x341001 x341002 bt341.1 bt341.2.1 bt341.2.2)) else (governorlaw15_LimitReach.j2 k x2 x7 x8 (mn (wrap64 ((wrap64 (x10 + x333003)) + 1)) 1099511627776) x11 false x333000 x333001 x333002 x333003 x333004 x333005 x333006 x333007 x333008 x333009 x333010 x333011 x341000 x341001 x341002 bt341.1 bt341.2.1 bt341.2.2))) else (if x7 = true then (if x341000 = x8 then (some true) else (some (x10 == 1099511627776))) else (some false))
def governorlaw15_LimitReach.j2 : Nat → Int → Bool → Int → Int → Int → Bool → Int → Int → Int → Int → Int → Int → Int → Int → Int → Int → Int → Int → Int → Int → Bool → Int → Int → Bool → Option (Bool)
  | 0, _, _, _, _, _, _, _, _, _, _, _, _, _, _, _, _, _, _, _, _, _, _, _, _ => none
  | k + 1, x2, x7, x8, x10, x11, x72, x333000, x333001, x333002, x333003, x333004, x333005, x333006, x333007, x333008, x333009, x333010, x333011, x341000, x341001, x341002, x345000, x345001, x345002 => if x72 = true then (some false) else (if x341000 = x8 then (if x345000 = x8 then (governorlaw15_LimitReach.l0 k x2 x7 x8 x10 (wrap64 (x11 + 1)) x333000 x333001 x333002 x333003 x333004 x333005 x333006 x333007 x333008 x333009 x333010 x333011 x345000 x345001 x345002) else (some false)) else (governorlaw15_LimitReach.l0 k x2 x7 x8 x10 (wrap64 (x11 + 1)) x333000 x333001 x333002 x333003 x333004 x333005 x333006 x333007 x333008 x333009 x333010 x333011 x345000 x345001 x345002))
end
def governorlaw15_LimitReach.f (k : Nat) (a0_0 : Int) (a0_1 : Int) (a0_2 : Int) (a0_3 : Int) (a0_4 : Int) (a0_5 : Int) (a0_6 : Int) (a0_7 : Int) (a0_8 : Int) (a0_9 : Int) (a0_10 : Int) (a0_11 : Int) (a1_0 : Int) (a1_1 : Int) (a1_2 : Bool) (a2 : Int) : Option (Bool) := (governorlaw15_head.f).bind fun t334 => ((governorref09_Conf.f a0_0 a0_1 a0_2 a0_3 a0_4 a0_5 a0_6 a0_7 a0_8 a0_9 a0_10 a0_11).bind fun t335 => (if t335 = true then ((governorlaw15_time.f a1_1).bind fun t336 => (if t336 = true then (governorlaw15_LimitReach.j0 k a2 t334 (decide (a0_3 > 1000)) a0_0 a0_1 a0_2 a0_3 a0_4 a0_5 a0_6 a0_7 a0_8 a0_9 a0_10 a0_11 a1_0 a1_1 a1_2) else (governorlaw15_LimitReach.j0 k a2 t334 true a0_0 a0_1 a0_2 a0_3 a0_4 a0_5 a0_6 a0_7 a0_8 a0_9 a0_10 a0_11 a1_0 a1_1 a1_2))) else (governorlaw15_LimitReach.j0 k a2 t334 true a0_0 a0_1 a0_2 a0_3 a0_4 a0_5 a0_6 a0_7 a0_8 a0_9 a0_10 a0_11 a1_0 a1_1 a1_2)))
theorem governorlaw15_LimitReach.mono_l : ∀ k, (∀ y0 y1 y2 y3 y4 y5 y6 y7 y8 y9 y10 y11 y12 y13 y14 y15 y16 y17, LeO (governorlaw15_LimitReach.j0 k y0 y1 y2 y3 y4 y5 y6 y7 y8 y9 y10 y11 y12 y13 y14 y15 y16 y17) (governorlaw15_LimitReach.j0 (k + 1) y0 y1 y2 y3 y4 y5 y6 y7 y8 y9 y10 y11 y12 y13 y14 y15 y16 y17)) ∧ (∀ y0 y1 y2 y3 y4 y5 y6 y7 y8 y9 y10 y11 y12 y13 y14 y15 y16 y17 y18 y19, LeO (governorlaw15_LimitReach.l0 k y0 y1 y2 y3 y4 y5 y6 y7 y8 y9 y10 y11 y12 y13 y14 y15 y16 y17 y18 y19) (governorlaw15_LimitReach.l0 (k + 1) y0 y1 y2 y3 y4 y5 y6 y7 y8 y9 y10 y11 y12 y13 y14 y15 y16 y17 y18 y19)) ∧ (∀ y0 y1 y2 y3 y4 y5 y6 y7 y8 y9 y10 y11 y12 y13 y14 y15 y16 y17 y18 y19 y20 y21 y22 y23, LeO (governorlaw15_LimitReach.j2 k y0 y1 y2 y3 y4 y5 y6 y7 y8 y9 y10 y11 y12 y13 y14 y15 y16 y17 y18 y19 y20 y21 y22 y23) (governorlaw15_LimitReach.j2 (k + 1) y0 y1 y2 y3 y4 y5 y6 y7 y8 y9 y10 y11 y12 y13 y14 y15 y16 y17 y18 y19 y20 y21 y22 y23))
  | 0 => ⟨fun _ _ _ _ _ _ _ _ _ _ _ _ _ _ _ _ _ _ r h => by simp [governorlaw15_LimitReach.j0] at h, fun _ _ _ _ _ _ _ _ _ _ _ _ _ _ _ _ _ _ _ _ r h => by simp [governorlaw15_LimitReach.l0] at h, fun _ _ _ _ _ _ _ _ _ _ _ _ _ _ _ _ _ _ _ _ _ _ _ _ r h => by simp [governorlaw15_LimitReach.j2] at h⟩
  | k + 1 => by
    obtain ⟨ih0, ih1, ih2⟩ := governorlaw15_LimitReach.mono_l k
    refine ⟨?_, ?_, ?_⟩
    · intro y0 y1 y2 y3 y4 y5 y6 y7 y8 y9 y10 y11 y12 y13 y14 y15 y16 y17
      unfold governorlaw15_LimitReach.j0
      repeat' first
      | (with_reducible exact ih0 _ _ _ _ _ _ _ _ _ _ _ _ _ _ _ _ _ _)
      | (with_reducible exact ih1 _ _ _ _ _ _ _ _ _ _ _ _ _ _ _ _ _ _ _ _)
      | (with_reducible exact ih2 _ _ _ _ _ _ _ _ _ _ _ _ _ _ _ _ _ _ _ _ _ _ _ _)
      | (with_reducible exact LeO.refl _)
      | (with_reducible exact LeO.none _)
      | (with_reducible refine LeO.ite ?_ ?_)
      | (with_reducible refine LeO.bind ?_ (fun _ => ?_))
      | exact ih0 _ _ _ _ _ _ _ _ _ _ _ _ _ _ _ _ _ _
      | exact ih1 _ _ _ _ _ _ _ _ _ _ _ _ _ _ _ _ _ _ _ _
      | exact ih2 _ _ _ _ _ _ _ _ _ _ _ _ _ _ _ _ _ _ _ _ _ _ _ _
      | exact LeO.none _
      | refine LeO.ite ?_ ?_
      | refine LeO.bind ?_ (fun _ => ?_)
    · intro y0 y1 y2 y3 y4 y5 y6 y7 y8 y9 y10 y11 y12 y13 y14 y15 y16 y17 y18 y19
      unfold governorlaw15_LimitReach.l0
      repeat' first
      | (with_reducible exact ih0 _ _ _ _ _ _ _ _ _ _ _ _ _ _ _ _ _ _)
      | (with_reducible exact ih1 _ _ _ _ _ _ _ _ _ _ _ _ _ _ _ _ _ _ _ _)
      | (with_reducible exact ih2 _ _ _ _ _ _ _ _ _ _ _ _ _ _ _ _ _ _ _ _ _ _ _ _)
      | (with_reducible exact LeO.refl _)
      | (with_reducible exact LeO.none _)
      | (with_reducible refine LeO.ite ?_ ?_)
      | (with_reducible refine LeO.bind ?_ (fun _ => ?_))
      | exact ih0 _ _ _ _ _ _ _ _ _ _ _ _ _ _ _ _ _ _
      | exact ih1 _ _ _ _ _ _ _ _ _ _ _ _ _ _ _ _ _ _ _ _
      | exact ih2 _ _ _ _ _ _ _ _ _ _ _ _ _ _ _ _ _ _ _ _ _ _ _ _
      | exact LeO.none _
      | refine LeO.ite ?_ ?_
      | refine LeO.bind ?_ (fun _ => ?_)
    · intro y0 y1 y2 y3 y4 y5 y6 y7 y8 y9 y10 y11 y12 y13 y14 y15 y16 y17 y18 y19 y20 y21 y22 y23
      unfold governorlaw15_LimitReach.j2
      repeat' first
      | (with_reducible exact ih0 _ _ _ _ _ _ _ _ _ _ _ _ _ _ _ _ _ _)
      | (with_reducible exact ih1 _ _ _ _ _ _ _ _ _ _ _ _ _ _ _ _ _ _ _ _)
      | (with_reducible exact ih2 _ _ _ _ _ _ _ _ _ _ _ _ _ _ _ _ _ _ _ _ _ _ _ _)
      | (with_reducible exact LeO.refl _)
      | (with_reducible exact LeO.none _)
      | (with_reducible refine LeO.ite ?_ ?_)
      | (with_reducible refine LeO.bind ?_ (fun _ => ?_))
      | exact ih0 _ _ _ _ _ _ _ _ _ _ _ _ _ _ _ _ _ _
      | exact ih1 _ _ _ _ _ _ _ _ _ _ _ _ _ _ _ _ _ _ _ _
      | exact ih2 _ _ _ _ _ _ _ _ _ _ _ _ _ _ _ _ _ _ _ _ _ _ _ _
      | exact LeO.none _
      | refine LeO.ite ?_ ?_
      | refine LeO.bind ?_ (fun _ => ?_)
theorem governorlaw15_LimitReach.mono : ∀ a0 a1 a2 a3 a4 a5 a6 a7 a8 a9 a10 a11 a12 a13 a14 a15 k, LeO (governorlaw15_LimitReach.f k a0 a1 a2 a3 a4 a5 a6 a7 a8 a9 a10 a11 a12 a13 a14 a15) (governorlaw15_LimitReach.f (k + 1) a0 a1 a2 a3 a4 a5 a6 a7 a8 a9 a10 a11 a12 a13 a14 a15) := by
  intro a0 a1 a2 a3 a4 a5 a6 a7 a8 a9 a10 a11 a12 a13 a14 a15 k
  obtain ⟨ih0, ih1, ih2⟩ := governorlaw15_LimitReach.mono_l k
  unfold governorlaw15_LimitReach.f
  repeat' first
      | (with_reducible exact ih0 _ _ _ _ _ _ _ _ _ _ _ _ _ _ _ _ _ _)
      | (with_reducible exact ih1 _ _ _ _ _ _ _ _ _ _ _ _ _ _ _ _ _ _ _ _)
      | (with_reducible exact ih2 _ _ _ _ _ _ _ _ _ _ _ _ _ _ _ _ _ _ _ _ _ _ _ _)
      | (with_reducible exact LeO.refl _)
      | (with_reducible exact LeO.none _)
      | (with_reducible refine LeO.ite ?_ ?_)
      | (with_reducible refine LeO.bind ?_ (fun _ => ?_))
      | exact ih0 _ _ _ _ _ _ _ _ _ _ _ _ _ _ _ _ _ _
      | exact ih1 _ _ _ _ _ _ _ _ _ _ _ _ _ _ _ _ _ _ _ _
      | exact ih2 _ _ _ _ _ _ _ _ _ _ _ _ _ _ _ _ _ _ _ _ _ _ _ _
      | exact LeO.none _
      | refine LeO.ite ?_ ?_
      | refine LeO.bind ?_ (fun _ => ?_)
set_option maxHeartbeats 8000000 in
set_option maxRecDepth 100000 in
theorem governorlaw15_LimitReach.calls (k : Nat) (a0_0 : Int) (a0_1 : Int) (a0_2 : Int) (a0_3 : Int) (a0_4 : Int) (a0_5 : Int) (a0_6 : Int) (a0_7 : Int) (a0_8 : Int) (a0_9 : Int) (a0_10 : Int) (a0_11 : Int) (a1_0 : Int) (a1_1 : Int) (a1_2 : Bool) (a2 : Int) (r : Bool) (w : World) (hrT : r = true) (h : governorlaw15_LimitReach.f k a0_0 a0_1 a0_2 a0_3 a0_4 a0_5 a0_6 a0_7 a0_8 a0_9 a0_10 a0_11 a1_0 a1_1 a1_2 a2 = some r) :
    Calls Try.prog 14 #[.agg #[.int .i64 a0_0, .int .i64 a0_1, .int .i64 a0_2, .int .i64 a0_3, .int .i64 a0_4, .int .i64 a0_5, .int .i64 a0_6, .int .i64 a0_7, .int .i64 a0_8, .int .i64 a0_9, .int .i64 a0_10, .int .i64 a0_11], .agg #[.int .i64 a1_0, .int .i64 a1_1, .bool a1_2], .int .i16 a2] w fun e w' => e = .returned (.bool r) ∧ Below w.heap.size w w' := by
  have hu37 := Try.underlying37
  have hu39 := Try.underlying39
  have HB := Aside0.mk (Below.refl w.heap.size w)
  have HRT := Aside0.mk hrT
  clear hrT
  have H : ((governorlaw15_head.f).bind fun t334 => ((governorref09_Conf.f a0_0 a0_1 a0_2 a0_3 a0_4 a0_5 a0_6 a0_7 a0_8 a0_9 a0_10 a0_11).bind fun t335 => (if t335 = true then ((governorlaw15_time.f a1_1).bind fun t336 => (if t336 = true then (governorlaw15_LimitReach.j0 k a2 t334 (decide (a0_3 > 1000)) a0_0 a0_1 a0_2 a0_3 a0_4 a0_5 a0_6 a0_7 a0_8 a0_9 a0_10 a0_11 a1_0 a1_1 a1_2) else (governorlaw15_LimitReach.j0 k a2 t334 true a0_0 a0_1 a0_2 a0_3 a0_4 a0_5 a0_6 a0_7 a0_8 a0_9 a0_10 a0_11 a1_0 a1_1 a1_2))) else (governorlaw15_LimitReach.j0 k a2 t334 true a0_0 a0_1 a0_2 a0_3 a0_4 a0_5 a0_6 a0_7 a0_8 a0_9 a0_10 a0_11 a1_0 a1_1 a1_2)))) = some r := h
  clear h
  replace H := Option.bind_eq_some_iff.mp H
  obtain ⟨t334, A40, H⟩ := H
  replace H : ((governorref09_Conf.f a0_0 a0_1 a0_2 a0_3 a0_4 a0_5 a0_6 a0_7 a0_8 a0_9 a0_10 a0_11).bind fun t335 => (if t335 = true then ((governorlaw15_time.f a1_1).bind fun t336 => (if t336 = true then (governorlaw15_LimitReach.j0 k a2 t334 (decide (a0_3 > 1000)) a0_0 a0_1 a0_2 a0_3 a0_4 a0_5 a0_6 a0_7 a0_8 a0_9 a0_10 a0_11 a1_0 a1_1 a1_2) else (governorlaw15_LimitReach.j0 k a2 t334 true a0_0 a0_1 a0_2 a0_3 a0_4 a0_5 a0_6 a0_7 a0_8 a0_9 a0_10 a0_11 a1_0 a1_1 a1_2))) else (governorlaw15_LimitReach.j0 k a2 t334 true a0_0 a0_1 a0_2 a0_3 a0_4 a0_5 a0_6 a0_7 a0_8 a0_9 a0_10 a0_11 a1_0 a1_1 a1_2))) = some r := H
  have A4 := Aside0.mk A40
  clear A40
  have HC5 := Aside0.mk H
  clear H
  go_enter Try.func14, Try.ntmps14
  go_upto_region 2 with (first | ((with_reducible refine gate_dst (N := 3) rfl ?_); refine box_event ?hg (N := 3) ?hd (cs := #[.int .i64 a0_0, .int .i64 a0_1, .int .i64 a0_2, .int .i64 a0_3, .int .i64 a0_4, .int .i64 a0_5, .int .i64 a0_6, .int .i64 a0_7, .int .i64 a0_8, .int .i64 a0_9, .int .i64 a0_10, .int .i64 a0_11]) (t := 37) ?hr ?_; (case hd => rfl); (case hg => rfl); (case hr => first | (go_simp; done) | (go_simp; rfl)); intro gb332 hg w6 hbox hb; have n0_ := Aside0.mk (below_step (by repeat (first | (with_reducible first | exact HB.out | apply below_alloc | apply pw_below_drewN | apply below_drew1) | exact HB.out)) hb); have n1_ := Aside0.mk (hbox); have n2_ := Aside0.mk ((by rw [hg]; exact (below_size (by repeat (first | (with_reducible first | exact HB.out | apply below_alloc | apply pw_below_drewN | apply below_drew1) | exact HB.out))) : w.heap.size ≤ gb332)); have n3_ := Aside0.mk ((by rw [hg]; exact (below_size (by repeat (first | (with_reducible first | exact HB.out | apply below_alloc | apply pw_below_drewN | apply below_drew1) | exact HB.out))) : w.heap.size ≤ gb332)); clear HB; have HB := n0_; have BK332 := n1_; have GW332 := n2_; have GE332 := n3_; clear n0_ n1_ n2_ n3_; clear hb hbox hg) | ((with_reducible refine gate_dst (N := 4) rfl ?_); refine box_event ?hg (N := 4) ?hd (cs := #[.int .i64 a1_0, .int .i64 a1_1, .bool a1_2]) (t := 39) ?hr ?_; (case hd => rfl); (case hg => rfl); (case hr => first | (go_simp; done) | (go_simp; rfl)); intro gb333 hg w7 hbox hb; have n0_ := Aside0.mk (blk_below (g := gb332) (o := .cells #[.int .i64 a0_0, .int .i64 a0_1, .int .i64 a0_2, .int .i64 a0_3, .int .i64 a0_4, .int .i64 a0_5, .int .i64 a0_6, .int .i64 a0_7, .int .i64 a0_8, .int .i64 a0_9, .int .i64 a0_10, .int .i64 a0_11] 37 (0, 0)) (by (with_reducible repeat (first | refine blk_drewN ?_ _ | refine blk_drew ?_ | refine blk_alloc ?_ _)); exact BK332.out) hb); have n1_ := Aside0.mk (below_step (by repeat (first | (with_reducible first | exact HB.out | apply below_alloc | apply pw_below_drewN | apply below_drew1 | refine below_set ?_ GE332.out) | exact HB.out)) hb); have n2_ := Aside0.mk (hbox); have n3_ := Aside0.mk ((by rw [hg]; exact (below_size (by repeat (first | (with_reducible first | exact HB.out | apply below_alloc | apply pw_below_drewN | apply below_drew1 | refine below_set ?_ GE332.out) | exact HB.out))) : w.heap.size ≤ gb333)); have n4_ := Aside0.mk ((by rw [hg]; exact (below_size (by repeat (first | (with_reducible first | exact HB.out | apply below_alloc | apply pw_below_drewN | apply below_drew1 | refine below_set ?_ GE332.out) | exact HB.out))) : w.heap.size ≤ gb333)); have n5_ := Aside0.mk ((by rw [hg]; exact Nat.ne_of_lt (blk_lt (g := gb332) (o := .cells #[.int .i64 a0_0, .int .i64 a0_1, .int .i64 a0_2, .int .i64 a0_3, .int .i64 a0_4, .int .i64 a0_5, .int .i64 a0_6, .int .i64 a0_7, .int .i64 a0_8, .int .i64 a0_9, .int .i64 a0_10, .int .i64 a0_11] 37 (0, 0)) (by (with_reducible repeat (first | refine blk_drewN ?_ _ | refine blk_drew ?_ | refine blk_alloc ?_ _)); exact BK332.out)) : gb332 ≠ gb333)); have n6_ := Aside0.mk ((by rw [hg]; exact Nat.ne_of_gt (blk_lt (g := gb332) (o := .cells #[.int .i64 a0_0, .int .i64 a0_1, .int .i64 a0_2, .int .i64 a0_3, .int .i64 a0_4, .int .i64 a0_5, .int .i64 a0_6, .int .i64 a0_7, .int .i64 a0_8, .int .i64 a0_9, .int .i64 a0_10, .int .i64 a0_11] 37 (0, 0)) (by (with_reducible repeat (first | refine blk_drewN ?_ _ | refine blk_drew ?_ | refine blk_alloc ?_ _)); exact BK332.out)) : gb333 ≠ gb332)); clear BK332; clear HB; have BK332 := n0_; have HB := n1_; have BK333 := n2_; have GW333 := n3_; have GE333 := n4_; have NB332_333 := n5_; have NB333_332 := n6_; clear n0_ n1_ n2_ n3_ n4_ n5_ n6_; clear hb hbox hg) | ((with_reducible refine gate_callee (f := 21) rfl ?_); refine goesL_ (some 13) rfl rfl Try.func21 (by kernel_rfl) rfl #[] rfl (by (try simp only [List.map_toArray, List.map_cons, List.map_nil]); first | done | rfl | (simp only [List.length_drop, List.length_take]; rfl)) ?_; (with_reducible refine (governorlaw15_head.calls  t334 _ A4.out).mono ?_); rintro e w8 ⟨rfl, hb⟩; refine ⟨_, rfl, ?_⟩; have n0_ := Aside0.mk (blk_below (g := gb332) (o := .cells #[.int .i64 a0_0, .int .i64 a0_1, .int .i64 a0_2, .int .i64 a0_3, .int .i64 a0_4, .int .i64 a0_5, .int .i64 a0_6, .int .i64 a0_7, .int .i64 a0_8, .int .i64 a0_9, .int .i64 a0_10, .int .i64 a0_11] 37 (0, 0)) (by (with_reducible repeat (first | refine blk_drewN ?_ _ | refine blk_drew ?_ | refine blk_alloc ?_ _)); exact BK332.out) hb); have n1_ := Aside0.mk (blk_below (g := gb333) (o := .cells #[.int .i64 a1_0, .int .i64 a1_1, .bool a1_2] 39 (0, 0)) (by (with_reducible repeat (first | refine blk_drewN ?_ _ | refine blk_drew ?_ | refine blk_alloc ?_ _)); exact BK333.out) hb); have n2_ := Aside0.mk (below_step (by repeat (first | (with_reducible first | exact HB.out | apply below_alloc | apply pw_below_drewN | apply below_drew1 | refine below_set ?_ GE332.out | refine below_set ?_ GE333.out) | exact HB.out)) hb); clear BK332; clear BK333; clear HB; have BK332 := n0_; have BK333 := n1_; have HB := n2_; clear n0_ n1_ n2_; (try clear hb); (try clear hb2); (try clear hk); (try clear hi)))
  (try simp only [Act.put, List.setIfInBounds_toArray, List.set_cons_zero, List.set_cons_succ])
  go_cut [27] (fun v27 wc => ∃ (kq : Nat) (x27_4 : Bool), v27 = .bool x27_4 ∧ Aside0 (governorlaw15_LimitReach.j0 kq a2 t334 x27_4 a0_0 a0_1 a0_2 a0_3 a0_4 a0_5 a0_6 a0_7 a0_8 a0_9 a0_10 a0_11 a1_0 a1_1 a1_2 = some r) ∧ Aside0 (kq ≤ k) ∧ Aside0 (wc.heap[gb332]? = some (.cells #[.int .i64 a0_0, .int .i64 a0_1, .int .i64 a0_2, .int .i64 a0_3, .int .i64 a0_4, .int .i64 a0_5, .int .i64 a0_6, .int .i64 a0_7, .int .i64 a0_8, .int .i64 a0_9, .int .i64 a0_10, .int .i64 a0_11] 37 (0, 0))) ∧ Aside0 (wc.heap[gb333]? = some (.cells #[.int .i64 a1_0, .int .i64 a1_1, .bool a1_2] 39 (0, 0))) ∧ Aside0 (Below w.heap.size w wc))
  case first =>
    have H := HC5.out
    clear HC5
    replace H := Option.bind_eq_some_iff.mp H
    obtain ⟨t335, A90, H⟩ := H
    replace H : (if t335 = true then ((governorlaw15_time.f a1_1).bind fun t336 => (if t336 = true then (governorlaw15_LimitReach.j0 k a2 t334 (decide (a0_3 > 1000)) a0_0 a0_1 a0_2 a0_3 a0_4 a0_5 a0_6 a0_7 a0_8 a0_9 a0_10 a0_11 a1_0 a1_1 a1_2) else (governorlaw15_LimitReach.j0 k a2 t334 true a0_0 a0_1 a0_2 a0_3 a0_4 a0_5 a0_6 a0_7 a0_8 a0_9 a0_10 a0_11 a1_0 a1_1 a1_2))) else (governorlaw15_LimitReach.j0 k a2 t334 true a0_0 a0_1 a0_2 a0_3 a0_4 a0_5 a0_6 a0_7 a0_8 a0_9 a0_10 a0_11 a1_0 a1_1 a1_2)) = some r := H
    have A9 := Aside0.mk A90
    clear A90
    by_cases c10 : t335 = true
    · subst c10
      have H1 : ((governorlaw15_time.f a1_1).bind fun t336 => (if t336 = true then (governorlaw15_LimitReach.j0 k a2 t334 (decide (a0_3 > 1000)) a0_0 a0_1 a0_2 a0_3 a0_4 a0_5 a0_6 a0_7 a0_8 a0_9 a0_10 a0_11 a1_0 a1_1 a1_2) else (governorlaw15_LimitReach.j0 k a2 t334 true a0_0 a0_1 a0_2 a0_3 a0_4 a0_5 a0_6 a0_7 a0_8 a0_9 a0_10 a0_11 a1_0 a1_1 a1_2))) = some r := by rw [if_pos rfl] at H; exact H
      clear H
      have H := H1
      clear H1
      replace H := Option.bind_eq_some_iff.mp H
      obtain ⟨t336, A110, H⟩ := H
      replace H : (if t336 = true then (governorlaw15_LimitReach.j0 k a2 t334 (decide (a0_3 > 1000)) a0_0 a0_1 a0_2 a0_3 a0_4 a0_5 a0_6 a0_7 a0_8 a0_9 a0_10 a0_11 a1_0 a1_1 a1_2) else (governorlaw15_LimitReach.j0 k a2 t334 true a0_0 a0_1 a0_2 a0_3 a0_4 a0_5 a0_6 a0_7 a0_8 a0_9 a0_10 a0_11 a1_0 a1_1 a1_2)) = some r := H
      have A11 := Aside0.mk A110
      clear A110
      by_cases c12 : t336 = true
      · subst c12
        have H1 : (governorlaw15_LimitReach.j0 k a2 t334 (decide (a0_3 > 1000)) a0_0 a0_1 a0_2 a0_3 a0_4 a0_5 a0_6 a0_7 a0_8 a0_9 a0_10 a0_11 a1_0 a1_1 a1_2) = some r := by rw [if_pos rfl] at H; exact H
        clear H
        have H := H1
        clear H1
        have H' := Aside0.mk H
        clear H
        have hnb13 := NB332_333.out
        have hnc13 := NB333_332.out
        have hcz14_0 : w8.cell? ⟨gb332, 0, none⟩ = some (.int .i64 a0_0) := (blk_cell BK332.out 0).trans rfl
        have hcz14_1 : w8.cell? ⟨gb332, 1, none⟩ = some (.int .i64 a0_1) := (blk_cell BK332.out 1).trans rfl
        have hcz14_2 : w8.cell? ⟨gb332, 2, none⟩ = some (.int .i64 a0_2) := (blk_cell BK332.out 2).trans rfl
        have hcz14_3 : w8.cell? ⟨gb332, 3, none⟩ = some (.int .i64 a0_3) := (blk_cell BK332.out 3).trans rfl
        have hcz14_4 : w8.cell? ⟨gb332, 4, none⟩ = some (.int .i64 a0_4) := (blk_cell BK332.out 4).trans rfl
        have hcz14_5 : w8.cell? ⟨gb332, 5, none⟩ = some (.int .i64 a0_5) := (blk_cell BK332.out 5).trans rfl
        have hcz14_6 : w8.cell? ⟨gb332, 6, none⟩ = some (.int .i64 a0_6) := (blk_cell BK332.out 6).trans rfl
        have hcz14_7 : w8.cell? ⟨gb332, 7, none⟩ = some (.int .i64 a0_7) := (blk_cell BK332.out 7).trans rfl
        have hcz14_8 : w8.cell? ⟨gb332, 8, none⟩ = some (.int .i64 a0_8) := (blk_cell BK332.out 8).trans rfl
        have hcz14_9 : w8.cell? ⟨gb332, 9, none⟩ = some (.int .i64 a0_9) := (blk_cell BK332.out 9).trans rfl
        have hcz14_10 : w8.cell? ⟨gb332, 10, none⟩ = some (.int .i64 a0_10) := (blk_cell BK332.out 10).trans rfl
        have hcz14_11 : w8.cell? ⟨gb332, 11, none⟩ = some (.int .i64 a0_11) := (blk_cell BK332.out 11).trans rfl
        have hfz14_0 := blk_frozen BK332.out 0
        have hfz14_1 := blk_frozen BK332.out 1
        have hfz14_2 := blk_frozen BK332.out 2
        have hfz14_3 := blk_frozen BK332.out 3
        have hfz14_4 := blk_frozen BK332.out 4
        have hfz14_5 := blk_frozen BK332.out 5
        have hfz14_6 := blk_frozen BK332.out 6
        have hfz14_7 := blk_frozen BK332.out 7
        have hfz14_8 := blk_frozen BK332.out 8
        have hfz14_9 := blk_frozen BK332.out 9
        have hfz14_10 := blk_frozen BK332.out 10
        have hfz14_11 := blk_frozen BK332.out 11
        go_wp2_with (first | ((with_reducible refine gate_callee (f := 22) rfl ?_); refine goesL_ (some 15) rfl rfl Try.func22 (by kernel_rfl) rfl #[.agg #[.int .i64 a0_0, .int .i64 a0_1, .int .i64 a0_2, .int .i64 a0_3, .int .i64 a0_4, .int .i64 a0_5, .int .i64 a0_6, .int .i64 a0_7, .int .i64 a0_8, .int .i64 a0_9, .int .i64 a0_10, .int .i64 a0_11]] rfl (by (try simp only [List.map_toArray, List.map_cons, List.map_nil]); first | done | rfl | (simp only [List.length_drop, List.length_take]; rfl)) ?_; (with_reducible refine (governorref09_Conf.calls a0_0 a0_1 a0_2 a0_3 a0_4 a0_5 a0_6 a0_7 a0_8 a0_9 a0_10 a0_11 true _ A9.out).mono ?_); rintro e w15 ⟨rfl, hb⟩; refine ⟨_, rfl, ?_⟩; have n0_ := Aside0.mk (blk_below (g := gb332) (o := .cells #[.int .i64 a0_0, .int .i64 a0_1, .int .i64 a0_2, .int .i64 a0_3, .int .i64 a0_4, .int .i64 a0_5, .int .i64 a0_6, .int .i64 a0_7, .int .i64 a0_8, .int .i64 a0_9, .int .i64 a0_10, .int .i64 a0_11] 37 (0, 0)) (by (with_reducible repeat (first | refine blk_drewN ?_ _ | refine blk_drew ?_ | refine blk_alloc ?_ _)); exact BK332.out) hb); have n1_ := Aside0.mk (blk_below (g := gb333) (o := .cells #[.int .i64 a1_0, .int .i64 a1_1, .bool a1_2] 39 (0, 0)) (by (with_reducible repeat (first | refine blk_drewN ?_ _ | refine blk_drew ?_ | refine blk_alloc ?_ _)); exact BK333.out) hb); have n2_ := Aside0.mk (below_step (by repeat (first | (with_reducible first | exact HB.out | apply below_alloc | apply pw_below_drewN | apply below_drew1 | refine below_set ?_ GE332.out | refine below_set ?_ GE333.out) | exact HB.out)) hb); clear BK332; clear BK333; clear HB; have BK332 := n0_; have BK333 := n1_; have HB := n2_; clear n0_ n1_ n2_; (try clear hb); (try clear hb2); (try clear hk); (try clear hi); have hcz16_0 : w15.cell? ⟨gb333, 0, none⟩ = some (.int .i64 a1_0) := (blk_cell BK333.out 0).trans rfl; have hcz16_1 : w15.cell? ⟨gb333, 1, none⟩ = some (.int .i64 a1_1) := (blk_cell BK333.out 1).trans rfl; have hcz16_2 : w15.cell? ⟨gb333, 2, none⟩ = some (.bool a1_2) := (blk_cell BK333.out 2).trans rfl; have hfz16_0 := blk_frozen BK333.out 0; have hfz16_1 := blk_frozen BK333.out 1; have hfz16_2 := blk_frozen BK333.out 2) | (go_at_call 23; (with_reducible refine (governorlaw15_time.calls a1_1 true _ A11.out).mono ?_); rintro e w' ⟨rfl, ⟨nd, rfl⟩⟩; have hcz17_0 : w15.cell? ⟨gb332, 0, none⟩ = some (.int .i64 a0_0) := (blk_cell BK332.out 0).trans rfl; have hcz17_1 : w15.cell? ⟨gb332, 1, none⟩ = some (.int .i64 a0_1) := (blk_cell BK332.out 1).trans rfl; have hcz17_2 : w15.cell? ⟨gb332, 2, none⟩ = some (.int .i64 a0_2) := (blk_cell BK332.out 2).trans rfl; have hcz17_3 : w15.cell? ⟨gb332, 3, none⟩ = some (.int .i64 a0_3) := (blk_cell BK332.out 3).trans rfl; have hcz17_4 : w15.cell? ⟨gb332, 4, none⟩ = some (.int .i64 a0_4) := (blk_cell BK332.out 4).trans rfl; have hcz17_5 : w15.cell? ⟨gb332, 5, none⟩ = some (.int .i64 a0_5) := (blk_cell BK332.out 5).trans rfl; have hcz17_6 : w15.cell? ⟨gb332, 6, none⟩ = some (.int .i64 a0_6) := (blk_cell BK332.out 6).trans rfl; have hcz17_7 : w15.cell? ⟨gb332, 7, none⟩ = some (.int .i64 a0_7) := (blk_cell BK332.out 7).trans rfl; have hcz17_8 : w15.cell? ⟨gb332, 8, none⟩ = some (.int .i64 a0_8) := (blk_cell BK332.out 8).trans rfl; have hcz17_9 : w15.cell? ⟨gb332, 9, none⟩ = some (.int .i64 a0_9) := (blk_cell BK332.out 9).trans rfl; have hcz17_10 : w15.cell? ⟨gb332, 10, none⟩ = some (.int .i64 a0_10) := (blk_cell BK332.out 10).trans rfl; have hcz17_11 : w15.cell? ⟨gb332, 11, none⟩ = some (.int .i64 a0_11) := (blk_cell BK332.out 11).trans rfl; have hfz17_0 := blk_frozen BK332.out 0; have hfz17_1 := blk_frozen BK332.out 1; have hfz17_2 := blk_frozen BK332.out 2; have hfz17_3 := blk_frozen BK332.out 3; have hfz17_4 := blk_frozen BK332.out 4; have hfz17_5 := blk_frozen BK332.out 5; have hfz17_6 := blk_frozen BK332.out 6; have hfz17_7 := blk_frozen BK332.out 7; have hfz17_8 := blk_frozen BK332.out 8; have hfz17_9 := blk_frozen BK332.out 9; have hfz17_10 := blk_frozen BK332.out 10; have hfz17_11 := blk_frozen BK332.out 11))
        go_meet
        case rel => exact ⟨_, (decide (a0_3 > 1000)), (by first | rfl | (simp; done) | (simp [*]; done)), H', ⟨by first | omega | exact Nat.le_refl _⟩, ⟨by (with_reducible repeat (first | refine blk_drewN ?_ _ | refine blk_drew ?_ | refine blk_alloc ?_ _)); exact BK332.out⟩, ⟨by (with_reducible repeat (first | refine blk_drewN ?_ _ | refine blk_drew ?_ | refine blk_alloc ?_ _)); exact BK333.out⟩, ⟨by repeat (first | (with_reducible first | exact HB.out | apply below_alloc | apply pw_below_drewN | apply below_drew1 | refine below_set ?_ GE332.out | refine below_set ?_ GE333.out) | exact HB.out)⟩⟩
      · replace c12 := Bool.eq_false_iff.mpr c12
        subst c12
        have H1 : (governorlaw15_LimitReach.j0 k a2 t334 true a0_0 a0_1 a0_2 a0_3 a0_4 a0_5 a0_6 a0_7 a0_8 a0_9 a0_10 a0_11 a1_0 a1_1 a1_2) = some r := by rw [if_neg (show ¬ (false = true) by decide)] at H; exact H
        clear H
        have H := H1
        clear H1
        have H' := Aside0.mk H
        clear H
        have hnb18 := NB332_333.out
        have hnc18 := NB333_332.out
        have hcz19_0 : w8.cell? ⟨gb332, 0, none⟩ = some (.int .i64 a0_0) := (blk_cell BK332.out 0).trans rfl
        have hcz19_1 : w8.cell? ⟨gb332, 1, none⟩ = some (.int .i64 a0_1) := (blk_cell BK332.out 1).trans rfl
        have hcz19_2 : w8.cell? ⟨gb332, 2, none⟩ = some (.int .i64 a0_2) := (blk_cell BK332.out 2).trans rfl
        have hcz19_3 : w8.cell? ⟨gb332, 3, none⟩ = some (.int .i64 a0_3) := (blk_cell BK332.out 3).trans rfl
        have hcz19_4 : w8.cell? ⟨gb332, 4, none⟩ = some (.int .i64 a0_4) := (blk_cell BK332.out 4).trans rfl
        have hcz19_5 : w8.cell? ⟨gb332, 5, none⟩ = some (.int .i64 a0_5) := (blk_cell BK332.out 5).trans rfl
        have hcz19_6 : w8.cell? ⟨gb332, 6, none⟩ = some (.int .i64 a0_6) := (blk_cell BK332.out 6).trans rfl
        have hcz19_7 : w8.cell? ⟨gb332, 7, none⟩ = some (.int .i64 a0_7) := (blk_cell BK332.out 7).trans rfl
        have hcz19_8 : w8.cell? ⟨gb332, 8, none⟩ = some (.int .i64 a0_8) := (blk_cell BK332.out 8).trans rfl
        have hcz19_9 : w8.cell? ⟨gb332, 9, none⟩ = some (.int .i64 a0_9) := (blk_cell BK332.out 9).trans rfl
        have hcz19_10 : w8.cell? ⟨gb332, 10, none⟩ = some (.int .i64 a0_10) := (blk_cell BK332.out 10).trans rfl
        have hcz19_11 : w8.cell? ⟨gb332, 11, none⟩ = some (.int .i64 a0_11) := (blk_cell BK332.out 11).trans rfl
        have hfz19_0 := blk_frozen BK332.out 0
        have hfz19_1 := blk_frozen BK332.out 1
        have hfz19_2 := blk_frozen BK332.out 2
        have hfz19_3 := blk_frozen BK332.out 3
        have hfz19_4 := blk_frozen BK332.out 4
        have hfz19_5 := blk_frozen BK332.out 5
        have hfz19_6 := blk_frozen BK332.out 6
        have hfz19_7 := blk_frozen BK332.out 7
        have hfz19_8 := blk_frozen BK332.out 8
        have hfz19_9 := blk_frozen BK332.out 9
        have hfz19_10 := blk_frozen BK332.out 10
        have hfz19_11 := blk_frozen BK332.out 11
        go_wp2_with (first | ((with_reducible refine gate_callee (f := 22) rfl ?_); refine goesL_ (some 15) rfl rfl Try.func22 (by kernel_rfl) rfl #[.agg #[.int .i64 a0_0, .int .i64 a0_1, .int .i64 a0_2, .int .i64 a0_3, .int .i64 a0_4, .int .i64 a0_5, .int .i64 a0_6, .int .i64 a0_7, .int .i64 a0_8, .int .i64 a0_9, .int .i64 a0_10, .int .i64 a0_11]] rfl (by (try simp only [List.map_toArray, List.map_cons, List.map_nil]); first | done | rfl | (simp only [List.length_drop, List.length_take]; rfl)) ?_; (with_reducible refine (governorref09_Conf.calls a0_0 a0_1 a0_2 a0_3 a0_4 a0_5 a0_6 a0_7 a0_8 a0_9 a0_10 a0_11 true _ A9.out).mono ?_); rintro e w20 ⟨rfl, hb⟩; refine ⟨_, rfl, ?_⟩; have n0_ := Aside0.mk (blk_below (g := gb332) (o := .cells #[.int .i64 a0_0, .int .i64 a0_1, .int .i64 a0_2, .int .i64 a0_3, .int .i64 a0_4, .int .i64 a0_5, .int .i64 a0_6, .int .i64 a0_7, .int .i64 a0_8, .int .i64 a0_9, .int .i64 a0_10, .int .i64 a0_11] 37 (0, 0)) (by (with_reducible repeat (first | refine blk_drewN ?_ _ | refine blk_drew ?_ | refine blk_alloc ?_ _)); exact BK332.out) hb); have n1_ := Aside0.mk (blk_below (g := gb333) (o := .cells #[.int .i64 a1_0, .int .i64 a1_1, .bool a1_2] 39 (0, 0)) (by (with_reducible repeat (first | refine blk_drewN ?_ _ | refine blk_drew ?_ | refine blk_alloc ?_ _)); exact BK333.out) hb); have n2_ := Aside0.mk (below_step (by repeat (first | (with_reducible first | exact HB.out | apply below_alloc | apply pw_below_drewN | apply below_drew1 | refine below_set ?_ GE332.out | refine below_set ?_ GE333.out) | exact HB.out)) hb); clear BK332; clear BK333; clear HB; have BK332 := n0_; have BK333 := n1_; have HB := n2_; clear n0_ n1_ n2_; (try clear hb); (try clear hb2); (try clear hk); (try clear hi); have hcz21_0 : w20.cell? ⟨gb333, 0, none⟩ = some (.int .i64 a1_0) := (blk_cell BK333.out 0).trans rfl; have hcz21_1 : w20.cell? ⟨gb333, 1, none⟩ = some (.int .i64 a1_1) := (blk_cell BK333.out 1).trans rfl; have hcz21_2 : w20.cell? ⟨gb333, 2, none⟩ = some (.bool a1_2) := (blk_cell BK333.out 2).trans rfl; have hfz21_0 := blk_frozen BK333.out 0; have hfz21_1 := blk_frozen BK333.out 1; have hfz21_2 := blk_frozen BK333.out 2) | (go_at_call 23; (with_reducible refine (governorlaw15_time.calls a1_1 false _ A11.out).mono ?_); rintro e w' ⟨rfl, ⟨nd, rfl⟩⟩))
        go_meet
        case rel => exact ⟨_, (true), (by first | rfl | (simp; done) | (simp [*]; done)), H', ⟨by first | omega | exact Nat.le_refl _⟩, ⟨by (with_reducible repeat (first | refine blk_drewN ?_ _ | refine blk_drew ?_ | refine blk_alloc ?_ _)); exact BK332.out⟩, ⟨by (with_reducible repeat (first | refine blk_drewN ?_ _ | refine blk_drew ?_ | refine blk_alloc ?_ _)); exact BK333.out⟩, ⟨by repeat (first | (with_reducible first | exact HB.out | apply below_alloc | apply pw_below_drewN | apply below_drew1 | refine below_set ?_ GE332.out | refine below_set ?_ GE333.out) | exact HB.out)⟩⟩
    · replace c10 := Bool.eq_false_iff.mpr c10
      subst c10
      have H1 : (governorlaw15_LimitReach.j0 k a2 t334 true a0_0 a0_1 a0_2 a0_3 a0_4 a0_5 a0_6 a0_7 a0_8 a0_9 a0_10 a0_11 a1_0 a1_1 a1_2) = some r := by rw [if_neg (show ¬ (false = true) by decide)] at H; exact H
      clear H
      have H := H1
      clear H1
      have H' := Aside0.mk H
      clear H
      have hnb22 := NB332_333.out
      have hnc22 := NB333_332.out
      have hcz23_0 : w8.cell? ⟨gb332, 0, none⟩ = some (.int .i64 a0_0) := (blk_cell BK332.out 0).trans rfl
      have hcz23_1 : w8.cell? ⟨gb332, 1, none⟩ = some (.int .i64 a0_1) := (blk_cell BK332.out 1).trans rfl
      have hcz23_2 : w8.cell? ⟨gb332, 2, none⟩ = some (.int .i64 a0_2) := (blk_cell BK332.out 2).trans rfl
      have hcz23_3 : w8.cell? ⟨gb332, 3, none⟩ = some (.int .i64 a0_3) := (blk_cell BK332.out 3).trans rfl
      have hcz23_4 : w8.cell? ⟨gb332, 4, none⟩ = some (.int .i64 a0_4) := (blk_cell BK332.out 4).trans rfl
      have hcz23_5 : w8.cell? ⟨gb332, 5, none⟩ = some (.int .i64 a0_5) := (blk_cell BK332.out 5).trans rfl
      have hcz23_6 : w8.cell? ⟨gb332, 6, none⟩ = some (.int .i64 a0_6) := (blk_cell BK332.out 6).trans rfl
      have hcz23_7 : w8.cell? ⟨gb332, 7, none⟩ = some (.int .i64 a0_7) := (blk_cell BK332.out 7).trans rfl
      have hcz23_8 : w8.cell? ⟨gb332, 8, none⟩ = some (.int .i64 a0_8) := (blk_cell BK332.out 8).trans rfl
      have hcz23_9 : w8.cell? ⟨gb332, 9, none⟩ = some (.int .i64 a0_9) := (blk_cell BK332.out 9).trans rfl
      have hcz23_10 : w8.cell? ⟨gb332, 10, none⟩ = some (.int .i64 a0_10) := (blk_cell BK332.out 10).trans rfl
      have hcz23_11 : w8.cell? ⟨gb332, 11, none⟩ = some (.int .i64 a0_11) := (blk_cell BK332.out 11).trans rfl
      have hfz23_0 := blk_frozen BK332.out 0
      have hfz23_1 := blk_frozen BK332.out 1
      have hfz23_2 := blk_frozen BK332.out 2
      have hfz23_3 := blk_frozen BK332.out 3
      have hfz23_4 := blk_frozen BK332.out 4
      have hfz23_5 := blk_frozen BK332.out 5
      have hfz23_6 := blk_frozen BK332.out 6
      have hfz23_7 := blk_frozen BK332.out 7
      have hfz23_8 := blk_frozen BK332.out 8
      have hfz23_9 := blk_frozen BK332.out 9
      have hfz23_10 := blk_frozen BK332.out 10
      have hfz23_11 := blk_frozen BK332.out 11
      go_wp2_with (first | ((with_reducible refine gate_callee (f := 22) rfl ?_); refine goesL_ (some 15) rfl rfl Try.func22 (by kernel_rfl) rfl #[.agg #[.int .i64 a0_0, .int .i64 a0_1, .int .i64 a0_2, .int .i64 a0_3, .int .i64 a0_4, .int .i64 a0_5, .int .i64 a0_6, .int .i64 a0_7, .int .i64 a0_8, .int .i64 a0_9, .int .i64 a0_10, .int .i64 a0_11]] rfl (by (try simp only [List.map_toArray, List.map_cons, List.map_nil]); first | done | rfl | (simp only [List.length_drop, List.length_take]; rfl)) ?_; (with_reducible refine (governorref09_Conf.calls a0_0 a0_1 a0_2 a0_3 a0_4 a0_5 a0_6 a0_7 a0_8 a0_9 a0_10 a0_11 false _ A9.out).mono ?_); rintro e w24 ⟨rfl, hb⟩; refine ⟨_, rfl, ?_⟩; have n0_ := Aside0.mk (blk_below (g := gb332) (o := .cells #[.int .i64 a0_0, .int .i64 a0_1, .int .i64 a0_2, .int .i64 a0_3, .int .i64 a0_4, .int .i64 a0_5, .int .i64 a0_6, .int .i64 a0_7, .int .i64 a0_8, .int .i64 a0_9, .int .i64 a0_10, .int .i64 a0_11] 37 (0, 0)) (by (with_reducible repeat (first | refine blk_drewN ?_ _ | refine blk_drew ?_ | refine blk_alloc ?_ _)); exact BK332.out) hb); have n1_ := Aside0.mk (blk_below (g := gb333) (o := .cells #[.int .i64 a1_0, .int .i64 a1_1, .bool a1_2] 39 (0, 0)) (by (with_reducible repeat (first | refine blk_drewN ?_ _ | refine blk_drew ?_ | refine blk_alloc ?_ _)); exact BK333.out) hb); have n2_ := Aside0.mk (below_step (by repeat (first | (with_reducible first | exact HB.out | apply below_alloc | apply pw_below_drewN | apply below_drew1 | refine below_set ?_ GE332.out | refine below_set ?_ GE333.out) | exact HB.out)) hb); clear BK332; clear BK333; clear HB; have BK332 := n0_; have BK333 := n1_; have HB := n2_; clear n0_ n1_ n2_; (try clear hb); (try clear hb2); (try clear hk); (try clear hi)))
      go_meet
      case rel => exact ⟨_, (true), (by first | rfl | (simp; done) | (simp [*]; done)), H', ⟨by first | omega | exact Nat.le_refl _⟩, ⟨by (with_reducible repeat (first | refine blk_drewN ?_ _ | refine blk_drew ?_ | refine blk_alloc ?_ _)); exact BK332.out⟩, ⟨by (with_reducible repeat (first | refine blk_drewN ?_ _ | refine blk_drew ?_ | refine blk_alloc ?_ _)); exact BK333.out⟩, ⟨by repeat (first | (with_reducible first | exact HB.out | apply below_alloc | apply pw_below_drewN | apply below_drew1 | refine below_set ?_ GE332.out | refine below_set ?_ GE333.out) | exact HB.out)⟩⟩
  case rest =>
    clear HC5
    try clear c1
    try clear c2
    try clear p2
    try clear c10
    try clear c12
    try clear c13
    try clear c14
    try clear c18
    try clear c21
    try clear c22
    try clear hcz14_0
    try clear hcz14_1
    try clear hcz14_10
    try clear hcz14_11
    try clear hcz14_2
    try clear hcz14_3
    try clear hcz14_4
    try clear hcz14_5
    try clear hcz14_6
    try clear hcz14_7
    try clear hcz14_8
    try clear hcz14_9
    try clear hcz16_0
    try clear hcz16_1
    try clear hcz16_2
    try clear hcz17_0
    try clear hcz17_1
    try clear hcz17_10
    try clear hcz17_11
    try clear hcz17_2
    try clear hcz17_3
    try clear hcz17_4
    try clear hcz17_5
    try clear hcz17_6
    try clear hcz17_7
    try clear hcz17_8
    try clear hcz17_9
    try clear hcz19_0
    try clear hcz19_1
    try clear hcz19_10
    try clear hcz19_11
    try clear hcz19_2
    try clear hcz19_3
    try clear hcz19_4
    try clear hcz19_5
    try clear hcz19_6
    try clear hcz19_7
    try clear hcz19_8
    try clear hcz19_9
    try clear hcz21_0
    try clear hcz21_1
    try clear hcz21_2
    try clear hcz23_0
    try clear hcz23_1
    try clear hcz23_10
    try clear hcz23_11
    try clear hcz23_2
    try clear hcz23_3
    try clear hcz23_4
    try clear hcz23_5
    try clear hcz23_6
    try clear hcz23_7
    try clear hcz23_8
    try clear hcz23_9
    try clear hfz14_0
    try clear hfz14_1
    try clear hfz14_10
    try clear hfz14_11
    try clear hfz14_2
    try clear hfz14_3
    try clear hfz14_4
    try clear hfz14_5
    try clear hfz14_6
    try clear hfz14_7
    try clear hfz14_8
    try clear hfz14_9
    try clear hfz16_0
    try clear hfz16_1
    try clear hfz16_2
    try clear hfz17_0
    try clear hfz17_1
    try clear hfz17_10
    try clear hfz17_11
    try clear hfz17_2
    try clear hfz17_3
    try clear hfz17_4
    try clear hfz17_5
    try clear hfz17_6
    try clear hfz17_7
    try clear hfz17_8
    try clear hfz17_9
    try clear hfz19_0
    try clear hfz19_1
    try clear hfz19_10
    try clear hfz19_11
    try clear hfz19_2
    try clear hfz19_3
    try clear hfz19_4
    try clear hfz19_5
    try clear hfz19_6
    try clear hfz19_7
    try clear hfz19_8
    try clear hfz19_9
    try clear hfz21_0
    try clear hfz21_1
    try clear hfz21_2
    try clear hfz23_0
    try clear hfz23_1
    try clear hfz23_10
    try clear hfz23_11
    try clear hfz23_2
    try clear hfz23_3
    try clear hfz23_4
    try clear hfz23_5
    try clear hfz23_6
    try clear hfz23_7
    try clear hfz23_8
    try clear hfz23_9
    obtain ⟨kq, x27_4, rfl, HA, HJ4, BK332, BK333, HB⟩ := hcut
    cases kq with
    | zero => exact absurd HA.out (by simp [governorlaw15_LimitReach.j0])
    | succ kj4 =>
      have H := HA.out
      clear HA
      simp only [governorlaw15_LimitReach.j0] at H
      by_cases c25 : x27_4 = true
      · subst c25
        have H1 : (some t334) = some r := by rw [if_pos rfl] at H; exact H
        clear H
        have H := H1
        clear H1
        obtain rfl := Option.some.inj H
        go_wp2
        go_ret
        exact ⟨by first | rfl | (simp [errW_none, errW_some] <;> rfl) | (simp [*, errW_none, errW_some] <;> rfl), by repeat (first | (with_reducible first | exact HB.out | apply below_alloc | apply pw_below_drewN | apply below_drew1 | refine below_set ?_ GE332.out | refine below_set ?_ GE333.out) | exact HB.out)⟩
      · replace c25 := Bool.eq_false_iff.mpr c25
        subst c25
        have H1 : ((limit_Into.f a0_0 a0_1 a0_2 a0_3 a0_4 a0_5 a0_6 a0_7 a0_8 a0_9 a0_10 a0_11 a1_0 a1_1 a1_2).bind fun bt337 => (governorlaw15_LimitReach.l0 kj4 a2 t334 (mn (mx (wrap64 (a2)) a0_0) a0_1) a1_1 0 a0_0 a0_1 a0_2 a0_3 a0_4 a0_5 a0_6 a0_7 a0_8 a0_9 a0_10 a0_11 bt337.1 bt337.2.1 bt337.2.2)) = some r := by rw [if_neg (show ¬ (false = true) by decide)] at H; exact H
        clear H
        have H := H1
        clear H1
        obtain ⟨ji26, hji26⟩ : ∃ j_ : Int, (mx (wrap64 (a2)) a0_0) = j_ := ⟨_, rfl⟩
        replace H : ((limit_Into.f a0_0 a0_1 a0_2 a0_3 a0_4 a0_5 a0_6 a0_7 a0_8 a0_9 a0_10 a0_11 a1_0 a1_1 a1_2).bind fun bt337 => (governorlaw15_LimitReach.l0 kj4 a2 t334 (mn (ji26) a0_1) a1_1 0 a0_0 a0_1 a0_2 a0_3 a0_4 a0_5 a0_6 a0_7 a0_8 a0_9 a0_10 a0_11 bt337.1 bt337.2.1 bt337.2.2)) = some r := by first | (rw [hji26] at H; exact H) | (simp only [hji26] at H ⊢; exact H)
        have hji26_ : (if (wrap64 (a2)) < a0_0 then a0_0 else (wrap64 (a2))) = ji26 := hji26
        obtain ⟨ji27, hji27⟩ : ∃ j_ : Int, (mn (ji26) a0_1) = j_ := ⟨_, rfl⟩
        replace H : ((limit_Into.f a0_0 a0_1 a0_2 a0_3 a0_4 a0_5 a0_6 a0_7 a0_8 a0_9 a0_10 a0_11 a1_0 a1_1 a1_2).bind fun bt337 => (governorlaw15_LimitReach.l0 kj4 a2 t334 ji27 a1_1 0 a0_0 a0_1 a0_2 a0_3 a0_4 a0_5 a0_6 a0_7 a0_8 a0_9 a0_10 a0_11 bt337.1 bt337.2.1 bt337.2.2)) = some r := by first | (rw [hji27] at H; exact H) | (simp only [hji27] at H ⊢; exact H)
        have hji27_ : (if a0_1 < (ji26) then a0_1 else (ji26)) = ji27 := hji27
        replace H := Option.bind_eq_some_iff.mp H
        obtain ⟨⟨t337, t338, t339⟩, A280, H⟩ := H
        replace H : (governorlaw15_LimitReach.l0 kj4 a2 t334 ji27 a1_1 0 a0_0 a0_1 a0_2 a0_3 a0_4 a0_5 a0_6 a0_7 a0_8 a0_9 a0_10 a0_11 t337 t338 t339) = some r := H
        have A28 := Aside0.mk A280
        clear A280
        have H' := Aside0.mk H
        clear H
        have hnb29 := NB332_333.out
        have hnc29 := NB333_332.out
        have hcz30_0 : wc.cell? ⟨gb332, 0, none⟩ = some (.int .i64 a0_0) := (blk_cell BK332.out 0).trans rfl
        have hcz30_1 : wc.cell? ⟨gb332, 1, none⟩ = some (.int .i64 a0_1) := (blk_cell BK332.out 1).trans rfl
        have hcz30_2 : wc.cell? ⟨gb332, 2, none⟩ = some (.int .i64 a0_2) := (blk_cell BK332.out 2).trans rfl
        have hcz30_3 : wc.cell? ⟨gb332, 3, none⟩ = some (.int .i64 a0_3) := (blk_cell BK332.out 3).trans rfl
        have hcz30_4 : wc.cell? ⟨gb332, 4, none⟩ = some (.int .i64 a0_4) := (blk_cell BK332.out 4).trans rfl
        have hcz30_5 : wc.cell? ⟨gb332, 5, none⟩ = some (.int .i64 a0_5) := (blk_cell BK332.out 5).trans rfl
        have hcz30_6 : wc.cell? ⟨gb332, 6, none⟩ = some (.int .i64 a0_6) := (blk_cell BK332.out 6).trans rfl
        have hcz30_7 : wc.cell? ⟨gb332, 7, none⟩ = some (.int .i64 a0_7) := (blk_cell BK332.out 7).trans rfl
        have hcz30_8 : wc.cell? ⟨gb332, 8, none⟩ = some (.int .i64 a0_8) := (blk_cell BK332.out 8).trans rfl
        have hcz30_9 : wc.cell? ⟨gb332, 9, none⟩ = some (.int .i64 a0_9) := (blk_cell BK332.out 9).trans rfl
        have hcz30_10 : wc.cell? ⟨gb332, 10, none⟩ = some (.int .i64 a0_10) := (blk_cell BK332.out 10).trans rfl
        have hcz30_11 : wc.cell? ⟨gb332, 11, none⟩ = some (.int .i64 a0_11) := (blk_cell BK332.out 11).trans rfl
        have hfz30_0 := blk_frozen BK332.out 0
        have hfz30_1 := blk_frozen BK332.out 1
        have hfz30_2 := blk_frozen BK332.out 2
        have hfz30_3 := blk_frozen BK332.out 3
        have hfz30_4 := blk_frozen BK332.out 4
        have hfz30_5 := blk_frozen BK332.out 5
        have hfz30_6 := blk_frozen BK332.out 6
        have hfz30_7 := blk_frozen BK332.out 7
        have hfz30_8 := blk_frozen BK332.out 8
        have hfz30_9 := blk_frozen BK332.out 9
        have hfz30_10 := blk_frozen BK332.out 10
        have hfz30_11 := blk_frozen BK332.out 11
        have hcz31_0 : wc.cell? ⟨gb333, 0, none⟩ = some (.int .i64 a1_0) := (blk_cell BK333.out 0).trans rfl
        have hcz31_1 : wc.cell? ⟨gb333, 1, none⟩ = some (.int .i64 a1_1) := (blk_cell BK333.out 1).trans rfl
        have hcz31_2 : wc.cell? ⟨gb333, 2, none⟩ = some (.bool a1_2) := (blk_cell BK333.out 2).trans rfl
        have hfz31_0 := blk_frozen BK333.out 0
        have hfz31_1 := blk_frozen BK333.out 1
        have hfz31_2 := blk_frozen BK333.out 2
        go_wp2_with (first | ((with_reducible refine gate_callee (f := 24) rfl ?_); refine goesL_ (some 39) rfl rfl Try.func24 (by kernel_rfl) rfl #[.agg #[.int .i64 a0_0, .int .i64 a0_1, .int .i64 a0_2, .int .i64 a0_3, .int .i64 a0_4, .int .i64 a0_5, .int .i64 a0_6, .int .i64 a0_7, .int .i64 a0_8, .int .i64 a0_9, .int .i64 a0_10, .int .i64 a0_11], .agg #[.int .i64 a1_0, .int .i64 a1_1, .bool a1_2]] rfl (by (try simp only [List.map_toArray, List.map_cons, List.map_nil]); first | done | rfl | (simp only [List.length_drop, List.length_take]; rfl)) ?_; (with_reducible refine (limit_Into.calls a0_0 a0_1 a0_2 a0_3 a0_4 a0_5 a0_6 a0_7 a0_8 a0_9 a0_10 a0_11 a1_0 a1_1 a1_2 t337 t338 t339 _ A28.out).mono ?_); rintro e w32 ⟨rfl, hb⟩; refine ⟨_, rfl, ?_⟩; have n0_ := Aside0.mk (blk_below (g := gb332) (o := .cells #[.int .i64 a0_0, .int .i64 a0_1, .int .i64 a0_2, .int .i64 a0_3, .int .i64 a0_4, .int .i64 a0_5, .int .i64 a0_6, .int .i64 a0_7, .int .i64 a0_8, .int .i64 a0_9, .int .i64 a0_10, .int .i64 a0_11] 37 (0, 0)) (by (with_reducible repeat (first | refine blk_drewN ?_ _ | refine blk_drew ?_ | refine blk_alloc ?_ _)); exact BK332.out) hb); have n1_ := Aside0.mk (blk_below (g := gb333) (o := .cells #[.int .i64 a1_0, .int .i64 a1_1, .bool a1_2] 39 (0, 0)) (by (with_reducible repeat (first | refine blk_drewN ?_ _ | refine blk_drew ?_ | refine blk_alloc ?_ _)); exact BK333.out) hb); have n2_ := Aside0.mk (below_step (by repeat (first | (with_reducible first | exact HB.out | apply below_alloc | apply pw_below_drewN | apply below_drew1 | refine below_set ?_ GE332.out | refine below_set ?_ GE333.out) | exact HB.out)) hb); clear BK332; clear BK333; clear HB; have BK332 := n0_; have BK333 := n1_; have HB := n2_; clear n0_ n1_ n2_; (try clear hb); (try clear hb2); (try clear hk); (try clear hi)) | ((with_reducible refine gate_dst (N := 9) rfl ?_); refine box_event ?hg (N := 9) ?hd (cs := #[.int .i64 0, .int .i64 0, .bool false]) (t := 39) ?hr ?_; (case hd => rfl); (case hg => rfl); (case hr => first | (go_simp; done) | (go_simp; rfl)); intro gb340 hg w33 hbox hb; have n0_ := Aside0.mk (blk_below (g := gb332) (o := .cells #[.int .i64 a0_0, .int .i64 a0_1, .int .i64 a0_2, .int .i64 a0_3, .int .i64 a0_4, .int .i64 a0_5, .int .i64 a0_6, .int .i64 a0_7, .int .i64 a0_8, .int .i64 a0_9, .int .i64 a0_10, .int .i64 a0_11] 37 (0, 0)) (by (with_reducible repeat (first | refine blk_drewN ?_ _ | refine blk_drew ?_ | refine blk_alloc ?_ _)); exact BK332.out) hb); have n1_ := Aside0.mk (blk_below (g := gb333) (o := .cells #[.int .i64 a1_0, .int .i64 a1_1, .bool a1_2] 39 (0, 0)) (by (with_reducible repeat (first | refine blk_drewN ?_ _ | refine blk_drew ?_ | refine blk_alloc ?_ _)); exact BK333.out) hb); have n2_ := Aside0.mk (below_step (by repeat (first | (with_reducible first | exact HB.out | apply below_alloc | apply pw_below_drewN | apply below_drew1 | refine below_set ?_ GE332.out | refine below_set ?_ GE333.out) | exact HB.out)) hb); have n3_ := Aside0.mk (hbox); have n4_ := Aside0.mk ((by rw [hg]; exact (below_size (by repeat (first | (with_reducible first | exact HB.out | apply below_alloc | apply pw_below_drewN | apply below_drew1 | refine below_set ?_ GE332.out | refine below_set ?_ GE333.out) | exact HB.out))) : w.heap.size ≤ gb340)); have n5_ := Aside0.mk ((by rw [hg]; exact (below_size (by repeat (first | (with_reducible first | exact HB.out | apply below_alloc | apply pw_below_drewN | apply below_drew1 | refine below_set ?_ GE332.out | refine below_set ?_ GE333.out) | exact HB.out))) : w.heap.size ≤ gb340)); have n6_ := Aside0.mk ((by rw [hg]; exact Nat.ne_of_lt (blk_lt (g := gb332) (o := .cells #[.int .i64 a0_0, .int .i64 a0_1, .int .i64 a0_2, .int .i64 a0_3, .int .i64 a0_4, .int .i64 a0_5, .int .i64 a0_6, .int .i64 a0_7, .int .i64 a0_8, .int .i64 a0_9, .int .i64 a0_10, .int .i64 a0_11] 37 (0, 0)) (by (with_reducible repeat (first | refine blk_drewN ?_ _ | refine blk_drew ?_ | refine blk_alloc ?_ _)); exact BK332.out)) : gb332 ≠ gb340)); have n7_ := Aside0.mk ((by rw [hg]; exact Nat.ne_of_gt (blk_lt (g := gb332) (o := .cells #[.int .i64 a0_0, .int .i64 a0_1, .int .i64 a0_2, .int .i64 a0_3, .int .i64 a0_4, .int .i64 a0_5, .int .i64 a0_6, .int .i64 a0_7, .int .i64 a0_8, .int .i64 a0_9, .int .i64 a0_10, .int .i64 a0_11] 37 (0, 0)) (by (with_reducible repeat (first | refine blk_drewN ?_ _ | refine blk_drew ?_ | refine blk_alloc ?_ _)); exact BK332.out)) : gb340 ≠ gb332)); have n8_ := Aside0.mk ((by rw [hg]; exact Nat.ne_of_lt (blk_lt (g := gb333) (o := .cells #[.int .i64 a1_0, .int .i64 a1_1, .bool a1_2] 39 (0, 0)) (by (with_reducible repeat (first | refine blk_drewN ?_ _ | refine blk_drew ?_ | refine blk_alloc ?_ _)); exact BK333.out)) : gb333 ≠ gb340)); have n9_ := Aside0.mk ((by rw [hg]; exact Nat.ne_of_gt (blk_lt (g := gb333) (o := .cells #[.int .i64 a1_0, .int .i64 a1_1, .bool a1_2] 39 (0, 0)) (by (with_reducible repeat (first | refine blk_drewN ?_ _ | refine blk_drew ?_ | refine blk_alloc ?_ _)); exact BK333.out)) : gb340 ≠ gb333)); clear BK332; clear BK333; clear HB; have BK332 := n0_; have BK333 := n1_; have HB := n2_; have BK340 := n3_; have GW340 := n4_; have GE340 := n5_; have NB332_340 := n6_; have NB340_332 := n7_; have NB333_340 := n8_; have NB340_333 := n9_; clear n0_ n1_ n2_ n3_ n4_ n5_ n6_ n7_ n8_ n9_; clear hb hbox hg; have hnb34 := NB340_332.out; have hnc34 := NB332_340.out; have hnb35 := NB340_333.out; have hnc35 := NB333_340.out; have hcz36_0 : w33.cell? ⟨gb340, 0, none⟩ = some (.int .i64 0) := (blk_cell BK340.out 0).trans rfl; have hcz36_1 : w33.cell? ⟨gb340, 1, none⟩ = some (.int .i64 0) := (blk_cell BK340.out 1).trans rfl; have hcz36_2 : w33.cell? ⟨gb340, 2, none⟩ = some (.bool false) := (blk_cell BK340.out 2).trans rfl; have hfz36_0 := blk_frozen BK340.out 0; have hfz36_1 := blk_frozen BK340.out 1; have hfz36_2 := blk_frozen BK340.out 2; have hcz37_0 : w33.cell? ⟨gb333, 0, none⟩ = some (.int .i64 a1_0) := (blk_cell BK333.out 0).trans rfl; have hcz37_1 : w33.cell? ⟨gb333, 1, none⟩ = some (.int .i64 a1_1) := (blk_cell BK333.out 1).trans rfl; have hcz37_2 : w33.cell? ⟨gb333, 2, none⟩ = some (.bool a1_2) := (blk_cell BK333.out 2).trans rfl; have hfz37_0 := blk_frozen BK333.out 0; have hfz37_1 := blk_frozen BK333.out 1; have hfz37_2 := blk_frozen BK333.out 2))
        go_loopg [10, 11] kj4 (fun kq v10 v11 w' => ∃ (x10_2 : Int) (x11_2 : Int) (x341000_2 : Int) (x341001_2 : Int) (x341002_2 : Bool), v10 = .int .i64 x10_2 ∧ v11 = .int .i64 x11_2 ∧ Aside0 (governorlaw15_LimitReach.l0 kq a2 t334 ji27 x10_2 x11_2 a0_0 a0_1 a0_2 a0_3 a0_4 a0_5 a0_6 a0_7 a0_8 a0_9 a0_10 a0_11 x341000_2 x341001_2 x341002_2 = some r) ∧ Aside0 (kq ≤ kj4) ∧ Aside0 (w'.heap[gb332]? = some (.cells #[.int .i64 a0_0, .int .i64 a0_1, .int .i64 a0_2, .int .i64 a0_3, .int .i64 a0_4, .int .i64 a0_5, .int .i64 a0_6, .int .i64 a0_7, .int .i64 a0_8, .int .i64 a0_9, .int .i64 a0_10, .int .i64 a0_11] 37 (0, 0))) ∧ Aside0 (w'.heap[gb333]? = some (.cells #[.int .i64 a1_0, .int .i64 a1_1, .bool a1_2] 39 (0, 0))) ∧ Aside0 (w'.heap[gb340]? = some (.cells #[.int .i64 x341000_2, .int .i64 x341001_2, .bool x341002_2] 39 (0, 0))) ∧ Aside0 (Below w.heap.size w w'))
        case atStart => exact ⟨(a1_1), (0), (t337), (t338), (t339), (by first | rfl | (simp; done) | (simp [*]; done)), (by first | rfl | (simp; done) | (simp [*]; done)), H', ⟨Nat.le_refl _⟩, ⟨by (with_reducible repeat (first | refine blk_drewN ?_ _ | refine blk_drew ?_ | refine blk_alloc ?_ _)); refine blk_far ?_ NB332_340.out _; (with_reducible repeat (first | refine blk_drewN ?_ _ | refine blk_drew ?_ | refine blk_alloc ?_ _)); refine blk_far ?_ NB332_340.out _; (with_reducible repeat (first | refine blk_drewN ?_ _ | refine blk_drew ?_ | refine blk_alloc ?_ _)); refine blk_far ?_ NB332_340.out _; (with_reducible repeat (first | refine blk_drewN ?_ _ | refine blk_drew ?_ | refine blk_alloc ?_ _)); exact BK332.out⟩, ⟨by (with_reducible repeat (first | refine blk_drewN ?_ _ | refine blk_drew ?_ | refine blk_alloc ?_ _)); refine blk_far ?_ NB333_340.out _; (with_reducible repeat (first | refine blk_drewN ?_ _ | refine blk_drew ?_ | refine blk_alloc ?_ _)); refine blk_far ?_ NB333_340.out _; (with_reducible repeat (first | refine blk_drewN ?_ _ | refine blk_drew ?_ | refine blk_alloc ?_ _)); refine blk_far ?_ NB333_340.out _; (with_reducible repeat (first | refine blk_drewN ?_ _ | refine blk_drew ?_ | refine blk_alloc ?_ _)); exact BK333.out⟩, ⟨by (with_reducible repeat (first | refine blk_drewN ?_ _ | refine blk_drew ?_ | refine blk_alloc ?_ _)); refine blk_put (cs := #[.int .i64 t337, .int .i64 t338, .bool false]) ?_ 2 _ rfl; (with_reducible repeat (first | refine blk_drewN ?_ _ | refine blk_drew ?_ | refine blk_alloc ?_ _)); refine blk_put (cs := #[.int .i64 t337, .int .i64 0, .bool false]) ?_ 1 _ rfl; (with_reducible repeat (first | refine blk_drewN ?_ _ | refine blk_drew ?_ | refine blk_alloc ?_ _)); refine blk_put (cs := #[.int .i64 0, .int .i64 0, .bool false]) ?_ 0 _ rfl; (with_reducible repeat (first | refine blk_drewN ?_ _ | refine blk_drew ?_ | refine blk_alloc ?_ _)); exact BK340.out⟩, ⟨by repeat (first | (with_reducible first | exact HB.out | apply below_alloc | apply pw_below_drewN | apply below_drew1 | refine below_set ?_ GE332.out | refine below_set ?_ GE333.out | refine below_set ?_ GE340.out) | exact HB.out)⟩⟩
        case round =>
          clear H'
          try clear c1
          try clear c2
          try clear p2
          try clear c3
          try clear p6
          try clear c10
          try clear c12
          try clear c13
          try clear c14
          try clear c18
          try clear c21
          try clear c22
          try clear c24
          try clear c25
          try clear c29
          try clear c34
          try clear c35
          try clear hcz14_0
          try clear hcz14_1
          try clear hcz14_10
          try clear hcz14_11
          try clear hcz14_2
          try clear hcz14_3
          try clear hcz14_4
          try clear hcz14_5
          try clear hcz14_6
          try clear hcz14_7
          try clear hcz14_8
          try clear hcz14_9
          try clear hcz16_0
          try clear hcz16_1
          try clear hcz16_2
          try clear hcz17_0
          try clear hcz17_1
          try clear hcz17_10
          try clear hcz17_11
          try clear hcz17_2
          try clear hcz17_3
          try clear hcz17_4
          try clear hcz17_5
          try clear hcz17_6
          try clear hcz17_7
          try clear hcz17_8
          try clear hcz17_9
          try clear hcz19_0
          try clear hcz19_1
          try clear hcz19_10
          try clear hcz19_11
          try clear hcz19_2
          try clear hcz19_3
          try clear hcz19_4
          try clear hcz19_5
          try clear hcz19_6
          try clear hcz19_7
          try clear hcz19_8
          try clear hcz19_9
          try clear hcz21_0
          try clear hcz21_1
          try clear hcz21_2
          try clear hcz23_0
          try clear hcz23_1
          try clear hcz23_10
          try clear hcz23_11
          try clear hcz23_2
          try clear hcz23_3
          try clear hcz23_4
          try clear hcz23_5
          try clear hcz23_6
          try clear hcz23_7
          try clear hcz23_8
          try clear hcz23_9
          try clear hcz30_0
          try clear hcz30_1
          try clear hcz30_10
          try clear hcz30_11
          try clear hcz30_2
          try clear hcz30_3
          try clear hcz30_4
          try clear hcz30_5
          try clear hcz30_6
          try clear hcz30_7
          try clear hcz30_8
          try clear hcz30_9
          try clear hcz31_0
          try clear hcz31_1
          try clear hcz31_2
          try clear hcz36_0
          try clear hcz36_1
          try clear hcz36_2
          try clear hcz37_0
          try clear hcz37_1
          try clear hcz37_2
          try clear hfz14_0
          try clear hfz14_1
          try clear hfz14_10
          try clear hfz14_11
          try clear hfz14_2
          try clear hfz14_3
          try clear hfz14_4
          try clear hfz14_5
          try clear hfz14_6
          try clear hfz14_7
          try clear hfz14_8
          try clear hfz14_9
          try clear hfz16_0
          try clear hfz16_1
          try clear hfz16_2
          try clear hfz17_0
          try clear hfz17_1
          try clear hfz17_10
          try clear hfz17_11
          try clear hfz17_2
          try clear hfz17_3
          try clear hfz17_4
          try clear hfz17_5
          try clear hfz17_6
          try clear hfz17_7
          try clear hfz17_8
          try clear hfz17_9
          try clear hfz19_0
          try clear hfz19_1
          try clear hfz19_10
          try clear hfz19_11
          try clear hfz19_2
          try clear hfz19_3
          try clear hfz19_4
          try clear hfz19_5
          try clear hfz19_6
          try clear hfz19_7
          try clear hfz19_8
          try clear hfz19_9
          try clear hfz21_0
          try clear hfz21_1
          try clear hfz21_2
          try clear hfz23_0
          try clear hfz23_1
          try clear hfz23_10
          try clear hfz23_11
          try clear hfz23_2
          try clear hfz23_3
          try clear hfz23_4
          try clear hfz23_5
          try clear hfz23_6
          try clear hfz23_7
          try clear hfz23_8
          try clear hfz23_9
          try clear hfz30_0
          try clear hfz30_1
          try clear hfz30_10
          try clear hfz30_11
          try clear hfz30_2
          try clear hfz30_3
          try clear hfz30_4
          try clear hfz30_5
          try clear hfz30_6
          try clear hfz30_7
          try clear hfz30_8
          try clear hfz30_9
          try clear hfz31_0
          try clear hfz31_1
          try clear hfz31_2
          try clear hfz36_0
          try clear hfz36_1
          try clear hfz36_2
          try clear hfz37_0
          try clear hfz37_1
          try clear hfz37_2
          try clear p2
          obtain ⟨x10_2, x11_2, x341000_2, x341001_2, x341002_2, rfl, rfl, HA, HK2, BK332, BK333, BK340, HB⟩ := hrel
          cases gk with
          | zero => exact absurd HA.out (by simp [governorlaw15_LimitReach.l0])
          | succ k2 =>
            have H := HA.out
            clear HA
            simp only [governorlaw15_LimitReach.l0] at H
            by_cases c38 : x11_2 < 1002
            · rw [if_pos c38] at H
              have c38b0 : decide (x11_2 < 1002) = true := decide_eq_true c38
              clear c38
              obtain ⟨ji39, hji39⟩ : ∃ j_ : Int, (mn (wrap64 ((wrap64 (x10_2 + a0_3)) + 1)) 1099511627776) = j_ := ⟨_, rfl⟩
              replace H : ((limit_Next.f a0_0 a0_1 a0_2 a0_3 a0_4 a0_5 a0_6 a0_7 a0_8 a0_9 a0_10 a0_11 x341000_2 x341001_2 x341002_2 (wrap64 (a2)) (ji39)).bind fun bt341 => (if bt341.1 = x341000_2 then (if x341000_2 = ji27 then (governorlaw15_LimitReach.j2 k2 a2 t334 ji27 ji39 x11_2 false a0_0 a0_1 a0_2 a0_3 a0_4 a0_5 a0_6 a0_7 a0_8 a0_9 a0_10 a0_11 x341000_2 x341001_2 x341002_2 bt341.1 bt341.2.1 bt341.2.2) else (governorlaw15_LimitReach.j2 k2 a2 t334 ji27 ji39 x11_2 (decide ((ji39) < 1099511627776)) a0_0 a0_1 a0_2 a0_3 a0_4 a0_5 a0_6 a0_7 a0_8 a0_9 a0_10 a0_11 x341000_2 x341001_2 x341002_2 bt341.1 bt341.2.1 bt341.2.2)) else (governorlaw15_LimitReach.j2 k2 a2 t334 ji27 ji39 x11_2 false a0_0 a0_1 a0_2 a0_3 a0_4 a0_5 a0_6 a0_7 a0_8 a0_9 a0_10 a0_11 x341000_2 x341001_2 x341002_2 bt341.1 bt341.2.1 bt341.2.2))) = some r := by first | (rw [hji39] at H; exact H) | (simp only [hji39] at H ⊢; exact H)
              have hji39_ : (if 1099511627776 < (wrap64 ((wrap64 (x10_2 + a0_3)) + 1)) then 1099511627776 else (wrap64 ((wrap64 (x10_2 + a0_3)) + 1))) = ji39 := hji39
              replace H := Option.bind_eq_some_iff.mp H
              obtain ⟨⟨t341, t342, t343⟩, A400, H⟩ := H
              replace H : (if t341 = x341000_2 then (if x341000_2 = ji27 then (governorlaw15_LimitReach.j2 k2 a2 t334 ji27 ji39 x11_2 false a0_0 a0_1 a0_2 a0_3 a0_4 a0_5 a0_6 a0_7 a0_8 a0_9 a0_10 a0_11 x341000_2 x341001_2 x341002_2 t341 t342 t343) else (governorlaw15_LimitReach.j2 k2 a2 t334 ji27 ji39 x11_2 (decide ((ji39) < 1099511627776)) a0_0 a0_1 a0_2 a0_3 a0_4 a0_5 a0_6 a0_7 a0_8 a0_9 a0_10 a0_11 x341000_2 x341001_2 x341002_2 t341 t342 t343)) else (governorlaw15_LimitReach.j2 k2 a2 t334 ji27 ji39 x11_2 false a0_0 a0_1 a0_2 a0_3 a0_4 a0_5 a0_6 a0_7 a0_8 a0_9 a0_10 a0_11 x341000_2 x341001_2 x341002_2 t341 t342 t343)) = some r := H
              have A40 := Aside0.mk A400
              clear A400
              have HC41 := Aside0.mk H
              clear H
              have hnb42 := NB332_333.out
              have hnc42 := NB333_332.out
              have hnb43 := NB332_340.out
              have hnc43 := NB340_332.out
              have hcz44_0 : wr.cell? ⟨gb332, 0, none⟩ = some (.int .i64 a0_0) := (blk_cell BK332.out 0).trans rfl
              have hcz44_1 : wr.cell? ⟨gb332, 1, none⟩ = some (.int .i64 a0_1) := (blk_cell BK332.out 1).trans rfl
              have hcz44_2 : wr.cell? ⟨gb332, 2, none⟩ = some (.int .i64 a0_2) := (blk_cell BK332.out 2).trans rfl
              have hcz44_3 : wr.cell? ⟨gb332, 3, none⟩ = some (.int .i64 a0_3) := (blk_cell BK332.out 3).trans rfl
              have hcz44_4 : wr.cell? ⟨gb332, 4, none⟩ = some (.int .i64 a0_4) := (blk_cell BK332.out 4).trans rfl
              have hcz44_5 : wr.cell? ⟨gb332, 5, none⟩ = some (.int .i64 a0_5) := (blk_cell BK332.out 5).trans rfl
              have hcz44_6 : wr.cell? ⟨gb332, 6, none⟩ = some (.int .i64 a0_6) := (blk_cell BK332.out 6).trans rfl
              have hcz44_7 : wr.cell? ⟨gb332, 7, none⟩ = some (.int .i64 a0_7) := (blk_cell BK332.out 7).trans rfl
              have hcz44_8 : wr.cell? ⟨gb332, 8, none⟩ = some (.int .i64 a0_8) := (blk_cell BK332.out 8).trans rfl
              have hcz44_9 : wr.cell? ⟨gb332, 9, none⟩ = some (.int .i64 a0_9) := (blk_cell BK332.out 9).trans rfl
              have hcz44_10 : wr.cell? ⟨gb332, 10, none⟩ = some (.int .i64 a0_10) := (blk_cell BK332.out 10).trans rfl
              have hcz44_11 : wr.cell? ⟨gb332, 11, none⟩ = some (.int .i64 a0_11) := (blk_cell BK332.out 11).trans rfl
              have hfz44_0 := blk_frozen BK332.out 0
              have hfz44_1 := blk_frozen BK332.out 1
              have hfz44_2 := blk_frozen BK332.out 2
              have hfz44_3 := blk_frozen BK332.out 3
              have hfz44_4 := blk_frozen BK332.out 4
              have hfz44_5 := blk_frozen BK332.out 5
              have hfz44_6 := blk_frozen BK332.out 6
              have hfz44_7 := blk_frozen BK332.out 7
              have hfz44_8 := blk_frozen BK332.out 8
              have hfz44_9 := blk_frozen BK332.out 9
              have hfz44_10 := blk_frozen BK332.out 10
              have hfz44_11 := blk_frozen BK332.out 11
              have hnb45 := NB340_333.out
              have hnc45 := NB333_340.out
              have hcz46_0 : wr.cell? ⟨gb340, 0, none⟩ = some (.int .i64 x341000_2) := (blk_cell BK340.out 0).trans rfl
              have hcz46_1 : wr.cell? ⟨gb340, 1, none⟩ = some (.int .i64 x341001_2) := (blk_cell BK340.out 1).trans rfl
              have hcz46_2 : wr.cell? ⟨gb340, 2, none⟩ = some (.bool x341002_2) := (blk_cell BK340.out 2).trans rfl
              have hfz46_0 := blk_frozen BK340.out 0
              have hfz46_1 := blk_frozen BK340.out 1
              have hfz46_2 := blk_frozen BK340.out 2
              go_upto_region 12 with (first | ((with_reducible refine gate_callee (f := 26) rfl ?_); refine goesL_ (some 57) rfl rfl Try.func26 (by kernel_rfl) rfl #[.agg #[.int .i64 a0_0, .int .i64 a0_1, .int .i64 a0_2, .int .i64 a0_3, .int .i64 a0_4, .int .i64 a0_5, .int .i64 a0_6, .int .i64 a0_7, .int .i64 a0_8, .int .i64 a0_9, .int .i64 a0_10, .int .i64 a0_11], .agg #[.int .i64 x341000_2, .int .i64 x341001_2, .bool x341002_2], .int .i64 (wrap64 (a2)), .int .i64 ji39] rfl (by (try simp only [List.map_toArray, List.map_cons, List.map_nil]); first | done | (simp only [hji39]; rfl) | rfl | (simp only [List.length_drop, List.length_take]; rfl)) ?_; (with_reducible refine (limit_Next.calls a0_0 a0_1 a0_2 a0_3 a0_4 a0_5 a0_6 a0_7 a0_8 a0_9 a0_10 a0_11 x341000_2 x341001_2 x341002_2 (wrap64 (a2)) ji39 t341 t342 t343 _ A40.out).mono ?_); rintro e w47 ⟨rfl, hb⟩; refine ⟨_, rfl, ?_⟩; have n0_ := Aside0.mk (blk_below (g := gb332) (o := .cells #[.int .i64 a0_0, .int .i64 a0_1, .int .i64 a0_2, .int .i64 a0_3, .int .i64 a0_4, .int .i64 a0_5, .int .i64 a0_6, .int .i64 a0_7, .int .i64 a0_8, .int .i64 a0_9, .int .i64 a0_10, .int .i64 a0_11] 37 (0, 0)) (by (with_reducible repeat (first | refine blk_drewN ?_ _ | refine blk_drew ?_ | refine blk_alloc ?_ _)); exact BK332.out) hb); have n1_ := Aside0.mk (blk_below (g := gb333) (o := .cells #[.int .i64 a1_0, .int .i64 a1_1, .bool a1_2] 39 (0, 0)) (by (with_reducible repeat (first | refine blk_drewN ?_ _ | refine blk_drew ?_ | refine blk_alloc ?_ _)); exact BK333.out) hb); have n2_ := Aside0.mk (blk_below (g := gb340) (o := .cells #[.int .i64 x341000_2, .int .i64 x341001_2, .bool x341002_2] 39 (0, 0)) (by (with_reducible repeat (first | refine blk_drewN ?_ _ | refine blk_drew ?_ | refine blk_alloc ?_ _)); exact BK340.out) hb); have n3_ := Aside0.mk (below_step (by repeat (first | (with_reducible first | exact HB.out | apply below_alloc | apply pw_below_drewN | apply below_drew1 | refine below_set ?_ GE332.out | refine below_set ?_ GE333.out | refine below_set ?_ GE340.out) | exact HB.out)) hb); clear BK332; clear BK333; clear BK340; clear HB; have BK332 := n0_; have BK333 := n1_; have BK340 := n2_; have HB := n3_; clear n0_ n1_ n2_ n3_; (try clear hb); (try clear hb2); (try clear hk); (try clear hi)) | ((with_reducible refine gate_dst (N := 12) rfl ?_); refine box_event ?hg (N := 12) ?hd (cs := #[.int .i64 0, .int .i64 0, .bool false]) (t := 39) ?hr ?_; (case hd => rfl); (case hg => rfl); (case hr => first | (go_simp; done) | (go_simp; rfl)); intro gb344 hg w48 hbox hb; have n0_ := Aside0.mk (blk_below (g := gb332) (o := .cells #[.int .i64 a0_0, .int .i64 a0_1, .int .i64 a0_2, .int .i64 a0_3, .int .i64 a0_4, .int .i64 a0_5, .int .i64 a0_6, .int .i64 a0_7, .int .i64 a0_8, .int .i64 a0_9, .int .i64 a0_10, .int .i64 a0_11] 37 (0, 0)) (by (with_reducible repeat (first | refine blk_drewN ?_ _ | refine blk_drew ?_ | refine blk_alloc ?_ _)); exact BK332.out) hb); have n1_ := Aside0.mk (blk_below (g := gb333) (o := .cells #[.int .i64 a1_0, .int .i64 a1_1, .bool a1_2] 39 (0, 0)) (by (with_reducible repeat (first | refine blk_drewN ?_ _ | refine blk_drew ?_ | refine blk_alloc ?_ _)); exact BK333.out) hb); have n2_ := Aside0.mk (blk_below (g := gb340) (o := .cells #[.int .i64 x341000_2, .int .i64 x341001_2, .bool x341002_2] 39 (0, 0)) (by (with_reducible repeat (first | refine blk_drewN ?_ _ | refine blk_drew ?_ | refine blk_alloc ?_ _)); exact BK340.out) hb); have n3_ := Aside0.mk (below_step (by repeat (first | (with_reducible first | exact HB.out | apply below_alloc | apply pw_below_drewN | apply below_drew1 | refine below_set ?_ GE332.out | refine below_set ?_ GE333.out | refine below_set ?_ GE340.out) | exact HB.out)) hb); have n4_ := Aside0.mk (hbox); have n5_ := Aside0.mk ((by rw [hg]; exact (below_size (by repeat (first | (with_reducible first | exact HB.out | apply below_alloc | apply pw_below_drewN | apply below_drew1 | refine below_set ?_ GE332.out | refine below_set ?_ GE333.out | refine below_set ?_ GE340.out) | exact HB.out))) : w.heap.size ≤ gb344)); have n6_ := Aside0.mk ((by rw [hg]; exact (below_size (by repeat (first | (with_reducible first | exact HB.out | apply below_alloc | apply pw_below_drewN | apply below_drew1 | refine below_set ?_ GE332.out | refine below_set ?_ GE333.out | refine below_set ?_ GE340.out) | exact HB.out))) : w.heap.size ≤ gb344)); have n7_ := Aside0.mk ((by rw [hg]; exact Nat.ne_of_lt (blk_lt (g := gb332) (o := .cells #[.int .i64 a0_0, .int .i64 a0_1, .int .i64 a0_2, .int .i64 a0_3, .int .i64 a0_4, .int .i64 a0_5, .int .i64 a0_6, .int .i64 a0_7, .int .i64 a0_8, .int .i64 a0_9, .int .i64 a0_10, .int .i64 a0_11] 37 (0, 0)) (by (with_reducible repeat (first | refine blk_drewN ?_ _ | refine blk_drew ?_ | refine blk_alloc ?_ _)); exact BK332.out)) : gb332 ≠ gb344)); have n8_ := Aside0.mk ((by rw [hg]; exact Nat.ne_of_gt (blk_lt (g := gb332) (o := .cells #[.int .i64 a0_0, .int .i64 a0_1, .int .i64 a0_2, .int .i64 a0_3, .int .i64 a0_4, .int .i64 a0_5, .int .i64 a0_6, .int .i64 a0_7, .int .i64 a0_8, .int .i64 a0_9, .int .i64 a0_10, .int .i64 a0_11] 37 (0, 0)) (by (with_reducible repeat (first | refine blk_drewN ?_ _ | refine blk_drew ?_ | refine blk_alloc ?_ _)); exact BK332.out)) : gb344 ≠ gb332)); have n9_ := Aside0.mk ((by rw [hg]; exact Nat.ne_of_lt (blk_lt (g := gb333) (o := .cells #[.int .i64 a1_0, .int .i64 a1_1, .bool a1_2] 39 (0, 0)) (by (with_reducible repeat (first | refine blk_drewN ?_ _ | refine blk_drew ?_ | refine blk_alloc ?_ _)); exact BK333.out)) : gb333 ≠ gb344)); have n10_ := Aside0.mk ((by rw [hg]; exact Nat.ne_of_gt (blk_lt (g := gb333) (o := .cells #[.int .i64 a1_0, .int .i64 a1_1, .bool a1_2] 39 (0, 0)) (by (with_reducible repeat (first | refine blk_drewN ?_ _ | refine blk_drew ?_ | refine blk_alloc ?_ _)); exact BK333.out)) : gb344 ≠ gb333)); have n11_ := Aside0.mk ((by rw [hg]; exact Nat.ne_of_lt (blk_lt (g := gb340) (o := .cells #[.int .i64 x341000_2, .int .i64 x341001_2, .bool x341002_2] 39 (0, 0)) (by (with_reducible repeat (first | refine blk_drewN ?_ _ | refine blk_drew ?_ | refine blk_alloc ?_ _)); exact BK340.out)) : gb340 ≠ gb344)); have n12_ := Aside0.mk ((by rw [hg]; exact Nat.ne_of_gt (blk_lt (g := gb340) (o := .cells #[.int .i64 x341000_2, .int .i64 x341001_2, .bool x341002_2] 39 (0, 0)) (by (with_reducible repeat (first | refine blk_drewN ?_ _ | refine blk_drew ?_ | refine blk_alloc ?_ _)); exact BK340.out)) : gb344 ≠ gb340)); clear BK332; clear BK333; clear BK340; clear HB; have BK332 := n0_; have BK333 := n1_; have BK340 := n2_; have HB := n3_; have BK344 := n4_; have GW344 := n5_; have GE344 := n6_; have NB332_344 := n7_; have NB344_332 := n8_; have NB333_344 := n9_; have NB344_333 := n10_; have NB340_344 := n11_; have NB344_340 := n12_; clear n0_ n1_ n2_ n3_ n4_ n5_ n6_ n7_ n8_ n9_ n10_ n11_ n12_; clear hb hbox hg; have hnb49 := NB344_332.out; have hnc49 := NB332_344.out; have hnb50 := NB344_333.out; have hnc50 := NB333_344.out; have hnb51 := NB344_340.out; have hnc51 := NB340_344.out; have hcz52_0 : w48.cell? ⟨gb344, 0, none⟩ = some (.int .i64 0) := (blk_cell BK344.out 0).trans rfl; have hcz52_1 : w48.cell? ⟨gb344, 1, none⟩ = some (.int .i64 0) := (blk_cell BK344.out 1).trans rfl; have hcz52_2 : w48.cell? ⟨gb344, 2, none⟩ = some (.bool false) := (blk_cell BK344.out 2).trans rfl; have hfz52_0 := blk_frozen BK344.out 0; have hfz52_1 := blk_frozen BK344.out 1; have hfz52_2 := blk_frozen BK344.out 2))
              (try simp only [Act.put, List.setIfInBounds_toArray, List.set_cons_zero, List.set_cons_succ])
              go_cut [72] (fun v72 wc => ∃ (kq : Nat) (x72_40 : Bool), v72 = .bool x72_40 ∧ Aside0 (governorlaw15_LimitReach.j2 kq a2 t334 ji27 ji39 x11_2 x72_40 a0_0 a0_1 a0_2 a0_3 a0_4 a0_5 a0_6 a0_7 a0_8 a0_9 a0_10 a0_11 x341000_2 x341001_2 x341002_2 t341 t342 t343 = some r) ∧ Aside0 (kq ≤ k2) ∧ Aside0 (wc.heap[gb332]? = some (.cells #[.int .i64 a0_0, .int .i64 a0_1, .int .i64 a0_2, .int .i64 a0_3, .int .i64 a0_4, .int .i64 a0_5, .int .i64 a0_6, .int .i64 a0_7, .int .i64 a0_8, .int .i64 a0_9, .int .i64 a0_10, .int .i64 a0_11] 37 (0, 0))) ∧ Aside0 (wc.heap[gb333]? = some (.cells #[.int .i64 a1_0, .int .i64 a1_1, .bool a1_2] 39 (0, 0))) ∧ Aside0 (wc.heap[gb340]? = some (.cells #[.int .i64 x341000_2, .int .i64 x341001_2, .bool x341002_2] 39 (0, 0))) ∧ Aside0 (wc.heap[gb344]? = some (.cells #[.int .i64 t341, .int .i64 t342, .bool t343] 39 (0, 0))) ∧ Aside0 (Below w.heap.size w wc))
              case first =>
                have H := HC41.out
                clear HC41
                by_cases c53 : t341 = x341000_2
                · rw [if_pos c53] at H
                  have c53b0 : (t341 == x341000_2) = true := beq_iff_eq.mpr c53
                  have c53b1 : (t341 != x341000_2) = false := bne_eq_false_iff_eq.mpr c53
                  clear c53
                  (first | rw [c53b0] | (simp only [i64_w, i32_w]; rw [c53b0]) | skip)
                  by_cases c54 : x341000_2 = ji27
                  · rw [if_pos c54] at H
                    have c54b0 : (x341000_2 == ji27) = true := beq_iff_eq.mpr c54
                    have c54b1 : (x341000_2 != ji27) = false := bne_eq_false_iff_eq.mpr c54
                    clear c54
                    have H' := Aside0.mk H
                    clear H
                    have hnb55 := NB344_332.out
                    have hnc55 := NB332_344.out
                    have hnb56 := NB344_333.out
                    have hnc56 := NB333_344.out
                    have hnb57 := NB344_340.out
                    have hnc57 := NB340_344.out
                    have hcz58_0 : w48.cell? ⟨gb344, 0, none⟩ = some (.int .i64 0) := (blk_cell BK344.out 0).trans rfl
                    have hcz58_1 : w48.cell? ⟨gb344, 1, none⟩ = some (.int .i64 0) := (blk_cell BK344.out 1).trans rfl
                    have hcz58_2 : w48.cell? ⟨gb344, 2, none⟩ = some (.bool false) := (blk_cell BK344.out 2).trans rfl
                    have hfz58_0 := blk_frozen BK344.out 0
                    have hfz58_1 := blk_frozen BK344.out 1
                    have hfz58_2 := blk_frozen BK344.out 2
                    have hnb59 := NB340_332.out
                    have hnc59 := NB332_340.out
                    have hnb60 := NB340_333.out
                    have hnc60 := NB333_340.out
                    have hcz61_0 : w48.cell? ⟨gb340, 0, none⟩ = some (.int .i64 x341000_2) := (blk_cell BK340.out 0).trans rfl
                    have hcz61_1 : w48.cell? ⟨gb340, 1, none⟩ = some (.int .i64 x341001_2) := (blk_cell BK340.out 1).trans rfl
                    have hcz61_2 : w48.cell? ⟨gb340, 2, none⟩ = some (.bool x341002_2) := (blk_cell BK340.out 2).trans rfl
                    have hfz61_0 := blk_frozen BK340.out 0
                    have hfz61_1 := blk_frozen BK340.out 1
                    have hfz61_2 := blk_frozen BK340.out 2
                    go_wp2
                    go_meet
                    case rel => exact ⟨_, (false), (by first | rfl | (simp; done) | (simp [*]; done)), H', ⟨by have := HJ4.out; have := HK2.out; first | omega | exact Nat.le_refl _⟩, ⟨by (with_reducible repeat (first | refine blk_drewN ?_ _ | refine blk_drew ?_ | refine blk_alloc ?_ _)); refine blk_far ?_ NB332_344.out _; (with_reducible repeat (first | refine blk_drewN ?_ _ | refine blk_drew ?_ | refine blk_alloc ?_ _)); refine blk_far ?_ NB332_344.out _; (with_reducible repeat (first | refine blk_drewN ?_ _ | refine blk_drew ?_ | refine blk_alloc ?_ _)); refine blk_far ?_ NB332_344.out _; (with_reducible repeat (first | refine blk_drewN ?_ _ | refine blk_drew ?_ | refine blk_alloc ?_ _)); exact BK332.out⟩, ⟨by (with_reducible repeat (first | refine blk_drewN ?_ _ | refine blk_drew ?_ | refine blk_alloc ?_ _)); refine blk_far ?_ NB333_344.out _; (with_reducible repeat (first | refine blk_drewN ?_ _ | refine blk_drew ?_ | refine blk_alloc ?_ _)); refine blk_far ?_ NB333_344.out _; (with_reducible repeat (first | refine blk_drewN ?_ _ | refine blk_drew ?_ | refine blk_alloc ?_ _)); refine blk_far ?_ NB333_344.out _; (with_reducible repeat (first | refine blk_drewN ?_ _ | refine blk_drew ?_ | refine blk_alloc ?_ _)); exact BK333.out⟩, ⟨by (with_reducible repeat (first | refine blk_drewN ?_ _ | refine blk_drew ?_ | refine blk_alloc ?_ _)); refine blk_far ?_ NB340_344.out _; (with_reducible repeat (first | refine blk_drewN ?_ _ | refine blk_drew ?_ | refine blk_alloc ?_ _)); refine blk_far ?_ NB340_344.out _; (with_reducible repeat (first | refine blk_drewN ?_ _ | refine blk_drew ?_ | refine blk_alloc ?_ _)); refine blk_far ?_ NB340_344.out _; (with_reducible repeat (first | refine blk_drewN ?_ _ | refine blk_drew ?_ | refine blk_alloc ?_ _)); exact BK340.out⟩, ⟨by (with_reducible repeat (first | refine blk_drewN ?_ _ | refine blk_drew ?_ | refine blk_alloc ?_ _)); refine blk_put (cs := #[.int .i64 t341, .int .i64 t342, .bool false]) ?_ 2 _ rfl; (with_reducible repeat (first | refine blk_drewN ?_ _ | refine blk_drew ?_ | refine blk_alloc ?_ _)); refine blk_put (cs := #[.int .i64 t341, .int .i64 0, .bool false]) ?_ 1 _ rfl; (with_reducible repeat (first | refine blk_drewN ?_ _ | refine blk_drew ?_ | refine blk_alloc ?_ _)); refine blk_put (cs := #[.int .i64 0, .int .i64 0, .bool false]) ?_ 0 _ rfl; (with_reducible repeat (first | refine blk_drewN ?_ _ | refine blk_drew ?_ | refine blk_alloc ?_ _)); exact BK344.out⟩, ⟨by repeat (first | (with_reducible first | exact HB.out | apply below_alloc | apply pw_below_drewN | apply below_drew1 | refine below_set ?_ GE332.out | refine below_set ?_ GE333.out | refine below_set ?_ GE340.out | refine below_set ?_ GE344.out) | exact HB.out)⟩⟩
                  · rw [if_neg c54] at H
                    have c54b0 : (x341000_2 == ji27) = false := beq_eq_false_iff_ne.mpr c54
                    have c54b1 : (x341000_2 != ji27) = true := bne_iff_ne.mpr c54
                    have H' := Aside0.mk H
                    clear H
                    have hnb62 := NB344_332.out
                    have hnc62 := NB332_344.out
                    have hnb63 := NB344_333.out
                    have hnc63 := NB333_344.out
                    have hnb64 := NB344_340.out
                    have hnc64 := NB340_344.out
                    have hcz65_0 : w48.cell? ⟨gb344, 0, none⟩ = some (.int .i64 0) := (blk_cell BK344.out 0).trans rfl
                    have hcz65_1 : w48.cell? ⟨gb344, 1, none⟩ = some (.int .i64 0) := (blk_cell BK344.out 1).trans rfl
                    have hcz65_2 : w48.cell? ⟨gb344, 2, none⟩ = some (.bool false) := (blk_cell BK344.out 2).trans rfl
                    have hfz65_0 := blk_frozen BK344.out 0
                    have hfz65_1 := blk_frozen BK344.out 1
                    have hfz65_2 := blk_frozen BK344.out 2
                    have hnb66 := NB340_332.out
                    have hnc66 := NB332_340.out
                    have hnb67 := NB340_333.out
                    have hnc67 := NB333_340.out
                    have hcz68_0 : w48.cell? ⟨gb340, 0, none⟩ = some (.int .i64 x341000_2) := (blk_cell BK340.out 0).trans rfl
                    have hcz68_1 : w48.cell? ⟨gb340, 1, none⟩ = some (.int .i64 x341001_2) := (blk_cell BK340.out 1).trans rfl
                    have hcz68_2 : w48.cell? ⟨gb340, 2, none⟩ = some (.bool x341002_2) := (blk_cell BK340.out 2).trans rfl
                    have hfz68_0 := blk_frozen BK340.out 0
                    have hfz68_1 := blk_frozen BK340.out 1
                    have hfz68_2 := blk_frozen BK340.out 2
                    go_wp2
                    go_meet
                    case rel => exact ⟨_, (decide ((ji39) < 1099511627776)), (by first | rfl | (simp; done) | (simp only [← hji39] <;> (first | rfl | simp)) | (simp [*]; done)), H', ⟨by have := HJ4.out; have := HK2.out; first | omega | exact Nat.le_refl _⟩, ⟨by (with_reducible repeat (first | refine blk_drewN ?_ _ | refine blk_drew ?_ | refine blk_alloc ?_ _)); refine blk_far ?_ NB332_344.out _; (with_reducible repeat (first | refine blk_drewN ?_ _ | refine blk_drew ?_ | refine blk_alloc ?_ _)); refine blk_far ?_ NB332_344.out _; (with_reducible repeat (first | refine blk_drewN ?_ _ | refine blk_drew ?_ | refine blk_alloc ?_ _)); refine blk_far ?_ NB332_344.out _; (with_reducible repeat (first | refine blk_drewN ?_ _ | refine blk_drew ?_ | refine blk_alloc ?_ _)); exact BK332.out⟩, ⟨by (with_reducible repeat (first | refine blk_drewN ?_ _ | refine blk_drew ?_ | refine blk_alloc ?_ _)); refine blk_far ?_ NB333_344.out _; (with_reducible repeat (first | refine blk_drewN ?_ _ | refine blk_drew ?_ | refine blk_alloc ?_ _)); refine blk_far ?_ NB333_344.out _; (with_reducible repeat (first | refine blk_drewN ?_ _ | refine blk_drew ?_ | refine blk_alloc ?_ _)); refine blk_far ?_ NB333_344.out _; (with_reducible repeat (first | refine blk_drewN ?_ _ | refine blk_drew ?_ | refine blk_alloc ?_ _)); exact BK333.out⟩, ⟨by (with_reducible repeat (first | refine blk_drewN ?_ _ | refine blk_drew ?_ | refine blk_alloc ?_ _)); refine blk_far ?_ NB340_344.out _; (with_reducible repeat (first | refine blk_drewN ?_ _ | refine blk_drew ?_ | refine blk_alloc ?_ _)); refine blk_far ?_ NB340_344.out _; (with_reducible repeat (first | refine blk_drewN ?_ _ | refine blk_drew ?_ | refine blk_alloc ?_ _)); refine blk_far ?_ NB340_344.out _; (with_reducible repeat (first | refine blk_drewN ?_ _ | refine blk_drew ?_ | refine blk_alloc ?_ _)); exact BK340.out⟩, ⟨by (with_reducible repeat (first | refine blk_drewN ?_ _ | refine blk_drew ?_ | refine blk_alloc ?_ _)); refine blk_put (cs := #[.int .i64 t341, .int .i64 t342, .bool false]) ?_ 2 _ rfl; (with_reducible repeat (first | refine blk_drewN ?_ _ | refine blk_drew ?_ | refine blk_alloc ?_ _)); refine blk_put (cs := #[.int .i64 t341, .int .i64 0, .bool false]) ?_ 1 _ rfl; (with_reducible repeat (first | refine blk_drewN ?_ _ | refine blk_drew ?_ | refine blk_alloc ?_ _)); refine blk_put (cs := #[.int .i64 0, .int .i64 0, .bool false]) ?_ 0 _ rfl; (with_reducible repeat (first | refine blk_drewN ?_ _ | refine blk_drew ?_ | refine blk_alloc ?_ _)); exact BK344.out⟩, ⟨by repeat (first | (with_reducible first | exact HB.out | apply below_alloc | apply pw_below_drewN | apply below_drew1 | refine below_set ?_ GE332.out | refine below_set ?_ GE333.out | refine below_set ?_ GE340.out | refine below_set ?_ GE344.out) | exact HB.out)⟩⟩
                · rw [if_neg c53] at H
                  have c53b0 : (t341 == x341000_2) = false := beq_eq_false_iff_ne.mpr c53
                  have c53b1 : (t341 != x341000_2) = true := bne_iff_ne.mpr c53
                  (first | rw [c53b0] | (simp only [i64_w, i32_w]; rw [c53b0]) | skip)
                  have H' := Aside0.mk H
                  clear H
                  have hnb69 := NB344_332.out
                  have hnc69 := NB332_344.out
                  have hnb70 := NB344_333.out
                  have hnc70 := NB333_344.out
                  have hnb71 := NB344_340.out
                  have hnc71 := NB340_344.out
                  have hcz72_0 : w48.cell? ⟨gb344, 0, none⟩ = some (.int .i64 0) := (blk_cell BK344.out 0).trans rfl
                  have hcz72_1 : w48.cell? ⟨gb344, 1, none⟩ = some (.int .i64 0) := (blk_cell BK344.out 1).trans rfl
                  have hcz72_2 : w48.cell? ⟨gb344, 2, none⟩ = some (.bool false) := (blk_cell BK344.out 2).trans rfl
                  have hfz72_0 := blk_frozen BK344.out 0
                  have hfz72_1 := blk_frozen BK344.out 1
                  have hfz72_2 := blk_frozen BK344.out 2
                  have hnb73 := NB340_332.out
                  have hnc73 := NB332_340.out
                  have hnb74 := NB340_333.out
                  have hnc74 := NB333_340.out
                  have hcz75_0 : w48.cell? ⟨gb340, 0, none⟩ = some (.int .i64 x341000_2) := (blk_cell BK340.out 0).trans rfl
                  have hcz75_1 : w48.cell? ⟨gb340, 1, none⟩ = some (.int .i64 x341001_2) := (blk_cell BK340.out 1).trans rfl
                  have hcz75_2 : w48.cell? ⟨gb340, 2, none⟩ = some (.bool x341002_2) := (blk_cell BK340.out 2).trans rfl
                  have hfz75_0 := blk_frozen BK340.out 0
                  have hfz75_1 := blk_frozen BK340.out 1
                  have hfz75_2 := blk_frozen BK340.out 2
                  go_wp2
                  go_meet
                  case rel => exact ⟨_, (false), (by first | rfl | (simp; done) | (simp [*]; done)), H', ⟨by have := HJ4.out; have := HK2.out; first | omega | exact Nat.le_refl _⟩, ⟨by (with_reducible repeat (first | refine blk_drewN ?_ _ | refine blk_drew ?_ | refine blk_alloc ?_ _)); refine blk_far ?_ NB332_344.out _; (with_reducible repeat (first | refine blk_drewN ?_ _ | refine blk_drew ?_ | refine blk_alloc ?_ _)); refine blk_far ?_ NB332_344.out _; (with_reducible repeat (first | refine blk_drewN ?_ _ | refine blk_drew ?_ | refine blk_alloc ?_ _)); refine blk_far ?_ NB332_344.out _; (with_reducible repeat (first | refine blk_drewN ?_ _ | refine blk_drew ?_ | refine blk_alloc ?_ _)); exact BK332.out⟩, ⟨by (with_reducible repeat (first | refine blk_drewN ?_ _ | refine blk_drew ?_ | refine blk_alloc ?_ _)); refine blk_far ?_ NB333_344.out _; (with_reducible repeat (first | refine blk_drewN ?_ _ | refine blk_drew ?_ | refine blk_alloc ?_ _)); refine blk_far ?_ NB333_344.out _; (with_reducible repeat (first | refine blk_drewN ?_ _ | refine blk_drew ?_ | refine blk_alloc ?_ _)); refine blk_far ?_ NB333_344.out _; (with_reducible repeat (first | refine blk_drewN ?_ _ | refine blk_drew ?_ | refine blk_alloc ?_ _)); exact BK333.out⟩, ⟨by (with_reducible repeat (first | refine blk_drewN ?_ _ | refine blk_drew ?_ | refine blk_alloc ?_ _)); refine blk_far ?_ NB340_344.out _; (with_reducible repeat (first | refine blk_drewN ?_ _ | refine blk_drew ?_ | refine blk_alloc ?_ _)); refine blk_far ?_ NB340_344.out _; (with_reducible repeat (first | refine blk_drewN ?_ _ | refine blk_drew ?_ | refine blk_alloc ?_ _)); refine blk_far ?_ NB340_344.out _; (with_reducible repeat (first | refine blk_drewN ?_ _ | refine blk_drew ?_ | refine blk_alloc ?_ _)); exact BK340.out⟩, ⟨by (with_reducible repeat (first | refine blk_drewN ?_ _ | refine blk_drew ?_ | refine blk_alloc ?_ _)); refine blk_put (cs := #[.int .i64 t341, .int .i64 t342, .bool false]) ?_ 2 _ rfl; (with_reducible repeat (first | refine blk_drewN ?_ _ | refine blk_drew ?_ | refine blk_alloc ?_ _)); refine blk_put (cs := #[.int .i64 t341, .int .i64 0, .bool false]) ?_ 1 _ rfl; (with_reducible repeat (first | refine blk_drewN ?_ _ | refine blk_drew ?_ | refine blk_alloc ?_ _)); refine blk_put (cs := #[.int .i64 0, .int .i64 0, .bool false]) ?_ 0 _ rfl; (with_reducible repeat (first | refine blk_drewN ?_ _ | refine blk_drew ?_ | refine blk_alloc ?_ _)); exact BK344.out⟩, ⟨by repeat (first | (with_reducible first | exact HB.out | apply below_alloc | apply pw_below_drewN | apply below_drew1 | refine below_set ?_ GE332.out | refine below_set ?_ GE333.out | refine below_set ?_ GE340.out | refine below_set ?_ GE344.out) | exact HB.out)⟩⟩
              case rest =>
                clear HC41
                try clear c1
                try clear c2
                try clear p2
                try clear c3
                try clear c4
                try clear c5
                try clear c6
                try clear p6
                try clear c7
                try clear c10
                try clear c12
                try clear c13
                try clear c14
                try clear c18
                try clear c21
                try clear c22
                try clear c24
                try clear c25
                try clear c26
                try clear c29
                try clear c34
                try clear c35
                try clear c38
                try clear c38b0
                try clear c42
                try clear c43
                try clear c45
                try clear c49
                try clear c50
                try clear c51
                try clear c53
                try clear c53b0
                try clear c53b1
                try clear c54
                try clear c54b0
                try clear c54b1
                try clear c55
                try clear c56
                try clear c57
                try clear c59
                try clear c60
                try clear c62
                try clear c63
                try clear c64
                try clear p64
                try clear c66
                try clear c67
                try clear c69
                try clear c70
                try clear c71
                try clear c73
                try clear c74
                try clear hcz14_0
                try clear hcz14_1
                try clear hcz14_10
                try clear hcz14_11
                try clear hcz14_2
                try clear hcz14_3
                try clear hcz14_4
                try clear hcz14_5
                try clear hcz14_6
                try clear hcz14_7
                try clear hcz14_8
                try clear hcz14_9
                try clear hcz16_0
                try clear hcz16_1
                try clear hcz16_2
                try clear hcz17_0
                try clear hcz17_1
                try clear hcz17_10
                try clear hcz17_11
                try clear hcz17_2
                try clear hcz17_3
                try clear hcz17_4
                try clear hcz17_5
                try clear hcz17_6
                try clear hcz17_7
                try clear hcz17_8
                try clear hcz17_9
                try clear hcz19_0
                try clear hcz19_1
                try clear hcz19_10
                try clear hcz19_11
                try clear hcz19_2
                try clear hcz19_3
                try clear hcz19_4
                try clear hcz19_5
                try clear hcz19_6
                try clear hcz19_7
                try clear hcz19_8
                try clear hcz19_9
                try clear hcz21_0
                try clear hcz21_1
                try clear hcz21_2
                try clear hcz23_0
                try clear hcz23_1
                try clear hcz23_10
                try clear hcz23_11
                try clear hcz23_2
                try clear hcz23_3
                try clear hcz23_4
                try clear hcz23_5
                try clear hcz23_6
                try clear hcz23_7
                try clear hcz23_8
                try clear hcz23_9
                try clear hcz30_0
                try clear hcz30_1
                try clear hcz30_10
                try clear hcz30_11
                try clear hcz30_2
                try clear hcz30_3
                try clear hcz30_4
                try clear hcz30_5
                try clear hcz30_6
                try clear hcz30_7
                try clear hcz30_8
                try clear hcz30_9
                try clear hcz31_0
                try clear hcz31_1
                try clear hcz31_2
                try clear hcz36_0
                try clear hcz36_1
                try clear hcz36_2
                try clear hcz37_0
                try clear hcz37_1
                try clear hcz37_2
                try clear hcz44_0
                try clear hcz44_1
                try clear hcz44_10
                try clear hcz44_11
                try clear hcz44_2
                try clear hcz44_3
                try clear hcz44_4
                try clear hcz44_5
                try clear hcz44_6
                try clear hcz44_7
                try clear hcz44_8
                try clear hcz44_9
                try clear hcz46_0
                try clear hcz46_1
                try clear hcz46_2
                try clear hcz52_0
                try clear hcz52_1
                try clear hcz52_2
                try clear hcz58_0
                try clear hcz58_1
                try clear hcz58_2
                try clear hcz61_0
                try clear hcz61_1
                try clear hcz61_2
                try clear hcz65_0
                try clear hcz65_1
                try clear hcz65_2
                try clear hcz68_0
                try clear hcz68_1
                try clear hcz68_2
                try clear hcz72_0
                try clear hcz72_1
                try clear hcz72_2
                try clear hcz75_0
                try clear hcz75_1
                try clear hcz75_2
                try clear hfz14_0
                try clear hfz14_1
                try clear hfz14_10
                try clear hfz14_11
                try clear hfz14_2
                try clear hfz14_3
                try clear hfz14_4
                try clear hfz14_5
                try clear hfz14_6
                try clear hfz14_7
                try clear hfz14_8
                try clear hfz14_9
                try clear hfz16_0
                try clear hfz16_1
                try clear hfz16_2
                try clear hfz17_0
                try clear hfz17_1
                try clear hfz17_10
                try clear hfz17_11
                try clear hfz17_2
                try clear hfz17_3
                try clear hfz17_4
                try clear hfz17_5
                try clear hfz17_6
                try clear hfz17_7
                try clear hfz17_8
                try clear hfz17_9
                try clear hfz19_0
                try clear hfz19_1
                try clear hfz19_10
                try clear hfz19_11
                try clear hfz19_2
                try clear hfz19_3
                try clear hfz19_4
                try clear hfz19_5
                try clear hfz19_6
                try clear hfz19_7
                try clear hfz19_8
                try clear hfz19_9
                try clear hfz21_0
                try clear hfz21_1
                try clear hfz21_2
                try clear hfz23_0
                try clear hfz23_1
                try clear hfz23_10
                try clear hfz23_11
                try clear hfz23_2
                try clear hfz23_3
                try clear hfz23_4
                try clear hfz23_5
                try clear hfz23_6
                try clear hfz23_7
                try clear hfz23_8
                try clear hfz23_9
                try clear hfz30_0
                try clear hfz30_1
                try clear hfz30_10
                try clear hfz30_11
                try clear hfz30_2
                try clear hfz30_3
                try clear hfz30_4
                try clear hfz30_5
                try clear hfz30_6
                try clear hfz30_7
                try clear hfz30_8
                try clear hfz30_9
                try clear hfz31_0
                try clear hfz31_1
                try clear hfz31_2
                try clear hfz36_0
                try clear hfz36_1
                try clear hfz36_2
                try clear hfz37_0
                try clear hfz37_1
                try clear hfz37_2
                try clear hfz44_0
                try clear hfz44_1
                try clear hfz44_10
                try clear hfz44_11
                try clear hfz44_2
                try clear hfz44_3
                try clear hfz44_4
                try clear hfz44_5
                try clear hfz44_6
                try clear hfz44_7
                try clear hfz44_8
                try clear hfz44_9
                try clear hfz46_0
                try clear hfz46_1
                try clear hfz46_2
                try clear hfz52_0
                try clear hfz52_1
                try clear hfz52_2
                try clear hfz58_0
                try clear hfz58_1
                try clear hfz58_2
                try clear hfz61_0
                try clear hfz61_1
                try clear hfz61_2
                try clear hfz65_0
                try clear hfz65_1
                try clear hfz65_2
                try clear hfz68_0
                try clear hfz68_1
                try clear hfz68_2
                try clear hfz72_0
                try clear hfz72_1
                try clear hfz72_2
                try clear hfz75_0
                try clear hfz75_1
                try clear hfz75_2
                try clear p2
                try clear p6
                obtain ⟨kq, x72_40, rfl, HA, HJ40, BK332, BK333, BK340, BK344, HB⟩ := hcut
                cases kq with
                | zero => exact absurd HA.out (by simp [governorlaw15_LimitReach.j2])
                | succ kj40 =>
                  have H := HA.out
                  clear HA
                  simp only [governorlaw15_LimitReach.j2] at H
                  by_cases c76 : x72_40 = true
                  · subst c76
                    have H1 : (some false) = some r := by rw [if_pos rfl] at H; exact H
                    clear H
                    have H := H1
                    clear H1
                    exact absurd (Option.some.inj H) (by rw [HRT.out]; decide)
                  · replace c76 := Bool.eq_false_iff.mpr c76
                    subst c76
                    have H1 : (if x341000_2 = ji27 then (if t341 = ji27 then (governorlaw15_LimitReach.l0 kj40 a2 t334 ji27 ji39 (wrap64 (x11_2 + 1)) a0_0 a0_1 a0_2 a0_3 a0_4 a0_5 a0_6 a0_7 a0_8 a0_9 a0_10 a0_11 t341 t342 t343) else (some false)) else (governorlaw15_LimitReach.l0 kj40 a2 t334 ji27 ji39 (wrap64 (x11_2 + 1)) a0_0 a0_1 a0_2 a0_3 a0_4 a0_5 a0_6 a0_7 a0_8 a0_9 a0_10 a0_11 t341 t342 t343)) = some r := by rw [if_neg (show ¬ (false = true) by decide)] at H; exact H
                    clear H
                    have H := H1
                    clear H1
                    by_cases c77 : x341000_2 = ji27
                    · rw [if_pos c77] at H
                      have c77b0 : (x341000_2 == ji27) = true := beq_iff_eq.mpr c77
                      have c77b1 : (x341000_2 != ji27) = false := bne_eq_false_iff_eq.mpr c77
                      clear c77
                      by_cases c78 : t341 = ji27
                      · rw [if_pos c78] at H
                        have c78b0 : (t341 == ji27) = true := beq_iff_eq.mpr c78
                        have c78b1 : (t341 != ji27) = false := bne_eq_false_iff_eq.mpr c78
                        clear c78
                        have H' := Aside0.mk H
                        clear H
                        have hnb79 := NB340_332.out
                        have hnc79 := NB332_340.out
                        have hnb80 := NB340_333.out
                        have hnc80 := NB333_340.out
                        have hnb81 := NB340_344.out
                        have hnc81 := NB344_340.out
                        have hcz82_0 : wc.cell? ⟨gb340, 0, none⟩ = some (.int .i64 x341000_2) := (blk_cell BK340.out 0).trans rfl
                        have hcz82_1 : wc.cell? ⟨gb340, 1, none⟩ = some (.int .i64 x341001_2) := (blk_cell BK340.out 1).trans rfl
                        have hcz82_2 : wc.cell? ⟨gb340, 2, none⟩ = some (.bool x341002_2) := (blk_cell BK340.out 2).trans rfl
                        have hfz82_0 := blk_frozen BK340.out 0
                        have hfz82_1 := blk_frozen BK340.out 1
                        have hfz82_2 := blk_frozen BK340.out 2
                        have hnb83 := NB344_332.out
                        have hnc83 := NB332_344.out
                        have hnb84 := NB344_333.out
                        have hnc84 := NB333_344.out
                        have hcz85_0 : wc.cell? ⟨gb344, 0, none⟩ = some (.int .i64 t341) := (blk_cell BK344.out 0).trans rfl
                        have hcz85_1 : wc.cell? ⟨gb344, 1, none⟩ = some (.int .i64 t342) := (blk_cell BK344.out 1).trans rfl
                        have hcz85_2 : wc.cell? ⟨gb344, 2, none⟩ = some (.bool t343) := (blk_cell BK344.out 2).trans rfl
                        have hfz85_0 := blk_frozen BK344.out 0
                        have hfz85_1 := blk_frozen BK344.out 1
                        have hfz85_2 := blk_frozen BK344.out 2
                        go_wp2
                        go_roundg kj40
                        case measure => have := HJ4.out; have := HK2.out; have := HJ40.out; omega
                        case rel => exact ⟨(ji39), (wrap64 (x11_2 + 1)), (t341), (t342), (t343), (by first | rfl | (simp; done) | (simp only [← hji39] <;> (first | rfl | simp)) | (simp [*]; done)), (by first | rfl | (simp; done) | (simp [*]; done)), H', ⟨by have := HJ4.out; have := HK2.out; have := HJ40.out; omega⟩, ⟨by (with_reducible repeat (first | refine blk_drewN ?_ _ | refine blk_drew ?_ | refine blk_alloc ?_ _)); refine blk_far ?_ NB332_340.out _; (with_reducible repeat (first | refine blk_drewN ?_ _ | refine blk_drew ?_ | refine blk_alloc ?_ _)); refine blk_far ?_ NB332_340.out _; (with_reducible repeat (first | refine blk_drewN ?_ _ | refine blk_drew ?_ | refine blk_alloc ?_ _)); refine blk_far ?_ NB332_340.out _; (with_reducible repeat (first | refine blk_drewN ?_ _ | refine blk_drew ?_ | refine blk_alloc ?_ _)); exact BK332.out⟩, ⟨by (with_reducible repeat (first | refine blk_drewN ?_ _ | refine blk_drew ?_ | refine blk_alloc ?_ _)); refine blk_far ?_ NB333_340.out _; (with_reducible repeat (first | refine blk_drewN ?_ _ | refine blk_drew ?_ | refine blk_alloc ?_ _)); refine blk_far ?_ NB333_340.out _; (with_reducible repeat (first | refine blk_drewN ?_ _ | refine blk_drew ?_ | refine blk_alloc ?_ _)); refine blk_far ?_ NB333_340.out _; (with_reducible repeat (first | refine blk_drewN ?_ _ | refine blk_drew ?_ | refine blk_alloc ?_ _)); exact BK333.out⟩, ⟨by (with_reducible repeat (first | refine blk_drewN ?_ _ | refine blk_drew ?_ | refine blk_alloc ?_ _)); refine blk_put (cs := #[.int .i64 t341, .int .i64 t342, .bool x341002_2]) ?_ 2 _ rfl; (with_reducible repeat (first | refine blk_drewN ?_ _ | refine blk_drew ?_ | refine blk_alloc ?_ _)); refine blk_put (cs := #[.int .i64 t341, .int .i64 x341001_2, .bool x341002_2]) ?_ 1 _ rfl; (with_reducible repeat (first | refine blk_drewN ?_ _ | refine blk_drew ?_ | refine blk_alloc ?_ _)); refine blk_put (cs := #[.int .i64 x341000_2, .int .i64 x341001_2, .bool x341002_2]) ?_ 0 _ rfl; (with_reducible repeat (first | refine blk_drewN ?_ _ | refine blk_drew ?_ | refine blk_alloc ?_ _)); exact BK340.out⟩, ⟨by repeat (first | (with_reducible first | exact HB.out | apply below_alloc | apply pw_below_drewN | apply below_drew1 | refine below_set ?_ GE332.out | refine below_set ?_ GE333.out | refine below_set ?_ GE340.out | refine below_set ?_ GE344.out) | exact HB.out)⟩⟩
                      · rw [if_neg c78] at H
                        have c78b0 : (t341 == ji27) = false := beq_eq_false_iff_ne.mpr c78
                        have c78b1 : (t341 != ji27) = true := bne_iff_ne.mpr c78
                        exact absurd (Option.some.inj H) (by rw [HRT.out]; decide)
                    · rw [if_neg c77] at H
                      have c77b0 : (x341000_2 == ji27) = false := beq_eq_false_iff_ne.mpr c77
                      have c77b1 : (x341000_2 != ji27) = true := bne_iff_ne.mpr c77
                      have H' := Aside0.mk H
                      clear H
                      have hnb86 := NB340_332.out
                      have hnc86 := NB332_340.out
                      have hnb87 := NB340_333.out
                      have hnc87 := NB333_340.out
                      have hnb88 := NB340_344.out
                      have hnc88 := NB344_340.out
                      have hcz89_0 : wc.cell? ⟨gb340, 0, none⟩ = some (.int .i64 x341000_2) := (blk_cell BK340.out 0).trans rfl
                      have hcz89_1 : wc.cell? ⟨gb340, 1, none⟩ = some (.int .i64 x341001_2) := (blk_cell BK340.out 1).trans rfl
                      have hcz89_2 : wc.cell? ⟨gb340, 2, none⟩ = some (.bool x341002_2) := (blk_cell BK340.out 2).trans rfl
                      have hfz89_0 := blk_frozen BK340.out 0
                      have hfz89_1 := blk_frozen BK340.out 1
                      have hfz89_2 := blk_frozen BK340.out 2
                      have hnb90 := NB344_332.out
                      have hnc90 := NB332_344.out
                      have hnb91 := NB344_333.out
                      have hnc91 := NB333_344.out
                      have hcz92_0 : wc.cell? ⟨gb344, 0, none⟩ = some (.int .i64 t341) := (blk_cell BK344.out 0).trans rfl
                      have hcz92_1 : wc.cell? ⟨gb344, 1, none⟩ = some (.int .i64 t342) := (blk_cell BK344.out 1).trans rfl
                      have hcz92_2 : wc.cell? ⟨gb344, 2, none⟩ = some (.bool t343) := (blk_cell BK344.out 2).trans rfl
                      have hfz92_0 := blk_frozen BK344.out 0
                      have hfz92_1 := blk_frozen BK344.out 1
                      have hfz92_2 := blk_frozen BK344.out 2
                      go_wp2
                      go_roundg kj40
                      case measure => have := HJ4.out; have := HK2.out; have := HJ40.out; omega
                      case rel => exact ⟨(ji39), (wrap64 (x11_2 + 1)), (t341), (t342), (t343), (by first | rfl | (simp; done) | (simp only [← hji39] <;> (first | rfl | simp)) | (simp [*]; done)), (by first | rfl | (simp; done) | (simp [*]; done)), H', ⟨by have := HJ4.out; have := HK2.out; have := HJ40.out; omega⟩, ⟨by (with_reducible repeat (first | refine blk_drewN ?_ _ | refine blk_drew ?_ | refine blk_alloc ?_ _)); refine blk_far ?_ NB332_340.out _; (with_reducible repeat (first | refine blk_drewN ?_ _ | refine blk_drew ?_ | refine blk_alloc ?_ _)); refine blk_far ?_ NB332_340.out _; (with_reducible repeat (first | refine blk_drewN ?_ _ | refine blk_drew ?_ | refine blk_alloc ?_ _)); refine blk_far ?_ NB332_340.out _; (with_reducible repeat (first | refine blk_drewN ?_ _ | refine blk_drew ?_ | refine blk_alloc ?_ _)); exact BK332.out⟩, ⟨by (with_reducible repeat (first | refine blk_drewN ?_ _ | refine blk_drew ?_ | refine blk_alloc ?_ _)); refine blk_far ?_ NB333_340.out _; (with_reducible repeat (first | refine blk_drewN ?_ _ | refine blk_drew ?_ | refine blk_alloc ?_ _)); refine blk_far ?_ NB333_340.out _; (with_reducible repeat (first | refine blk_drewN ?_ _ | refine blk_drew ?_ | refine blk_alloc ?_ _)); refine blk_far ?_ NB333_340.out _; (with_reducible repeat (first | refine blk_drewN ?_ _ | refine blk_drew ?_ | refine blk_alloc ?_ _)); exact BK333.out⟩, ⟨by (with_reducible repeat (first | refine blk_drewN ?_ _ | refine blk_drew ?_ | refine blk_alloc ?_ _)); refine blk_put (cs := #[.int .i64 t341, .int .i64 t342, .bool x341002_2]) ?_ 2 _ rfl; (with_reducible repeat (first | refine blk_drewN ?_ _ | refine blk_drew ?_ | refine blk_alloc ?_ _)); refine blk_put (cs := #[.int .i64 t341, .int .i64 x341001_2, .bool x341002_2]) ?_ 1 _ rfl; (with_reducible repeat (first | refine blk_drewN ?_ _ | refine blk_drew ?_ | refine blk_alloc ?_ _)); refine blk_put (cs := #[.int .i64 x341000_2, .int .i64 x341001_2, .bool x341002_2]) ?_ 0 _ rfl; (with_reducible repeat (first | refine blk_drewN ?_ _ | refine blk_drew ?_ | refine blk_alloc ?_ _)); exact BK340.out⟩, ⟨by repeat (first | (with_reducible first | exact HB.out | apply below_alloc | apply pw_below_drewN | apply below_drew1 | refine below_set ?_ GE332.out | refine below_set ?_ GE333.out | refine below_set ?_ GE340.out | refine below_set ?_ GE344.out) | exact HB.out)⟩⟩
            · rw [if_neg c38] at H
              have c38b0 : decide (x11_2 < 1002) = false := decide_eq_false c38
              clear c38
              by_cases c93 : t334 = true
              · subst c93
                have H1 : (if x341000_2 = ji27 then (some true) else (some (x10_2 == 1099511627776))) = some r := by rw [if_pos rfl] at H; exact H
                clear H
                have H := H1
                clear H1
                by_cases c94 : x341000_2 = ji27
                · rw [if_pos c94] at H
                  have c94b0 : (x341000_2 == ji27) = true := beq_iff_eq.mpr c94
                  have c94b1 : (x341000_2 != ji27) = false := bne_eq_false_iff_eq.mpr c94
                  clear c94
                  obtain rfl := Option.some.inj H
                  have hnb95 := NB340_332.out
                  have hnc95 := NB332_340.out
                  have hnb96 := NB340_333.out
                  have hnc96 := NB333_340.out
                  have hcz97_0 : wr.cell? ⟨gb340, 0, none⟩ = some (.int .i64 x341000_2) := (blk_cell BK340.out 0).trans rfl
                  have hcz97_1 : wr.cell? ⟨gb340, 1, none⟩ = some (.int .i64 x341001_2) := (blk_cell BK340.out 1).trans rfl
                  have hcz97_2 : wr.cell? ⟨gb340, 2, none⟩ = some (.bool x341002_2) := (blk_cell BK340.out 2).trans rfl
                  have hfz97_0 := blk_frozen BK340.out 0
                  have hfz97_1 := blk_frozen BK340.out 1
                  have hfz97_2 := blk_frozen BK340.out 2
                  go_wp2
                  go_ret
                  exact ⟨by first | rfl | (simp [errW_none, errW_some] <;> rfl) | (simp only [← hji26, ← hji27]; first | rfl | (simp [errW_none, errW_some] <;> rfl)) | (simp [*, errW_none, errW_some] <;> rfl), by repeat (first | (with_reducible first | exact HB.out | apply below_alloc | apply pw_below_drewN | apply below_drew1 | refine below_set ?_ GE332.out | refine below_set ?_ GE333.out | refine below_set ?_ GE340.out) | exact HB.out)⟩
                · rw [if_neg c94] at H
                  have c94b0 : (x341000_2 == ji27) = false := beq_eq_false_iff_ne.mpr c94
                  have c94b1 : (x341000_2 != ji27) = true := bne_iff_ne.mpr c94
                  obtain rfl := Option.some.inj H
                  have hnb98 := NB340_332.out
                  have hnc98 := NB332_340.out
                  have hnb99 := NB340_333.out
                  have hnc99 := NB333_340.out
                  have hcz100_0 : wr.cell? ⟨gb340, 0, none⟩ = some (.int .i64 x341000_2) := (blk_cell BK340.out 0).trans rfl
                  have hcz100_1 : wr.cell? ⟨gb340, 1, none⟩ = some (.int .i64 x341001_2) := (blk_cell BK340.out 1).trans rfl
                  have hcz100_2 : wr.cell? ⟨gb340, 2, none⟩ = some (.bool x341002_2) := (blk_cell BK340.out 2).trans rfl
                  have hfz100_0 := blk_frozen BK340.out 0
                  have hfz100_1 := blk_frozen BK340.out 1
                  have hfz100_2 := blk_frozen BK340.out 2
                  go_wp2
                  go_ret
                  exact ⟨by first | rfl | (simp [errW_none, errW_some] <;> rfl) | (simp only [← hji26, ← hji27]; first | rfl | (simp [errW_none, errW_some] <;> rfl)) | (simp [*, errW_none, errW_some] <;> rfl), by repeat (first | (with_reducible first | exact HB.out | apply below_alloc | apply pw_below_drewN | apply below_drew1 | refine below_set ?_ GE332.out | refine below_set ?_ GE333.out | refine below_set ?_ GE340.out) | exact HB.out)⟩
              · replace c93 := Bool.eq_false_iff.mpr c93
                subst c93
                have H1 : (some false) = some r := by rw [if_neg (show ¬ (false = true) by decide)] at H; exact H
                clear H
                have H := H1
                clear H1
                exact absurd (Option.some.inj H) (by rw [HRT.out]; decide)

end Go.Proofs.Ytnipomnkjegebaa.PAll
