-- laid by a program of this session (tprint.py) out of the translation and of texts typed by hand; Lean checks it
import Derived.Test.YtnipomnkjegebaaPAllx0
import Derived.Test.YtnipomnkjegebaaPAllx1
import Derived.Test.YtnipomnkjegebaaPAllx16
import Derived.Test.YtnipomnkjegebaaPAllx18
import Derived.Test.YtnipomnkjegebaaPAllx20
import Derived.Test.YtnipomnkjegebaaPAllx21
import Derived.Test.YtnipomnkjegebaaPAllx22
namespace Go.Proofs.Ytnipomnkjegebaa.PAll
open Go.RowKit Go.Proofs.YtnipomnkjegebaaW.PrintWords Go.Proofs.YtnipomnkjegebaaW.PrintLast Go.Proofs.YtnipomnkjegebaaW.PrintMore
attribute [local go_sem] max2_int min2_int max_two min_two max_three min_three max_four min_four   -- for this text's walks alone
set_option linter.unusedVariables false
set_option linter.unusedSimpArgs false

attribute [local go_sem high] eqA39
/-! ### governorlaw15_LimitWanted: function 12 -/
mutual
def governorlaw15_LimitWanted.j0 : Nat → Int → Int → Bool → Bool → Int → Int → Int → Int → Int → Int → Int → Int → Int → Int → Int → Int → Int → Int → Bool → Option (Bool)
  | 0, _, _, _, _, _, _, _, _, _, _, _, _, _, _, _, _, _, _, _ => none
  | k + 1, x2, x3, x9, x25, x307000, x307001, x307002, x307003, x307004, x307005, x307006, x307007, x307008, x307009, x307010, x307011, x308000, x308001, x308002 => if x25 = true then (some x9) else ((limit_Into.f x307000 x307001 x307002 x307003 x307004 x307005 x307006 x307007 x307008 x307009 x307010 x307011 x308000 x308001 x308002).bind fun bt311 => ((limit_Next.f x307000 x307001 x307002 x307003 x307004 x307005 x307006 x307007 x307008 x307009 x307010 x307011 x308000 x308001 x308002 (wrap64 (x2)) (wrap64 (x3))).bind fun bt315 => (if (wrap64 ((mn (mx (wrap64 (x2)) x307000) x307001) - bt311.1)) ≤ x307002 then (governorlaw15_LimitWanted.j1 k x3 x9 (mn (mx (wrap64 (x2)) x307000) x307001) (decide ((wrap64 (bt311.1 - (mn (mx (wrap64 (x2)) x307000) x307001))) ≤ x307002)) x307000 x307001 x307002 x307003 x307004 x307005 x307006 x307007 x307008 x307009 x307010 x307011 bt311.1 bt311.2.1 bt311.2.2 bt315.1 bt315.2.1 bt315.2.2) else (governorlaw15_LimitWanted.j1 k x3 x9 (mn (mx (wrap64 (x2)) x307000) x307001) false x307000 x307001 x307002 x307003 x307004 x307005 x307006 x307007 x307008 x307009 x307010 x307011 bt311.1 bt311.2.1 bt311.2.2 bt315.1 bt315.2.1 bt315.2.2))))
def governorlaw15_LimitWanted.j1 : Nat → Int → Bool → Int → Bool → Int → Int → Int → Int → Int → Int → Int → Int → Int → Int → Int → Int → Int → Int → Bool → Int → Int → Bool → Option (Bool)
  | 0, _, _, _, _, _, _, _, _, _, _, _, _, _, _, _, _, _, _, _, _, _, _ => none
  | k + 1, x3, x9, x13, x14, x307000, x307001, x307002, x307003, x307004, x307005, x307006, x307007, x307008, x307009, x307010, x307011, x315000, x315001, x315002, x319000, x319001, x319002 => if x13 < x315000 then (if x315002 = true then (governorlaw15_LimitWanted.j2 k x9 x13 x14 (decide ((wrap64 ((wrap64 (x3)) - x315001)) < x307003)) x315000 x315001 x315002 x319000 x319001 x319002) else (governorlaw15_LimitWanted.j2 k x9 x13 x14 false x315000 x315001 x315002 x319000 x319001 x319002)) else (governorlaw15_LimitWanted.j2 k x9 x13 x14 false x315000 x315001 x315002 x319000 x319001 x319002)
def governorlaw15_LimitWanted.j2 : Nat → Bool → Int → Bool → Bool → Int → Int → Bool → Int → Int → Bool → Option (Bool)
  | 0, _, _, _, _, _, _, _, _, _, _ => none
  | k + 1, x9, x13, x14, x15, x315000, x315001, x315002, x319000, x319001, x319002 => if x14 = true then (if x15 = true then (governorlaw15_LimitWanted.j3 k x9 x13 x15 false x315000 x315001 x315002 x319000 x319001 x319002) else (governorlaw15_LimitWanted.j3 k x9 x13 x15 (x319000 != x13) x315000 x315001 x315002 x319000 x319001 x319002)) else (governorlaw15_LimitWanted.j3 k x9 x13 x15 false x315000 x315001 x315002 x319000 x319001 x319002)
def governorlaw15_LimitWanted.j3 : Nat → Bool → Int → Bool → Bool → Int → Int → Bool → Int → Int → Bool → Option (Bool)
  | 0, _, _, _, _, _, _, _, _, _, _ => none
  | k + 1, x9, x13, x15, x89, x315000, x315001, x315002, x319000, x319001, x319002 => if x89 = true then (some false) else (if x15 = true then (if x9 = true then (some (x319000 == x315000 && (x319001 == x315001 && (x319002 == x315002)))) else (some false)) else (if x9 = true then (if x319000 ≥ (mn x13 x315000) then (some (decide (x319000 ≤ (mx x13 x315000)))) else (some false)) else (some false)))
end
def governorlaw15_LimitWanted.f (k : Nat) (a0_0 : Int) (a0_1 : Int) (a0_2 : Int) (a0_3 : Int) (a0_4 : Int) (a0_5 : Int) (a0_6 : Int) (a0_7 : Int) (a0_8 : Int) (a0_9 : Int) (a0_10 : Int) (a0_11 : Int) (a1_0 : Int) (a1_1 : Int) (a1_2 : Bool) (a2 : Int) (a3 : Int) : Option (Bool) := (governorlaw15_head.f).bind fun t308 => ((governorref09_Conf.f a0_0 a0_1 a0_2 a0_3 a0_4 a0_5 a0_6 a0_7 a0_8 a0_9 a0_10 a0_11).bind fun t309 => (if t309 = true then ((governorlaw15_time.f a1_1).bind fun t310 => (governorlaw15_LimitWanted.j0 k a2 a3 t308 (!t310) a0_0 a0_1 a0_2 a0_3 a0_4 a0_5 a0_6 a0_7 a0_8 a0_9 a0_10 a0_11 a1_0 a1_1 a1_2)) else (governorlaw15_LimitWanted.j0 k a2 a3 t308 true a0_0 a0_1 a0_2 a0_3 a0_4 a0_5 a0_6 a0_7 a0_8 a0_9 a0_10 a0_11 a1_0 a1_1 a1_2)))
theorem governorlaw15_LimitWanted.mono_l : ∀ k, (∀ y0 y1 y2 y3 y4 y5 y6 y7 y8 y9 y10 y11 y12 y13 y14 y15 y16 y17 y18, LeO (governorlaw15_LimitWanted.j0 k y0 y1 y2 y3 y4 y5 y6 y7 y8 y9 y10 y11 y12 y13 y14 y15 y16 y17 y18) (governorlaw15_LimitWanted.j0 (k + 1) y0 y1 y2 y3 y4 y5 y6 y7 y8 y9 y10 y11 y12 y13 y14 y15 y16 y17 y18)) ∧ (∀ y0 y1 y2 y3 y4 y5 y6 y7 y8 y9 y10 y11 y12 y13 y14 y15 y16 y17 y18 y19 y20 y21, LeO (governorlaw15_LimitWanted.j1 k y0 y1 y2 y3 y4 y5 y6 y7 y8 y9 y10 y11 y12 y13 y14 y15 y16 y17 y18 y19 y20 y21) (governorlaw15_LimitWanted.j1 (k + 1) y0 y1 y2 y3 y4 y5 y6 y7 y8 y9 y10 y11 y12 y13 y14 y15 y16 y17 y18 y19 y20 y21)) ∧ (∀ y0 y1 y2 y3 y4 y5 y6 y7 y8 y9, LeO (governorlaw15_LimitWanted.j2 k y0 y1 y2 y3 y4 y5 y6 y7 y8 y9) (governorlaw15_LimitWanted.j2 (k + 1) y0 y1 y2 y3 y4 y5 y6 y7 y8 y9)) ∧ (∀ y0 y1 y2 y3 y4 y5 y6 y7 y8 y9, LeO (governorlaw15_LimitWanted.j3 k y0 y1 y2 y3 y4 y5 y6 y7 y8 y9) (governorlaw15_LimitWanted.j3 (k + 1) y0 y1 y2 y3 y4 y5 y6 y7 y8 y9))
  | 0 => ⟨fun _ _ _ _ _ _ _ _ _ _ _ _ _ _ _ _ _ _ _ r h => by simp [governorlaw15_LimitWanted.j0] at h, fun _ _ _ _ _ _ _ _ _ _ _ _ _ _ _ _ _ _ _ _ _ _ r h => by simp [governorlaw15_LimitWanted.j1] at h, fun _ _ _ _ _ _ _ _ _ _ r h => by simp [governorlaw15_LimitWanted.j2] at h, fun _ _ _ _ _ _ _ _ _ _ r h => by simp [governorlaw15_LimitWanted.j3] at h⟩
  | k + 1 => by
    obtain ⟨ih0, ih1, ih2, ih3⟩ := governorlaw15_LimitWanted.mono_l k
    refine ⟨?_, ?_, ?_, ?_⟩
    · intro y0 y1 y2 y3 y4 y5 y6 y7 y8 y9 y10 y11 y12 y13 y14 y15 y16 y17 y18
      unfold governorlaw15_LimitWanted.j0
      repeat' first
      | (with_reducible exact ih0 _ _ _ _ _ _ _ _ _ _ _ _ _ _ _ _ _ _ _)
      | (with_reducible exact ih1 _ _ _ _ _ _ _ _ _ _ _ _ _ _ _ _ _ _ _ _ _ _)
      | (with_reducible exact ih2 _ _ _ _ _ _ _ _ _ _)
      | (with_reducible exact ih3 _ _ _ _ _ _ _ _ _ _)
      | (with_reducible exact LeO.refl _)
      | (with_reducible exact LeO.none _)
      | (with_reducible refine LeO.ite ?_ ?_)
      | (with_reducible refine LeO.bind ?_ (fun _ => ?_))
      | exact ih0 _ _ _ _ _ _ _ _ _ _ _ _ _ _ _ _ _ _ _
      | exact ih1 _ _ _ _ _ _ _ _ _ _ _ _ _ _ _ _ _ _ _ _ _ _
      | exact ih2 _ _ _ _ _ _ _ _ _ _
      | exact ih3 _ _ _ _ _ _ _ _ _ _
      | exact LeO.none _
      | refine LeO.ite ?_ ?_
      | refine LeO.bind ?_ (fun _ => ?_)
    · intro y0 y1 y2 y3 y4 y5 y6 y7 y8 y9 y10 y11 y12 y13 y14 y15 y16 y17 y18 y19 y20 y21
      unfold governorlaw15_LimitWanted.j1
      repeat' first
      | (with_reducible exact ih0 _ _ _ _ _ _ _ _ _ _ _ _ _ _ _ _ _ _ _)
      | (with_reducible exact ih1 _ _ _ _ _ _ _ _ _ _ _ _ _ _ _ _ _ _ _ _ _ _)
      | (with_reducible exact ih2 _ _ _ _ _ _ _ _ _ _)
      | (with_reducible exact ih3 _ _ _ _ _ _ _ _ _ _)
      | (with_reducible exact LeO.refl _)
      | (with_reducible exact LeO.none _)
      | (with_reducible refine LeO.ite ?_ ?_)
      | (with_reducible refine LeO.bind ?_ (fun _ => ?_))
      | exact ih0 _ _ _ _ _ _ _ _ _ _ _ _ _ _ _ _ _ _ _
      | exact ih1 _ _ _ _ _ _ _ _ _ _ _ _ _ _ _ _ _ _ _ _ _ _
      | exact ih2 _ _ _ _ _ _ _ _ _ _
      | exact ih3 _ _ _ _ _ _ _ _ _ _
      | exact LeO.none _
      | refine LeO.ite ?_ ?_
      | refine LeO.bind ?_ (fun _ => ?_)
    · intro y0 y1 y2 y3 y4 y5 y6 y7 y8 y9
      unfold governorlaw15_LimitWanted.j2
      repeat' first
      | (with_reducible exact ih0 _ _ _ _ _ _ _ _ _ _ _ _ _ _ _ _ _ _ _)
      | (with_reducible exact ih1 _ _ _ _ _ _ _ _ _ _ _ _ _ _ _ _ _ _ _ _ _ _)
      | (with_reducible exact ih2 _ _ _ _ _ _ _ _ _ _)
      | (with_reducible exact ih3 _ _ _ _ _ _ _ _ _ _)
      | (with_reducible exact LeO.refl _)
      | (with_reducible exact LeO.none _)
      | (with_reducible refine LeO.ite ?_ ?_)
      | (with_reducible refine LeO.bind ?_ (fun _ => ?_))
      | exact ih0 _ _ _ _ _ _ _ _ _ _ _ _ _ _ _ _ _ _ _
      | exact ih1 _ _ _ _ _ _ _ _ _ _ _ _ _ _ _ _ _ _ _ _ _ _
      | exact ih2 _ _ _ _ _ _ _ _ _ _
      | exact ih3 _ _ _ _ _ _ _ _ _ _
      | exact LeO.none _
      | refine LeO.ite ?_ ?_
      | refine LeO.bind ?_ (fun _ => ?_)
    · intro y0 y1 y2 y3 y4 y5 y6 y7 y8 y9
      unfold governorlaw15_LimitWanted.j3
      repeat' first
      | (with_reducible exact ih0 _ _ _ _ _ _ _ _ _ _ _ _ _ _ _ _ _ _ _)
      | (with_reducible exact ih1 _ _ _ _ _ _ _ _ _ _ _ _ _ _ _ _ _ _ _ _ _ _)
      | (with_reducible exact ih2 _ _ _ _ _ _ _ _ _ _)
      | (with_reducible exact ih3 _ _ _ _ _ _ _ _ _ _)
      | (with_reducible exact LeO.refl _)
      | (with_reducible exact LeO.none _)
      | (with_reducible refine LeO.ite ?_ ?_)
      | (with_reducible refine LeO.bind ?_ (fun _ => ?_))
      | exact ih0 _ _ _ _ _ _ _ _ _ _ _ _ _ _ _ _ _ _ _
      | exact ih1 _ _ _ _ _ _ _ _ _ _ _ _ _ _ _ _ _ _ _ _ _ _
      | exact ih2 _ _ _ _ _ _ _ _ _ _
      | exact ih3 _ _ _ _ _ _ _ _ _ _
      | exact LeO.none _
      | refine LeO.ite ?_ ?_
      | refine LeO.bind ?_ (fun _ => ?_)
theorem governorlaw15_LimitWanted.mono : ∀ a0 a1 a2 a3 a4 a5 a6 a7 a8 a9 a10 a11 a12 a13 a14 a15 a16 k, LeO (governorlaw15_LimitWanted.f k a0 a1 a2 a3 a4 a5 a6 a7 a8 a9 a10 a11 a12 a13 a14 a15 a16) (governorlaw15_LimitWanted.f (k + 1) a0 a1 a2 a3 a4 a5 a6 a7 a8 a9 a10 a11 a12 a13 a14 a15 a16) := by
  intro a0 a1 a2 a3 a4 a5 a6 a7 a8 a9 a10 a11 a12 a13 a14 a15 a16 k
  obtain ⟨ih0, ih1, ih2, ih3⟩ := governorlaw15_LimitWanted.mono_l k
  unfold governorlaw15_LimitWanted.f
  repeat' first
      | (with_reducible exact ih0 _ _ _ _ _ _ _ _ _ _ _ _ _ _ _ _ _ _ _)
      | (with_reducible exact ih1 _ _ _ _ _ _ _ _ _ _ _ _ _ _ _ _ _ _ _ _ _ _)
      | (with_reducible exact ih2 _ _ _ _ _ _ _ _ _ _)
      | (with_reducible exact ih3 _ _ _ _ _ _ _ _ _ _)
      | (with_reducible exact LeO.refl _)
      | (with_reducible exact LeO.none _)
      | (with_reducible refine LeO.ite ?_ ?_)
      | (with_reducible refine LeO.bind ?_ (fun _ => ?_))
      | exact ih0 _ _ _ _ _ _ _ _ _ _ _ _ _ _ _ _ _ _ _
      | exact ih1 _ _ _ _ _ _ _ _ _ _ _ _ _ _ _ _ _ _ _ _ _ _
      | exact ih2 _ _ _ _ _ _ _ _ _ _
      | exact ih3 _ _ _ _ _ _ _ _ _ _
      | exact LeO.none _
      | refine LeO.ite ?_ ?_
      | refine LeO.bind ?_ (fun _ => ?_)
set_option maxHeartbeats 8000000 in
set_option maxRecDepth 100000 in
theorem governorlaw15_LimitWanted.calls (k : Nat) (a0_0 : Int) (a0_1 : Int) (a0_2 : Int) (a0_3 : Int) (a0_4 : Int) (a0_5 : Int) (a0_6 : Int) (a0_7 : Int) (a0_8 : Int) (a0_9 : Int) (a0_10 : Int) (a0_11 : Int) (a1_0 : Int) (a1_1 : Int) (a1_2 : Bool) (a2 : Int) (a3 : Int) (r : Bool) (w : World) (hrT : r = true) (h : governorlaw15_LimitWanted.f k a0_0 a0_1 a0_2 a0_3 a0_4 a0_5 a0_6 a0_7 a0_8 a0_9 a0_10 a0_11 a1_0 a1_1 a1_2 a2 a3 = some r) :
    Calls Try.prog 12 #[.agg #[.int .i64 a0_0, .int .i64 a0_1, .int .i64 a0_2, .int .i64 a0_3, .int .i64 a0_4, .int .i64 a0_5, .int .i64 a0_6, .int .i64 a0_7, .int .i64 a0_8, .int .i64 a0_9, .int .i64 a0_10, .int .i64 a0_11], .agg #[.int .i64 a1_0, .int .i64 a1_1, .bool a1_2], .int .i16 a2, .int .u16 a3] w fun e w' => e = .returned (.bool r) ∧ Below w.heap.size w w' := by
  have hu37 := Try.underlying37
  have hu39 := Try.underlying39
  have HB := Aside0.mk (Below.refl w.heap.size w)
  have HRT := Aside0.mk hrT
  clear hrT
  have H : ((governorlaw15_head.f).bind fun t308 => ((governorref09_Conf.f a0_0 a0_1 a0_2 a0_3 a0_4 a0_5 a0_6 a0_7 a0_8 a0_9 a0_10 a0_11).bind fun t309 => (if t309 = true then ((governorlaw15_time.f a1_1).bind fun t310 => (governorlaw15_LimitWanted.j0 k a2 a3 t308 (!t310) a0_0 a0_1 a0_2 a0_3 a0_4 a0_5 a0_6 a0_7 a0_8 a0_9 a0_10 a0_11 a1_0 a1_1 a1_2)) else (governorlaw15_LimitWanted.j0 k a2 a3 t308 true a0_0 a0_1 a0_2 a0_3 a0_4 a0_5 a0_6 a0_7 a0_8 a0_9 a0_10 a0_11 a1_0 a1_1 a1_2)))) = some r := h
  clear h
  replace H := Option.bind_eq_some_iff.mp H
  obtain ⟨t308, A50, H⟩ := H
  replace H : ((governorref09_Conf.f a0_0 a0_1 a0_2 a0_3 a0_4 a0_5 a0_6 a0_7 a0_8 a0_9 a0_10 a0_11).bind fun t309 => (if t309 = true then ((governorlaw15_time.f a1_1).bind fun t310 => (governorlaw15_LimitWanted.j0 k a2 a3 t308 (!t310) a0_0 a0_1 a0_2 a0_3 a0_4 a0_5 a0_6 a0_7 a0_8 a0_9 a0_10 a0_11 a1_0 a1_1 a1_2)) else (governorlaw15_LimitWanted.j0 k a2 a3 t308 true a0_0 a0_1 a0_2 a0_3 a0_4 a0_5 a0_6 a0_7 a0_8 a0_9 a0_10 a0_11 a1_0 a1_1 a1_2))) = some r := H
  have A5 := Aside0.mk A50
  clear A50
  have HC6 := Aside0.mk H
  clear H
  go_enter Try.func12, Try.ntmps12
  go_upto_region 2 with (first | ((with_reducible refine gate_dst (N := 4) rfl ?_); (try (refine gate_guard (by rfl) ?_; dsimp only)); refine box_event ?hg (N := 4) ?hd (cs := #[.int .i64 a0_0, .int .i64 a0_1, .int .i64 a0_2, .int .i64 a0_3, .int .i64 a0_4, .int .i64 a0_5, .int .i64 a0_6, .int .i64 a0_7, .int .i64 a0_8, .int .i64 a0_9, .int .i64 a0_10, .int .i64 a0_11]) (t := 37) ?hr ?_; (case hd => rfl); (case hg => rfl); (case hr => first | (go_simp; done) | (go_simp; rfl)); intro gb306 hg w7 hbox hb; have n0_ := Aside0.mk (below_step (by repeat (first | (with_reducible first | exact HB.out | apply below_alloc | apply pw_below_drewN | apply below_drew1) | exact HB.out)) hb); have n1_ := Aside0.mk (hbox); have n2_ := Aside0.mk ((by rw [hg]; exact (below_size (by repeat (first | (with_reducible first | exact HB.out | apply below_alloc | apply pw_below_drewN | apply below_drew1) | exact HB.out))) : w.heap.size ≤ gb306)); have n3_ := Aside0.mk ((by rw [hg]; exact (below_size (by repeat (first | (with_reducible first | exact HB.out | apply below_alloc | apply pw_below_drewN | apply below_drew1) | exact HB.out))) : w.heap.size ≤ gb306)); clear HB; have HB := n0_; have BK306 := n1_; have GW306 := n2_; have GE306 := n3_; clear n0_ n1_ n2_ n3_; clear hb hbox hg) | ((with_reducible refine gate_dst (N := 5) rfl ?_); (try (refine gate_guard (by rfl) ?_; dsimp only)); refine box_event ?hg (N := 5) ?hd (cs := #[.int .i64 a1_0, .int .i64 a1_1, .bool a1_2]) (t := 39) ?hr ?_; (case hd => rfl); (case hg => rfl); (case hr => first | (go_simp; done) | (go_simp; rfl)); intro gb307 hg w8 hbox hb; have n0_ := Aside0.mk (blk_below (g := gb306) (o := .cells #[.int .i64 a0_0, .int .i64 a0_1, .int .i64 a0_2, .int .i64 a0_3, .int .i64 a0_4, .int .i64 a0_5, .int .i64 a0_6, .int .i64 a0_7, .int .i64 a0_8, .int .i64 a0_9, .int .i64 a0_10, .int .i64 a0_11] 37 (0, 0)) (by (with_reducible repeat (first | refine blk_drewN ?_ _ | refine blk_drew ?_ | refine blk_alloc ?_ _)); exact BK306.out) hb); have n1_ := Aside0.mk (below_step (by repeat (first | (with_reducible first | exact HB.out | apply below_alloc | apply pw_below_drewN | apply below_drew1 | refine below_set ?_ GE306.out) | exact HB.out)) hb); have n2_ := Aside0.mk (hbox); have n3_ := Aside0.mk ((by rw [hg]; exact (below_size (by repeat (first | (with_reducible first | exact HB.out | apply below_alloc | apply pw_below_drewN | apply below_drew1 | refine below_set ?_ GE306.out) | exact HB.out))) : w.heap.size ≤ gb307)); have n4_ := Aside0.mk ((by rw [hg]; exact (below_size (by repeat (first | (with_reducible first | exact HB.out | apply below_alloc | apply pw_below_drewN | apply below_drew1 | refine below_set ?_ GE306.out) | exact HB.out))) : w.heap.size ≤ gb307)); have n5_ := Aside0.mk ((by rw [hg]; exact Nat.ne_of_lt (blk_lt (g := gb306) (o := .cells #[.int .i64 a0_0, .int .i64 a0_1, .int .i64 a0_2, .int .i64 a0_3, .int .i64 a0_4, .int .i64 a0_5, .int .i64 a0_6, .int .i64 a0_7, .int .i64 a0_8, .int .i64 a0_9, .int .i64 a0_10, .int .i64 a0_11] 37 (0, 0)) (by (with_reducible repeat (first | refine blk_drewN ?_ _ | refine blk_drew ?_ | refine blk_alloc ?_ _)); exact BK306.out)) : gb306 ≠ gb307)); have n6_ := Aside0.mk ((by rw [hg]; exact Nat.ne_of_gt (blk_lt (g := gb306) (o := .cells #[.int .i64 a0_0, .int .i64 a0_1, .int .i64 a0_2, .int .i64 a0_3, .int .i64 a0_4, .int .i64 a0_5, .int .i64 a0_6, .int .i64 a0_7, .int .i64 a0_8, .int .i64 a0_9, .int .i64 a0_10, .int .i64 a0_11] 37 (0, 0)) (by (with_reducible repeat (first | refine blk_drewN ?_ _ | refine blk_drew ?_ | refine blk_alloc ?_ _)); exact BK306.out)) : gb307 ≠ gb306)); clear BK306; clear HB; have BK306 := n0_; have HB := n1_; have BK307 := n2_; have GW307 := n3_; have GE307 := n4_; have NB306_307 := n5_; have NB307_306 := n6_; clear n0_ n1_ n2_ n3_ n4_ n5_ n6_; clear hb hbox hg) | ((with_reducible refine gate_callee (f := 21) rfl ?_); refine goesL_ (some 16) rfl rfl Try.func21 (by kernel_rfl) rfl #[] rfl (by (try simp only [List.map_toArray, List.map_cons, List.map_nil]); first | done | rfl | (simp only [List.length_drop, List.length_take]; rfl)) ?_; (with_reducible refine (governorlaw15_head.calls  t308 _ A5.out).mono ?_); rintro e w9 ⟨rfl, hb⟩; refine ⟨_, rfl, ?_⟩; have n0_ := Aside0.mk (blk_below (g := gb306) (o := .cells #[.int .i64 a0_0, .int .i64 a0_1, .int .i64 a0_2, .int .i64 a0_3, .int .i64 a0_4, .int .i64 a0_5, .int .i64 a0_6, .int .i64 a0_7, .int .i64 a0_8, .int .i64 a0_9, .int .i64 a0_10, .int .i64 a0_11] 37 (0, 0)) (by (with_reducible repeat (first | refine blk_drewN ?_ _ | refine blk_drew ?_ | refine blk_alloc ?_ _)); exact BK306.out) hb); have n1_ := Aside0.mk (blk_below (g := gb307) (o := .cells #[.int .i64 a1_0, .int .i64 a1_1, .bool a1_2] 39 (0, 0)) (by (with_reducible repeat (first | refine blk_drewN ?_ _ | refine blk_drew ?_ | refine blk_alloc ?_ _)); exact BK307.out) hb); have n2_ := Aside0.mk (below_step (by repeat (first | (with_reducible first | exact HB.out | apply below_alloc | apply pw_below_drewN | apply below_drew1 | refine below_set ?_ GE306.out | refine below_set ?_ GE307.out) | exact HB.out)) hb); clear BK306; clear BK307; clear HB; have BK306 := n0_; have BK307 := n1_; have HB := n2_; clear n0_ n1_ n2_; (try clear hb); (try clear hb2); (try clear hk); (try clear hi)))
  (try simp only [Act.put, List.setIfInBounds_toArray, List.set_cons_zero, List.set_cons_succ])
  go_cut [25] (fun v25 wc => ∃ (kq : Nat) (x25_5 : Bool), v25 = .bool x25_5 ∧ Aside0 (governorlaw15_LimitWanted.j0 kq a2 a3 t308 x25_5 a0_0 a0_1 a0_2 a0_3 a0_4 a0_5 a0_6 a0_7 a0_8 a0_9 a0_10 a0_11 a1_0 a1_1 a1_2 = some r) ∧ Aside0 (kq ≤ k) ∧ Aside0 (wc.heap[gb306]? = some (.cells #[.int .i64 a0_0, .int .i64 a0_1, .int .i64 a0_2, .int .i64 a0_3, .int .i64 a0_4, .int .i64 a0_5, .int .i64 a0_6, .int .i64 a0_7, .int .i64 a0_8, .int .i64 a0_9, .int .i64 a0_10, .int .i64 a0_11] 37 (0, 0))) ∧ Aside0 (wc.heap[gb307]? = some (.cells #[.int .i64 a1_0, .int .i64 a1_1, .bool a1_2] 39 (0, 0))) ∧ Aside0 (Below w.heap.size w wc))
  case first =>
    have H := HC6.out
    clear HC6
    replace H := Option.bind_eq_some_iff.mp H
    obtain ⟨t309, A100, H⟩ := H
    replace H : (if t309 = true then ((governorlaw15_time.f a1_1).bind fun t310 => (governorlaw15_LimitWanted.j0 k a2 a3 t308 (!t310) a0_0 a0_1 a0_2 a0_3 a0_4 a0_5 a0_6 a0_7 a0_8 a0_9 a0_10 a0_11 a1_0 a1_1 a1_2)) else (governorlaw15_LimitWanted.j0 k a2 a3 t308 true a0_0 a0_1 a0_2 a0_3 a0_4 a0_5 a0_6 a0_7 a0_8 a0_9 a0_10 a0_11 a1_0 a1_1 a1_2)) = some r := H
    have A10 := Aside0.mk A100
    clear A100
    by_cases c11 : t309 = true
    · subst c11
      have H1 : ((governorlaw15_time.f a1_1).bind fun t310 => (governorlaw15_LimitWanted.j0 k a2 a3 t308 (!t310) a0_0 a0_1 a0_2 a0_3 a0_4 a0_5 a0_6 a0_7 a0_8 a0_9 a0_10 a0_11 a1_0 a1_1 a1_2)) = some r := by rw [if_pos rfl] at H; exact H
      clear H
      have H := H1
      clear H1
      replace H := Option.bind_eq_some_iff.mp H
      obtain ⟨t310, A120, H⟩ := H
      replace H : (governorlaw15_LimitWanted.j0 k a2 a3 t308 (!t310) a0_0 a0_1 a0_2 a0_3 a0_4 a0_5 a0_6 a0_7 a0_8 a0_9 a0_10 a0_11 a1_0 a1_1 a1_2) = some r := H
      have A12 := Aside0.mk A120
      clear A120
      have H' := Aside0.mk H
      clear H
      have hnb13 := NB306_307.out
      have hnc13 := NB307_306.out
      have hcz14_0 : w9.cell? ⟨gb306, 0, none⟩ = some (.int .i64 a0_0) := (blk_cell BK306.out 0).trans rfl
      have hcz14_1 : w9.cell? ⟨gb306, 1, none⟩ = some (.int .i64 a0_1) := (blk_cell BK306.out 1).trans rfl
      have hcz14_2 : w9.cell? ⟨gb306, 2, none⟩ = some (.int .i64 a0_2) := (blk_cell BK306.out 2).trans rfl
      have hcz14_3 : w9.cell? ⟨gb306, 3, none⟩ = some (.int .i64 a0_3) := (blk_cell BK306.out 3).trans rfl
      have hcz14_4 : w9.cell? ⟨gb306, 4, none⟩ = some (.int .i64 a0_4) := (blk_cell BK306.out 4).trans rfl
      have hcz14_5 : w9.cell? ⟨gb306, 5, none⟩ = some (.int .i64 a0_5) := (blk_cell BK306.out 5).trans rfl
      have hcz14_6 : w9.cell? ⟨gb306, 6, none⟩ = some (.int .i64 a0_6) := (blk_cell BK306.out 6).trans rfl
      have hcz14_7 : w9.cell? ⟨gb306, 7, none⟩ = some (.int .i64 a0_7) := (blk_cell BK306.out 7).trans rfl
      have hcz14_8 : w9.cell? ⟨gb306, 8, none⟩ = some (.int .i64 a0_8) := (blk_cell BK306.out 8).trans rfl
      have hcz14_9 : w9.cell? ⟨gb306, 9, none⟩ = some (.int .i64 a0_9) := (blk_cell BK306.out 9).trans rfl
      have hcz14_10 : w9.cell? ⟨gb306, 10, none⟩ = some (.int .i64 a0_10) := (blk_cell BK306.out 10).trans rfl
      have hcz14_11 : w9.cell? ⟨gb306, 11, none⟩ = some (.int .i64 a0_11) := (blk_cell BK306.out 11).trans rfl
      have hfz14_0 := blk_frozen BK306.out 0
      have hfz14_1 := blk_frozen BK306.out 1
      have hfz14_2 := blk_frozen BK306.out 2
      have hfz14_3 := blk_frozen BK306.out 3
      have hfz14_4 := blk_frozen BK306.out 4
      have hfz14_5 := blk_frozen BK306.out 5
      have hfz14_6 := blk_frozen BK306.out 6
      have hfz14_7 := blk_frozen BK306.out 7
      have hfz14_8 := blk_frozen BK306.out 8
      have hfz14_9 := blk_frozen BK306.out 9
      have hfz14_10 := blk_frozen BK306.out 10
      have hfz14_11 := blk_frozen BK306.out 11
      go_wp2_with (first | ((with_reducible refine gate_callee (f := 22) rfl ?_); refine goesL_ (some 18) rfl rfl Try.func22 (by kernel_rfl) rfl #[.agg #[.int .i64 a0_0, .int .i64 a0_1, .int .i64 a0_2, .int .i64 a0_3, .int .i64 a0_4, .int .i64 a0_5, .int .i64 a0_6, .int .i64 a0_7, .int .i64 a0_8, .int .i64 a0_9, .int .i64 a0_10, .int .i64 a0_11]] rfl (by (try simp only [List.map_toArray, List.map_cons, List.map_nil]); first | done | rfl | (simp only [List.length_drop, List.length_take]; rfl)) ?_; (with_reducible refine (governorref09_Conf.calls a0_0 a0_1 a0_2 a0_3 a0_4 a0_5 a0_6 a0_7 a0_8 a0_9 a0_10 a0_11 true _ A10.out).mono ?_); rintro e w15 ⟨rfl, hb⟩; refine ⟨_, rfl, ?_⟩; have n0_ := Aside0.mk (blk_below (g := gb306) (o := .cells #[.int .i64 a0_0, .int .i64 a0_1, .int .i64 a0_2, .int .i64 a0_3, .int .i64 a0_4, .int .i64 a0_5, .int .i64 a0_6, .int .i64 a0_7, .int .i64 a0_8, .int .i64 a0_9, .int .i64 a0_10, .int .i64 a0_11] 37 (0, 0)) (by (with_reducible repeat (first | refine blk_drewN ?_ _ | refine blk_drew ?_ | refine blk_alloc ?_ _)); exact BK306.out) hb); have n1_ := Aside0.mk (blk_below (g := gb307) (o := .cells #[.int .i64 a1_0, .int .i64 a1_1, .bool a1_2] 39 (0, 0)) (by (with_reducible repeat (first | refine blk_drewN ?_ _ | refine blk_drew ?_ | refine blk_alloc ?_ _)); exact BK307.out) hb); have n2_ := Aside0.mk (below_step (by repeat (first | (with_reducible first | exact HB.out | apply below_alloc | apply pw_below_drewN | apply below_drew1 | refine below_set ?_ GE306.out | refine below_set ?_ GE307.out) | exact HB.out)) hb); clear BK306; clear BK307; clear HB; have BK306 := n0_; have BK307 := n1_; have HB := n2_; clear n0_ n1_ n2_; (try clear hb); (try clear hb2); (try clear hk); (try clear hi); have hcz16_0 : w15.cell? ⟨gb307, 0, none⟩ = some (.int .i64 a1_0) := (blk_cell BK307.out 0).trans rfl; have hcz16_1 : w15.cell? ⟨gb307, 1, none⟩ = some (.int .i64 a1_1) := (blk_cell BK307.out 1).trans rfl; have hcz16_2 : w15.cell? ⟨gb307, 2, none⟩ = some (.bool a1_2) := (blk_cell BK307.out 2).trans rfl; have hfz16_0 := blk_frozen BK307.out 0; have hfz16_1 := blk_frozen BK307.out 1; have hfz16_2 := blk_frozen BK307.out 2) | (go_at_call 23; (with_reducible refine (governorlaw15_time.calls a1_1 t310 _ A12.out).mono ?_); rintro e w' ⟨rfl, ⟨nd, rfl⟩⟩))
      go_meet
      case rel => exact ⟨_, (!t310), (by first | rfl | (simp; done) | (simp [*]; done)), H', ⟨by first | omega | exact Nat.le_refl _⟩, ⟨by (with_reducible repeat (first | refine blk_drewN ?_ _ | refine blk_drew ?_ | refine blk_alloc ?_ _)); exact BK306.out⟩, ⟨by (with_reducible repeat (first | refine blk_drewN ?_ _ | refine blk_drew ?_ | refine blk_alloc ?_ _)); exact BK307.out⟩, ⟨by repeat (first | (with_reducible first | exact HB.out | apply below_alloc | apply pw_below_drewN | apply below_drew1 | refine below_set ?_ GE306.out | refine below_set ?_ GE307.out) | exact HB.out)⟩⟩
    · replace c11 := Bool.eq_false_iff.mpr c11
      subst c11
      have H1 : (governorlaw15_LimitWanted.j0 k a2 a3 t308 true a0_0 a0_1 a0_2 a0_3 a0_4 a0_5 a0_6 a0_7 a0_8 a0_9 a0_10 a0_11 a1_0 a1_1 a1_2) = some r := by rw [if_neg (show ¬ (false = true) by decide)] at H; exact H
      clear H
      have H := H1
      clear H1
      have H' := Aside0.mk H
      clear H
      have hnb17 := NB306_307.out
      have hnc17 := NB307_306.out
      have hcz18_0 : w9.cell? ⟨gb306, 0, none⟩ = some (.int .i64 a0_0) := (blk_cell BK306.out 0).trans rfl
      have hcz18_1 : w9.cell? ⟨gb306, 1, none⟩ = some (.int .i64 a0_1) := (blk_cell BK306.out 1).trans rfl
      have hcz18_2 : w9.cell? ⟨gb306, 2, none⟩ = some (.int .i64 a0_2) := (blk_cell BK306.out 2).trans rfl
      have hcz18_3 : w9.cell? ⟨gb306, 3, none⟩ = some (.int .i64 a0_3) := (blk_cell BK306.out 3).trans rfl
      have hcz18_4 : w9.cell? ⟨gb306, 4, none⟩ = some (.int .i64 a0_4) := (blk_cell BK306.out 4).trans rfl
      have hcz18_5 : w9.cell? ⟨gb306, 5, none⟩ = some (.int .i64 a0_5) := (blk_cell BK306.out 5).trans rfl
      have hcz18_6 : w9.cell? ⟨gb306, 6, none⟩ = some (.int .i64 a0_6) := (blk_cell BK306.out 6).trans rfl
      have hcz18_7 : w9.cell? ⟨gb306, 7, none⟩ = some (.int .i64 a0_7) := (blk_cell BK306.out 7).trans rfl
      have hcz18_8 : w9.cell? ⟨gb306, 8, none⟩ = some (.int .i64 a0_8) := (blk_cell BK306.out 8).trans rfl
      have hcz18_9 : w9.cell? ⟨gb306, 9, none⟩ = some (.int .i64 a0_9) := (blk_cell BK306.out 9).trans rfl
      have hcz18_10 : w9.cell? ⟨gb306, 10, none⟩ = some (.int .i64 a0_10) := (blk_cell BK306.out 10).trans rfl
      have hcz18_11 : w9.cell? ⟨gb306, 11, none⟩ = some (.int .i64 a0_11) := (blk_cell BK306.out 11).trans rfl
      have hfz18_0 := blk_frozen BK306.out 0
      have hfz18_1 := blk_frozen BK306.out 1
      have hfz18_2 := blk_frozen BK306.out 2
      have hfz18_3 := blk_frozen BK306.out 3
      have hfz18_4 := blk_frozen BK306.out 4
      have hfz18_5 := blk_frozen BK306.out 5
      have hfz18_6 := blk_frozen BK306.out 6
      have hfz18_7 := blk_frozen BK306.out 7
      have hfz18_8 := blk_frozen BK306.out 8
      have hfz18_9 := blk_frozen BK306.out 9
      have hfz18_10 := blk_frozen BK306.out 10
      have hfz18_11 := blk_frozen BK306.out 11
      go_wp2_with (first | ((with_reducible refine gate_callee (f := 22) rfl ?_); refine goesL_ (some 18) rfl rfl Try.func22 (by kernel_rfl) rfl #[.agg #[.int .i64 a0_0, .int .i64 a0_1, .int .i64 a0_2, .int .i64 a0_3, .int .i64 a0_4, .int .i64 a0_5, .int .i64 a0_6, .int .i64 a0_7, .int .i64 a0_8, .int .i64 a0_9, .int .i64 a0_10, .int .i64 a0_11]] rfl (by (try simp only [List.map_toArray, List.map_cons, List.map_nil]); first | done | rfl | (simp only [List.length_drop, List.length_take]; rfl)) ?_; (with_reducible refine (governorref09_Conf.calls a0_0 a0_1 a0_2 a0_3 a0_4 a0_5 a0_6 a0_7 a0_8 a0_9 a0_10 a0_11 false _ A10.out).mono ?_); rintro e w19 ⟨rfl, hb⟩; refine ⟨_, rfl, ?_⟩; have n0_ := Aside0.mk (blk_below (g := gb306) (o := .cells #[.int .i64 a0_0, .int .i64 a0_1, .int .i64 a0_2, .int .i64 a0_3, .int .i64 a0_4, .int .i64 a0_5, .int .i64 a0_6, .int .i64 a0_7, .int .i64 a0_8, .int .i64 a0_9, .int .i64 a0_10, .int .i64 a0_11] 37 (0, 0)) (by (with_reducible repeat (first | refine blk_drewN ?_ _ | refine blk_drew ?_ | refine blk_alloc ?_ _)); exact BK306.out) hb); have n1_ := Aside0.mk (blk_below (g := gb307) (o := .cells #[.int .i64 a1_0, .int .i64 a1_1, .bool a1_2] 39 (0, 0)) (by (with_reducible repeat (first | refine blk_drewN ?_ _ | refine blk_drew ?_ | refine blk_alloc ?_ _)); exact BK307.out) hb); have n2_ := Aside0.mk (below_step (by repeat (first | (with_reducible first | exact HB.out | apply below_alloc | apply pw_below_drewN | apply below_drew1 | refine below_set ?_ GE306.out | refine below_set ?_ GE307.out) | exact HB.out)) hb); clear BK306; clear BK307; clear HB; have BK306 := n0_; have BK307 := n1_; have HB := n2_; clear n0_ n1_ n2_; (try clear hb); (try clear hb2); (try clear hk); (try clear hi)))
      go_meet
      case rel => exact ⟨_, (true), (by first | rfl | (simp; done) | (simp [*]; done)), H', ⟨by first | omega | exact Nat.le_refl _⟩, ⟨by (with_reducible repeat (first | refine blk_drewN ?_ _ | refine blk_drew ?_ | refine blk_alloc ?_ _)); exact BK306.out⟩, ⟨by (with_reducible repeat (first | refine blk_drewN ?_ _ | refine blk_drew ?_ | refine blk_alloc ?_ _)); exact BK307.out⟩, ⟨by repeat (first | (with_reducible first | exact HB.out | apply below_alloc | apply pw_below_drewN | apply below_drew1 | refine below_set ?_ GE306.out | refine below_set ?_ GE307.out) | exact HB.out)⟩⟩
  case rest =>
    clear HC6
    try clear c1
    try clear c2
    try clear p2
    try clear c11
    try clear c12
    try clear c13
    try clear c17
    try clear hcz14_0
    try clear hcz14_1
    try clear hcz14_10
    try clear hcz14_11
    try clear hcz14_2
    try clear hcz14_3
    try clear hcz14_4
    try clear hcz14_5
    try clear hcz14_6
    try clear hcz14_7
    try clear hcz14_8
    try clear hcz14_9
    try clear hcz16_0
    try clear hcz16_1
    try clear hcz16_2
    try clear hcz18_0
    try clear hcz18_1
    try clear hcz18_10
    try clear hcz18_11
    try clear hcz18_2
    try clear hcz18_3
    try clear hcz18_4
    try clear hcz18_5
    try clear hcz18_6
    try clear hcz18_7
    try clear hcz18_8
    try clear hcz18_9
    try clear hfz14_0
    try clear hfz14_1
    try clear hfz14_10
    try clear hfz14_11
    try clear hfz14_2
    try clear hfz14_3
    try clear hfz14_4
    try clear hfz14_5
    try clear hfz14_6
    try clear hfz14_7
    try clear hfz14_8
    try clear hfz14_9
    try clear hfz16_0
    try clear hfz16_1
    try clear hfz16_2
    try clear hfz18_0
    try clear hfz18_1
    try clear hfz18_10
    try clear hfz18_11
    try clear hfz18_2
    try clear hfz18_3
    try clear hfz18_4
    try clear hfz18_5
    try clear hfz18_6
    try clear hfz18_7
    try clear hfz18_8
    try clear hfz18_9
    obtain ⟨kq, x25_5, rfl, HA, HJ5, BK306, BK307, HB⟩ := hcut
    cases kq with
    | zero => exact absurd HA.out (by simp [governorlaw15_LimitWanted.j0])
    | succ kj5 =>
      have H := HA.out
      clear HA
      simp only [governorlaw15_LimitWanted.j0] at H
      by_cases c20 : x25_5 = true
      · subst c20
        have H1 : (some t308) = some r := by rw [if_pos rfl] at H; exact H
        clear H
        have H := H1
        clear H1
        obtain rfl := Option.some.inj H
        go_wp2
        go_ret
        exact ⟨by first | rfl | (simp [errW_none, errW_some] <;> rfl) | (simp [*, errW_none, errW_some] <;> rfl), by repeat (first | (with_reducible first | exact HB.out | apply below_alloc | apply pw_below_drewN | apply below_drew1 | refine below_set ?_ GE306.out | refine below_set ?_ GE307.out) | exact HB.out)⟩
      · replace c20 := Bool.eq_false_iff.mpr c20
        subst c20
        have H1 : ((limit_Into.f a0_0 a0_1 a0_2 a0_3 a0_4 a0_5 a0_6 a0_7 a0_8 a0_9 a0_10 a0_11 a1_0 a1_1 a1_2).bind fun bt311 => ((limit_Next.f a0_0 a0_1 a0_2 a0_3 a0_4 a0_5 a0_6 a0_7 a0_8 a0_9 a0_10 a0_11 a1_0 a1_1 a1_2 (wrap64 (a2)) (wrap64 (a3))).bind fun bt315 => (if (wrap64 ((mn (mx (wrap64 (a2)) a0_0) a0_1) - bt311.1)) ≤ a0_2 then (governorlaw15_LimitWanted.j1 kj5 a3 t308 (mn (mx (wrap64 (a2)) a0_0) a0_1) (decide ((wrap64 (bt311.1 - (mn (mx (wrap64 (a2)) a0_0) a0_1))) ≤ a0_2)) a0_0 a0_1 a0_2 a0_3 a0_4 a0_5 a0_6 a0_7 a0_8 a0_9 a0_10 a0_11 bt311.1 bt311.2.1 bt311.2.2 bt315.1 bt315.2.1 bt315.2.2) else (governorlaw15_LimitWanted.j1 kj5 a3 t308 (mn (mx (wrap64 (a2)) a0_0) a0_1) false a0_0 a0_1 a0_2 a0_3 a0_4 a0_5 a0_6 a0_7 a0_8 a0_9 a0_10 a0_11 bt311.1 bt311.2.1 bt311.2.2 bt315.1 bt315.2.1 bt315.2.2)))) = some r := by rw [if_neg (show ¬ (false = true) by decide)] at H; exact H
        clear H
        have H := H1
        clear H1
        replace H := Option.bind_eq_some_iff.mp H
        obtain ⟨⟨t311, t312, t313⟩, A210, H⟩ := H
        replace H : ((limit_Next.f a0_0 a0_1 a0_2 a0_3 a0_4 a0_5 a0_6 a0_7 a0_8 a0_9 a0_10 a0_11 a1_0 a1_1 a1_2 (wrap64 (a2)) (wrap64 (a3))).bind fun bt315 => (if (wrap64 ((mn (mx (wrap64 (a2)) a0_0) a0_1) - t311)) ≤ a0_2 then (governorlaw15_LimitWanted.j1 kj5 a3 t308 (mn (mx (wrap64 (a2)) a0_0) a0_1) (decide ((wrap64 (t311 - (mn (mx (wrap64 (a2)) a0_0) a0_1))) ≤ a0_2)) a0_0 a0_1 a0_2 a0_3 a0_4 a0_5 a0_6 a0_7 a0_8 a0_9 a0_10 a0_11 t311 t312 t313 bt315.1 bt315.2.1 bt315.2.2) else (governorlaw15_LimitWanted.j1 kj5 a3 t308 (mn (mx (wrap64 (a2)) a0_0) a0_1) false a0_0 a0_1 a0_2 a0_3 a0_4 a0_5 a0_6 a0_7 a0_8 a0_9 a0_10 a0_11 t311 t312 t313 bt315.1 bt315.2.1 bt315.2.2))) = some r := H
        have A21 := Aside0.mk A210
        clear A210
        replace H := Option.bind_eq_some_iff.mp H
        obtain ⟨⟨t315, t316, t317⟩, A220, H⟩ := H
        replace H : (if (wrap64 ((mn (mx (wrap64 (a2)) a0_0) a0_1) - t311)) ≤ a0_2 then (governorlaw15_LimitWanted.j1 kj5 a3 t308 (mn (mx (wrap64 (a2)) a0_0) a0_1) (decide ((wrap64 (t311 - (mn (mx (wrap64 (a2)) a0_0) a0_1))) ≤ a0_2)) a0_0 a0_1 a0_2 a0_3 a0_4 a0_5 a0_6 a0_7 a0_8 a0_9 a0_10 a0_11 t311 t312 t313 t315 t316 t317) else (governorlaw15_LimitWanted.j1 kj5 a3 t308 (mn (mx (wrap64 (a2)) a0_0) a0_1) false a0_0 a0_1 a0_2 a0_3 a0_4 a0_5 a0_6 a0_7 a0_8 a0_9 a0_10 a0_11 t311 t312 t313 t315 t316 t317)) = some r := H
        have A22 := Aside0.mk A220
        clear A220
        obtain ⟨ji23, hji23⟩ : ∃ j_ : Int, (mx (wrap64 (a2)) a0_0) = j_ := ⟨_, rfl⟩
        replace H : (if (wrap64 ((mn (ji23) a0_1) - t311)) ≤ a0_2 then (governorlaw15_LimitWanted.j1 kj5 a3 t308 (mn (ji23) a0_1) (decide ((wrap64 (t311 - (mn (ji23) a0_1))) ≤ a0_2)) a0_0 a0_1 a0_2 a0_3 a0_4 a0_5 a0_6 a0_7 a0_8 a0_9 a0_10 a0_11 t311 t312 t313 t315 t316 t317) else (governorlaw15_LimitWanted.j1 kj5 a3 t308 (mn (ji23) a0_1) false a0_0 a0_1 a0_2 a0_3 a0_4 a0_5 a0_6 a0_7 a0_8 a0_9 a0_10 a0_11 t311 t312 t313 t315 t316 t317)) = some r := by first | (rw [hji23] at H; exact H) | (simp only [hji23] at H ⊢; exact H)
        (try rw [hji23] at A21)
        (try rw [hji23] at A22)
        have hji23_ : (if (wrap64 (a2)) < a0_0 then a0_0 else (wrap64 (a2))) = ji23 := hji23
        obtain ⟨ji24, hji24⟩ : ∃ j_ : Int, (mn (ji23) a0_1) = j_ := ⟨_, rfl⟩
        replace H : (if (wrap64 ((ji24) - t311)) ≤ a0_2 then (governorlaw15_LimitWanted.j1 kj5 a3 t308 ji24 (decide ((wrap64 (t311 - (ji24))) ≤ a0_2)) a0_0 a0_1 a0_2 a0_3 a0_4 a0_5 a0_6 a0_7 a0_8 a0_9 a0_10 a0_11 t311 t312 t313 t315 t316 t317) else (governorlaw15_LimitWanted.j1 kj5 a3 t308 ji24 false a0_0 a0_1 a0_2 a0_3 a0_4 a0_5 a0_6 a0_7 a0_8 a0_9 a0_10 a0_11 t311 t312 t313 t315 t316 t317)) = some r := by first | (rw [hji24] at H; exact H) | (simp only [hji24] at H ⊢; exact H)
        (try rw [hji24] at A21)
        (try rw [hji24] at A22)
        have hji24_ : (if a0_1 < (ji23) then a0_1 else (ji23)) = ji24 := hji24
        have HC25 := Aside0.mk H
        clear H
        have hnb26 := NB306_307.out
        have hnc26 := NB307_306.out
        have hcz27_0 : wc.cell? ⟨gb306, 0, none⟩ = some (.int .i64 a0_0) := (blk_cell BK306.out 0).trans rfl
        have hcz27_1 : wc.cell? ⟨gb306, 1, none⟩ = some (.int .i64 a0_1) := (blk_cell BK306.out 1).trans rfl
        have hcz27_2 : wc.cell? ⟨gb306, 2, none⟩ = some (.int .i64 a0_2) := (blk_cell BK306.out 2).trans rfl
        have hcz27_3 : wc.cell? ⟨gb306, 3, none⟩ = some (.int .i64 a0_3) := (blk_cell BK306.out 3).trans rfl
        have hcz27_4 : wc.cell? ⟨gb306, 4, none⟩ = some (.int .i64 a0_4) := (blk_cell BK306.out 4).trans rfl
        have hcz27_5 : wc.cell? ⟨gb306, 5, none⟩ = some (.int .i64 a0_5) := (blk_cell BK306.out 5).trans rfl
        have hcz27_6 : wc.cell? ⟨gb306, 6, none⟩ = some (.int .i64 a0_6) := (blk_cell BK306.out 6).trans rfl
        have hcz27_7 : wc.cell? ⟨gb306, 7, none⟩ = some (.int .i64 a0_7) := (blk_cell BK306.out 7).trans rfl
        have hcz27_8 : wc.cell? ⟨gb306, 8, none⟩ = some (.int .i64 a0_8) := (blk_cell BK306.out 8).trans rfl
        have hcz27_9 : wc.cell? ⟨gb306, 9, none⟩ = some (.int .i64 a0_9) := (blk_cell BK306.out 9).trans rfl
        have hcz27_10 : wc.cell? ⟨gb306, 10, none⟩ = some (.int .i64 a0_10) := (blk_cell BK306.out 10).trans rfl
        have hcz27_11 : wc.cell? ⟨gb306, 11, none⟩ = some (.int .i64 a0_11) := (blk_cell BK306.out 11).trans rfl
        have hfz27_0 := blk_frozen BK306.out 0
        have hfz27_1 := blk_frozen BK306.out 1
        have hfz27_2 := blk_frozen BK306.out 2
        have hfz27_3 := blk_frozen BK306.out 3
        have hfz27_4 := blk_frozen BK306.out 4
        have hfz27_5 := blk_frozen BK306.out 5
        have hfz27_6 := blk_frozen BK306.out 6
        have hfz27_7 := blk_frozen BK306.out 7
        have hfz27_8 := blk_frozen BK306.out 8
        have hfz27_9 := blk_frozen BK306.out 9
        have hfz27_10 := blk_frozen BK306.out 10
        have hfz27_11 := blk_frozen BK306.out 11
        have hcz28_0 : wc.cell? ⟨gb307, 0, none⟩ = some (.int .i64 a1_0) := (blk_cell BK307.out 0).trans rfl
        have hcz28_1 : wc.cell? ⟨gb307, 1, none⟩ = some (.int .i64 a1_1) := (blk_cell BK307.out 1).trans rfl
        have hcz28_2 : wc.cell? ⟨gb307, 2, none⟩ = some (.bool a1_2) := (blk_cell BK307.out 2).trans rfl
        have hfz28_0 := blk_frozen BK307.out 0
        have hfz28_1 := blk_frozen BK307.out 1
        have hfz28_2 := blk_frozen BK307.out 2
        go_upto_region 8 with (first | ((with_reducible refine gate_callee (f := 24) rfl ?_); refine goesL_ (some 29) rfl rfl Try.func24 (by kernel_rfl) rfl #[.agg #[.int .i64 a0_0, .int .i64 a0_1, .int .i64 a0_2, .int .i64 a0_3, .int .i64 a0_4, .int .i64 a0_5, .int .i64 a0_6, .int .i64 a0_7, .int .i64 a0_8, .int .i64 a0_9, .int .i64 a0_10, .int .i64 a0_11], .agg #[.int .i64 a1_0, .int .i64 a1_1, .bool a1_2]] rfl (by (try simp only [List.map_toArray, List.map_cons, List.map_nil]); first | done | rfl | (simp only [List.length_drop, List.length_take]; rfl)) ?_; (with_reducible refine (limit_Into.calls a0_0 a0_1 a0_2 a0_3 a0_4 a0_5 a0_6 a0_7 a0_8 a0_9 a0_10 a0_11 a1_0 a1_1 a1_2 t311 t312 t313 _ A21.out).mono ?_); rintro e w29 ⟨rfl, hb⟩; refine ⟨_, rfl, ?_⟩; have n0_ := Aside0.mk (blk_below (g := gb306) (o := .cells #[.int .i64 a0_0, .int .i64 a0_1, .int .i64 a0_2, .int .i64 a0_3, .int .i64 a0_4, .int .i64 a0_5, .int .i64 a0_6, .int .i64 a0_7, .int .i64 a0_8, .int .i64 a0_9, .int .i64 a0_10, .int .i64 a0_11] 37 (0, 0)) (by (with_reducible repeat (first | refine blk_drewN ?_ _ | refine blk_drew ?_ | refine blk_alloc ?_ _)); exact BK306.out) hb); have n1_ := Aside0.mk (blk_below (g := gb307) (o := .cells #[.int .i64 a1_0, .int .i64 a1_1, .bool a1_2] 39 (0, 0)) (by (with_reducible repeat (first | refine blk_drewN ?_ _ | refine blk_drew ?_ | refine blk_alloc ?_ _)); exact BK307.out) hb); have n2_ := Aside0.mk (below_step (by repeat (first | (with_reducible first | exact HB.out | apply below_alloc | apply pw_below_drewN | apply below_drew1 | refine below_set ?_ GE306.out | refine below_set ?_ GE307.out) | exact HB.out)) hb); clear BK306; clear BK307; clear HB; have BK306 := n0_; have BK307 := n1_; have HB := n2_; clear n0_ n1_ n2_; (try clear hb); (try clear hb2); (try clear hk); (try clear hi)) | ((with_reducible refine gate_dst (N := 10) rfl ?_); (try (refine gate_guard (by rfl) ?_; dsimp only)); refine box_event ?hg (N := 10) ?hd (cs := #[.int .i64 0, .int .i64 0, .bool false]) (t := 39) ?hr ?_; (case hd => rfl); (case hg => rfl); (case hr => first | (go_simp; done) | (go_simp; rfl)); intro gb314 hg w30 hbox hb; have n0_ := Aside0.mk (blk_below (g := gb306) (o := .cells #[.int .i64 a0_0, .int .i64 a0_1, .int .i64 a0_2, .int .i64 a0_3, .int .i64 a0_4, .int .i64 a0_5, .int .i64 a0_6, .int .i64 a0_7, .int .i64 a0_8, .int .i64 a0_9, .int .i64 a0_10, .int .i64 a0_11] 37 (0, 0)) (by (with_reducible repeat (first | refine blk_drewN ?_ _ | refine blk_drew ?_ | refine blk_alloc ?_ _)); exact BK306.out) hb); have n1_ := Aside0.mk (blk_below (g := gb307) (o := .cells #[.int .i64 a1_0, .int .i64 a1_1, .bool a1_2] 39 (0, 0)) (by (with_reducible repeat (first | refine blk_drewN ?_ _ | refine blk_drew ?_ | refine blk_alloc ?_ _)); exact BK307.out) hb); have n2_ := Aside0.mk (below_step (by repeat (first | (with_reducible first | exact HB.out | apply below_alloc | apply pw_below_drewN | apply below_drew1 | refine below_set ?_ GE306.out | refine below_set ?_ GE307.out) | exact HB.out)) hb); have n3_ := Aside0.mk (hbox); have n4_ := Aside0.mk ((by rw [hg]; exact (below_size (by repeat (first | (with_reducible first | exact HB.out | apply below_alloc | apply pw_below_drewN | apply below_drew1 | refine below_set ?_ GE306.out | refine below_set ?_ GE307.out) | exact HB.out))) : w.heap.size ≤ gb314)); have n5_ := Aside0.mk ((by rw [hg]; exact (below_size (by repeat (first | (with_reducible first | exact HB.out | apply below_alloc | apply pw_below_drewN | apply below_drew1 | refine below_set ?_ GE306.out | refine below_set ?_ GE307.out) | exact HB.out))) : w.heap.size ≤ gb314)); have n6_ := Aside0.mk ((by rw [hg]; exact Nat.ne_of_lt (blk_lt (g := gb306) (o := .cells #[.int .i64 a0_0, .int .i64 a0_1, .int .i64 a0_2, .int .i64 a0_3, .int .i64 a0_4, .int .i64 a0_5, .int .i64 a0_6, .int .i64 a0_7, .int .i64 a0_8, .int .i64 a0_9, .int .i64 a0_10, .int .i64 a0_11] 37 (0, 0)) (by (with_reducible repeat (first | refine blk_drewN ?_ _ | refine blk_drew ?_ | refine blk_alloc ?_ _)); exact BK306.out)) : gb306 ≠ gb314)); have n7_ := Aside0.mk ((by rw [hg]; exact Nat.ne_of_gt (blk_lt (g := gb306) (o := .cells #[.int .i64 a0_0, .int .i64 a0_1, .int .i64 a0_2, .int .i64 a0_3, .int .i64 a0_4, .int .i64 a0_5, .int .i64 a0_6, .int .i64 a0_7, .int .i64 a0_8, .int .i64 a0_9, .int .i64 a0_10, .int .i64 a0_11] 37 (0, 0)) (by (with_reducible repeat (first | refine blk_drewN ?_ _ | refine blk_drew ?_ | refine blk_alloc ?_ _)); exact BK306.out)) : gb314 ≠ gb306)); have n8_ := Aside0.mk ((by rw [hg]; exact Nat.ne_of_lt (blk_lt (g := gb307) (o := .cells #[.int .i64 a1_0, .int .i64 a1_1, .bool a1_2] 39 (0, 0)) (by (with_reducible repeat (first | refine blk_drewN ?_ _ | refine blk_drew ?_ | refine blk_alloc ?_ _)); exact BK307.out)) : gb307 ≠ gb314)); have n9_ := Aside0.mk ((by rw [hg]; exact Nat.ne_of_gt (blk_lt (g := gb307) (o := .cells #[.int .i64 a1_0, .int .i64 a1_1, .bool a1_2] 39 (0, 0)) (by (with_reducible repeat (first | refine blk_drewN ?_ _ | refine blk_drew ?_ | refine blk_alloc ?_ _)); exact BK307.out)) : gb314 ≠ gb307)); clear BK306; clear BK307; clear HB; have BK306 := n0_; have BK307 := n1_; have HB := n2_; have BK314 := n3_; have GW314 := n4_; have GE314 := n5_; have NB306_314 := n6_; have NB314_306 := n7_; have NB307_314 := n8_; have NB314_307 := n9_; clear n0_ n1_ n2_ n3_ n4_ n5_ n6_ n7_ n8_ n9_; clear hb hbox hg; have hnb31 := NB314_306.out; have hnc31 := NB306_314.out; have hnb32 := NB314_307.out; have hnc32 := NB307_314.out; have hcz33_0 : w30.cell? ⟨gb314, 0, none⟩ = some (.int .i64 0) := (blk_cell BK314.out 0).trans rfl; have hcz33_1 : w30.cell? ⟨gb314, 1, none⟩ = some (.int .i64 0) := (blk_cell BK314.out 1).trans rfl; have hcz33_2 : w30.cell? ⟨gb314, 2, none⟩ = some (.bool false) := (blk_cell BK314.out 2).trans rfl; have hfz33_0 := blk_frozen BK314.out 0; have hfz33_1 := blk_frozen BK314.out 1; have hfz33_2 := blk_frozen BK314.out 2; have hcz34_0 : w30.cell? ⟨gb306, 0, none⟩ = some (.int .i64 a0_0) := (blk_cell BK306.out 0).trans rfl; have hcz34_1 : w30.cell? ⟨gb306, 1, none⟩ = some (.int .i64 a0_1) := (blk_cell BK306.out 1).trans rfl; have hcz34_2 : w30.cell? ⟨gb306, 2, none⟩ = some (.int .i64 a0_2) := (blk_cell BK306.out 2).trans rfl; have hcz34_3 : w30.cell? ⟨gb306, 3, none⟩ = some (.int .i64 a0_3) := (blk_cell BK306.out 3).trans rfl; have hcz34_4 : w30.cell? ⟨gb306, 4, none⟩ = some (.int .i64 a0_4) := (blk_cell BK306.out 4).trans rfl; have hcz34_5 : w30.cell? ⟨gb306, 5, none⟩ = some (.int .i64 a0_5) := (blk_cell BK306.out 5).trans rfl; have hcz34_6 : w30.cell? ⟨gb306, 6, none⟩ = some (.int .i64 a0_6) := (blk_cell BK306.out 6).trans rfl; have hcz34_7 : w30.cell? ⟨gb306, 7, none⟩ = some (.int .i64 a0_7) := (blk_cell BK306.out 7).trans rfl; have hcz34_8 : w30.cell? ⟨gb306, 8, none⟩ = some (.int .i64 a0_8) := (blk_cell BK306.out 8).trans rfl; have hcz34_9 : w30.cell? ⟨gb306, 9, none⟩ = some (.int .i64 a0_9) := (blk_cell BK306.out 9).trans rfl; have hcz34_10 : w30.cell? ⟨gb306, 10, none⟩ = some (.int .i64 a0_10) := (blk_cell BK306.out 10).trans rfl; have hcz34_11 : w30.cell? ⟨gb306, 11, none⟩ = some (.int .i64 a0_11) := (blk_cell BK306.out 11).trans rfl; have hfz34_0 := blk_frozen BK306.out 0; have hfz34_1 := blk_frozen BK306.out 1; have hfz34_2 := blk_frozen BK306.out 2; have hfz34_3 := blk_frozen BK306.out 3; have hfz34_4 := blk_frozen BK306.out 4; have hfz34_5 := blk_frozen BK306.out 5; have hfz34_6 := blk_frozen BK306.out 6; have hfz34_7 := blk_frozen BK306.out 7; have hfz34_8 := blk_frozen BK306.out 8; have hfz34_9 := blk_frozen BK306.out 9; have hfz34_10 := blk_frozen BK306.out 10; have hfz34_11 := blk_frozen BK306.out 11; have hcz35_0 : w30.cell? ⟨gb307, 0, none⟩ = some (.int .i64 a1_0) := (blk_cell BK307.out 0).trans rfl; have hcz35_1 : w30.cell? ⟨gb307, 1, none⟩ = some (.int .i64 a1_1) := (blk_cell BK307.out 1).trans rfl; have hcz35_2 : w30.cell? ⟨gb307, 2, none⟩ = some (.bool a1_2) := (blk_cell BK307.out 2).trans rfl; have hfz35_0 := blk_frozen BK307.out 0; have hfz35_1 := blk_frozen BK307.out 1; have hfz35_2 := blk_frozen BK307.out 2) | ((with_reducible refine gate_callee (f := 26) rfl ?_); refine goesL_ (some 37) rfl rfl Try.func26 (by kernel_rfl) rfl #[.agg #[.int .i64 a0_0, .int .i64 a0_1, .int .i64 a0_2, .int .i64 a0_3, .int .i64 a0_4, .int .i64 a0_5, .int .i64 a0_6, .int .i64 a0_7, .int .i64 a0_8, .int .i64 a0_9, .int .i64 a0_10, .int .i64 a0_11], .agg #[.int .i64 a1_0, .int .i64 a1_1, .bool a1_2], .int .i64 (wrap64 (a2)), .int .i64 (wrap64 (a3))] rfl (by (try simp only [List.map_toArray, List.map_cons, List.map_nil]); first | done | rfl | (simp only [List.length_drop, List.length_take]; rfl)) ?_; (with_reducible refine (limit_Next.calls a0_0 a0_1 a0_2 a0_3 a0_4 a0_5 a0_6 a0_7 a0_8 a0_9 a0_10 a0_11 a1_0 a1_1 a1_2 (wrap64 (a2)) (wrap64 (a3)) t315 t316 t317 _ A22.out).mono ?_); rintro e w36 ⟨rfl, hb⟩; refine ⟨_, rfl, ?_⟩; have n0_ := Aside0.mk (blk_below (g := gb306) (o := .cells #[.int .i64 a0_0, .int .i64 a0_1, .int .i64 a0_2, .int .i64 a0_3, .int .i64 a0_4, .int .i64 a0_5, .int .i64 a0_6, .int .i64 a0_7, .int .i64 a0_8, .int .i64 a0_9, .int .i64 a0_10, .int .i64 a0_11] 37 (0, 0)) (by (with_reducible repeat (first | refine blk_drewN ?_ _ | refine blk_drew ?_ | refine blk_alloc ?_ _)); refine blk_far ?_ NB306_314.out _; (with_reducible repeat (first | refine blk_drewN ?_ _ | refine blk_drew ?_ | refine blk_alloc ?_ _)); refine blk_far ?_ NB306_314.out _; (with_reducible repeat (first | refine blk_drewN ?_ _ | refine blk_drew ?_ | refine blk_alloc ?_ _)); refine blk_far ?_ NB306_314.out _; (with_reducible repeat (first | refine blk_drewN ?_ _ | refine blk_drew ?_ | refine blk_alloc ?_ _)); exact BK306.out) hb); have n1_ := Aside0.mk (blk_below (g := gb307) (o := .cells #[.int .i64 a1_0, .int .i64 a1_1, .bool a1_2] 39 (0, 0)) (by (with_reducible repeat (first | refine blk_drewN ?_ _ | refine blk_drew ?_ | refine blk_alloc ?_ _)); refine blk_far ?_ NB307_314.out _; (with_reducible repeat (first | refine blk_drewN ?_ _ | refine blk_drew ?_ | refine blk_alloc ?_ _)); refine blk_far ?_ NB307_314.out _; (with_reducible repeat (first | refine blk_drewN ?_ _ | refine blk_drew ?_ | refine blk_alloc ?_ _)); refine blk_far ?_ NB307_314.out _; (with_reducible repeat (first | refine blk_drewN ?_ _ | refine blk_drew ?_ | refine blk_alloc ?_ _)); exact BK307.out) hb); have n2_ := Aside0.mk (blk_below (g := gb314) (o := .cells #[.int .i64 t311, .int .i64 t312, .bool t313] 39 (0, 0)) (by (with_reducible repeat (first | refine blk_drewN ?_ _ | refine blk_drew ?_ | refine blk_alloc ?_ _)); refine blk_put (cs := #[.int .i64 t311, .int .i64 t312, .bool false]) ?_ 2 _ rfl; (with_reducible repeat (first | refine blk_drewN ?_ _ | refine blk_drew ?_ | refine blk_alloc ?_ _)); refine blk_put (cs := #[.int .i64 t311, .int .i64 0, .bool false]) ?_ 1 _ rfl; (with_reducible repeat (first | refine blk_drewN ?_ _ | refine blk_drew ?_ | refine blk_alloc ?_ _)); refine blk_put (cs := #[.int .i64 0, .int .i64 0, .bool false]) ?_ 0 _ rfl; (with_reducible repeat (first | refine blk_drewN ?_ _ | refine blk_drew ?_ | refine blk_alloc ?_ _)); exact BK314.out) hb); have n3_ := Aside0.mk (below_step (by repeat (first | (with_reducible first | exact HB.out | apply below_alloc | apply pw_below_drewN | apply below_drew1 | refine below_set ?_ GE306.out | refine below_set ?_ GE307.out | refine below_set ?_ GE314.out) | exact HB.out)) hb); clear BK306; clear BK307; clear BK314; clear HB; have BK306 := n0_; have BK307 := n1_; have BK314 := n2_; have HB := n3_; clear n0_ n1_ n2_ n3_; (try clear hb); (try clear hb2); (try clear hk); (try clear hi)) | ((with_reducible refine gate_dst (N := 12) rfl ?_); (try (refine gate_guard (by rfl) ?_; dsimp only)); refine box_event ?hg (N := 12) ?hd (cs := #[.int .i64 0, .int .i64 0, .bool false]) (t := 39) ?hr ?_; (case hd => rfl); (case hg => rfl); (case hr => first | (go_simp; done) | (go_simp; rfl)); intro gb318 hg w37 hbox hb; have n0_ := Aside0.mk (blk_below (g := gb306) (o := .cells #[.int .i64 a0_0, .int .i64 a0_1, .int .i64 a0_2, .int .i64 a0_3, .int .i64 a0_4, .int .i64 a0_5, .int .i64 a0_6, .int .i64 a0_7, .int .i64 a0_8, .int .i64 a0_9, .int .i64 a0_10, .int .i64 a0_11] 37 (0, 0)) (by (with_reducible repeat (first | refine blk_drewN ?_ _ | refine blk_drew ?_ | refine blk_alloc ?_ _)); exact BK306.out) hb); have n1_ := Aside0.mk (blk_below (g := gb307) (o := .cells #[.int .i64 a1_0, .int .i64 a1_1, .bool a1_2] 39 (0, 0)) (by (with_reducible repeat (first | refine blk_drewN ?_ _ | refine blk_drew ?_ | refine blk_alloc ?_ _)); exact BK307.out) hb); have n2_ := Aside0.mk (blk_below (g := gb314) (o := .cells #[.int .i64 t311, .int .i64 t312, .bool t313] 39 (0, 0)) (by (with_reducible repeat (first | refine blk_drewN ?_ _ | refine blk_drew ?_ | refine blk_alloc ?_ _)); exact BK314.out) hb); have n3_ := Aside0.mk (below_step (by repeat (first | (with_reducible first | exact HB.out | apply below_alloc | apply pw_below_drewN | apply below_drew1 | refine below_set ?_ GE306.out | refine below_set ?_ GE307.out | refine below_set ?_ GE314.out) | exact HB.out)) hb); have n4_ := Aside0.mk (hbox); have n5_ := Aside0.mk ((by rw [hg]; exact (below_size (by repeat (first | (with_reducible first | exact HB.out | apply below_alloc | apply pw_below_drewN | apply below_drew1 | refine below_set ?_ GE306.out | refine below_set ?_ GE307.out | refine below_set ?_ GE314.out) | exact HB.out))) : w.heap.size ≤ gb318)); have n6_ := Aside0.mk ((by rw [hg]; exact (below_size (by repeat (first | (with_reducible first | exact HB.out | apply below_alloc | apply pw_below_drewN | apply below_drew1 | refine below_set ?_ GE306.out | refine below_set ?_ GE307.out | refine below_set ?_ GE314.out) | exact HB.out))) : w.heap.size ≤ gb318)); have n7_ := Aside0.mk ((by rw [hg]; exact Nat.ne_of_lt (blk_lt (g := gb306) (o := .cells #[.int .i64 a0_0, .int .i64 a0_1, .int .i64 a0_2, .int .i64 a0_3, .int .i64 a0_4, .int .i64 a0_5, .int .i64 a0_6, .int .i64 a0_7, .int .i64 a0_8, .int .i64 a0_9, .int .i64 a0_10, .int .i64 a0_11] 37 (0, 0)) (by (with_reducible repeat (first | refine blk_drewN ?_ _ | refine blk_drew ?_ | refine blk_alloc ?_ _)); exact BK306.out)) : gb306 ≠ gb318)); have n8_ := Aside0.mk ((by rw [hg]; exact Nat.ne_of_gt (blk_lt (g := gb306) (o := .cells #[.int .i64 a0_0, .int .i64 a0_1, .int .i64 a0_2, .int .i64 a0_3, .int .i64 a0_4, .int .i64 a0_5, .int .i64 a0_6, .int .i64 a0_7, .int .i64 a0_8, .int .i64 a0_9, .int .i64 a0_10, .int .i64 a0_11] 37 (0, 0)) (by (with_reducible repeat (first | refine blk_drewN ?_ _ | refine blk_drew ?_ | refine blk_alloc ?_ _)); exact BK306.out)) : gb318 ≠ gb306)); have n9_ := Aside0.mk ((by rw [hg]; exact Nat.ne_of_lt (blk_lt (g := gb307) (o := .cells #[.int .i64 a1_0, .int .i64 a1_1, .bool a1_2] 39 (0, 0)) (by (with_reducible repeat (first | refine blk_drewN ?_ _ | refine blk_drew ?_ | refine blk_alloc ?_ _)); exact BK307.out)) : gb307 ≠ gb318)); have n10_ := Aside0.mk ((by rw [hg]; exact Nat.ne_of_gt (blk_lt (g := gb307) (o := .cells #[.int .i64 a1_0, .int .i64 a1_1, .bool a1_2] 39 (0, 0)) (by (with_reducible repeat (first | refine blk_drewN ?_ _ | refine blk_drew ?_ | refine blk_alloc ?_ _)); exact BK307.out)) : gb318 ≠ gb307)); have n11_ := Aside0.mk ((by rw [hg]; exact Nat.ne_of_lt (blk_lt (g := gb314) (o := .cells #[.int .i64 t311, .int .i64 t312, .bool t313] 39 (0, 0)) (by (with_reducible repeat (first | refine blk_drewN ?_ _ | refine blk_drew ?_ | refine blk_alloc ?_ _)); exact BK314.out)) : gb314 ≠ gb318)); have n12_ := Aside0.mk ((by rw [hg]; exact Nat.ne_of_gt (blk_lt (g := gb314) (o := .cells #[.int .i64 t311, .int .i64 t312, .bool t313] 39 (0, 0)) (by (with_reducible repeat (first | refine blk_drewN ?_ _ | refine blk_drew ?_ | refine blk_alloc ?_ _)); exact BK314.out)) : gb318 ≠ gb314)); clear BK306; clear BK307; clear BK314; clear HB; have BK306 := n0_; have BK307 := n1_; have BK314 := n2_; have HB := n3_; have BK318 := n4_; have GW318 := n5_; have GE318 := n6_; have NB306_318 := n7_; have NB318_306 := n8_; have NB307_318 := n9_; have NB318_307 := n10_; have NB314_318 := n11_; have NB318_314 := n12_; clear n0_ n1_ n2_ n3_ n4_ n5_ n6_ n7_ n8_ n9_ n10_ n11_ n12_; clear hb hbox hg; have hnb38 := NB318_306.out; have hnc38 := NB306_318.out; have hnb39 := NB318_307.out; have hnc39 := NB307_318.out; have hnb40 := NB318_314.out; have hnc40 := NB314_318.out; have hcz41_0 : w37.cell? ⟨gb318, 0, none⟩ = some (.int .i64 0) := (blk_cell BK318.out 0).trans rfl; have hcz41_1 : w37.cell? ⟨gb318, 1, none⟩ = some (.int .i64 0) := (blk_cell BK318.out 1).trans rfl; have hcz41_2 : w37.cell? ⟨gb318, 2, none⟩ = some (.bool false) := (blk_cell BK318.out 2).trans rfl; have hfz41_0 := blk_frozen BK318.out 0; have hfz41_1 := blk_frozen BK318.out 1; have hfz41_2 := blk_frozen BK318.out 2; have hcz42_0 : w37.cell? ⟨gb306, 0, none⟩ = some (.int .i64 a0_0) := (blk_cell BK306.out 0).trans rfl; have hcz42_1 : w37.cell? ⟨gb306, 1, none⟩ = some (.int .i64 a0_1) := (blk_cell BK306.out 1).trans rfl; have hcz42_2 : w37.cell? ⟨gb306, 2, none⟩ = some (.int .i64 a0_2) := (blk_cell BK306.out 2).trans rfl; have hcz42_3 : w37.cell? ⟨gb306, 3, none⟩ = some (.int .i64 a0_3) := (blk_cell BK306.out 3).trans rfl; have hcz42_4 : w37.cell? ⟨gb306, 4, none⟩ = some (.int .i64 a0_4) := (blk_cell BK306.out 4).trans rfl; have hcz42_5 : w37.cell? ⟨gb306, 5, none⟩ = some (.int .i64 a0_5) := (blk_cell BK306.out 5).trans rfl; have hcz42_6 : w37.cell? ⟨gb306, 6, none⟩ = some (.int .i64 a0_6) := (blk_cell BK306.out 6).trans rfl; have hcz42_7 : w37.cell? ⟨gb306, 7, none⟩ = some (.int .i64 a0_7) := (blk_cell BK306.out 7).trans rfl; have hcz42_8 : w37.cell? ⟨gb306, 8, none⟩ = some (.int .i64 a0_8) := (blk_cell BK306.out 8).trans rfl; have hcz42_9 : w37.cell? ⟨gb306, 9, none⟩ = some (.int .i64 a0_9) := (blk_cell BK306.out 9).trans rfl; have hcz42_10 : w37.cell? ⟨gb306, 10, none⟩ = some (.int .i64 a0_10) := (blk_cell BK306.out 10).trans rfl; have hcz42_11 : w37.cell? ⟨gb306, 11, none⟩ = some (.int .i64 a0_11) := (blk_cell BK306.out 11).trans rfl; have hfz42_0 := blk_frozen BK306.out 0; have hfz42_1 := blk_frozen BK306.out 1; have hfz42_2 := blk_frozen BK306.out 2; have hfz42_3 := blk_frozen BK306.out 3; have hfz42_4 := blk_frozen BK306.out 4; have hfz42_5 := blk_frozen BK306.out 5; have hfz42_6 := blk_frozen BK306.out 6; have hfz42_7 := blk_frozen BK306.out 7; have hfz42_8 := blk_frozen BK306.out 8; have hfz42_9 := blk_frozen BK306.out 9; have hfz42_10 := blk_frozen BK306.out 10; have hfz42_11 := blk_frozen BK306.out 11))
        (try simp only [Act.put, List.setIfInBounds_toArray, List.set_cons_zero, List.set_cons_succ])
        go_cut [14] (fun v14 wc => ∃ (kq : Nat) (x14_24 : Bool), v14 = .bool x14_24 ∧ Aside0 (governorlaw15_LimitWanted.j1 kq a3 t308 ji24 x14_24 a0_0 a0_1 a0_2 a0_3 a0_4 a0_5 a0_6 a0_7 a0_8 a0_9 a0_10 a0_11 t311 t312 t313 t315 t316 t317 = some r) ∧ Aside0 (kq ≤ kj5) ∧ Aside0 (wc.heap[gb306]? = some (.cells #[.int .i64 a0_0, .int .i64 a0_1, .int .i64 a0_2, .int .i64 a0_3, .int .i64 a0_4, .int .i64 a0_5, .int .i64 a0_6, .int .i64 a0_7, .int .i64 a0_8, .int .i64 a0_9, .int .i64 a0_10, .int .i64 a0_11] 37 (0, 0))) ∧ Aside0 (wc.heap[gb307]? = some (.cells #[.int .i64 a1_0, .int .i64 a1_1, .bool a1_2] 39 (0, 0))) ∧ Aside0 (wc.heap[gb314]? = some (.cells #[.int .i64 t311, .int .i64 t312, .bool t313] 39 (0, 0))) ∧ Aside0 (wc.heap[gb318]? = some (.cells #[.int .i64 t315, .int .i64 t316, .bool t317] 39 (0, 0))) ∧ Aside0 (Below w.heap.size w wc))
        case first =>
          have H := HC25.out
          clear HC25
          by_cases c43 : (wrap64 ((ji24) - t311)) ≤ a0_2
          · rw [if_pos c43] at H
            have c43b0 : decide ((wrap64 ((ji24) - t311)) ≤ a0_2) = true := decide_eq_true c43
            clear c43
            (first | rw [c43b0] | (simp only [i64_w, i32_w]; rw [c43b0]) | skip)
            have H' := Aside0.mk H
            clear H
            have hnb44 := NB314_306.out
            have hnc44 := NB306_314.out
            have hnb45 := NB314_307.out
            have hnc45 := NB307_314.out
            have hnb46 := NB314_318.out
            have hnc46 := NB318_314.out
            have hcz47_0 : w37.cell? ⟨gb314, 0, none⟩ = some (.int .i64 t311) := (blk_cell BK314.out 0).trans rfl
            have hcz47_1 : w37.cell? ⟨gb314, 1, none⟩ = some (.int .i64 t312) := (blk_cell BK314.out 1).trans rfl
            have hcz47_2 : w37.cell? ⟨gb314, 2, none⟩ = some (.bool t313) := (blk_cell BK314.out 2).trans rfl
            have hfz47_0 := blk_frozen BK314.out 0
            have hfz47_1 := blk_frozen BK314.out 1
            have hfz47_2 := blk_frozen BK314.out 2
            have hnb48 := NB306_307.out
            have hnc48 := NB307_306.out
            have hnb49 := NB306_318.out
            have hnc49 := NB318_306.out
            have hcz50_0 : w37.cell? ⟨gb306, 0, none⟩ = some (.int .i64 a0_0) := (blk_cell BK306.out 0).trans rfl
            have hcz50_1 : w37.cell? ⟨gb306, 1, none⟩ = some (.int .i64 a0_1) := (blk_cell BK306.out 1).trans rfl
            have hcz50_2 : w37.cell? ⟨gb306, 2, none⟩ = some (.int .i64 a0_2) := (blk_cell BK306.out 2).trans rfl
            have hcz50_3 : w37.cell? ⟨gb306, 3, none⟩ = some (.int .i64 a0_3) := (blk_cell BK306.out 3).trans rfl
            have hcz50_4 : w37.cell? ⟨gb306, 4, none⟩ = some (.int .i64 a0_4) := (blk_cell BK306.out 4).trans rfl
            have hcz50_5 : w37.cell? ⟨gb306, 5, none⟩ = some (.int .i64 a0_5) := (blk_cell BK306.out 5).trans rfl
            have hcz50_6 : w37.cell? ⟨gb306, 6, none⟩ = some (.int .i64 a0_6) := (blk_cell BK306.out 6).trans rfl
            have hcz50_7 : w37.cell? ⟨gb306, 7, none⟩ = some (.int .i64 a0_7) := (blk_cell BK306.out 7).trans rfl
            have hcz50_8 : w37.cell? ⟨gb306, 8, none⟩ = some (.int .i64 a0_8) := (blk_cell BK306.out 8).trans rfl
            have hcz50_9 : w37.cell? ⟨gb306, 9, none⟩ = some (.int .i64 a0_9) := (blk_cell BK306.out 9).trans rfl
            have hcz50_10 : w37.cell? ⟨gb306, 10, none⟩ = some (.int .i64 a0_10) := (blk_cell BK306.out 10).trans rfl
            have hcz50_11 : w37.cell? ⟨gb306, 11, none⟩ = some (.int .i64 a0_11) := (blk_cell BK306.out 11).trans rfl
            have hfz50_0 := blk_frozen BK306.out 0
            have hfz50_1 := blk_frozen BK306.out 1
            have hfz50_2 := blk_frozen BK306.out 2
            have hfz50_3 := blk_frozen BK306.out 3
            have hfz50_4 := blk_frozen BK306.out 4
            have hfz50_5 := blk_frozen BK306.out 5
            have hfz50_6 := blk_frozen BK306.out 6
            have hfz50_7 := blk_frozen BK306.out 7
            have hfz50_8 := blk_frozen BK306.out 8
            have hfz50_9 := blk_frozen BK306.out 9
            have hfz50_10 := blk_frozen BK306.out 10
            have hfz50_11 := blk_frozen BK306.out 11
            go_wp2
            go_meet
            case rel => exact ⟨_, (decide ((wrap64 (t311 - (ji24))) ≤ a0_2)), (by first | rfl | (simp; done) | (simp only [← hji24] <;> (first | rfl | simp)) | (simp [*]; done)), H', ⟨by have := HJ5.out; first | omega | exact Nat.le_refl _⟩, ⟨by (with_reducible repeat (first | refine blk_drewN ?_ _ | refine blk_drew ?_ | refine blk_alloc ?_ _)); refine blk_far ?_ NB306_318.out _; (with_reducible repeat (first | refine blk_drewN ?_ _ | refine blk_drew ?_ | refine blk_alloc ?_ _)); refine blk_far ?_ NB306_318.out _; (with_reducible repeat (first | refine blk_drewN ?_ _ | refine blk_drew ?_ | refine blk_alloc ?_ _)); refine blk_far ?_ NB306_318.out _; (with_reducible repeat (first | refine blk_drewN ?_ _ | refine blk_drew ?_ | refine blk_alloc ?_ _)); exact BK306.out⟩, ⟨by (with_reducible repeat (first | refine blk_drewN ?_ _ | refine blk_drew ?_ | refine blk_alloc ?_ _)); refine blk_far ?_ NB307_318.out _; (with_reducible repeat (first | refine blk_drewN ?_ _ | refine blk_drew ?_ | refine blk_alloc ?_ _)); refine blk_far ?_ NB307_318.out _; (with_reducible repeat (first | refine blk_drewN ?_ _ | refine blk_drew ?_ | refine blk_alloc ?_ _)); refine blk_far ?_ NB307_318.out _; (with_reducible repeat (first | refine blk_drewN ?_ _ | refine blk_drew ?_ | refine blk_alloc ?_ _)); exact BK307.out⟩, ⟨by (with_reducible repeat (first | refine blk_drewN ?_ _ | refine blk_drew ?_ | refine blk_alloc ?_ _)); refine blk_far ?_ NB314_318.out _; (with_reducible repeat (first | refine blk_drewN ?_ _ | refine blk_drew ?_ | refine blk_alloc ?_ _)); refine blk_far ?_ NB314_318.out _; (with_reducible repeat (first | refine blk_drewN ?_ _ | refine blk_drew ?_ | refine blk_alloc ?_ _)); refine blk_far ?_ NB314_318.out _; (with_reducible repeat (first | refine blk_drewN ?_ _ | refine blk_drew ?_ | refine blk_alloc ?_ _)); exact BK314.out⟩, ⟨by (with_reducible repeat (first | refine blk_drewN ?_ _ | refine blk_drew ?_ | refine blk_alloc ?_ _)); refine blk_put (cs := #[.int .i64 t315, .int .i64 t316, .bool false]) ?_ 2 _ rfl; (with_reducible repeat (first | refine blk_drewN ?_ _ | refine blk_drew ?_ | refine blk_alloc ?_ _)); refine blk_put (cs := #[.int .i64 t315, .int .i64 0, .bool false]) ?_ 1 _ rfl; (with_reducible repeat (first | refine blk_drewN ?_ _ | refine blk_drew ?_ | refine blk_alloc ?_ _)); refine blk_put (cs := #[.int .i64 0, .int .i64 0, .bool false]) ?_ 0 _ rfl; (with_reducible repeat (first | refine blk_drewN ?_ _ | refine blk_drew ?_ | refine blk_alloc ?_ _)); exact BK318.out⟩, ⟨by repeat (first | (with_reducible first | exact HB.out | apply below_alloc | apply pw_below_drewN | apply below_drew1 | refine below_set ?_ GE306.out | refine below_set ?_ GE307.out | refine below_set ?_ GE314.out | refine below_set ?_ GE318.out) | exact HB.out)⟩⟩
          · rw [if_neg c43] at H
            have c43b0 : decide ((wrap64 ((ji24) - t311)) ≤ a0_2) = false := decide_eq_false c43
            clear c43
            (first | rw [c43b0] | (simp only [i64_w, i32_w]; rw [c43b0]) | skip)
            have H' := Aside0.mk H
            clear H
            have hnb51 := NB314_306.out
            have hnc51 := NB306_314.out
            have hnb52 := NB314_307.out
            have hnc52 := NB307_314.out
            have hnb53 := NB314_318.out
            have hnc53 := NB318_314.out
            have hcz54_0 : w37.cell? ⟨gb314, 0, none⟩ = some (.int .i64 t311) := (blk_cell BK314.out 0).trans rfl
            have hcz54_1 : w37.cell? ⟨gb314, 1, none⟩ = some (.int .i64 t312) := (blk_cell BK314.out 1).trans rfl
            have hcz54_2 : w37.cell? ⟨gb314, 2, none⟩ = some (.bool t313) := (blk_cell BK314.out 2).trans rfl
            have hfz54_0 := blk_frozen BK314.out 0
            have hfz54_1 := blk_frozen BK314.out 1
            have hfz54_2 := blk_frozen BK314.out 2
            have hnb55 := NB306_307.out
            have hnc55 := NB307_306.out
            have hnb56 := NB306_318.out
            have hnc56 := NB318_306.out
            have hcz57_0 : w37.cell? ⟨gb306, 0, none⟩ = some (.int .i64 a0_0) := (blk_cell BK306.out 0).trans rfl
            have hcz57_1 : w37.cell? ⟨gb306, 1, none⟩ = some (.int .i64 a0_1) := (blk_cell BK306.out 1).trans rfl
            have hcz57_2 : w37.cell? ⟨gb306, 2, none⟩ = some (.int .i64 a0_2) := (blk_cell BK306.out 2).trans rfl
            have hcz57_3 : w37.cell? ⟨gb306, 3, none⟩ = some (.int .i64 a0_3) := (blk_cell BK306.out 3).trans rfl
            have hcz57_4 : w37.cell? ⟨gb306, 4, none⟩ = some (.int .i64 a0_4) := (blk_cell BK306.out 4).trans rfl
            have hcz57_5 : w37.cell? ⟨gb306, 5, none⟩ = some (.int .i64 a0_5) := (blk_cell BK306.out 5).trans rfl
            have hcz57_6 : w37.cell? ⟨gb306, 6, none⟩ = some (.int .i64 a0_6) := (blk_cell BK306.out 6).trans rfl
            have hcz57_7 : w37.cell? ⟨gb306, 7, none⟩ = some (.int .i64 a0_7) := (blk_cell BK306.out 7).trans rfl
            have hcz57_8 : w37.cell? ⟨gb306, 8, none⟩ = some (.int .i64 a0_8) := (blk_cell BK306.out 8).trans rfl
            have hcz57_9 : w37.cell? ⟨gb306, 9, none⟩ = some (.int .i64 a0_9) := (blk_cell BK306.out 9).trans rfl
            have hcz57_10 : w37.cell? ⟨gb306, 10, none⟩ = some (.int .i64 a0_10) := (blk_cell BK306.out 10).trans rfl
            have hcz57_11 : w37.cell? ⟨gb306, 11, none⟩ = some (.int .i64 a0_11) := (blk_cell BK306.out 11).trans rfl
            have hfz57_0 := blk_frozen BK306.out 0
            have hfz57_1 := blk_frozen BK306.out 1
            have hfz57_2 := blk_frozen BK306.out 2
            have hfz57_3 := blk_frozen BK306.out 3
            have hfz57_4 := blk_frozen BK306.out 4
            have hfz57_5 := blk_frozen BK306.out 5
            have hfz57_6 := blk_frozen BK306.out 6
            have hfz57_7 := blk_frozen BK306.out 7
            have hfz57_8 := blk_frozen BK306.out 8
            have hfz57_9 := blk_frozen BK306.out 9
            have hfz57_10 := blk_frozen BK306.out 10
            have hfz57_11 := blk_frozen BK306.out 11
            go_wp2
            go_meet
            case rel => exact ⟨_, (false), (by first | rfl | (simp; done) | (simp [*]; done)), H', ⟨by have := HJ5.out; first | omega | exact Nat.le_refl _⟩, ⟨by (with_reducible repeat (first | refine blk_drewN ?_ _ | refine blk_drew ?_ | refine blk_alloc ?_ _)); refine blk_far ?_ NB306_318.out _; (with_reducible repeat (first | refine blk_drewN ?_ _ | refine blk_drew ?_ | refine blk_alloc ?_ _)); refine blk_far ?_ NB306_318.out _; (with_reducible repeat (first | refine blk_drewN ?_ _ | refine blk_drew ?_ | refine blk_alloc ?_ _)); refine blk_far ?_ NB306_318.out _; (with_reducible repeat (first | refine blk_drewN ?_ _ | refine blk_drew ?_ | refine blk_alloc ?_ _)); exact BK306.out⟩, ⟨by (with_reducible repeat (first | refine blk_drewN ?_ _ | refine blk_drew ?_ | refine blk_alloc ?_ _)); refine blk_far ?_ NB307_318.out _; (with_reducible repeat (first | refine blk_drewN ?_ _ | refine blk_drew ?_ | refine blk_alloc ?_ _)); refine blk_far ?_ NB307_318.out _; (with_reducible repeat (first | refine blk_drewN ?_ _ | refine blk_drew ?_ | refine blk_alloc ?_ _)); refine blk_far ?_ NB307_318.out _; (with_reducible repeat (first | refine blk_drewN ?_ _ | refine blk_drew ?_ | refine blk_alloc ?_ _)); exact BK307.out⟩, ⟨by (with_reducible repeat (first | refine blk_drewN ?_ _ | refine blk_drew ?_ | refine blk_alloc ?_ _)); refine blk_far ?_ NB314_318.out _; (with_reducible repeat (first | refine blk_drewN ?_ _ | refine blk_drew ?_ | refine blk_alloc ?_ _)); refine blk_far ?_ NB314_318.out _; (with_reducible repeat (first | refine blk_drewN ?_ _ | refine blk_drew ?_ | refine blk_alloc ?_ _)); refine blk_far ?_ NB314_318.out _; (with_reducible repeat (first | refine blk_drewN ?_ _ | refine blk_drew ?_ | refine blk_alloc ?_ _)); exact BK314.out⟩, ⟨by (with_reducible repeat (first | refine blk_drewN ?_ _ | refine blk_drew ?_ | refine blk_alloc ?_ _)); refine blk_put (cs := #[.int .i64 t315, .int .i64 t316, .bool false]) ?_ 2 _ rfl; (with_reducible repeat (first | refine blk_drewN ?_ _ | refine blk_drew ?_ | refine blk_alloc ?_ _)); refine blk_put (cs := #[.int .i64 t315, .int .i64 0, .bool false]) ?_ 1 _ rfl; (with_reducible repeat (first | refine blk_drewN ?_ _ | refine blk_drew ?_ | refine blk_alloc ?_ _)); refine blk_put (cs := #[.int .i64 0, .int .i64 0, .bool false]) ?_ 0 _ rfl; (with_reducible repeat (first | refine blk_drewN ?_ _ | refine blk_drew ?_ | refine blk_alloc ?_ _)); exact BK318.out⟩, ⟨by repeat (first | (with_reducible first | exact HB.out | apply below_alloc | apply pw_below_drewN | apply below_drew1 | refine below_set ?_ GE306.out | refine below_set ?_ GE307.out | refine below_set ?_ GE314.out | refine below_set ?_ GE318.out) | exact HB.out)⟩⟩
        case rest =>
          clear HC25
          try clear c1
          try clear c2
          try clear p2
          try clear c3
          try clear c4
          try clear c5
          try clear p6
          try clear c11
          try clear c12
          try clear c13
          try clear c17
          try clear c20
          try clear c21
          try clear c22
          try clear c24
          try clear c26
          try clear c31
          try clear c32
          try clear c38
          try clear c39
          try clear c40
          try clear c43
          try clear c43b0
          try clear c44
          try clear c45
          try clear c46
          try clear c48
          try clear c49
          try clear c51
          try clear c52
          try clear c53
          try clear c55
          try clear c56
          try clear hcz14_0
          try clear hcz14_1
          try clear hcz14_10
          try clear hcz14_11
          try clear hcz14_2
          try clear hcz14_3
          try clear hcz14_4
          try clear hcz14_5
          try clear hcz14_6
          try clear hcz14_7
          try clear hcz14_8
          try clear hcz14_9
          try clear hcz16_0
          try clear hcz16_1
          try clear hcz16_2
          try clear hcz18_0
          try clear hcz18_1
          try clear hcz18_10
          try clear hcz18_11
          try clear hcz18_2
          try clear hcz18_3
          try clear hcz18_4
          try clear hcz18_5
          try clear hcz18_6
          try clear hcz18_7
          try clear hcz18_8
          try clear hcz18_9
          try clear hcz27_0
          try clear hcz27_1
          try clear hcz27_10
          try clear hcz27_11
          try clear hcz27_2
          try clear hcz27_3
          try clear hcz27_4
          try clear hcz27_5
          try clear hcz27_6
          try clear hcz27_7
          try clear hcz27_8
          try clear hcz27_9
          try clear hcz28_0
          try clear hcz28_1
          try clear hcz28_2
          try clear hcz33_0
          try clear hcz33_1
          try clear hcz33_2
          try clear hcz34_0
          try clear hcz34_1
          try clear hcz34_10
          try clear hcz34_11
          try clear hcz34_2
          try clear hcz34_3
          try clear hcz34_4
          try clear hcz34_5
          try clear hcz34_6
          try clear hcz34_7
          try clear hcz34_8
          try clear hcz34_9
          try clear hcz35_0
          try clear hcz35_1
          try clear hcz35_2
          try clear hcz41_0
          try clear hcz41_1
          try clear hcz41_2
          try clear hcz42_0
          try clear hcz42_1
          try clear hcz42_10
          try clear hcz42_11
          try clear hcz42_2
          try clear hcz42_3
          try clear hcz42_4
          try clear hcz42_5
          try clear hcz42_6
          try clear hcz42_7
          try clear hcz42_8
          try clear hcz42_9
          try clear hcz47_0
          try clear hcz47_1
          try clear hcz47_2
          try clear hcz50_0
          try clear hcz50_1
          try clear hcz50_10
          try clear hcz50_11
          try clear hcz50_2
          try clear hcz50_3
          try clear hcz50_4
          try clear hcz50_5
          try clear hcz50_6
          try clear hcz50_7
          try clear hcz50_8
          try clear hcz50_9
          try clear hcz54_0
          try clear hcz54_1
          try clear hcz54_2
          try clear hcz57_0
          try clear hcz57_1
          try clear hcz57_10
          try clear hcz57_11
          try clear hcz57_2
          try clear hcz57_3
          try clear hcz57_4
          try clear hcz57_5
          try clear hcz57_6
          try clear hcz57_7
          try clear hcz57_8
          try clear hcz57_9
          try clear hfz14_0
          try clear hfz14_1
          try clear hfz14_10
          try clear hfz14_11
          try clear hfz14_2
          try clear hfz14_3
          try clear hfz14_4
          try clear hfz14_5
          try clear hfz14_6
          try clear hfz14_7
          try clear hfz14_8
          try clear hfz14_9
          try clear hfz16_0
          try clear hfz16_1
          try clear hfz16_2
          try clear hfz18_0
          try clear hfz18_1
          try clear hfz18_10
          try clear hfz18_11
          try clear hfz18_2
          try clear hfz18_3
          try clear hfz18_4
          try clear hfz18_5
          try clear hfz18_6
          try clear hfz18_7
          try clear hfz18_8
          try clear hfz18_9
          try clear hfz27_0
          try clear hfz27_1
          try clear hfz27_10
          try clear hfz27_11
          try clear hfz27_2
          try clear hfz27_3
          try clear hfz27_4
          try clear hfz27_5
          try clear hfz27_6
          try clear hfz27_7
          try clear hfz27_8
          try clear hfz27_9
          try clear hfz28_0
          try clear hfz28_1
          try clear hfz28_2
          try clear hfz33_0
          try clear hfz33_1
          try clear hfz33_2
          try clear hfz34_0
          try clear hfz34_1
          try clear hfz34_10
          try clear hfz34_11
          try clear hfz34_2
          try clear hfz34_3
          try clear hfz34_4
          try clear hfz34_5
          try clear hfz34_6
          try clear hfz34_7
          try clear hfz34_8
          try clear hfz34_9
          try clear hfz35_0
          try clear hfz35_1
          try clear hfz35_2
          try clear hfz41_0
          try clear hfz41_1
          try clear hfz41_2
          try clear hfz42_0
          try clear hfz42_1
          try clear hfz42_10
          try clear hfz42_11
          try clear hfz42_2
          try clear hfz42_3
          try clear hfz42_4
          try clear hfz42_5
          try clear hfz42_6
          try clear hfz42_7
          try clear hfz42_8
          try clear hfz42_9
          try clear hfz47_0
          try clear hfz47_1
          try clear hfz47_2
          try clear hfz50_0
          try clear hfz50_1
          try clear hfz50_10
          try clear hfz50_11
          try clear hfz50_2
          try clear hfz50_3
          try clear hfz50_4
          try clear hfz50_5
          try clear hfz50_6
          try clear hfz50_7
          try clear hfz50_8
          try clear hfz50_9
          try clear hfz54_0
          try clear hfz54_1
          try clear hfz54_2
          try clear hfz57_0
          try clear hfz57_1
          try clear hfz57_10
          try clear hfz57_11
          try clear hfz57_2
          try clear hfz57_3
          try clear hfz57_4
          try clear hfz57_5
          try clear hfz57_6
          try clear hfz57_7
          try clear hfz57_8
          try clear hfz57_9
          try clear p2
          obtain ⟨kq, x14_24, rfl, HA, HJ24, BK306, BK307, BK314, BK318, HB⟩ := hcut
          cases kq with
          | zero => exact absurd HA.out (by simp [governorlaw15_LimitWanted.j1])
          | succ kj24 =>
            have H := HA.out
            clear HA
            simp only [governorlaw15_LimitWanted.j1] at H
            have HC58 := Aside0.mk H
            clear H
            go_upto_region 9 with (fail)
            go_cut [15] (fun v15 wc => ∃ (kq : Nat) (x15_57 : Bool), v15 = .bool x15_57 ∧ Aside0 (governorlaw15_LimitWanted.j2 kq t308 ji24 x14_24 x15_57 t311 t312 t313 t315 t316 t317 = some r) ∧ Aside0 (kq ≤ kj24) ∧ Aside0 (wc.heap[gb306]? = some (.cells #[.int .i64 a0_0, .int .i64 a0_1, .int .i64 a0_2, .int .i64 a0_3, .int .i64 a0_4, .int .i64 a0_5, .int .i64 a0_6, .int .i64 a0_7, .int .i64 a0_8, .int .i64 a0_9, .int .i64 a0_10, .int .i64 a0_11] 37 (0, 0))) ∧ Aside0 (wc.heap[gb307]? = some (.cells #[.int .i64 a1_0, .int .i64 a1_1, .bool a1_2] 39 (0, 0))) ∧ Aside0 (wc.heap[gb314]? = some (.cells #[.int .i64 t311, .int .i64 t312, .bool t313] 39 (0, 0))) ∧ Aside0 (wc.heap[gb318]? = some (.cells #[.int .i64 t315, .int .i64 t316, .bool t317] 39 (0, 0))) ∧ Aside0 (Below w.heap.size w wc))
            case first =>
              have H := HC58.out
              clear HC58
              by_cases c59 : ji24 < t311
              · rw [if_pos c59] at H
                have c59b0 : decide (ji24 < t311) = true := decide_eq_true c59
                clear c59
                (first | rw [c59b0] | (simp only [i64_w, i32_w]; rw [c59b0]) | skip)
                by_cases c60 : t313 = true
                · subst c60
                  have H1 : (governorlaw15_LimitWanted.j2 kj24 t308 ji24 x14_24 (decide ((wrap64 ((wrap64 (a3)) - t312)) < a0_3)) t311 t312 true t315 t316 t317) = some r := by rw [if_pos rfl] at H; exact H
                  clear H
                  have H := H1
                  clear H1
                  have H' := Aside0.mk H
                  clear H
                  have hnb61 := NB314_306.out
                  have hnc61 := NB306_314.out
                  have hnb62 := NB314_307.out
                  have hnc62 := NB307_314.out
                  have hnb63 := NB314_318.out
                  have hnc63 := NB318_314.out
                  have hcz64_0 : wc.cell? ⟨gb314, 0, none⟩ = some (.int .i64 t311) := (blk_cell BK314.out 0).trans rfl
                  have hcz64_1 : wc.cell? ⟨gb314, 1, none⟩ = some (.int .i64 t312) := (blk_cell BK314.out 1).trans rfl
                  have hcz64_2 : wc.cell? ⟨gb314, 2, none⟩ = some (.bool true) := (blk_cell BK314.out 2).trans rfl
                  have hfz64_0 := blk_frozen BK314.out 0
                  have hfz64_1 := blk_frozen BK314.out 1
                  have hfz64_2 := blk_frozen BK314.out 2
                  have hnb65 := NB306_307.out
                  have hnc65 := NB307_306.out
                  have hnb66 := NB306_318.out
                  have hnc66 := NB318_306.out
                  have hcz67_0 : wc.cell? ⟨gb306, 0, none⟩ = some (.int .i64 a0_0) := (blk_cell BK306.out 0).trans rfl
                  have hcz67_1 : wc.cell? ⟨gb306, 1, none⟩ = some (.int .i64 a0_1) := (blk_cell BK306.out 1).trans rfl
                  have hcz67_2 : wc.cell? ⟨gb306, 2, none⟩ = some (.int .i64 a0_2) := (blk_cell BK306.out 2).trans rfl
                  have hcz67_3 : wc.cell? ⟨gb306, 3, none⟩ = some (.int .i64 a0_3) := (blk_cell BK306.out 3).trans rfl
                  have hcz67_4 : wc.cell? ⟨gb306, 4, none⟩ = some (.int .i64 a0_4) := (blk_cell BK306.out 4).trans rfl
                  have hcz67_5 : wc.cell? ⟨gb306, 5, none⟩ = some (.int .i64 a0_5) := (blk_cell BK306.out 5).trans rfl
                  have hcz67_6 : wc.cell? ⟨gb306, 6, none⟩ = some (.int .i64 a0_6) := (blk_cell BK306.out 6).trans rfl
                  have hcz67_7 : wc.cell? ⟨gb306, 7, none⟩ = some (.int .i64 a0_7) := (blk_cell BK306.out 7).trans rfl
                  have hcz67_8 : wc.cell? ⟨gb306, 8, none⟩ = some (.int .i64 a0_8) := (blk_cell BK306.out 8).trans rfl
                  have hcz67_9 : wc.cell? ⟨gb306, 9, none⟩ = some (.int .i64 a0_9) := (blk_cell BK306.out 9).trans rfl
                  have hcz67_10 : wc.cell? ⟨gb306, 10, none⟩ = some (.int .i64 a0_10) := (blk_cell BK306.out 10).trans rfl
                  have hcz67_11 : wc.cell? ⟨gb306, 11, none⟩ = some (.int .i64 a0_11) := (blk_cell BK306.out 11).trans rfl
                  have hfz67_0 := blk_frozen BK306.out 0
                  have hfz67_1 := blk_frozen BK306.out 1
                  have hfz67_2 := blk_frozen BK306.out 2
                  have hfz67_3 := blk_frozen BK306.out 3
                  have hfz67_4 := blk_frozen BK306.out 4
                  have hfz67_5 := blk_frozen BK306.out 5
                  have hfz67_6 := blk_frozen BK306.out 6
                  have hfz67_7 := blk_frozen BK306.out 7
                  have hfz67_8 := blk_frozen BK306.out 8
                  have hfz67_9 := blk_frozen BK306.out 9
                  have hfz67_10 := blk_frozen BK306.out 10
                  have hfz67_11 := blk_frozen BK306.out 11
                  go_wp2
                  go_meet
                  case rel => exact ⟨_, (decide ((wrap64 ((wrap64 (a3)) - t312)) < a0_3)), (by first | rfl | (simp; done) | (simp [*]; done)), H', ⟨by have := HJ5.out; have := HJ24.out; first | omega | exact Nat.le_refl _⟩, ⟨by (with_reducible repeat (first | refine blk_drewN ?_ _ | refine blk_drew ?_ | refine blk_alloc ?_ _)); exact BK306.out⟩, ⟨by (with_reducible repeat (first | refine blk_drewN ?_ _ | refine blk_drew ?_ | refine blk_alloc ?_ _)); exact BK307.out⟩, ⟨by (with_reducible repeat (first | refine blk_drewN ?_ _ | refine blk_drew ?_ | refine blk_alloc ?_ _)); exact BK314.out⟩, ⟨by (with_reducible repeat (first | refine blk_drewN ?_ _ | refine blk_drew ?_ | refine blk_alloc ?_ _)); exact BK318.out⟩, ⟨by repeat (first | (with_reducible first | exact HB.out | apply below_alloc | apply pw_below_drewN | apply below_drew1 | refine below_set ?_ GE306.out | refine below_set ?_ GE307.out | refine below_set ?_ GE314.out | refine below_set ?_ GE318.out) | exact HB.out)⟩⟩
                · replace c60 := Bool.eq_false_iff.mpr c60
                  subst c60
                  have H1 : (governorlaw15_LimitWanted.j2 kj24 t308 ji24 x14_24 false t311 t312 false t315 t316 t317) = some r := by rw [if_neg (show ¬ (false = true) by decide)] at H; exact H
                  clear H
                  have H := H1
                  clear H1
                  have H' := Aside0.mk H
                  clear H
                  have hnb68 := NB314_306.out
                  have hnc68 := NB306_314.out
                  have hnb69 := NB314_307.out
                  have hnc69 := NB307_314.out
                  have hnb70 := NB314_318.out
                  have hnc70 := NB318_314.out
                  have hcz71_0 : wc.cell? ⟨gb314, 0, none⟩ = some (.int .i64 t311) := (blk_cell BK314.out 0).trans rfl
                  have hcz71_1 : wc.cell? ⟨gb314, 1, none⟩ = some (.int .i64 t312) := (blk_cell BK314.out 1).trans rfl
                  have hcz71_2 : wc.cell? ⟨gb314, 2, none⟩ = some (.bool false) := (blk_cell BK314.out 2).trans rfl
                  have hfz71_0 := blk_frozen BK314.out 0
                  have hfz71_1 := blk_frozen BK314.out 1
                  have hfz71_2 := blk_frozen BK314.out 2
                  go_wp2
                  go_meet
                  case rel => exact ⟨_, (false), (by first | rfl | (simp; done) | (simp [*]; done)), H', ⟨by have := HJ5.out; have := HJ24.out; first | omega | exact Nat.le_refl _⟩, ⟨by (with_reducible repeat (first | refine blk_drewN ?_ _ | refine blk_drew ?_ | refine blk_alloc ?_ _)); exact BK306.out⟩, ⟨by (with_reducible repeat (first | refine blk_drewN ?_ _ | refine blk_drew ?_ | refine blk_alloc ?_ _)); exact BK307.out⟩, ⟨by (with_reducible repeat (first | refine blk_drewN ?_ _ | refine blk_drew ?_ | refine blk_alloc ?_ _)); exact BK314.out⟩, ⟨by (with_reducible repeat (first | refine blk_drewN ?_ _ | refine blk_drew ?_ | refine blk_alloc ?_ _)); exact BK318.out⟩, ⟨by repeat (first | (with_reducible first | exact HB.out | apply below_alloc | apply pw_below_drewN | apply below_drew1 | refine below_set ?_ GE306.out | refine below_set ?_ GE307.out | refine below_set ?_ GE314.out | refine below_set ?_ GE318.out) | exact HB.out)⟩⟩
              · rw [if_neg c59] at H
                have c59b0 : decide (ji24 < t311) = false := decide_eq_false c59
                clear c59
                (first | rw [c59b0] | (simp only [i64_w, i32_w]; rw [c59b0]) | skip)
                have H' := Aside0.mk H
                clear H
                have hnb72 := NB314_306.out
                have hnc72 := NB306_314.out
                have hnb73 := NB314_307.out
                have hnc73 := NB307_314.out
                have hnb74 := NB314_318.out
                have hnc74 := NB318_314.out
                have hcz75_0 : wc.cell? ⟨gb314, 0, none⟩ = some (.int .i64 t311) := (blk_cell BK314.out 0).trans rfl
                have hcz75_1 : wc.cell? ⟨gb314, 1, none⟩ = some (.int .i64 t312) := (blk_cell BK314.out 1).trans rfl
                have hcz75_2 : wc.cell? ⟨gb314, 2, none⟩ = some (.bool t313) := (blk_cell BK314.out 2).trans rfl
                have hfz75_0 := blk_frozen BK314.out 0
                have hfz75_1 := blk_frozen BK314.out 1
                have hfz75_2 := blk_frozen BK314.out 2
                go_wp2
                go_meet
                case rel => exact ⟨_, (false), (by first | rfl | (simp; done) | (simp [*]; done)), H', ⟨by have := HJ5.out; have := HJ24.out; first | omega | exact Nat.le_refl _⟩, ⟨by (with_reducible repeat (first | refine blk_drewN ?_ _ | refine blk_drew ?_ | refine blk_alloc ?_ _)); exact BK306.out⟩, ⟨by (with_reducible repeat (first | refine blk_drewN ?_ _ | refine blk_drew ?_ | refine blk_alloc ?_ _)); exact BK307.out⟩, ⟨by (with_reducible repeat (first | refine blk_drewN ?_ _ | refine blk_drew ?_ | refine blk_alloc ?_ _)); exact BK314.out⟩, ⟨by (with_reducible repeat (first | refine blk_drewN ?_ _ | refine blk_drew ?_ | refine blk_alloc ?_ _)); exact BK318.out⟩, ⟨by repeat (first | (with_reducible first | exact HB.out | apply below_alloc | apply pw_below_drewN | apply below_drew1 | refine below_set ?_ GE306.out | refine below_set ?_ GE307.out | refine below_set ?_ GE314.out | refine below_set ?_ GE318.out) | exact HB.out)⟩⟩
            case rest =>
              clear HC58
              try clear c1
              try clear c2
              try clear p2
              try clear c3
              try clear c4
              try clear c5
              try clear c6
              try clear p6
              try clear c7
              try clear c11
              try clear c12
              try clear c13
              try clear c17
              try clear c20
              try clear c21
              try clear c22
              try clear c24
              try clear c26
              try clear c31
              try clear c32
              try clear c38
              try clear c39
              try clear c40
              try clear c43
              try clear c43b0
              try clear c44
              try clear c45
              try clear c46
              try clear c48
              try clear c49
              try clear c51
              try clear c52
              try clear c53
              try clear c55
              try clear c56
              try clear c59
              try clear c59b0
              try clear c60
              try clear c61
              try clear c62
              try clear c63
              try clear p64
              try clear c65
              try clear c66
              try clear c68
              try clear c69
              try clear c70
              try clear c72
              try clear c73
              try clear c74
              try clear hcz14_0
              try clear hcz14_1
              try clear hcz14_10
              try clear hcz14_11
              try clear hcz14_2
              try clear hcz14_3
              try clear hcz14_4
              try clear hcz14_5
              try clear hcz14_6
              try clear hcz14_7
              try clear hcz14_8
              try clear hcz14_9
              try clear hcz16_0
              try clear hcz16_1
              try clear hcz16_2
              try clear hcz18_0
              try clear hcz18_1
              try clear hcz18_10
              try clear hcz18_11
              try clear hcz18_2
              try clear hcz18_3
              try clear hcz18_4
              try clear hcz18_5
              try clear hcz18_6
              try clear hcz18_7
              try clear hcz18_8
              try clear hcz18_9
              try clear hcz27_0
              try clear hcz27_1
              try clear hcz27_10
              try clear hcz27_11
              try clear hcz27_2
              try clear hcz27_3
              try clear hcz27_4
              try clear hcz27_5
              try clear hcz27_6
              try clear hcz27_7
              try clear hcz27_8
              try clear hcz27_9
              try clear hcz28_0
              try clear hcz28_1
              try clear hcz28_2
              try clear hcz33_0
              try clear hcz33_1
              try clear hcz33_2
              try clear hcz34_0
              try clear hcz34_1
              try clear hcz34_10
              try clear hcz34_11
              try clear hcz34_2
              try clear hcz34_3
              try clear hcz34_4
              try clear hcz34_5
              try clear hcz34_6
              try clear hcz34_7
              try clear hcz34_8
              try clear hcz34_9
              try clear hcz35_0
              try clear hcz35_1
              try clear hcz35_2
              try clear hcz41_0
              try clear hcz41_1
              try clear hcz41_2
              try clear hcz42_0
              try clear hcz42_1
              try clear hcz42_10
              try clear hcz42_11
              try clear hcz42_2
              try clear hcz42_3
              try clear hcz42_4
              try clear hcz42_5
              try clear hcz42_6
              try clear hcz42_7
              try clear hcz42_8
              try clear hcz42_9
              try clear hcz47_0
              try clear hcz47_1
              try clear hcz47_2
              try clear hcz50_0
              try clear hcz50_1
              try clear hcz50_10
              try clear hcz50_11
              try clear hcz50_2
              try clear hcz50_3
              try clear hcz50_4
              try clear hcz50_5
              try clear hcz50_6
              try clear hcz50_7
              try clear hcz50_8
              try clear hcz50_9
              try clear hcz54_0
              try clear hcz54_1
              try clear hcz54_2
              try clear hcz57_0
              try clear hcz57_1
              try clear hcz57_10
              try clear hcz57_11
              try clear hcz57_2
              try clear hcz57_3
              try clear hcz57_4
              try clear hcz57_5
              try clear hcz57_6
              try clear hcz57_7
              try clear hcz57_8
              try clear hcz57_9
              try clear hcz64_0
              try clear hcz64_1
              try clear hcz64_2
              try clear hcz67_0
              try clear hcz67_1
              try clear hcz67_10
              try clear hcz67_11
              try clear hcz67_2
              try clear hcz67_3
              try clear hcz67_4
              try clear hcz67_5
              try clear hcz67_6
              try clear hcz67_7
              try clear hcz67_8
              try clear hcz67_9
              try clear hcz71_0
              try clear hcz71_1
              try clear hcz71_2
              try clear hcz75_0
              try clear hcz75_1
              try clear hcz75_2
              try clear hfz14_0
              try clear hfz14_1
              try clear hfz14_10
              try clear hfz14_11
              try clear hfz14_2
              try clear hfz14_3
              try clear hfz14_4
              try clear hfz14_5
              try clear hfz14_6
              try clear hfz14_7
              try clear hfz14_8
              try clear hfz14_9
              try clear hfz16_0
              try clear hfz16_1
              try clear hfz16_2
              try clear hfz18_0
              try clear hfz18_1
              try clear hfz18_10
              try clear hfz18_11
              try clear hfz18_2
              try clear hfz18_3
              try clear hfz18_4
              try clear hfz18_5
              try clear hfz18_6
              try clear hfz18_7
              try clear hfz18_8
              try clear hfz18_9
              try clear hfz27_0
              try clear hfz27_1
              try clear hfz27_10
              try clear hfz27_11
              try clear hfz27_2
              try clear hfz27_3
              try clear hfz27_4
              try clear hfz27_5
              try clear hfz27_6
              try clear hfz27_7
              try clear hfz27_8
              try clear hfz27_9
              try clear hfz28_0
              try clear hfz28_1
              try clear hfz28_2
              try clear hfz33_0
              try clear hfz33_1
              try clear hfz33_2
              try clear hfz34_0
              try clear hfz34_1
              try clear hfz34_10
              try clear hfz34_11
              try clear hfz34_2
              try clear hfz34_3
              try clear hfz34_4
              try clear hfz34_5
              try clear hfz34_6
              try clear hfz34_7
              try clear hfz34_8
              try clear hfz34_9
              try clear hfz35_0
              try clear hfz35_1
              try clear hfz35_2
              try clear hfz41_0
              try clear hfz41_1
              try clear hfz41_2
              try clear hfz42_0
              try clear hfz42_1
              try clear hfz42_10
              try clear hfz42_11
              try clear hfz42_2
              try clear hfz42_3
              try clear hfz42_4
              try clear hfz42_5
              try clear hfz42_6
              try clear hfz42_7
              try clear hfz42_8
              try clear hfz42_9
              try clear hfz47_0
              try clear hfz47_1
              try clear hfz47_2
              try clear hfz50_0
              try clear hfz50_1
              try clear hfz50_10
              try clear hfz50_11
              try clear hfz50_2
              try clear hfz50_3
              try clear hfz50_4
              try clear hfz50_5
              try clear hfz50_6
              try clear hfz50_7
              try clear hfz50_8
              try clear hfz50_9
              try clear hfz54_0
              try clear hfz54_1
              try clear hfz54_2
              try clear hfz57_0
              try clear hfz57_1
              try clear hfz57_10
              try clear hfz57_11
              try clear hfz57_2
              try clear hfz57_3
              try clear hfz57_4
              try clear hfz57_5
              try clear hfz57_6
              try clear hfz57_7
              try clear hfz57_8
              try clear hfz57_9
              try clear hfz64_0
              try clear hfz64_1
              try clear hfz64_2
              try clear hfz67_0
              try clear hfz67_1
              try clear hfz67_10
              try clear hfz67_11
              try clear hfz67_2
              try clear hfz67_3
              try clear hfz67_4
              try clear hfz67_5
              try clear hfz67_6
              try clear hfz67_7
              try clear hfz67_8
              try clear hfz67_9
              try clear hfz71_0
              try clear hfz71_1
              try clear hfz71_2
              try clear hfz75_0
              try clear hfz75_1
              try clear hfz75_2
              try clear p2
              try clear p6
              obtain ⟨kq, x15_57, rfl, HA, HJ57, BK306, BK307, BK314, BK318, HB⟩ := hcut
              cases kq with
              | zero => exact absurd HA.out (by simp [governorlaw15_LimitWanted.j2])
              | succ kj57 =>
                have H := HA.out
                clear HA
                simp only [governorlaw15_LimitWanted.j2] at H
                have HC76 := Aside0.mk H
                clear H
                go_upto_region 10 with (fail)
                go_cut [89] (fun v89 wc => ∃ (kq : Nat) (x89_75 : Bool), v89 = .bool x89_75 ∧ Aside0 (governorlaw15_LimitWanted.j3 kq t308 ji24 x15_57 x89_75 t311 t312 t313 t315 t316 t317 = some r) ∧ Aside0 (kq ≤ kj57) ∧ Aside0 (wc.heap[gb306]? = some (.cells #[.int .i64 a0_0, .int .i64 a0_1, .int .i64 a0_2, .int .i64 a0_3, .int .i64 a0_4, .int .i64 a0_5, .int .i64 a0_6, .int .i64 a0_7, .int .i64 a0_8, .int .i64 a0_9, .int .i64 a0_10, .int .i64 a0_11] 37 (0, 0))) ∧ Aside0 (wc.heap[gb307]? = some (.cells #[.int .i64 a1_0, .int .i64 a1_1, .bool a1_2] 39 (0, 0))) ∧ Aside0 (wc.heap[gb314]? = some (.cells #[.int .i64 t311, .int .i64 t312, .bool t313] 39 (0, 0))) ∧ Aside0 (wc.heap[gb318]? = some (.cells #[.int .i64 t315, .int .i64 t316, .bool t317] 39 (0, 0))) ∧ Aside0 (Below w.heap.size w wc))
                case first =>
                  have H := HC76.out
                  clear HC76
                  by_cases c77 : x14_24 = true
                  · subst c77
                    have H1 : (if x15_57 = true then (governorlaw15_LimitWanted.j3 kj57 t308 ji24 x15_57 false t311 t312 t313 t315 t316 t317) else (governorlaw15_LimitWanted.j3 kj57 t308 ji24 x15_57 (t315 != ji24) t311 t312 t313 t315 t316 t317)) = some r := by rw [if_pos rfl] at H; exact H
                    clear H
                    have H := H1
                    clear H1
                    by_cases c78 : x15_57 = true
                    · subst c78
                      have H1 : (governorlaw15_LimitWanted.j3 kj57 t308 ji24 true false t311 t312 t313 t315 t316 t317) = some r := by rw [if_pos rfl] at H; exact H
                      clear H
                      have H := H1
                      clear H1
                      have H' := Aside0.mk H
                      clear H
                      go_wp2
                      go_meet
                      case rel => exact ⟨_, (false), (by first | rfl | (simp; done) | (simp [*]; done)), H', ⟨by have := HJ5.out; have := HJ24.out; have := HJ57.out; first | omega | exact Nat.le_refl _⟩, ⟨by (with_reducible repeat (first | refine blk_drewN ?_ _ | refine blk_drew ?_ | refine blk_alloc ?_ _)); exact BK306.out⟩, ⟨by (with_reducible repeat (first | refine blk_drewN ?_ _ | refine blk_drew ?_ | refine blk_alloc ?_ _)); exact BK307.out⟩, ⟨by (with_reducible repeat (first | refine blk_drewN ?_ _ | refine blk_drew ?_ | refine blk_alloc ?_ _)); exact BK314.out⟩, ⟨by (with_reducible repeat (first | refine blk_drewN ?_ _ | refine blk_drew ?_ | refine blk_alloc ?_ _)); exact BK318.out⟩, ⟨by repeat (first | (with_reducible first | exact HB.out | apply below_alloc | apply pw_below_drewN | apply below_drew1 | refine below_set ?_ GE306.out | refine below_set ?_ GE307.out | refine below_set ?_ GE314.out | refine below_set ?_ GE318.out) | exact HB.out)⟩⟩
                    · replace c78 := Bool.eq_false_iff.mpr c78
                      subst c78
                      have H1 : (governorlaw15_LimitWanted.j3 kj57 t308 ji24 false (t315 != ji24) t311 t312 t313 t315 t316 t317) = some r := by rw [if_neg (show ¬ (false = true) by decide)] at H; exact H
                      clear H
                      have H := H1
                      clear H1
                      have H' := Aside0.mk H
                      clear H
                      have hnb79 := NB318_306.out
                      have hnc79 := NB306_318.out
                      have hnb80 := NB318_307.out
                      have hnc80 := NB307_318.out
                      have hnb81 := NB318_314.out
                      have hnc81 := NB314_318.out
                      have hcz82_0 : wc.cell? ⟨gb318, 0, none⟩ = some (.int .i64 t315) := (blk_cell BK318.out 0).trans rfl
                      have hcz82_1 : wc.cell? ⟨gb318, 1, none⟩ = some (.int .i64 t316) := (blk_cell BK318.out 1).trans rfl
                      have hcz82_2 : wc.cell? ⟨gb318, 2, none⟩ = some (.bool t317) := (blk_cell BK318.out 2).trans rfl
                      have hfz82_0 := blk_frozen BK318.out 0
                      have hfz82_1 := blk_frozen BK318.out 1
                      have hfz82_2 := blk_frozen BK318.out 2
                      go_wp2
                      go_meet
                      case rel => exact ⟨_, ((t315 != ji24)), (by first | rfl | (simp; done) | (simp only [← hji24] <;> (first | rfl | simp)) | (simp [*]; done)), H', ⟨by have := HJ5.out; have := HJ24.out; have := HJ57.out; first | omega | exact Nat.le_refl _⟩, ⟨by (with_reducible repeat (first | refine blk_drewN ?_ _ | refine blk_drew ?_ | refine blk_alloc ?_ _)); exact BK306.out⟩, ⟨by (with_reducible repeat (first | refine blk_drewN ?_ _ | refine blk_drew ?_ | refine blk_alloc ?_ _)); exact BK307.out⟩, ⟨by (with_reducible repeat (first | refine blk_drewN ?_ _ | refine blk_drew ?_ | refine blk_alloc ?_ _)); exact BK314.out⟩, ⟨by (with_reducible repeat (first | refine blk_drewN ?_ _ | refine blk_drew ?_ | refine blk_alloc ?_ _)); exact BK318.out⟩, ⟨by repeat (first | (with_reducible first | exact HB.out | apply below_alloc | apply pw_below_drewN | apply below_drew1 | refine below_set ?_ GE306.out | refine below_set ?_ GE307.out | refine below_set ?_ GE314.out | refine below_set ?_ GE318.out) | exact HB.out)⟩⟩
                  · replace c77 := Bool.eq_false_iff.mpr c77
                    subst c77
                    have H1 : (governorlaw15_LimitWanted.j3 kj57 t308 ji24 x15_57 false t311 t312 t313 t315 t316 t317) = some r := by rw [if_neg (show ¬ (false = true) by decide)] at H; exact H
                    clear H
                    have H := H1
                    clear H1
                    have H' := Aside0.mk H
                    clear H
                    go_wp2
                    go_meet
                    case rel => exact ⟨_, (false), (by first | rfl | (simp; done) | (simp [*]; done)), H', ⟨by have := HJ5.out; have := HJ24.out; have := HJ57.out; first | omega | exact Nat.le_refl _⟩, ⟨by (with_reducible repeat (first | refine blk_drewN ?_ _ | refine blk_drew ?_ | refine blk_alloc ?_ _)); exact BK306.out⟩, ⟨by (with_reducible repeat (first | refine blk_drewN ?_ _ | refine blk_drew ?_ | refine blk_alloc ?_ _)); exact BK307.out⟩, ⟨by (with_reducible repeat (first | refine blk_drewN ?_ _ | refine blk_drew ?_ | refine blk_alloc ?_ _)); exact BK314.out⟩, ⟨by (with_reducible repeat (first | refine blk_drewN ?_ _ | refine blk_drew ?_ | refine blk_alloc ?_ _)); exact BK318.out⟩, ⟨by repeat (first | (with_reducible first | exact HB.out | apply below_alloc | apply pw_below_drewN | apply below_drew1 | refine below_set ?_ GE306.out | refine below_set ?_ GE307.out | refine below_set ?_ GE314.out | refine below_set ?_ GE318.out) | exact HB.out)⟩⟩
                case rest =>
                  clear HC76
                  try clear c1
                  try clear c2
                  try clear p2
                  try clear c3
                  try clear c4
                  try clear c5
                  try clear c6
                  try clear p6
                  try clear c7
                  try clear c8
                  try clear c11
                  try clear c12
                  try clear c13
                  try clear c17
                  try clear c20
                  try clear c21
                  try clear c22
                  try clear c24
                  try clear c26
                  try clear c31
                  try clear c32
                  try clear c38
                  try clear c39
                  try clear c40
                  try clear c43
                  try clear c43b0
                  try clear c44
                  try clear c45
                  try clear c46
                  try clear c48
                  try clear c49
                  try clear c51
                  try clear c52
                  try clear c53
                  try clear c55
                  try clear c56
                  try clear c59
                  try clear c59b0
                  try clear c60
                  try clear c61
                  try clear c62
                  try clear c63
                  try clear p64
                  try clear c65
                  try clear c66
                  try clear c68
                  try clear c69
                  try clear c70
                  try clear c72
                  try clear c73
                  try clear c74
                  try clear c77
                  try clear c78
                  try clear c79
                  try clear c80
                  try clear c81
                  try clear hcz14_0
                  try clear hcz14_1
                  try clear hcz14_10
                  try clear hcz14_11
                  try clear hcz14_2
                  try clear hcz14_3
                  try clear hcz14_4
                  try clear hcz14_5
                  try clear hcz14_6
                  try clear hcz14_7
                  try clear hcz14_8
                  try clear hcz14_9
                  try clear hcz16_0
                  try clear hcz16_1
                  try clear hcz16_2
                  try clear hcz18_0
                  try clear hcz18_1
                  try clear hcz18_10
                  try clear hcz18_11
                  try clear hcz18_2
                  try clear hcz18_3
                  try clear hcz18_4
                  try clear hcz18_5
                  try clear hcz18_6
                  try clear hcz18_7
                  try clear hcz18_8
                  try clear hcz18_9
                  try clear hcz27_0
                  try clear hcz27_1
                  try clear hcz27_10
                  try clear hcz27_11
                  try clear hcz27_2
                  try clear hcz27_3
                  try clear hcz27_4
                  try clear hcz27_5
                  try clear hcz27_6
                  try clear hcz27_7
                  try clear hcz27_8
                  try clear hcz27_9
                  try clear hcz28_0
                  try clear hcz28_1
                  try clear hcz28_2
                  try clear hcz33_0
                  try clear hcz33_1
                  try clear hcz33_2
                  try clear hcz34_0
                  try clear hcz34_1
                  try clear hcz34_10
                  try clear hcz34_11
                  try clear hcz34_2
                  try clear hcz34_3
                  try clear hcz34_4
                  try clear hcz34_5
                  try clear hcz34_6
                  try clear hcz34_7
                  try clear hcz34_8
                  try clear hcz34_9
                  try clear hcz35_0
                  try clear hcz35_1
                  try clear hcz35_2
                  try clear hcz41_0
                  try clear hcz41_1
                  try clear hcz41_2
                  try clear hcz42_0
                  try clear hcz42_1
                  try clear hcz42_10
                  try clear hcz42_11
                  try clear hcz42_2
                  try clear hcz42_3
                  try clear hcz42_4
                  try clear hcz42_5
                  try clear hcz42_6
                  try clear hcz42_7
                  try clear hcz42_8
                  try clear hcz42_9
                  try clear hcz47_0
                  try clear hcz47_1
                  try clear hcz47_2
                  try clear hcz50_0
                  try clear hcz50_1
                  try clear hcz50_10
                  try clear hcz50_11
                  try clear hcz50_2
                  try clear hcz50_3
                  try clear hcz50_4
                  try clear hcz50_5
                  try clear hcz50_6
                  try clear hcz50_7
                  try clear hcz50_8
                  try clear hcz50_9
                  try clear hcz54_0
                  try clear hcz54_1
                  try clear hcz54_2
                  try clear hcz57_0
                  try clear hcz57_1
                  try clear hcz57_10
                  try clear hcz57_11
                  try clear hcz57_2
                  try clear hcz57_3
                  try clear hcz57_4
                  try clear hcz57_5
                  try clear hcz57_6
                  try clear hcz57_7
                  try clear hcz57_8
                  try clear hcz57_9
                  try clear hcz64_0
                  try clear hcz64_1
                  try clear hcz64_2
                  try clear hcz67_0
                  try clear hcz67_1
                  try clear hcz67_10
                  try clear hcz67_11
                  try clear hcz67_2
                  try clear hcz67_3
                  try clear hcz67_4
                  try clear hcz67_5
                  try clear hcz67_6
                  try clear hcz67_7
                  try clear hcz67_8
                  try clear hcz67_9
                  try clear hcz71_0
                  try clear hcz71_1
                  try clear hcz71_2
                  try clear hcz75_0
                  try clear hcz75_1
                  try clear hcz75_2
                  try clear hcz82_0
                  try clear hcz82_1
                  try clear hcz82_2
                  try clear hfz14_0
                  try clear hfz14_1
                  try clear hfz14_10
                  try clear hfz14_11
                  try clear hfz14_2
                  try clear hfz14_3
                  try clear hfz14_4
                  try clear hfz14_5
                  try clear hfz14_6
                  try clear hfz14_7
                  try clear hfz14_8
                  try clear hfz14_9
                  try clear hfz16_0
                  try clear hfz16_1
                  try clear hfz16_2
                  try clear hfz18_0
                  try clear hfz18_1
                  try clear hfz18_10
                  try clear hfz18_11
                  try clear hfz18_2
                  try clear hfz18_3
                  try clear hfz18_4
                  try clear hfz18_5
                  try clear hfz18_6
                  try clear hfz18_7
                  try clear hfz18_8
                  try clear hfz18_9
                  try clear hfz27_0
                  try clear hfz27_1
                  try clear hfz27_10
                  try clear hfz27_11
                  try clear hfz27_2
                  try clear hfz27_3
                  try clear hfz27_4
                  try clear hfz27_5
                  try clear hfz27_6
                  try clear hfz27_7
                  try clear hfz27_8
                  try clear hfz27_9
                  try clear hfz28_0
                  try clear hfz28_1
                  try clear hfz28_2
                  try clear hfz33_0
                  try clear hfz33_1
                  try clear hfz33_2
                  try clear hfz34_0
                  try clear hfz34_1
                  try clear hfz34_10
                  try clear hfz34_11
                  try clear hfz34_2
                  try clear hfz34_3
                  try clear hfz34_4
                  try clear hfz34_5
                  try clear hfz34_6
                  try clear hfz34_7
                  try clear hfz34_8
                  try clear hfz34_9
                  try clear hfz35_0
                  try clear hfz35_1
                  try clear hfz35_2
                  try clear hfz41_0
                  try clear hfz41_1
                  try clear hfz41_2
                  try clear hfz42_0
                  try clear hfz42_1
                  try clear hfz42_10
                  try clear hfz42_11
                  try clear hfz42_2
                  try clear hfz42_3
                  try clear hfz42_4
                  try clear hfz42_5
                  try clear hfz42_6
                  try clear hfz42_7
                  try clear hfz42_8
                  try clear hfz42_9
                  try clear hfz47_0
                  try clear hfz47_1
                  try clear hfz47_2
                  try clear hfz50_0
                  try clear hfz50_1
                  try clear hfz50_10
                  try clear hfz50_11
                  try clear hfz50_2
                  try clear hfz50_3
                  try clear hfz50_4
                  try clear hfz50_5
                  try clear hfz50_6
                  try clear hfz50_7
                  try clear hfz50_8
                  try clear hfz50_9
                  try clear hfz54_0
                  try clear hfz54_1
                  try clear hfz54_2
                  try clear hfz57_0
                  try clear hfz57_1
                  try clear hfz57_10
                  try clear hfz57_11
                  try clear hfz57_2
                  try clear hfz57_3
                  try clear hfz57_4
                  try clear hfz57_5
                  try clear hfz57_6
                  try clear hfz57_7
                  try clear hfz57_8
                  try clear hfz57_9
                  try clear hfz64_0
                  try clear hfz64_1
                  try clear hfz64_2
                  try clear hfz67_0
                  try clear hfz67_1
                  try clear hfz67_10
                  try clear hfz67_11
                  try clear hfz67_2
                  try clear hfz67_3
                  try clear hfz67_4
                  try clear hfz67_5
                  try clear hfz67_6
                  try clear hfz67_7
                  try clear hfz67_8
                  try clear hfz67_9
                  try clear hfz71_0
                  try clear hfz71_1
                  try clear hfz71_2
                  try clear hfz75_0
                  try clear hfz75_1
                  try clear hfz75_2
                  try clear hfz82_0
                  try clear hfz82_1
                  try clear hfz82_2
                  try clear p2
                  try clear p6
                  try clear p64
                  obtain ⟨kq, x89_75, rfl, HA, HJ75, BK306, BK307, BK314, BK318, HB⟩ := hcut
                  cases kq with
                  | zero => exact absurd HA.out (by simp [governorlaw15_LimitWanted.j3])
                  | succ kj75 =>
                    have H := HA.out
                    clear HA
                    simp only [governorlaw15_LimitWanted.j3] at H
                    by_cases c83 : x89_75 = true
                    · subst c83
                      have H1 : (some false) = some r := by rw [if_pos rfl] at H; exact H
                      clear H
                      have H := H1
                      clear H1
                      exact absurd (Option.some.inj H) (by rw [HRT.out]; decide)
                    · replace c83 := Bool.eq_false_iff.mpr c83
                      subst c83
                      have H1 : (if x15_57 = true then (if t308 = true then (some (t315 == t311 && (t316 == t312 && (t317 == t313)))) else (some false)) else (if t308 = true then (if t315 ≥ (mn ji24 t311) then (some (decide (t315 ≤ (mx ji24 t311)))) else (some false)) else (some false))) = some r := by rw [if_neg (show ¬ (false = true) by decide)] at H; exact H
                      clear H
                      have H := H1
                      clear H1
                      by_cases c84 : x15_57 = true
                      · subst c84
                        have H1 : (if t308 = true then (some (t315 == t311 && (t316 == t312 && (t317 == t313)))) else (some false)) = some r := by rw [if_pos rfl] at H; exact H
                        clear H
                        have H := H1
                        clear H1
                        by_cases c85 : t308 = true
                        · subst c85
                          have H1 : (some (t315 == t311 && (t316 == t312 && (t317 == t313)))) = some r := by rw [if_pos rfl] at H; exact H
                          clear H
                          have H := H1
                          clear H1
                          obtain rfl := Option.some.inj H
                          have hnb86 := NB318_306.out
                          have hnc86 := NB306_318.out
                          have hnb87 := NB318_307.out
                          have hnc87 := NB307_318.out
                          have hnb88 := NB318_314.out
                          have hnc88 := NB314_318.out
                          have hcz89_0 : wc.cell? ⟨gb318, 0, none⟩ = some (.int .i64 t315) := (blk_cell BK318.out 0).trans rfl
                          have hcz89_1 : wc.cell? ⟨gb318, 1, none⟩ = some (.int .i64 t316) := (blk_cell BK318.out 1).trans rfl
                          have hcz89_2 : wc.cell? ⟨gb318, 2, none⟩ = some (.bool t317) := (blk_cell BK318.out 2).trans rfl
                          have hfz89_0 := blk_frozen BK318.out 0
                          have hfz89_1 := blk_frozen BK318.out 1
                          have hfz89_2 := blk_frozen BK318.out 2
                          have hnb90 := NB314_306.out
                          have hnc90 := NB306_314.out
                          have hnb91 := NB314_307.out
                          have hnc91 := NB307_314.out
                          have hcz92_0 : wc.cell? ⟨gb314, 0, none⟩ = some (.int .i64 t311) := (blk_cell BK314.out 0).trans rfl
                          have hcz92_1 : wc.cell? ⟨gb314, 1, none⟩ = some (.int .i64 t312) := (blk_cell BK314.out 1).trans rfl
                          have hcz92_2 : wc.cell? ⟨gb314, 2, none⟩ = some (.bool t313) := (blk_cell BK314.out 2).trans rfl
                          have hfz92_0 := blk_frozen BK314.out 0
                          have hfz92_1 := blk_frozen BK314.out 1
                          have hfz92_2 := blk_frozen BK314.out 2
                          go_wp2
                          go_ret
                          exact ⟨by first | rfl | (simp [errW_none, errW_some] <;> rfl) | (simp only [← hji23, ← hji24]; first | rfl | (simp [errW_none, errW_some] <;> rfl)) | (simp [*, errW_none, errW_some] <;> rfl), by repeat (first | (with_reducible first | exact HB.out | apply below_alloc | apply pw_below_drewN | apply below_drew1 | refine below_set ?_ GE306.out | refine below_set ?_ GE307.out | refine below_set ?_ GE314.out | refine below_set ?_ GE318.out) | exact HB.out)⟩
                        · replace c85 := Bool.eq_false_iff.mpr c85
                          subst c85
                          have H1 : (some false) = some r := by rw [if_neg (show ¬ (false = true) by decide)] at H; exact H
                          clear H
                          have H := H1
                          clear H1
                          exact absurd (Option.some.inj H) (by rw [HRT.out]; decide)
                      · replace c84 := Bool.eq_false_iff.mpr c84
                        subst c84
                        have H1 : (if t308 = true then (if t315 ≥ (mn ji24 t311) then (some (decide (t315 ≤ (mx ji24 t311)))) else (some false)) else (some false)) = some r := by rw [if_neg (show ¬ (false = true) by decide)] at H; exact H
                        clear H
                        have H := H1
                        clear H1
                        by_cases c93 : t308 = true
                        · subst c93
                          have H1 : (if t315 ≥ (mn ji24 t311) then (some (decide (t315 ≤ (mx ji24 t311)))) else (some false)) = some r := by rw [if_pos rfl] at H; exact H
                          clear H
                          have H := H1
                          clear H1
                          obtain ⟨ji94, hji94⟩ : ∃ j_ : Int, (mn ji24 t311) = j_ := ⟨_, rfl⟩
                          replace H : (if t315 ≥ (ji94) then (some (decide (t315 ≤ (mx ji24 t311)))) else (some false)) = some r := by first | (rw [hji94] at H; exact H) | (simp only [hji94] at H ⊢; exact H)
                          have hji94_ : (if t311 < ji24 then t311 else ji24) = ji94 := hji94
                          by_cases c95 : t315 ≥ (ji94)
                          · rw [if_pos c95] at H
                            have c95b0 : decide ((ji94) ≤ t315) = true := decide_eq_true c95
                            clear c95
                            obtain ⟨ji96, hji96⟩ : ∃ j_ : Int, (mx ji24 t311) = j_ := ⟨_, rfl⟩
                            replace H : (some (decide (t315 ≤ (ji96)))) = some r := by first | (rw [hji96] at H; exact H) | (simp only [hji96] at H ⊢; exact H)
                            have hji96_ : (if ji24 < t311 then t311 else ji24) = ji96 := hji96
                            obtain rfl := Option.some.inj H
                            have hnb97 := NB318_306.out
                            have hnc97 := NB306_318.out
                            have hnb98 := NB318_307.out
                            have hnc98 := NB307_318.out
                            have hnb99 := NB318_314.out
                            have hnc99 := NB314_318.out
                            have hcz100_0 : wc.cell? ⟨gb318, 0, none⟩ = some (.int .i64 t315) := (blk_cell BK318.out 0).trans rfl
                            have hcz100_1 : wc.cell? ⟨gb318, 1, none⟩ = some (.int .i64 t316) := (blk_cell BK318.out 1).trans rfl
                            have hcz100_2 : wc.cell? ⟨gb318, 2, none⟩ = some (.bool t317) := (blk_cell BK318.out 2).trans rfl
                            have hfz100_0 := blk_frozen BK318.out 0
                            have hfz100_1 := blk_frozen BK318.out 1
                            have hfz100_2 := blk_frozen BK318.out 2
                            have hnb101 := NB314_306.out
                            have hnc101 := NB306_314.out
                            have hnb102 := NB314_307.out
                            have hnc102 := NB307_314.out
                            have hcz103_0 : wc.cell? ⟨gb314, 0, none⟩ = some (.int .i64 t311) := (blk_cell BK314.out 0).trans rfl
                            have hcz103_1 : wc.cell? ⟨gb314, 1, none⟩ = some (.int .i64 t312) := (blk_cell BK314.out 1).trans rfl
                            have hcz103_2 : wc.cell? ⟨gb314, 2, none⟩ = some (.bool t313) := (blk_cell BK314.out 2).trans rfl
                            have hfz103_0 := blk_frozen BK314.out 0
                            have hfz103_1 := blk_frozen BK314.out 1
                            have hfz103_2 := blk_frozen BK314.out 2
                            go_wp2
                            go_ret
                            exact ⟨by first | rfl | (simp [errW_none, errW_some] <;> rfl) | (simp only [← hji23, ← hji24, ← hji94, ← hji96]; first | rfl | (simp [errW_none, errW_some] <;> rfl)) | (simp [*, errW_none, errW_some] <;> rfl), by repeat (first | (with_reducible first | exact HB.out | apply below_alloc | apply pw_below_drewN | apply below_drew1 | refine below_set ?_ GE306.out | refine below_set ?_ GE307.out | refine below_set ?_ GE314.out | refine below_set ?_ GE318.out) | exact HB.out)⟩
                          · rw [if_neg c95] at H
                            have c95b0 : decide ((ji94) ≤ t315) = false := decide_eq_false c95
                            clear c95
                            exact absurd (Option.some.inj H) (by rw [HRT.out]; decide)
                        · replace c93 := Bool.eq_false_iff.mpr c93
                          subst c93
                          have H1 : (some false) = some r := by rw [if_neg (show ¬ (false = true) by decide)] at H; exact H
                          clear H
                          have H := H1
                          clear H1
                          exact absurd (Option.some.inj H) (by rw [HRT.out]; decide)

end Go.Proofs.Ytnipomnkjegebaa.PAll
