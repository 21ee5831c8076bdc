-- laid by a program of this session (tprint.py) out of the translation and of texts typed by hand; Lean checks it
import Derived.Test.YtnipomnkjegebaaPAllx0
import Derived.Test.YtnipomnkjegebaaPAllx1
import Derived.Test.YtnipomnkjegebaaPAllx16
import Derived.Test.YtnipomnkjegebaaPAllx18
import Derived.Test.YtnipomnkjegebaaPAllx20
import Derived.Test.YtnipomnkjegebaaPAllx21
import Derived.Test.YtnipomnkjegebaaPAllx22
import Derived.Test.YtnipomnkjegebaaPAllx23
import Derived.Test.YtnipomnkjegebaaPAllx24
namespace Go.Proofs.Ytnipomnkjegebaa.PAll
open Go.RowKit Go.Proofs.YtnipomnkjegebaaW.PrintWords Go.Proofs.YtnipomnkjegebaaW.PrintLast Go.Proofs.YtnipomnkjegebaaW.PrintMore
attribute [local go_sem] max2_int min2_int max_two min_two max_three min_three max_four min_four   -- for this text's walks alone
set_option linter.unusedVariables false
set_option linter.unusedSimpArgs false

attribute [local go_sem high] eqA39
/-! ### governorlaw15_LimitTells: function 9 -/
def governorlaw15_LimitTells.j0 : Nat → Int → Int → Bool → Bool → Int → Int → Int → Int → Int → Int → Int → Int → Int → Int → Int → Int → Int → Int → Bool → Option (Bool)
  | 0, _, _, _, _, _, _, _, _, _, _, _, _, _, _, _, _, _, _, _ => none
  | k + 1, x2, x3, x9, x24, x260000, x260001, x260002, x260003, x260004, x260005, x260006, x260007, x260008, x260009, x260010, x260011, x261000, x261001, x261002 => if x24 = true then (some x9) else (if x9 = true then ((limit_Into.f x260000 x260001 x260002 x260003 x260004 x260005 x260006 x260007 x260008 x260009 x260010 x260011 x261000 x261001 x261002).bind fun bt265 => ((governorref15_Into.f x260000 x260001 x260002 x260003 x260004 x260005 x260006 x260007 x260008 x260009 x260010 x260011 x261000 x261001 x261002).bind fun bt268 => (if (bt265.1 == bt268.1 && (bt265.2.1 == bt268.2.1 && (bt265.2.2 == bt268.2.2))) = true then ((limit_Next.f x260000 x260001 x260002 x260003 x260004 x260005 x260006 x260007 x260008 x260009 x260010 x260011 x261000 x261001 x261002 x2 x3).bind fun bt271 => ((governorref15_Next.f x260000 x260001 x260002 x260003 x260004 x260005 x260006 x260007 x260008 x260009 x260010 x260011 x261000 x261001 x261002 x2 x3).bind fun bt274 => (some (bt271.1 == bt274.1 && (bt271.2.1 == bt274.2.1 && (bt271.2.2 == bt274.2.2)))))) else (some false)))) else (some false))
def governorlaw15_LimitTells.f (k : Nat) (a0_0 : Int) (a0_1 : Int) (a0_2 : Int) (a0_3 : Int) (a0_4 : Int) (a0_5 : Int) (a0_6 : Int) (a0_7 : Int) (a0_8 : Int) (a0_9 : Int) (a0_10 : Int) (a0_11 : Int) (a1_0 : Int) (a1_1 : Int) (a1_2 : Bool) (a2 : Int) (a3 : Int) : Option (Bool) := (governorlaw15_head.f).bind fun t261 => ((governorref09_Conf.f a0_0 a0_1 a0_2 a0_3 a0_4 a0_5 a0_6 a0_7 a0_8 a0_9 a0_10 a0_11).bind fun t262 => (if t262 = true then ((governorlaw15_time.f a3).bind fun t263 => (if t263 = true then ((governorlaw15_time.f a1_1).bind fun t264 => (governorlaw15_LimitTells.j0 k a2 a3 t261 (!t264) a0_0 a0_1 a0_2 a0_3 a0_4 a0_5 a0_6 a0_7 a0_8 a0_9 a0_10 a0_11 a1_0 a1_1 a1_2)) else (governorlaw15_LimitTells.j0 k a2 a3 t261 true a0_0 a0_1 a0_2 a0_3 a0_4 a0_5 a0_6 a0_7 a0_8 a0_9 a0_10 a0_11 a1_0 a1_1 a1_2))) else (governorlaw15_LimitTells.j0 k a2 a3 t261 true a0_0 a0_1 a0_2 a0_3 a0_4 a0_5 a0_6 a0_7 a0_8 a0_9 a0_10 a0_11 a1_0 a1_1 a1_2)))
theorem governorlaw15_LimitTells.mono_l : ∀ k, (∀ y0 y1 y2 y3 y4 y5 y6 y7 y8 y9 y10 y11 y12 y13 y14 y15 y16 y17 y18, LeO (governorlaw15_LimitTells.j0 k y0 y1 y2 y3 y4 y5 y6 y7 y8 y9 y10 y11 y12 y13 y14 y15 y16 y17 y18) (governorlaw15_LimitTells.j0 (k + 1) y0 y1 y2 y3 y4 y5 y6 y7 y8 y9 y10 y11 y12 y13 y14 y15 y16 y17 y18))
  | 0 => fun _ _ _ _ _ _ _ _ _ _ _ _ _ _ _ _ _ _ _ r h => by simp [governorlaw15_LimitTells.j0] at h
  | k + 1 => by
    have ih0 := governorlaw15_LimitTells.mono_l k
    · intro y0 y1 y2 y3 y4 y5 y6 y7 y8 y9 y10 y11 y12 y13 y14 y15 y16 y17 y18
      unfold governorlaw15_LimitTells.j0
      repeat' first
      | (with_reducible exact ih0 _ _ _ _ _ _ _ _ _ _ _ _ _ _ _ _ _ _ _)
      | (with_reducible exact LeO.refl _)
      | (with_reducible exact LeO.none _)
      | (with_reducible refine LeO.ite ?_ ?_)
      | (with_reducible refine LeO.bind ?_ (fun _ => ?_))
      | exact ih0 _ _ _ _ _ _ _ _ _ _ _ _ _ _ _ _ _ _ _
      | exact LeO.none _
      | refine LeO.ite ?_ ?_
      | refine LeO.bind ?_ (fun _ => ?_)
theorem governorlaw15_LimitTells.mono : ∀ a0 a1 a2 a3 a4 a5 a6 a7 a8 a9 a10 a11 a12 a13 a14 a15 a16 k, LeO (governorlaw15_LimitTells.f k a0 a1 a2 a3 a4 a5 a6 a7 a8 a9 a10 a11 a12 a13 a14 a15 a16) (governorlaw15_LimitTells.f (k + 1) a0 a1 a2 a3 a4 a5 a6 a7 a8 a9 a10 a11 a12 a13 a14 a15 a16) := by
  intro a0 a1 a2 a3 a4 a5 a6 a7 a8 a9 a10 a11 a12 a13 a14 a15 a16 k
  have ih0 := governorlaw15_LimitTells.mono_l k
  unfold governorlaw15_LimitTells.f
  repeat' first
      | (with_reducible exact ih0 _ _ _ _ _ _ _ _ _ _ _ _ _ _ _ _ _ _ _)
      | (with_reducible exact LeO.refl _)
      | (with_reducible exact LeO.none _)
      | (with_reducible refine LeO.ite ?_ ?_)
      | (with_reducible refine LeO.bind ?_ (fun _ => ?_))
      | exact ih0 _ _ _ _ _ _ _ _ _ _ _ _ _ _ _ _ _ _ _
      | exact LeO.none _
      | refine LeO.ite ?_ ?_
      | refine LeO.bind ?_ (fun _ => ?_)
def governorlaw15_LimitTells.T4 : Bool × List (List Nat × List Nat) := (true, [([], []), ([0], [0]), ([1], [1]), ([1], [1]), ([2, 3, 1, 1], [1, 2, 3]), ([1], [1]), ([1], [1]), ([5, 6, 4, 1], [1, 5, 6]), ([4, 7, 1], [1, 4, 7]), ([1, 8], [1, 8]), ([9, 7], [9]), ([10], [10]), ([10], [10]), ([10], [10]), ([10], [10]), ([11, 12, 13, 14, 10, 10], [10, 11, 12, 13, 14]), ([10], [10]), ([10], [10]), ([10], [10]), ([10], [10]), ([16, 17, 18, 19, 15, 10], [10, 16, 17, 18, 19]), ([15, 20, 10], [10, 15, 20]), ([10, 21], [10, 21]), ([22, 20, 0, 1, 2, 3, 4, 5, 6, 7, 8, 9, 10, 11, 12, 13, 14, 15, 16, 17, 18, 19, 20, 21, 22], [22])])
def governorlaw15_LimitTells.B4 : List Nat := [0, 1, 3, 3, 15, 3, 3, 127, 255, 511, 1023, 2047, 2047, 2047, 2047, 32767, 2047, 2047, 2047, 2047, 1048575, 2097151, 4194303, 8388607]
theorem governorlaw15_LimitTells.tab4 : rtab .any (opsOf Try.f9 4) = governorlaw15_LimitTells.T4 := by kernel_rfl
theorem governorlaw15_LimitTells.bits4 : waitsOk governorlaw15_LimitTells.T4.2 governorlaw15_LimitTells.B4 = true := by kernel_rfl
set_option maxHeartbeats 8000000 in
set_option maxRecDepth 100000 in
theorem governorlaw15_LimitTells.calls (k : Nat) (a0_0 : Int) (a0_1 : Int) (a0_2 : Int) (a0_3 : Int) (a0_4 : Int) (a0_5 : Int) (a0_6 : Int) (a0_7 : Int) (a0_8 : Int) (a0_9 : Int) (a0_10 : Int) (a0_11 : Int) (a1_0 : Int) (a1_1 : Int) (a1_2 : Bool) (a2 : Int) (a3 : Int) (r : Bool) (w : World) (hrT : r = true) (h : governorlaw15_LimitTells.f k a0_0 a0_1 a0_2 a0_3 a0_4 a0_5 a0_6 a0_7 a0_8 a0_9 a0_10 a0_11 a1_0 a1_1 a1_2 a2 a3 = some r) :
    Calls Try.prog 9 #[.agg #[.int .i64 a0_0, .int .i64 a0_1, .int .i64 a0_2, .int .i64 a0_3, .int .i64 a0_4, .int .i64 a0_5, .int .i64 a0_6, .int .i64 a0_7, .int .i64 a0_8, .int .i64 a0_9, .int .i64 a0_10, .int .i64 a0_11], .agg #[.int .i64 a1_0, .int .i64 a1_1, .bool a1_2], .int .i64 a2, .int .i64 a3] w fun e w' => e = .returned (.bool r) ∧ Below w.heap.size w w' := by
  have hu37 := Try.underlying37
  have hu39 := Try.underlying39
  have HB := Aside0.mk (Below.refl w.heap.size w)
  have HRT := Aside0.mk hrT
  clear hrT
  have H : ((governorlaw15_head.f).bind fun t261 => ((governorref09_Conf.f a0_0 a0_1 a0_2 a0_3 a0_4 a0_5 a0_6 a0_7 a0_8 a0_9 a0_10 a0_11).bind fun t262 => (if t262 = true then ((governorlaw15_time.f a3).bind fun t263 => (if t263 = true then ((governorlaw15_time.f a1_1).bind fun t264 => (governorlaw15_LimitTells.j0 k a2 a3 t261 (!t264) a0_0 a0_1 a0_2 a0_3 a0_4 a0_5 a0_6 a0_7 a0_8 a0_9 a0_10 a0_11 a1_0 a1_1 a1_2)) else (governorlaw15_LimitTells.j0 k a2 a3 t261 true a0_0 a0_1 a0_2 a0_3 a0_4 a0_5 a0_6 a0_7 a0_8 a0_9 a0_10 a0_11 a1_0 a1_1 a1_2))) else (governorlaw15_LimitTells.j0 k a2 a3 t261 true a0_0 a0_1 a0_2 a0_3 a0_4 a0_5 a0_6 a0_7 a0_8 a0_9 a0_10 a0_11 a1_0 a1_1 a1_2)))) = some r := h
  clear h
  replace H := Option.bind_eq_some_iff.mp H
  obtain ⟨t261, A50, H⟩ := H
  replace H : ((governorref09_Conf.f a0_0 a0_1 a0_2 a0_3 a0_4 a0_5 a0_6 a0_7 a0_8 a0_9 a0_10 a0_11).bind fun t262 => (if t262 = true then ((governorlaw15_time.f a3).bind fun t263 => (if t263 = true then ((governorlaw15_time.f a1_1).bind fun t264 => (governorlaw15_LimitTells.j0 k a2 a3 t261 (!t264) a0_0 a0_1 a0_2 a0_3 a0_4 a0_5 a0_6 a0_7 a0_8 a0_9 a0_10 a0_11 a1_0 a1_1 a1_2)) else (governorlaw15_LimitTells.j0 k a2 a3 t261 true a0_0 a0_1 a0_2 a0_3 a0_4 a0_5 a0_6 a0_7 a0_8 a0_9 a0_10 a0_11 a1_0 a1_1 a1_2))) else (governorlaw15_LimitTells.j0 k a2 a3 t261 true a0_0 a0_1 a0_2 a0_3 a0_4 a0_5 a0_6 a0_7 a0_8 a0_9 a0_10 a0_11 a1_0 a1_1 a1_2))) = some r := H
  have A5 := Aside0.mk A50
  clear A50
  have HC6 := Aside0.mk H
  clear H
  go_enter Try.func9, Try.ntmps9
  go_upto_region 2 with (first | ((with_reducible refine gate_dst (N := 4) rfl ?_); refine box_event ?hg (N := 4) ?hd (cs := #[.int .i64 a0_0, .int .i64 a0_1, .int .i64 a0_2, .int .i64 a0_3, .int .i64 a0_4, .int .i64 a0_5, .int .i64 a0_6, .int .i64 a0_7, .int .i64 a0_8, .int .i64 a0_9, .int .i64 a0_10, .int .i64 a0_11]) (t := 37) ?hr ?_; (case hd => rfl); (case hg => rfl); (case hr => first | (go_simp; done) | (go_simp; rfl)); intro gb259 hg w7 hbox hb; have n0_ := Aside0.mk (below_step (by repeat (first | (with_reducible first | exact HB.out | apply below_alloc | apply pw_below_drewN | apply below_drew1) | exact HB.out)) hb); have n1_ := Aside0.mk (hbox); have n2_ := Aside0.mk ((by rw [hg]; exact (below_size (by repeat (first | (with_reducible first | exact HB.out | apply below_alloc | apply pw_below_drewN | apply below_drew1) | exact HB.out))) : w.heap.size ≤ gb259)); have n3_ := Aside0.mk ((by rw [hg]; exact (below_size (by repeat (first | (with_reducible first | exact HB.out | apply below_alloc | apply pw_below_drewN | apply below_drew1) | exact HB.out))) : w.heap.size ≤ gb259)); clear HB; have HB := n0_; have BK259 := n1_; have GW259 := n2_; have GE259 := n3_; clear n0_ n1_ n2_ n3_; clear hb hbox hg) | ((with_reducible refine gate_dst (N := 5) rfl ?_); refine box_event ?hg (N := 5) ?hd (cs := #[.int .i64 a1_0, .int .i64 a1_1, .bool a1_2]) (t := 39) ?hr ?_; (case hd => rfl); (case hg => rfl); (case hr => first | (go_simp; done) | (go_simp; rfl)); intro gb260 hg w8 hbox hb; have n0_ := Aside0.mk (blk_below (g := gb259) (o := .cells #[.int .i64 a0_0, .int .i64 a0_1, .int .i64 a0_2, .int .i64 a0_3, .int .i64 a0_4, .int .i64 a0_5, .int .i64 a0_6, .int .i64 a0_7, .int .i64 a0_8, .int .i64 a0_9, .int .i64 a0_10, .int .i64 a0_11] 37 (0, 0)) (by (with_reducible repeat (first | refine blk_drewN ?_ _ | refine blk_drew ?_ | refine blk_alloc ?_ _)); exact BK259.out) hb); have n1_ := Aside0.mk (below_step (by repeat (first | (with_reducible first | exact HB.out | apply below_alloc | apply pw_below_drewN | apply below_drew1 | refine below_set ?_ GE259.out) | exact HB.out)) hb); have n2_ := Aside0.mk (hbox); have n3_ := Aside0.mk ((by rw [hg]; exact (below_size (by repeat (first | (with_reducible first | exact HB.out | apply below_alloc | apply pw_below_drewN | apply below_drew1 | refine below_set ?_ GE259.out) | exact HB.out))) : w.heap.size ≤ gb260)); have n4_ := Aside0.mk ((by rw [hg]; exact (below_size (by repeat (first | (with_reducible first | exact HB.out | apply below_alloc | apply pw_below_drewN | apply below_drew1 | refine below_set ?_ GE259.out) | exact HB.out))) : w.heap.size ≤ gb260)); have n5_ := Aside0.mk ((by rw [hg]; exact Nat.ne_of_lt (blk_lt (g := gb259) (o := .cells #[.int .i64 a0_0, .int .i64 a0_1, .int .i64 a0_2, .int .i64 a0_3, .int .i64 a0_4, .int .i64 a0_5, .int .i64 a0_6, .int .i64 a0_7, .int .i64 a0_8, .int .i64 a0_9, .int .i64 a0_10, .int .i64 a0_11] 37 (0, 0)) (by (with_reducible repeat (first | refine blk_drewN ?_ _ | refine blk_drew ?_ | refine blk_alloc ?_ _)); exact BK259.out)) : gb259 ≠ gb260)); have n6_ := Aside0.mk ((by rw [hg]; exact Nat.ne_of_gt (blk_lt (g := gb259) (o := .cells #[.int .i64 a0_0, .int .i64 a0_1, .int .i64 a0_2, .int .i64 a0_3, .int .i64 a0_4, .int .i64 a0_5, .int .i64 a0_6, .int .i64 a0_7, .int .i64 a0_8, .int .i64 a0_9, .int .i64 a0_10, .int .i64 a0_11] 37 (0, 0)) (by (with_reducible repeat (first | refine blk_drewN ?_ _ | refine blk_drew ?_ | refine blk_alloc ?_ _)); exact BK259.out)) : gb260 ≠ gb259)); clear BK259; clear HB; have BK259 := n0_; have HB := n1_; have BK260 := n2_; have GW260 := n3_; have GE260 := n4_; have NB259_260 := n5_; have NB260_259 := n6_; clear n0_ n1_ n2_ n3_ n4_ n5_ n6_; clear hb hbox hg) | ((with_reducible refine gate_callee (f := 21) rfl ?_); refine goesL_ (some 10) rfl rfl Try.func21 (by kernel_rfl) rfl #[] rfl (by (try simp only [List.map_toArray, List.map_cons, List.map_nil]); first | done | rfl | (simp only [List.length_drop, List.length_take]; rfl)) ?_; (with_reducible refine (governorlaw15_head.calls  t261 _ A5.out).mono ?_); rintro e w9 ⟨rfl, hb⟩; refine ⟨_, rfl, ?_⟩; have n0_ := Aside0.mk (blk_below (g := gb259) (o := .cells #[.int .i64 a0_0, .int .i64 a0_1, .int .i64 a0_2, .int .i64 a0_3, .int .i64 a0_4, .int .i64 a0_5, .int .i64 a0_6, .int .i64 a0_7, .int .i64 a0_8, .int .i64 a0_9, .int .i64 a0_10, .int .i64 a0_11] 37 (0, 0)) (by (with_reducible repeat (first | refine blk_drewN ?_ _ | refine blk_drew ?_ | refine blk_alloc ?_ _)); exact BK259.out) hb); have n1_ := Aside0.mk (blk_below (g := gb260) (o := .cells #[.int .i64 a1_0, .int .i64 a1_1, .bool a1_2] 39 (0, 0)) (by (with_reducible repeat (first | refine blk_drewN ?_ _ | refine blk_drew ?_ | refine blk_alloc ?_ _)); exact BK260.out) hb); have n2_ := Aside0.mk (below_step (by repeat (first | (with_reducible first | exact HB.out | apply below_alloc | apply pw_below_drewN | apply below_drew1 | refine below_set ?_ GE259.out | refine below_set ?_ GE260.out) | exact HB.out)) hb); clear BK259; clear BK260; clear HB; have BK259 := n0_; have BK260 := n1_; have HB := n2_; clear n0_ n1_ n2_; (try clear hb); (try clear hb2); (try clear hk); (try clear hi)))
  (try simp only [Act.put, List.setIfInBounds_toArray, List.set_cons_zero, List.set_cons_succ])
  go_cut [24] (fun v24 wc => ∃ (kq : Nat) (x24_5 : Bool), v24 = .bool x24_5 ∧ Aside0 (governorlaw15_LimitTells.j0 kq a2 a3 t261 x24_5 a0_0 a0_1 a0_2 a0_3 a0_4 a0_5 a0_6 a0_7 a0_8 a0_9 a0_10 a0_11 a1_0 a1_1 a1_2 = some r) ∧ Aside0 (kq ≤ k) ∧ Aside0 (wc.heap[gb259]? = some (.cells #[.int .i64 a0_0, .int .i64 a0_1, .int .i64 a0_2, .int .i64 a0_3, .int .i64 a0_4, .int .i64 a0_5, .int .i64 a0_6, .int .i64 a0_7, .int .i64 a0_8, .int .i64 a0_9, .int .i64 a0_10, .int .i64 a0_11] 37 (0, 0))) ∧ Aside0 (wc.heap[gb260]? = some (.cells #[.int .i64 a1_0, .int .i64 a1_1, .bool a1_2] 39 (0, 0))) ∧ Aside0 (Below w.heap.size w wc))
  case first =>
    have H := HC6.out
    clear HC6
    replace H := Option.bind_eq_some_iff.mp H
    obtain ⟨t262, A100, H⟩ := H
    replace H : (if t262 = true then ((governorlaw15_time.f a3).bind fun t263 => (if t263 = true then ((governorlaw15_time.f a1_1).bind fun t264 => (governorlaw15_LimitTells.j0 k a2 a3 t261 (!t264) a0_0 a0_1 a0_2 a0_3 a0_4 a0_5 a0_6 a0_7 a0_8 a0_9 a0_10 a0_11 a1_0 a1_1 a1_2)) else (governorlaw15_LimitTells.j0 k a2 a3 t261 true a0_0 a0_1 a0_2 a0_3 a0_4 a0_5 a0_6 a0_7 a0_8 a0_9 a0_10 a0_11 a1_0 a1_1 a1_2))) else (governorlaw15_LimitTells.j0 k a2 a3 t261 true a0_0 a0_1 a0_2 a0_3 a0_4 a0_5 a0_6 a0_7 a0_8 a0_9 a0_10 a0_11 a1_0 a1_1 a1_2)) = some r := H
    have A10 := Aside0.mk A100
    clear A100
    by_cases c11 : t262 = true
    · subst c11
      have H1 : ((governorlaw15_time.f a3).bind fun t263 => (if t263 = true then ((governorlaw15_time.f a1_1).bind fun t264 => (governorlaw15_LimitTells.j0 k a2 a3 t261 (!t264) a0_0 a0_1 a0_2 a0_3 a0_4 a0_5 a0_6 a0_7 a0_8 a0_9 a0_10 a0_11 a1_0 a1_1 a1_2)) else (governorlaw15_LimitTells.j0 k a2 a3 t261 true a0_0 a0_1 a0_2 a0_3 a0_4 a0_5 a0_6 a0_7 a0_8 a0_9 a0_10 a0_11 a1_0 a1_1 a1_2))) = some r := by rw [if_pos rfl] at H; exact H
      clear H
      have H := H1
      clear H1
      replace H := Option.bind_eq_some_iff.mp H
      obtain ⟨t263, A120, H⟩ := H
      replace H : (if t263 = true then ((governorlaw15_time.f a1_1).bind fun t264 => (governorlaw15_LimitTells.j0 k a2 a3 t261 (!t264) a0_0 a0_1 a0_2 a0_3 a0_4 a0_5 a0_6 a0_7 a0_8 a0_9 a0_10 a0_11 a1_0 a1_1 a1_2)) else (governorlaw15_LimitTells.j0 k a2 a3 t261 true a0_0 a0_1 a0_2 a0_3 a0_4 a0_5 a0_6 a0_7 a0_8 a0_9 a0_10 a0_11 a1_0 a1_1 a1_2)) = some r := H
      have A12 := Aside0.mk A120
      clear A120
      by_cases c13 : t263 = true
      · subst c13
        have H1 : ((governorlaw15_time.f a1_1).bind fun t264 => (governorlaw15_LimitTells.j0 k a2 a3 t261 (!t264) a0_0 a0_1 a0_2 a0_3 a0_4 a0_5 a0_6 a0_7 a0_8 a0_9 a0_10 a0_11 a1_0 a1_1 a1_2)) = some r := by rw [if_pos rfl] at H; exact H
        clear H
        have H := H1
        clear H1
        replace H := Option.bind_eq_some_iff.mp H
        obtain ⟨t264, A140, H⟩ := H
        replace H : (governorlaw15_LimitTells.j0 k a2 a3 t261 (!t264) a0_0 a0_1 a0_2 a0_3 a0_4 a0_5 a0_6 a0_7 a0_8 a0_9 a0_10 a0_11 a1_0 a1_1 a1_2) = some r := H
        have A14 := Aside0.mk A140
        clear A140
        have H' := Aside0.mk H
        clear H
        have hnb15 := NB259_260.out
        have hnc15 := NB260_259.out
        have hcz16_0 : w9.cell? ⟨gb259, 0, none⟩ = some (.int .i64 a0_0) := (blk_cell BK259.out 0).trans rfl
        have hcz16_1 : w9.cell? ⟨gb259, 1, none⟩ = some (.int .i64 a0_1) := (blk_cell BK259.out 1).trans rfl
        have hcz16_2 : w9.cell? ⟨gb259, 2, none⟩ = some (.int .i64 a0_2) := (blk_cell BK259.out 2).trans rfl
        have hcz16_3 : w9.cell? ⟨gb259, 3, none⟩ = some (.int .i64 a0_3) := (blk_cell BK259.out 3).trans rfl
        have hcz16_4 : w9.cell? ⟨gb259, 4, none⟩ = some (.int .i64 a0_4) := (blk_cell BK259.out 4).trans rfl
        have hcz16_5 : w9.cell? ⟨gb259, 5, none⟩ = some (.int .i64 a0_5) := (blk_cell BK259.out 5).trans rfl
        have hcz16_6 : w9.cell? ⟨gb259, 6, none⟩ = some (.int .i64 a0_6) := (blk_cell BK259.out 6).trans rfl
        have hcz16_7 : w9.cell? ⟨gb259, 7, none⟩ = some (.int .i64 a0_7) := (blk_cell BK259.out 7).trans rfl
        have hcz16_8 : w9.cell? ⟨gb259, 8, none⟩ = some (.int .i64 a0_8) := (blk_cell BK259.out 8).trans rfl
        have hcz16_9 : w9.cell? ⟨gb259, 9, none⟩ = some (.int .i64 a0_9) := (blk_cell BK259.out 9).trans rfl
        have hcz16_10 : w9.cell? ⟨gb259, 10, none⟩ = some (.int .i64 a0_10) := (blk_cell BK259.out 10).trans rfl
        have hcz16_11 : w9.cell? ⟨gb259, 11, none⟩ = some (.int .i64 a0_11) := (blk_cell BK259.out 11).trans rfl
        have hfz16_0 := blk_frozen BK259.out 0
        have hfz16_1 := blk_frozen BK259.out 1
        have hfz16_2 := blk_frozen BK259.out 2
        have hfz16_3 := blk_frozen BK259.out 3
        have hfz16_4 := blk_frozen BK259.out 4
        have hfz16_5 := blk_frozen BK259.out 5
        have hfz16_6 := blk_frozen BK259.out 6
        have hfz16_7 := blk_frozen BK259.out 7
        have hfz16_8 := blk_frozen BK259.out 8
        have hfz16_9 := blk_frozen BK259.out 9
        have hfz16_10 := blk_frozen BK259.out 10
        have hfz16_11 := blk_frozen BK259.out 11
        go_wp2_with (first | ((with_reducible refine gate_callee (f := 22) rfl ?_); refine goesL_ (some 12) rfl rfl Try.func22 (by kernel_rfl) rfl #[.agg #[.int .i64 a0_0, .int .i64 a0_1, .int .i64 a0_2, .int .i64 a0_3, .int .i64 a0_4, .int .i64 a0_5, .int .i64 a0_6, .int .i64 a0_7, .int .i64 a0_8, .int .i64 a0_9, .int .i64 a0_10, .int .i64 a0_11]] rfl (by (try simp only [List.map_toArray, List.map_cons, List.map_nil]); first | done | rfl | (simp only [List.length_drop, List.length_take]; rfl)) ?_; (with_reducible refine (governorref09_Conf.calls a0_0 a0_1 a0_2 a0_3 a0_4 a0_5 a0_6 a0_7 a0_8 a0_9 a0_10 a0_11 true _ A10.out).mono ?_); rintro e w17 ⟨rfl, hb⟩; refine ⟨_, rfl, ?_⟩; have n0_ := Aside0.mk (blk_below (g := gb259) (o := .cells #[.int .i64 a0_0, .int .i64 a0_1, .int .i64 a0_2, .int .i64 a0_3, .int .i64 a0_4, .int .i64 a0_5, .int .i64 a0_6, .int .i64 a0_7, .int .i64 a0_8, .int .i64 a0_9, .int .i64 a0_10, .int .i64 a0_11] 37 (0, 0)) (by (with_reducible repeat (first | refine blk_drewN ?_ _ | refine blk_drew ?_ | refine blk_alloc ?_ _)); exact BK259.out) hb); have n1_ := Aside0.mk (blk_below (g := gb260) (o := .cells #[.int .i64 a1_0, .int .i64 a1_1, .bool a1_2] 39 (0, 0)) (by (with_reducible repeat (first | refine blk_drewN ?_ _ | refine blk_drew ?_ | refine blk_alloc ?_ _)); exact BK260.out) hb); have n2_ := Aside0.mk (below_step (by repeat (first | (with_reducible first | exact HB.out | apply below_alloc | apply pw_below_drewN | apply below_drew1 | refine below_set ?_ GE259.out | refine below_set ?_ GE260.out) | exact HB.out)) hb); clear BK259; clear BK260; clear HB; have BK259 := n0_; have BK260 := n1_; have HB := n2_; clear n0_ n1_ n2_; (try clear hb); (try clear hb2); (try clear hk); (try clear hi)) | (go_at_call 23; (with_reducible refine (governorlaw15_time.calls a3 true _ A12.out).mono ?_); rintro e w' ⟨rfl, ⟨nd, rfl⟩⟩; have hcz18_0 : w17.cell? ⟨gb260, 0, none⟩ = some (.int .i64 a1_0) := (blk_cell BK260.out 0).trans rfl; have hcz18_1 : w17.cell? ⟨gb260, 1, none⟩ = some (.int .i64 a1_1) := (blk_cell BK260.out 1).trans rfl; have hcz18_2 : w17.cell? ⟨gb260, 2, none⟩ = some (.bool a1_2) := (blk_cell BK260.out 2).trans rfl; have hfz18_0 := blk_frozen BK260.out 0; have hfz18_1 := blk_frozen BK260.out 1; have hfz18_2 := blk_frozen BK260.out 2) | (go_at_call 23; (with_reducible refine (governorlaw15_time.calls a1_1 t264 _ A14.out).mono ?_); rintro e w' ⟨rfl, ⟨nd, rfl⟩⟩))
        go_meet
        case rel => exact ⟨_, (!t264), (by first | rfl | (simp; done) | (simp [*]; done)), H', ⟨by first | omega | exact Nat.le_refl _⟩, ⟨by (with_reducible repeat (first | refine blk_drewN ?_ _ | refine blk_drew ?_ | refine blk_alloc ?_ _)); exact BK259.out⟩, ⟨by (with_reducible repeat (first | refine blk_drewN ?_ _ | refine blk_drew ?_ | refine blk_alloc ?_ _)); exact BK260.out⟩, ⟨by repeat (first | (with_reducible first | exact HB.out | apply below_alloc | apply pw_below_drewN | apply below_drew1 | refine below_set ?_ GE259.out | refine below_set ?_ GE260.out) | exact HB.out)⟩⟩
      · replace c13 := Bool.eq_false_iff.mpr c13
        subst c13
        have H1 : (governorlaw15_LimitTells.j0 k a2 a3 t261 true a0_0 a0_1 a0_2 a0_3 a0_4 a0_5 a0_6 a0_7 a0_8 a0_9 a0_10 a0_11 a1_0 a1_1 a1_2) = some r := by rw [if_neg (show ¬ (false = true) by decide)] at H; exact H
        clear H
        have H := H1
        clear H1
        have H' := Aside0.mk H
        clear H
        have hnb19 := NB259_260.out
        have hnc19 := NB260_259.out
        have hcz20_0 : w9.cell? ⟨gb259, 0, none⟩ = some (.int .i64 a0_0) := (blk_cell BK259.out 0).trans rfl
        have hcz20_1 : w9.cell? ⟨gb259, 1, none⟩ = some (.int .i64 a0_1) := (blk_cell BK259.out 1).trans rfl
        have hcz20_2 : w9.cell? ⟨gb259, 2, none⟩ = some (.int .i64 a0_2) := (blk_cell BK259.out 2).trans rfl
        have hcz20_3 : w9.cell? ⟨gb259, 3, none⟩ = some (.int .i64 a0_3) := (blk_cell BK259.out 3).trans rfl
        have hcz20_4 : w9.cell? ⟨gb259, 4, none⟩ = some (.int .i64 a0_4) := (blk_cell BK259.out 4).trans rfl
        have hcz20_5 : w9.cell? ⟨gb259, 5, none⟩ = some (.int .i64 a0_5) := (blk_cell BK259.out 5).trans rfl
        have hcz20_6 : w9.cell? ⟨gb259, 6, none⟩ = some (.int .i64 a0_6) := (blk_cell BK259.out 6).trans rfl
        have hcz20_7 : w9.cell? ⟨gb259, 7, none⟩ = some (.int .i64 a0_7) := (blk_cell BK259.out 7).trans rfl
        have hcz20_8 : w9.cell? ⟨gb259, 8, none⟩ = some (.int .i64 a0_8) := (blk_cell BK259.out 8).trans rfl
        have hcz20_9 : w9.cell? ⟨gb259, 9, none⟩ = some (.int .i64 a0_9) := (blk_cell BK259.out 9).trans rfl
        have hcz20_10 : w9.cell? ⟨gb259, 10, none⟩ = some (.int .i64 a0_10) := (blk_cell BK259.out 10).trans rfl
        have hcz20_11 : w9.cell? ⟨gb259, 11, none⟩ = some (.int .i64 a0_11) := (blk_cell BK259.out 11).trans rfl
        have hfz20_0 := blk_frozen BK259.out 0
        have hfz20_1 := blk_frozen BK259.out 1
        have hfz20_2 := blk_frozen BK259.out 2
        have hfz20_3 := blk_frozen BK259.out 3
        have hfz20_4 := blk_frozen BK259.out 4
        have hfz20_5 := blk_frozen BK259.out 5
        have hfz20_6 := blk_frozen BK259.out 6
        have hfz20_7 := blk_frozen BK259.out 7
        have hfz20_8 := blk_frozen BK259.out 8
        have hfz20_9 := blk_frozen BK259.out 9
        have hfz20_10 := blk_frozen BK259.out 10
        have hfz20_11 := blk_frozen BK259.out 11
        go_wp2_with (first | ((with_reducible refine gate_callee (f := 22) rfl ?_); refine goesL_ (some 12) rfl rfl Try.func22 (by kernel_rfl) rfl #[.agg #[.int .i64 a0_0, .int .i64 a0_1, .int .i64 a0_2, .int .i64 a0_3, .int .i64 a0_4, .int .i64 a0_5, .int .i64 a0_6, .int .i64 a0_7, .int .i64 a0_8, .int .i64 a0_9, .int .i64 a0_10, .int .i64 a0_11]] rfl (by (try simp only [List.map_toArray, List.map_cons, List.map_nil]); first | done | rfl | (simp only [List.length_drop, List.length_take]; rfl)) ?_; (with_reducible refine (governorref09_Conf.calls a0_0 a0_1 a0_2 a0_3 a0_4 a0_5 a0_6 a0_7 a0_8 a0_9 a0_10 a0_11 true _ A10.out).mono ?_); rintro e w21 ⟨rfl, hb⟩; refine ⟨_, rfl, ?_⟩; have n0_ := Aside0.mk (blk_below (g := gb259) (o := .cells #[.int .i64 a0_0, .int .i64 a0_1, .int .i64 a0_2, .int .i64 a0_3, .int .i64 a0_4, .int .i64 a0_5, .int .i64 a0_6, .int .i64 a0_7, .int .i64 a0_8, .int .i64 a0_9, .int .i64 a0_10, .int .i64 a0_11] 37 (0, 0)) (by (with_reducible repeat (first | refine blk_drewN ?_ _ | refine blk_drew ?_ | refine blk_alloc ?_ _)); exact BK259.out) hb); have n1_ := Aside0.mk (blk_below (g := gb260) (o := .cells #[.int .i64 a1_0, .int .i64 a1_1, .bool a1_2] 39 (0, 0)) (by (with_reducible repeat (first | refine blk_drewN ?_ _ | refine blk_drew ?_ | refine blk_alloc ?_ _)); exact BK260.out) hb); have n2_ := Aside0.mk (below_step (by repeat (first | (with_reducible first | exact HB.out | apply below_alloc | apply pw_below_drewN | apply below_drew1 | refine below_set ?_ GE259.out | refine below_set ?_ GE260.out) | exact HB.out)) hb); clear BK259; clear BK260; clear HB; have BK259 := n0_; have BK260 := n1_; have HB := n2_; clear n0_ n1_ n2_; (try clear hb); (try clear hb2); (try clear hk); (try clear hi)) | (go_at_call 23; (with_reducible refine (governorlaw15_time.calls a3 false _ A12.out).mono ?_); rintro e w' ⟨rfl, ⟨nd, rfl⟩⟩))
        go_meet
        case rel => exact ⟨_, (true), (by first | rfl | (simp; done) | (simp [*]; done)), H', ⟨by first | omega | exact Nat.le_refl _⟩, ⟨by (with_reducible repeat (first | refine blk_drewN ?_ _ | refine blk_drew ?_ | refine blk_alloc ?_ _)); exact BK259.out⟩, ⟨by (with_reducible repeat (first | refine blk_drewN ?_ _ | refine blk_drew ?_ | refine blk_alloc ?_ _)); exact BK260.out⟩, ⟨by repeat (first | (with_reducible first | exact HB.out | apply below_alloc | apply pw_below_drewN | apply below_drew1 | refine below_set ?_ GE259.out | refine below_set ?_ GE260.out) | exact HB.out)⟩⟩
    · replace c11 := Bool.eq_false_iff.mpr c11
      subst c11
      have H1 : (governorlaw15_LimitTells.j0 k a2 a3 t261 true a0_0 a0_1 a0_2 a0_3 a0_4 a0_5 a0_6 a0_7 a0_8 a0_9 a0_10 a0_11 a1_0 a1_1 a1_2) = some r := by rw [if_neg (show ¬ (false = true) by decide)] at H; exact H
      clear H
      have H := H1
      clear H1
      have H' := Aside0.mk H
      clear H
      have hnb22 := NB259_260.out
      have hnc22 := NB260_259.out
      have hcz23_0 : w9.cell? ⟨gb259, 0, none⟩ = some (.int .i64 a0_0) := (blk_cell BK259.out 0).trans rfl
      have hcz23_1 : w9.cell? ⟨gb259, 1, none⟩ = some (.int .i64 a0_1) := (blk_cell BK259.out 1).trans rfl
      have hcz23_2 : w9.cell? ⟨gb259, 2, none⟩ = some (.int .i64 a0_2) := (blk_cell BK259.out 2).trans rfl
      have hcz23_3 : w9.cell? ⟨gb259, 3, none⟩ = some (.int .i64 a0_3) := (blk_cell BK259.out 3).trans rfl
      have hcz23_4 : w9.cell? ⟨gb259, 4, none⟩ = some (.int .i64 a0_4) := (blk_cell BK259.out 4).trans rfl
      have hcz23_5 : w9.cell? ⟨gb259, 5, none⟩ = some (.int .i64 a0_5) := (blk_cell BK259.out 5).trans rfl
      have hcz23_6 : w9.cell? ⟨gb259, 6, none⟩ = some (.int .i64 a0_6) := (blk_cell BK259.out 6).trans rfl
      have hcz23_7 : w9.cell? ⟨gb259, 7, none⟩ = some (.int .i64 a0_7) := (blk_cell BK259.out 7).trans rfl
      have hcz23_8 : w9.cell? ⟨gb259, 8, none⟩ = some (.int .i64 a0_8) := (blk_cell BK259.out 8).trans rfl
      have hcz23_9 : w9.cell? ⟨gb259, 9, none⟩ = some (.int .i64 a0_9) := (blk_cell BK259.out 9).trans rfl
      have hcz23_10 : w9.cell? ⟨gb259, 10, none⟩ = some (.int .i64 a0_10) := (blk_cell BK259.out 10).trans rfl
      have hcz23_11 : w9.cell? ⟨gb259, 11, none⟩ = some (.int .i64 a0_11) := (blk_cell BK259.out 11).trans rfl
      have hfz23_0 := blk_frozen BK259.out 0
      have hfz23_1 := blk_frozen BK259.out 1
      have hfz23_2 := blk_frozen BK259.out 2
      have hfz23_3 := blk_frozen BK259.out 3
      have hfz23_4 := blk_frozen BK259.out 4
      have hfz23_5 := blk_frozen BK259.out 5
      have hfz23_6 := blk_frozen BK259.out 6
      have hfz23_7 := blk_frozen BK259.out 7
      have hfz23_8 := blk_frozen BK259.out 8
      have hfz23_9 := blk_frozen BK259.out 9
      have hfz23_10 := blk_frozen BK259.out 10
      have hfz23_11 := blk_frozen BK259.out 11
      go_wp2_with (first | ((with_reducible refine gate_callee (f := 22) rfl ?_); refine goesL_ (some 12) rfl rfl Try.func22 (by kernel_rfl) rfl #[.agg #[.int .i64 a0_0, .int .i64 a0_1, .int .i64 a0_2, .int .i64 a0_3, .int .i64 a0_4, .int .i64 a0_5, .int .i64 a0_6, .int .i64 a0_7, .int .i64 a0_8, .int .i64 a0_9, .int .i64 a0_10, .int .i64 a0_11]] rfl (by (try simp only [List.map_toArray, List.map_cons, List.map_nil]); first | done | rfl | (simp only [List.length_drop, List.length_take]; rfl)) ?_; (with_reducible refine (governorref09_Conf.calls a0_0 a0_1 a0_2 a0_3 a0_4 a0_5 a0_6 a0_7 a0_8 a0_9 a0_10 a0_11 false _ A10.out).mono ?_); rintro e w24 ⟨rfl, hb⟩; refine ⟨_, rfl, ?_⟩; have n0_ := Aside0.mk (blk_below (g := gb259) (o := .cells #[.int .i64 a0_0, .int .i64 a0_1, .int .i64 a0_2, .int .i64 a0_3, .int .i64 a0_4, .int .i64 a0_5, .int .i64 a0_6, .int .i64 a0_7, .int .i64 a0_8, .int .i64 a0_9, .int .i64 a0_10, .int .i64 a0_11] 37 (0, 0)) (by (with_reducible repeat (first | refine blk_drewN ?_ _ | refine blk_drew ?_ | refine blk_alloc ?_ _)); exact BK259.out) hb); have n1_ := Aside0.mk (blk_below (g := gb260) (o := .cells #[.int .i64 a1_0, .int .i64 a1_1, .bool a1_2] 39 (0, 0)) (by (with_reducible repeat (first | refine blk_drewN ?_ _ | refine blk_drew ?_ | refine blk_alloc ?_ _)); exact BK260.out) hb); have n2_ := Aside0.mk (below_step (by repeat (first | (with_reducible first | exact HB.out | apply below_alloc | apply pw_below_drewN | apply below_drew1 | refine below_set ?_ GE259.out | refine below_set ?_ GE260.out) | exact HB.out)) hb); clear BK259; clear BK260; clear HB; have BK259 := n0_; have BK260 := n1_; have HB := n2_; clear n0_ n1_ n2_; (try clear hb); (try clear hb2); (try clear hk); (try clear hi)))
      go_meet
      case rel => exact ⟨_, (true), (by first | rfl | (simp; done) | (simp [*]; done)), H', ⟨by first | omega | exact Nat.le_refl _⟩, ⟨by (with_reducible repeat (first | refine blk_drewN ?_ _ | refine blk_drew ?_ | refine blk_alloc ?_ _)); exact BK259.out⟩, ⟨by (with_reducible repeat (first | refine blk_drewN ?_ _ | refine blk_drew ?_ | refine blk_alloc ?_ _)); exact BK260.out⟩, ⟨by repeat (first | (with_reducible first | exact HB.out | apply below_alloc | apply pw_below_drewN | apply below_drew1 | refine below_set ?_ GE259.out | refine below_set ?_ GE260.out) | exact HB.out)⟩⟩
  case rest =>
    clear HC6
    try clear c1
    try clear c2
    try clear p2
    try clear c9
    try clear c11
    try clear c13
    try clear c15
    try clear c19
    try clear c21
    try clear c22
    try clear hcz16_0
    try clear hcz16_1
    try clear hcz16_10
    try clear hcz16_11
    try clear hcz16_2
    try clear hcz16_3
    try clear hcz16_4
    try clear hcz16_5
    try clear hcz16_6
    try clear hcz16_7
    try clear hcz16_8
    try clear hcz16_9
    try clear hcz18_0
    try clear hcz18_1
    try clear hcz18_2
    try clear hcz20_0
    try clear hcz20_1
    try clear hcz20_10
    try clear hcz20_11
    try clear hcz20_2
    try clear hcz20_3
    try clear hcz20_4
    try clear hcz20_5
    try clear hcz20_6
    try clear hcz20_7
    try clear hcz20_8
    try clear hcz20_9
    try clear hcz23_0
    try clear hcz23_1
    try clear hcz23_10
    try clear hcz23_11
    try clear hcz23_2
    try clear hcz23_3
    try clear hcz23_4
    try clear hcz23_5
    try clear hcz23_6
    try clear hcz23_7
    try clear hcz23_8
    try clear hcz23_9
    try clear hfz16_0
    try clear hfz16_1
    try clear hfz16_10
    try clear hfz16_11
    try clear hfz16_2
    try clear hfz16_3
    try clear hfz16_4
    try clear hfz16_5
    try clear hfz16_6
    try clear hfz16_7
    try clear hfz16_8
    try clear hfz16_9
    try clear hfz18_0
    try clear hfz18_1
    try clear hfz18_2
    try clear hfz20_0
    try clear hfz20_1
    try clear hfz20_10
    try clear hfz20_11
    try clear hfz20_2
    try clear hfz20_3
    try clear hfz20_4
    try clear hfz20_5
    try clear hfz20_6
    try clear hfz20_7
    try clear hfz20_8
    try clear hfz20_9
    try clear hfz23_0
    try clear hfz23_1
    try clear hfz23_10
    try clear hfz23_11
    try clear hfz23_2
    try clear hfz23_3
    try clear hfz23_4
    try clear hfz23_5
    try clear hfz23_6
    try clear hfz23_7
    try clear hfz23_8
    try clear hfz23_9
    obtain ⟨kq, x24_5, rfl, HA, HJ5, BK259, BK260, HB⟩ := hcut
    cases kq with
    | zero => exact absurd HA.out (by simp [governorlaw15_LimitTells.j0])
    | succ kj5 =>
      have H := HA.out
      clear HA
      simp only [governorlaw15_LimitTells.j0] at H
      by_cases c25 : x24_5 = true
      · subst c25
        have H1 : (some t261) = some r := by rw [if_pos rfl] at H; exact H
        clear H
        have H := H1
        clear H1
        obtain rfl := Option.some.inj H
        go_wp2
        go_ret
        exact ⟨by first | rfl | (simp [errW_none, errW_some] <;> rfl) | (simp [*, errW_none, errW_some] <;> rfl), by repeat (first | (with_reducible first | exact HB.out | apply below_alloc | apply pw_below_drewN | apply below_drew1 | refine below_set ?_ GE259.out | refine below_set ?_ GE260.out) | exact HB.out)⟩
      · replace c25 := Bool.eq_false_iff.mpr c25
        subst c25
        have H1 : (if t261 = true then ((limit_Into.f a0_0 a0_1 a0_2 a0_3 a0_4 a0_5 a0_6 a0_7 a0_8 a0_9 a0_10 a0_11 a1_0 a1_1 a1_2).bind fun bt265 => ((governorref15_Into.f a0_0 a0_1 a0_2 a0_3 a0_4 a0_5 a0_6 a0_7 a0_8 a0_9 a0_10 a0_11 a1_0 a1_1 a1_2).bind fun bt268 => (if (bt265.1 == bt268.1 && (bt265.2.1 == bt268.2.1 && (bt265.2.2 == bt268.2.2))) = true then ((limit_Next.f a0_0 a0_1 a0_2 a0_3 a0_4 a0_5 a0_6 a0_7 a0_8 a0_9 a0_10 a0_11 a1_0 a1_1 a1_2 a2 a3).bind fun bt271 => ((governorref15_Next.f a0_0 a0_1 a0_2 a0_3 a0_4 a0_5 a0_6 a0_7 a0_8 a0_9 a0_10 a0_11 a1_0 a1_1 a1_2 a2 a3).bind fun bt274 => (some (bt271.1 == bt274.1 && (bt271.2.1 == bt274.2.1 && (bt271.2.2 == bt274.2.2)))))) else (some false)))) else (some false)) = some r := by rw [if_neg (show ¬ (false = true) by decide)] at H; exact H
        clear H
        have H := H1
        clear H1
        by_cases c26 : t261 = true
        · subst c26
          have H1 : ((limit_Into.f a0_0 a0_1 a0_2 a0_3 a0_4 a0_5 a0_6 a0_7 a0_8 a0_9 a0_10 a0_11 a1_0 a1_1 a1_2).bind fun bt265 => ((governorref15_Into.f a0_0 a0_1 a0_2 a0_3 a0_4 a0_5 a0_6 a0_7 a0_8 a0_9 a0_10 a0_11 a1_0 a1_1 a1_2).bind fun bt268 => (if (bt265.1 == bt268.1 && (bt265.2.1 == bt268.2.1 && (bt265.2.2 == bt268.2.2))) = true then ((limit_Next.f a0_0 a0_1 a0_2 a0_3 a0_4 a0_5 a0_6 a0_7 a0_8 a0_9 a0_10 a0_11 a1_0 a1_1 a1_2 a2 a3).bind fun bt271 => ((governorref15_Next.f a0_0 a0_1 a0_2 a0_3 a0_4 a0_5 a0_6 a0_7 a0_8 a0_9 a0_10 a0_11 a1_0 a1_1 a1_2 a2 a3).bind fun bt274 => (some (bt271.1 == bt274.1 && (bt271.2.1 == bt274.2.1 && (bt271.2.2 == bt274.2.2)))))) else (some false)))) = some r := by rw [if_pos rfl] at H; exact H
          clear H
          have H := H1
          clear H1
          replace H := Option.bind_eq_some_iff.mp H
          obtain ⟨⟨t265, t266, t267⟩, A270, H⟩ := H
          replace H : ((governorref15_Into.f a0_0 a0_1 a0_2 a0_3 a0_4 a0_5 a0_6 a0_7 a0_8 a0_9 a0_10 a0_11 a1_0 a1_1 a1_2).bind fun bt268 => (if (t265 == bt268.1 && (t266 == bt268.2.1 && (t267 == bt268.2.2))) = true then ((limit_Next.f a0_0 a0_1 a0_2 a0_3 a0_4 a0_5 a0_6 a0_7 a0_8 a0_9 a0_10 a0_11 a1_0 a1_1 a1_2 a2 a3).bind fun bt271 => ((governorref15_Next.f a0_0 a0_1 a0_2 a0_3 a0_4 a0_5 a0_6 a0_7 a0_8 a0_9 a0_10 a0_11 a1_0 a1_1 a1_2 a2 a3).bind fun bt274 => (some (bt271.1 == bt274.1 && (bt271.2.1 == bt274.2.1 && (bt271.2.2 == bt274.2.2)))))) else (some false))) = some r := H
          have A27 := Aside0.mk A270
          clear A270
          replace H := Option.bind_eq_some_iff.mp H
          obtain ⟨⟨t268, t269, t270⟩, A280, H⟩ := H
          replace H : (if (t265 == t268 && (t266 == t269 && (t267 == t270))) = true then ((limit_Next.f a0_0 a0_1 a0_2 a0_3 a0_4 a0_5 a0_6 a0_7 a0_8 a0_9 a0_10 a0_11 a1_0 a1_1 a1_2 a2 a3).bind fun bt271 => ((governorref15_Next.f a0_0 a0_1 a0_2 a0_3 a0_4 a0_5 a0_6 a0_7 a0_8 a0_9 a0_10 a0_11 a1_0 a1_1 a1_2 a2 a3).bind fun bt274 => (some (bt271.1 == bt274.1 && (bt271.2.1 == bt274.2.1 && (bt271.2.2 == bt274.2.2)))))) else (some false)) = some r := H
          have A28 := Aside0.mk A280
          clear A280
          by_cases c29 : (t265 == t268 && (t266 == t269 && (t267 == t270))) = true
          · rw [if_pos c29] at H
            have c29b0 : (t265 == t268 && (t266 == t269 && (t267 == t270))) = true := c29
            (try (have c29b1 : decide (t265 = t268 && (t266 == t269 && (t267 == t270))) = true := by simpa using c29))
            (try (have c29b2 : (t265 == t268 && (t266 == t269 && (t267 == t270))) = true := by simpa using c29))
            clear c29
            replace H := Option.bind_eq_some_iff.mp H
            obtain ⟨⟨t271, t272, t273⟩, A300, H⟩ := H
            replace H : ((governorref15_Next.f a0_0 a0_1 a0_2 a0_3 a0_4 a0_5 a0_6 a0_7 a0_8 a0_9 a0_10 a0_11 a1_0 a1_1 a1_2 a2 a3).bind fun bt274 => (some (t271 == bt274.1 && (t272 == bt274.2.1 && (t273 == bt274.2.2))))) = some r := H
            have A30 := Aside0.mk A300
            clear A300
            replace H := Option.bind_eq_some_iff.mp H
            obtain ⟨⟨t274, t275, t276⟩, A310, H⟩ := H
            replace H : (some (t271 == t274 && (t272 == t275 && (t273 == t276)))) = some r := H
            have A31 := Aside0.mk A310
            clear A310
            obtain rfl := Option.some.inj H
            try go_wp2
            have n0_ := Aside0.mk (blk_drew BK259.out)
            have n1_ := Aside0.mk (blk_drew BK260.out)
            have n2_ := Aside0.mk (below_drew1 HB.out)
            clear BK259
            clear BK260
            clear HB
            have BK259 := n0_
            have BK260 := n1_
            have HB := n2_
            clear n0_ n1_ n2_
            refine start_ (n := 24) (S := fun w' => w'.cell? ⟨gb259, 0, none⟩ = some (.int .i64 a0_0) ∧ w'.cell? ⟨gb259, 1, none⟩ = some (.int .i64 a0_1) ∧ w'.cell? ⟨gb259, 2, none⟩ = some (.int .i64 a0_2) ∧ w'.cell? ⟨gb259, 3, none⟩ = some (.int .i64 a0_3) ∧ w'.cell? ⟨gb259, 4, none⟩ = some (.int .i64 a0_4) ∧ w'.cell? ⟨gb259, 5, none⟩ = some (.int .i64 a0_5) ∧ w'.cell? ⟨gb259, 6, none⟩ = some (.int .i64 a0_6) ∧ w'.cell? ⟨gb259, 7, none⟩ = some (.int .i64 a0_7) ∧ w'.cell? ⟨gb259, 8, none⟩ = some (.int .i64 a0_8) ∧ w'.cell? ⟨gb259, 9, none⟩ = some (.int .i64 a0_9) ∧ w'.cell? ⟨gb259, 10, none⟩ = some (.int .i64 a0_10) ∧ w'.cell? ⟨gb259, 11, none⟩ = some (.int .i64 a0_11) ∧ w'.cell? ⟨gb260, 0, none⟩ = some (.int .i64 a1_0) ∧ w'.cell? ⟨gb260, 1, none⟩ = some (.int .i64 a1_1) ∧ w'.cell? ⟨gb260, 2, none⟩ = some (.bool a1_2)) (ds := []) #[false, false, false, false, false, false, false, false, false, false, false, false, false, false, false, false, false, false, false, false, false, false, false, false] (by kernel_rfl) rfl rfl ⟨(blk_cell BK259.out 0).trans rfl, (blk_cell BK259.out 1).trans rfl, (blk_cell BK259.out 2).trans rfl, (blk_cell BK259.out 3).trans rfl, (blk_cell BK259.out 4).trans rfl, (blk_cell BK259.out 5).trans rfl, (blk_cell BK259.out 6).trans rfl, (blk_cell BK259.out 7).trans rfl, (blk_cell BK259.out 8).trans rfl, (blk_cell BK259.out 9).trans rfl, (blk_cell BK259.out 10).trans rfl, (blk_cell BK259.out 11).trans rfl, (blk_cell BK260.out 0).trans rfl, (blk_cell BK260.out 1).trans rfl, (blk_cell BK260.out 2).trans rfl⟩ (fun hHeld => ?_); refine with_tabW governorlaw15_LimitTells.tab4 governorlaw15_LimitTells.bits4 (fun HT_ HW_ => ?_)
            generalize wc.drew = w32 at BK259 BK260 HB hHeld ⊢
            refine pure_ (i := 0) (N := some 26) (v := ?_) (a' := ?_) #[true, false, false, false, false, false, false, false, false, false, false, false, false, false, false, false, false, false, false, false, false, false, false, false] rfl rfl (any_of HT_.out (by kernel_rfl)) (fun _ _ _ h => h) (Or.inl ⟨by rfl, ?_⟩) ?_ ?_
            rotate_left
            · intro w'
              go_simp
              with_reducible rfl
            rotate_left
            · simp only [Act.put, List.setIfInBounds_toArray, List.set_cons_zero, List.set_cons_succ, i64_w, i32_w]
              rfl
            refine pure_ (i := 1) (N := some 27) (v := ?_) (a' := ?_) #[true, true, false, false, false, false, false, false, false, false, false, false, false, false, false, false, false, false, false, false, false, false, false, false] rfl rfl (any_of HT_.out (by kernel_rfl)) (fun _ _ _ h => h) (Or.inl ⟨by rfl, ?_⟩) ?_ ?_
            rotate_left
            · intro w'
              go_simp
              with_reducible rfl
            rotate_left
            · simp only [Act.put, List.setIfInBounds_toArray, List.set_cons_zero, List.set_cons_succ, i64_w, i32_w]
              rfl
            refine take_ (i := 2) (N := some 28) (v := ?_) (a' := ?_) #[true, true, true, false, false, false, false, false, false, false, false, false, false, false, false, false, false, false, false, false, false, false, false, false] rfl rfl (take_ofW HT_.out HW_.out (by kernel_rfl)) (fun _ _ _ h => h) (Or.inl ⟨by rfl, ?_⟩) hHeld ?_ ?_
            rotate_left
            · rintro w' ⟨s0, s1, s2, s3, s4, s5, s6, s7, s8, s9, s10, s11, s12, s13, s14⟩
              go_simp
              with_reducible rfl
            rotate_left
            · simp only [Act.put, List.setIfInBounds_toArray, List.set_cons_zero, List.set_cons_succ, i64_w, i32_w]
              rfl
            refine take_ (i := 3) (N := some 29) (v := ?_) (a' := ?_) #[true, true, true, true, false, false, false, false, false, false, false, false, false, false, false, false, false, false, false, false, false, false, false, false] rfl rfl (take_ofW HT_.out HW_.out (by kernel_rfl)) (fun _ _ _ h => h) (Or.inl ⟨by rfl, ?_⟩) hHeld ?_ ?_
            rotate_left
            · rintro w' ⟨s0, s1, s2, s3, s4, s5, s6, s7, s8, s9, s10, s11, s12, s13, s14⟩
              go_simp
              with_reducible rfl
            rotate_left
            · simp only [Act.put, List.setIfInBounds_toArray, List.set_cons_zero, List.set_cons_succ, i64_w, i32_w]
              rfl
            refine take_ (i := 5) (N := some 31) (v := ?_) (a' := ?_) #[true, true, true, true, false, true, false, false, false, false, false, false, false, false, false, false, false, false, false, false, false, false, false, false] rfl rfl (take_ofW HT_.out HW_.out (by kernel_rfl)) (fun _ _ _ h => h) (Or.inl ⟨by rfl, ?_⟩) hHeld ?_ ?_
            rotate_left
            · rintro w' ⟨s0, s1, s2, s3, s4, s5, s6, s7, s8, s9, s10, s11, s12, s13, s14⟩
              go_simp
              with_reducible rfl
            rotate_left
            · simp only [Act.put, List.setIfInBounds_toArray, List.set_cons_zero, List.set_cons_succ, i64_w, i32_w]
              rfl
            refine take_ (i := 6) (N := some 32) (v := ?_) (a' := ?_) #[true, true, true, true, false, true, true, false, false, false, false, false, false, false, false, false, false, false, false, false, false, false, false, false] rfl rfl (take_ofW HT_.out HW_.out (by kernel_rfl)) (fun _ _ _ h => h) (Or.inl ⟨by rfl, ?_⟩) hHeld ?_ ?_
            rotate_left
            · rintro w' ⟨s0, s1, s2, s3, s4, s5, s6, s7, s8, s9, s10, s11, s12, s13, s14⟩
              go_simp
              with_reducible rfl
            rotate_left
            · simp only [Act.put, List.setIfInBounds_toArray, List.set_cons_zero, List.set_cons_succ, i64_w, i32_w]
              rfl
            refine one_ (i := 4) (N := some 30) #[true, true, true, true, true, true, true, false, false, false, false, false, false, false, false, false, false, false, false, false, false, false, false, false] rfl rfl (one_of HT_.out (by kernel_rfl)) (by decide) (fun K hK => ?_)
            refine goes_ Try.func24 (by kernel_rfl) rfl #[.agg #[.int .i64 a0_0, .int .i64 a0_1, .int .i64 a0_2, .int .i64 a0_3, .int .i64 a0_4, .int .i64 a0_5, .int .i64 a0_6, .int .i64 a0_7, .int .i64 a0_8, .int .i64 a0_9, .int .i64 a0_10, .int .i64 a0_11], .agg #[.int .i64 a1_0, .int .i64 a1_1, .bool a1_2]] (by rfl) rfl rfl (by (try simp only [List.map_toArray, List.map_cons, List.map_nil]); first | done | rfl | (simp only [List.length_drop, List.length_take]; rfl)) ?_
            with_reducible refine (limit_Into.calls a0_0 a0_1 a0_2 a0_3 a0_4 a0_5 a0_6 a0_7 a0_8 a0_9 a0_10 a0_11 a1_0 a1_1 a1_2 t265 t266 t267 _ A27.out).mono ?_
            rintro e w33 ⟨rfl, hb⟩
            refine ⟨_, rfl, ?_⟩
            have n0_ := Aside0.mk (blk_below (g := gb259) (o := .cells #[.int .i64 a0_0, .int .i64 a0_1, .int .i64 a0_2, .int .i64 a0_3, .int .i64 a0_4, .int .i64 a0_5, .int .i64 a0_6, .int .i64 a0_7, .int .i64 a0_8, .int .i64 a0_9, .int .i64 a0_10, .int .i64 a0_11] 37 (0, 0)) (by (with_reducible repeat (first | refine blk_drewN ?_ _ | refine blk_drew ?_ | refine blk_alloc ?_ _)); exact BK259.out) hb)
            have n1_ := Aside0.mk (blk_below (g := gb260) (o := .cells #[.int .i64 a1_0, .int .i64 a1_1, .bool a1_2] 39 (0, 0)) (by (with_reducible repeat (first | refine blk_drewN ?_ _ | refine blk_drew ?_ | refine blk_alloc ?_ _)); exact BK260.out) hb)
            have n2_ := Aside0.mk (below_step (by repeat (first | (with_reducible first | exact HB.out | apply below_alloc | apply pw_below_drewN | apply below_drew1 | refine below_set ?_ GE259.out | refine below_set ?_ GE260.out) | exact HB.out)) hb)
            clear BK259
            clear BK260
            clear HB
            have BK259 := n0_
            have BK260 := n1_
            have HB := n2_
            clear n0_ n1_ n2_
            (try clear hb)
            (try clear hb2)
            (try clear hk)
            (try clear hi)
            refine hK.out _ _ ⟨(blk_cell BK259.out 0).trans rfl, (blk_cell BK259.out 1).trans rfl, (blk_cell BK259.out 2).trans rfl, (blk_cell BK259.out 3).trans rfl, (blk_cell BK259.out 4).trans rfl, (blk_cell BK259.out 5).trans rfl, (blk_cell BK259.out 6).trans rfl, (blk_cell BK259.out 7).trans rfl, (blk_cell BK259.out 8).trans rfl, (blk_cell BK259.out 9).trans rfl, (blk_cell BK259.out 10).trans rfl, (blk_cell BK259.out 11).trans rfl, (blk_cell BK260.out 0).trans rfl, (blk_cell BK260.out 1).trans rfl, (blk_cell BK260.out 2).trans rfl⟩ (fun hHeld => ?_)
            clear hK K
            refine norm_ (a' := ?_) ?_ ?_
            rotate_left
            · show Act.put _ (some 30) _ = _
              simp only [Act.put, List.setIfInBounds_toArray, List.set_cons_zero, List.set_cons_succ, i64_w, i32_w]
              rfl
            refine one_ (i := 7) (N := some 33) #[true, true, true, true, true, true, true, true, false, false, false, false, false, false, false, false, false, false, false, false, false, false, false, false] rfl rfl (one_of HT_.out (by kernel_rfl)) (by decide) (fun K hK => ?_)
            refine goes_ Try.func25 (by kernel_rfl) rfl #[.agg #[.int .i64 a0_0, .int .i64 a0_1, .int .i64 a0_2, .int .i64 a0_3, .int .i64 a0_4, .int .i64 a0_5, .int .i64 a0_6, .int .i64 a0_7, .int .i64 a0_8, .int .i64 a0_9, .int .i64 a0_10, .int .i64 a0_11], .agg #[.int .i64 a1_0, .int .i64 a1_1, .bool a1_2]] (by rfl) rfl rfl (by (try simp only [List.map_toArray, List.map_cons, List.map_nil]); first | done | rfl | (simp only [List.length_drop, List.length_take]; rfl)) ?_
            with_reducible refine (governorref15_Into.calls a0_0 a0_1 a0_2 a0_3 a0_4 a0_5 a0_6 a0_7 a0_8 a0_9 a0_10 a0_11 a1_0 a1_1 a1_2 t268 t269 t270 _ A28.out).mono ?_
            rintro e w34 ⟨rfl, hb⟩
            refine ⟨_, rfl, ?_⟩
            have n0_ := Aside0.mk (blk_below (g := gb259) (o := .cells #[.int .i64 a0_0, .int .i64 a0_1, .int .i64 a0_2, .int .i64 a0_3, .int .i64 a0_4, .int .i64 a0_5, .int .i64 a0_6, .int .i64 a0_7, .int .i64 a0_8, .int .i64 a0_9, .int .i64 a0_10, .int .i64 a0_11] 37 (0, 0)) (by (with_reducible repeat (first | refine blk_drewN ?_ _ | refine blk_drew ?_ | refine blk_alloc ?_ _)); exact BK259.out) hb)
            have n1_ := Aside0.mk (blk_below (g := gb260) (o := .cells #[.int .i64 a1_0, .int .i64 a1_1, .bool a1_2] 39 (0, 0)) (by (with_reducible repeat (first | refine blk_drewN ?_ _ | refine blk_drew ?_ | refine blk_alloc ?_ _)); exact BK260.out) hb)
            have n2_ := Aside0.mk (below_step (by repeat (first | (with_reducible first | exact HB.out | apply below_alloc | apply pw_below_drewN | apply below_drew1 | refine below_set ?_ GE259.out | refine below_set ?_ GE260.out) | exact HB.out)) hb)
            clear BK259
            clear BK260
            clear HB
            have BK259 := n0_
            have BK260 := n1_
            have HB := n2_
            clear n0_ n1_ n2_
            (try clear hb)
            (try clear hb2)
            (try clear hk)
            (try clear hi)
            refine hK.out _ _ ⟨(blk_cell BK259.out 0).trans rfl, (blk_cell BK259.out 1).trans rfl, (blk_cell BK259.out 2).trans rfl, (blk_cell BK259.out 3).trans rfl, (blk_cell BK259.out 4).trans rfl, (blk_cell BK259.out 5).trans rfl, (blk_cell BK259.out 6).trans rfl, (blk_cell BK259.out 7).trans rfl, (blk_cell BK259.out 8).trans rfl, (blk_cell BK259.out 9).trans rfl, (blk_cell BK259.out 10).trans rfl, (blk_cell BK259.out 11).trans rfl, (blk_cell BK260.out 0).trans rfl, (blk_cell BK260.out 1).trans rfl, (blk_cell BK260.out 2).trans rfl⟩ (fun hHeld => ?_)
            clear hK K
            refine norm_ (a' := ?_) ?_ ?_
            rotate_left
            · show Act.put _ (some 33) _ = _
              simp only [Act.put, List.setIfInBounds_toArray, List.set_cons_zero, List.set_cons_succ, i64_w, i32_w]
              rfl
            refine pure_ (i := 8) (N := some 34) (v := ?_) (a' := ?_) #[true, true, true, true, true, true, true, true, true, false, false, false, false, false, false, false, false, false, false, false, false, false, false, false] rfl rfl (any_of HT_.out (by kernel_rfl)) (fun _ _ _ h => h) (Or.inl ⟨by rfl, ?_⟩) ?_ ?_
            rotate_left
            · intro w'
              go_simp
              with_reducible rfl
            rotate_left
            · simp only [Act.put, List.setIfInBounds_toArray, List.set_cons_zero, List.set_cons_succ, i64_w, i32_w]
              rfl
            refine pure_ (i := 9) (N := some 35) (v := ?_) (a' := ?_) #[true, true, true, true, true, true, true, true, true, true, false, false, false, false, false, false, false, false, false, false, false, false, false, false] rfl rfl (any_of HT_.out (by kernel_rfl)) (fun _ _ _ h => h) (Or.inl ⟨by rfl, ?_⟩) ?_ ?_
            rotate_left
            · intro w'
              go_simp
              with_reducible rfl
            rotate_left
            · simp only [Act.put, List.setIfInBounds_toArray, List.set_cons_zero, List.set_cons_succ, i64_w, i32_w]
              rfl
            refine pure_ (i := 10) (N := some 36) (v := ?_) (a' := ?_) #[true, true, true, true, true, true, true, true, true, true, true, false, false, false, false, false, false, false, false, false, false, false, false, false] rfl rfl (any_of HT_.out (by kernel_rfl)) (fun _ _ _ h => h) (Or.inl ⟨by rfl, ?_⟩) ?_ ?_
            rotate_left
            · intro w'
              go_simp
              with_reducible rfl
            rotate_left
            · simp only [Act.put, List.setIfInBounds_toArray, List.set_cons_zero, List.set_cons_succ, i64_w, i32_w]
              rfl
            refine pure_ (i := 13) (N := some 39) (v := ?_) (a' := ?_) #[true, true, true, true, true, true, true, true, true, true, true, false, false, true, false, false, false, false, false, false, false, false, false, false] rfl rfl (any_of HT_.out (by kernel_rfl)) (fun _ _ _ h => h) (Or.inl ⟨by rfl, ?_⟩) ?_ ?_
            rotate_left
            · intro w'
              go_simp
              with_reducible rfl
            rotate_left
            · simp only [Act.put, List.setIfInBounds_toArray, List.set_cons_zero, List.set_cons_succ, i64_w, i32_w]
              rfl
            refine pure_ (i := 14) (N := some 40) (v := ?_) (a' := ?_) #[true, true, true, true, true, true, true, true, true, true, true, false, false, true, true, false, false, false, false, false, false, false, false, false] rfl rfl (any_of HT_.out (by kernel_rfl)) (fun _ _ _ h => h) (Or.inl ⟨by rfl, ?_⟩) ?_ ?_
            rotate_left
            · intro w'
              go_simp
              with_reducible rfl
            rotate_left
            · simp only [Act.put, List.setIfInBounds_toArray, List.set_cons_zero, List.set_cons_succ, i64_w, i32_w]
              rfl
            refine pure_ (i := 18) (N := some 44) (v := ?_) (a' := ?_) #[true, true, true, true, true, true, true, true, true, true, true, false, false, true, true, false, false, false, true, false, false, false, false, false] rfl rfl (any_of HT_.out (by kernel_rfl)) (fun _ _ _ h => h) (Or.inl ⟨by rfl, ?_⟩) ?_ ?_
            rotate_left
            · intro w'
              go_simp
              with_reducible rfl
            rotate_left
            · simp only [Act.put, List.setIfInBounds_toArray, List.set_cons_zero, List.set_cons_succ, i64_w, i32_w]
              rfl
            refine pure_ (i := 19) (N := some 45) (v := ?_) (a' := ?_) #[true, true, true, true, true, true, true, true, true, true, true, false, false, true, true, false, false, false, true, true, false, false, false, false] rfl rfl (any_of HT_.out (by kernel_rfl)) (fun _ _ _ h => h) (Or.inl ⟨by rfl, ?_⟩) ?_ ?_
            rotate_left
            · intro w'
              go_simp
              with_reducible rfl
            rotate_left
            · simp only [Act.put, List.setIfInBounds_toArray, List.set_cons_zero, List.set_cons_succ, i64_w, i32_w]
              rfl
            refine take_ (i := 11) (N := some 37) (v := ?_) (a' := ?_) #[true, true, true, true, true, true, true, true, true, true, true, true, false, true, true, false, false, false, true, true, false, false, false, false] rfl rfl (take_ofW HT_.out HW_.out (by kernel_rfl)) (fun _ _ _ h => h) (Or.inl ⟨by rfl, ?_⟩) hHeld ?_ ?_
            rotate_left
            · rintro w' ⟨s0, s1, s2, s3, s4, s5, s6, s7, s8, s9, s10, s11, s12, s13, s14⟩
              go_simp
              with_reducible rfl
            rotate_left
            · simp only [Act.put, List.setIfInBounds_toArray, List.set_cons_zero, List.set_cons_succ, i64_w, i32_w]
              rfl
            refine take_ (i := 12) (N := some 38) (v := ?_) (a' := ?_) #[true, true, true, true, true, true, true, true, true, true, true, true, true, true, true, false, false, false, true, true, false, false, false, false] rfl rfl (take_ofW HT_.out HW_.out (by kernel_rfl)) (fun _ _ _ h => h) (Or.inl ⟨by rfl, ?_⟩) hHeld ?_ ?_
            rotate_left
            · rintro w' ⟨s0, s1, s2, s3, s4, s5, s6, s7, s8, s9, s10, s11, s12, s13, s14⟩
              go_simp
              with_reducible rfl
            rotate_left
            · simp only [Act.put, List.setIfInBounds_toArray, List.set_cons_zero, List.set_cons_succ, i64_w, i32_w]
              rfl
            refine take_ (i := 16) (N := some 42) (v := ?_) (a' := ?_) #[true, true, true, true, true, true, true, true, true, true, true, true, true, true, true, false, true, false, true, true, false, false, false, false] rfl rfl (take_ofW HT_.out HW_.out (by kernel_rfl)) (fun _ _ _ h => h) (Or.inl ⟨by rfl, ?_⟩) hHeld ?_ ?_
            rotate_left
            · rintro w' ⟨s0, s1, s2, s3, s4, s5, s6, s7, s8, s9, s10, s11, s12, s13, s14⟩
              go_simp
              with_reducible rfl
            rotate_left
            · simp only [Act.put, List.setIfInBounds_toArray, List.set_cons_zero, List.set_cons_succ, i64_w, i32_w]
              rfl
            refine take_ (i := 17) (N := some 43) (v := ?_) (a' := ?_) #[true, true, true, true, true, true, true, true, true, true, true, true, true, true, true, false, true, true, true, true, false, false, false, false] rfl rfl (take_ofW HT_.out HW_.out (by kernel_rfl)) (fun _ _ _ h => h) (Or.inl ⟨by rfl, ?_⟩) hHeld ?_ ?_
            rotate_left
            · rintro w' ⟨s0, s1, s2, s3, s4, s5, s6, s7, s8, s9, s10, s11, s12, s13, s14⟩
              go_simp
              with_reducible rfl
            rotate_left
            · simp only [Act.put, List.setIfInBounds_toArray, List.set_cons_zero, List.set_cons_succ, i64_w, i32_w]
              rfl
            refine one_ (i := 15) (N := some 41) #[true, true, true, true, true, true, true, true, true, true, true, true, true, true, true, true, true, true, true, true, false, false, false, false] rfl rfl (one_of HT_.out (by kernel_rfl)) (by decide) (fun K hK => ?_)
            refine goes_ Try.func26 (by kernel_rfl) rfl #[.agg #[.int .i64 a0_0, .int .i64 a0_1, .int .i64 a0_2, .int .i64 a0_3, .int .i64 a0_4, .int .i64 a0_5, .int .i64 a0_6, .int .i64 a0_7, .int .i64 a0_8, .int .i64 a0_9, .int .i64 a0_10, .int .i64 a0_11], .agg #[.int .i64 a1_0, .int .i64 a1_1, .bool a1_2], .int .i64 a2, .int .i64 a3] (by rfl) rfl rfl (by (try simp only [List.map_toArray, List.map_cons, List.map_nil]); first | done | rfl | (simp only [List.length_drop, List.length_take]; rfl)) ?_
            with_reducible refine (limit_Next.calls a0_0 a0_1 a0_2 a0_3 a0_4 a0_5 a0_6 a0_7 a0_8 a0_9 a0_10 a0_11 a1_0 a1_1 a1_2 a2 a3 t271 t272 t273 _ A30.out).mono ?_
            rintro e w35 ⟨rfl, hb⟩
            refine ⟨_, rfl, ?_⟩
            have n0_ := Aside0.mk (blk_below (g := gb259) (o := .cells #[.int .i64 a0_0, .int .i64 a0_1, .int .i64 a0_2, .int .i64 a0_3, .int .i64 a0_4, .int .i64 a0_5, .int .i64 a0_6, .int .i64 a0_7, .int .i64 a0_8, .int .i64 a0_9, .int .i64 a0_10, .int .i64 a0_11] 37 (0, 0)) (by (with_reducible repeat (first | refine blk_drewN ?_ _ | refine blk_drew ?_ | refine blk_alloc ?_ _)); exact BK259.out) hb)
            have n1_ := Aside0.mk (blk_below (g := gb260) (o := .cells #[.int .i64 a1_0, .int .i64 a1_1, .bool a1_2] 39 (0, 0)) (by (with_reducible repeat (first | refine blk_drewN ?_ _ | refine blk_drew ?_ | refine blk_alloc ?_ _)); exact BK260.out) hb)
            have n2_ := Aside0.mk (below_step (by repeat (first | (with_reducible first | exact HB.out | apply below_alloc | apply pw_below_drewN | apply below_drew1 | refine below_set ?_ GE259.out | refine below_set ?_ GE260.out) | exact HB.out)) hb)
            clear BK259
            clear BK260
            clear HB
            have BK259 := n0_
            have BK260 := n1_
            have HB := n2_
            clear n0_ n1_ n2_
            (try clear hb)
            (try clear hb2)
            (try clear hk)
            (try clear hi)
            refine hK.out _ _ ⟨(blk_cell BK259.out 0).trans rfl, (blk_cell BK259.out 1).trans rfl, (blk_cell BK259.out 2).trans rfl, (blk_cell BK259.out 3).trans rfl, (blk_cell BK259.out 4).trans rfl, (blk_cell BK259.out 5).trans rfl, (blk_cell BK259.out 6).trans rfl, (blk_cell BK259.out 7).trans rfl, (blk_cell BK259.out 8).trans rfl, (blk_cell BK259.out 9).trans rfl, (blk_cell BK259.out 10).trans rfl, (blk_cell BK259.out 11).trans rfl, (blk_cell BK260.out 0).trans rfl, (blk_cell BK260.out 1).trans rfl, (blk_cell BK260.out 2).trans rfl⟩ (fun hHeld => ?_)
            clear hK K
            refine norm_ (a' := ?_) ?_ ?_
            rotate_left
            · show Act.put _ (some 41) _ = _
              simp only [Act.put, List.setIfInBounds_toArray, List.set_cons_zero, List.set_cons_succ, i64_w, i32_w]
              rfl
            refine one_ (i := 20) (N := some 46) #[true, true, true, true, true, true, true, true, true, true, true, true, true, true, true, true, true, true, true, true, true, false, false, false] rfl rfl (one_of HT_.out (by kernel_rfl)) (by decide) (fun K hK => ?_)
            refine goes_ Try.func27 (by kernel_rfl) rfl #[.agg #[.int .i64 a0_0, .int .i64 a0_1, .int .i64 a0_2, .int .i64 a0_3, .int .i64 a0_4, .int .i64 a0_5, .int .i64 a0_6, .int .i64 a0_7, .int .i64 a0_8, .int .i64 a0_9, .int .i64 a0_10, .int .i64 a0_11], .agg #[.int .i64 a1_0, .int .i64 a1_1, .bool a1_2], .int .i64 a2, .int .i64 a3] (by rfl) rfl rfl (by (try simp only [List.map_toArray, List.map_cons, List.map_nil]); first | done | rfl | (simp only [List.length_drop, List.length_take]; rfl)) ?_
            with_reducible refine (governorref15_Next.calls a0_0 a0_1 a0_2 a0_3 a0_4 a0_5 a0_6 a0_7 a0_8 a0_9 a0_10 a0_11 a1_0 a1_1 a1_2 a2 a3 t274 t275 t276 _ A31.out).mono ?_
            rintro e w36 ⟨rfl, hb⟩
            refine ⟨_, rfl, ?_⟩
            have n0_ := Aside0.mk (blk_below (g := gb259) (o := .cells #[.int .i64 a0_0, .int .i64 a0_1, .int .i64 a0_2, .int .i64 a0_3, .int .i64 a0_4, .int .i64 a0_5, .int .i64 a0_6, .int .i64 a0_7, .int .i64 a0_8, .int .i64 a0_9, .int .i64 a0_10, .int .i64 a0_11] 37 (0, 0)) (by (with_reducible repeat (first | refine blk_drewN ?_ _ | refine blk_drew ?_ | refine blk_alloc ?_ _)); exact BK259.out) hb)
            have n1_ := Aside0.mk (blk_below (g := gb260) (o := .cells #[.int .i64 a1_0, .int .i64 a1_1, .bool a1_2] 39 (0, 0)) (by (with_reducible repeat (first | refine blk_drewN ?_ _ | refine blk_drew ?_ | refine blk_alloc ?_ _)); exact BK260.out) hb)
            have n2_ := Aside0.mk (below_step (by repeat (first | (with_reducible first | exact HB.out | apply below_alloc | apply pw_below_drewN | apply below_drew1 | refine below_set ?_ GE259.out | refine below_set ?_ GE260.out) | exact HB.out)) hb)
            clear BK259
            clear BK260
            clear HB
            have BK259 := n0_
            have BK260 := n1_
            have HB := n2_
            clear n0_ n1_ n2_
            (try clear hb)
            (try clear hb2)
            (try clear hk)
            (try clear hi)
            refine hK.out _ _ ⟨(blk_cell BK259.out 0).trans rfl, (blk_cell BK259.out 1).trans rfl, (blk_cell BK259.out 2).trans rfl, (blk_cell BK259.out 3).trans rfl, (blk_cell BK259.out 4).trans rfl, (blk_cell BK259.out 5).trans rfl, (blk_cell BK259.out 6).trans rfl, (blk_cell BK259.out 7).trans rfl, (blk_cell BK259.out 8).trans rfl, (blk_cell BK259.out 9).trans rfl, (blk_cell BK259.out 10).trans rfl, (blk_cell BK259.out 11).trans rfl, (blk_cell BK260.out 0).trans rfl, (blk_cell BK260.out 1).trans rfl, (blk_cell BK260.out 2).trans rfl⟩ (fun hHeld => ?_)
            clear hK K
            refine norm_ (a' := ?_) ?_ ?_
            rotate_left
            · show Act.put _ (some 46) _ = _
              simp only [Act.put, List.setIfInBounds_toArray, List.set_cons_zero, List.set_cons_succ, i64_w, i32_w]
              rfl
            refine pure_ (i := 21) (N := some 47) (v := ?_) (a' := ?_) #[true, true, true, true, true, true, true, true, true, true, true, true, true, true, true, true, true, true, true, true, true, true, false, false] rfl rfl (any_of HT_.out (by kernel_rfl)) (fun _ _ _ h => h) (Or.inl ⟨by rfl, ?_⟩) ?_ ?_
            rotate_left
            · intro w'
              go_simp
              with_reducible rfl
            rotate_left
            · simp only [Act.put, List.setIfInBounds_toArray, List.set_cons_zero, List.set_cons_succ, i64_w, i32_w]
              rfl
            refine pure_ (i := 22) (N := some 48) (v := ?_) (a' := ?_) #[true, true, true, true, true, true, true, true, true, true, true, true, true, true, true, true, true, true, true, true, true, true, true, false] rfl rfl (any_of HT_.out (by kernel_rfl)) (fun _ _ _ h => h) (Or.inl ⟨by rfl, ?_⟩) ?_ ?_
            rotate_left
            · intro w'
              go_simp
              with_reducible rfl
            rotate_left
            · simp only [Act.put, List.setIfInBounds_toArray, List.set_cons_zero, List.set_cons_succ, i64_w, i32_w]
              rfl
            refine pure_ (i := 23) (N := some 8) (v := ?_) (a' := ?_) #[true, true, true, true, true, true, true, true, true, true, true, true, true, true, true, true, true, true, true, true, true, true, true, true] rfl rfl (any_of HT_.out (by kernel_rfl)) (fun _ _ _ h => h) (Or.inl ⟨by rfl, ?_⟩) ?_ ?_
            rotate_left
            · intro w'
              go_simp
              with_reducible rfl
            rotate_left
            · simp only [Act.put, List.setIfInBounds_toArray, List.set_cons_zero, List.set_cons_succ, i64_w, i32_w]
              rfl
            refine done_ (done_of HT_.out (by kernel_rfl)) ?_
            try go_wp2
            go_ret
            exact ⟨by first | rfl | (simp [errW_none, errW_some] <;> rfl) | (simp [*, errW_none, errW_some] <;> rfl), by repeat (first | (with_reducible first | exact HB.out | apply below_alloc | apply pw_below_drewN | apply below_drew1 | refine below_set ?_ GE259.out | refine below_set ?_ GE260.out) | exact HB.out)⟩
          · rw [if_neg c29] at H
            have c29b0 : (t265 == t268 && (t266 == t269 && (t267 == t270))) = false := by simpa using c29
            (try (have c29b1 : decide (t265 = t268 && (t266 == t269 && (t267 == t270))) = false := by simpa using c29))
            (try (have c29b2 : (t265 == t268 && (t266 == t269 && (t267 == t270))) = false := by simpa using c29))
            (try (have c29b3 : ¬ (t265 = t268 && (t266 == t269 && (t267 == t270))) := by simpa using c29))
            clear c29
            exact absurd (Option.some.inj H) (by rw [HRT.out]; decide)
        · replace c26 := Bool.eq_false_iff.mpr c26
          subst c26
          have H1 : (some false) = some r := by rw [if_neg (show ¬ (false = true) by decide)] at H; exact H
          clear H
          have H := H1
          clear H1
          exact absurd (Option.some.inj H) (by rw [HRT.out]; decide)

end Go.Proofs.Ytnipomnkjegebaa.PAll
