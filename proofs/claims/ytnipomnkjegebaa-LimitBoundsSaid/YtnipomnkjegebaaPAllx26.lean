-- laid by a program of this session (tprint.py) out of the translation and of texts typed by hand; Lean checks it
import Derived.Test.YtnipomnkjegebaaPAllx0
import Derived.Test.YtnipomnkjegebaaPAllx1
import Derived.Test.YtnipomnkjegebaaPAllx16
import Derived.Test.YtnipomnkjegebaaPAllx18
import Derived.Test.YtnipomnkjegebaaPAllx20
import Derived.Test.YtnipomnkjegebaaPAllx21
import Derived.Test.YtnipomnkjegebaaPAllx22
namespace Go.Proofs.Ytnipomnkjegebaa.PAll
open Go.RowKit Go.Proofs.YtnipomnkjegebaaW.PrintWords Go.Proofs.YtnipomnkjegebaaW.PrintLast Go.Proofs.YtnipomnkjegebaaW.PrintMore
attribute [local go_sem] max2_int min2_int max_two min_two max_three min_three max_four min_four   -- for this text's walks alone
set_option linter.unusedVariables false
set_option linter.unusedSimpArgs false

attribute [local go_sem high] eqA39
/-! ### governorlaw15_LimitBounds: function 10 -/
mutual
def governorlaw15_LimitBounds.j0 : Nat → List Int → Int → Bool → Bool → Int → Int → Int → Int → Int → Int → Int → Int → Int → Int → Int → Int → Int → Int → Bool → Option (Bool)
  | 0, _, _, _, _, _, _, _, _, _, _, _, _, _, _, _, _, _, _, _ => none
  | k + 1, x2, x3, x9, x27, x278000, x278001, x278002, x278003, x278004, x278005, x278006, x278007, x278008, x278009, x278010, x278011, x279000, x279001, x279002 => if x27 = true then (some x9) else ((limit_Into.f x278000 x278001 x278002 x278003 x278004 x278005 x278006 x278007 x278008 x278009 x278010 x278011 x279000 x279001 x279002).bind fun bt282 => (if bt282.1 < x278000 then (governorlaw15_LimitBounds.j1 k x2 x3 x9 true x278000 x278001 x278002 x278003 x278004 x278005 x278006 x278007 x278008 x278009 x278010 x278011 bt282.1 bt282.2.1 bt282.2.2) else (if bt282.1 > x278001 then (governorlaw15_LimitBounds.j1 k x2 x3 x9 true x278000 x278001 x278002 x278003 x278004 x278005 x278006 x278007 x278008 x278009 x278010 x278011 bt282.1 bt282.2.1 bt282.2.2) else (if bt282.2.1 = x279001 then (if (bt282.2.2 != x279002) = true then (governorlaw15_LimitBounds.j1 k x2 x3 x9 true x278000 x278001 x278002 x278003 x278004 x278005 x278006 x278007 x278008 x278009 x278010 x278011 bt282.1 bt282.2.1 bt282.2.2) else (if x279000 ≥ x278000 then (if x279000 ≤ x278001 then (governorlaw15_LimitBounds.j1 k x2 x3 x9 (!(bt282.1 == x279000) || (!(bt282.2.1 == x279001) || (!(bt282.2.2 == x279002)))) x278000 x278001 x278002 x278003 x278004 x278005 x278006 x278007 x278008 x278009 x278010 x278011 bt282.1 bt282.2.1 bt282.2.2) else (governorlaw15_LimitBounds.j1 k x2 x3 x9 false x278000 x278001 x278002 x278003 x278004 x278005 x278006 x278007 x278008 x278009 x278010 x278011 bt282.1 bt282.2.1 bt282.2.2)) else (governorlaw15_LimitBounds.j1 k x2 x3 x9 false x278000 x278001 x278002 x278003 x278004 x278005 x278006 x278007 x278008 x278009 x278010 x278011 bt282.1 bt282.2.1 bt282.2.2))) else (governorlaw15_LimitBounds.j1 k x2 x3 x9 true x278000 x278001 x278002 x278003 x278004 x278005 x278006 x278007 x278008 x278009 x278010 x278011 bt282.1 bt282.2.1 bt282.2.2)))))
def governorlaw15_LimitBounds.j1 : Nat → List Int → Int → Bool → Bool → Int → Int → Int → Int → Int → Int → Int → Int → Int → Int → Int → Int → Int → Int → Bool → Option (Bool)
  | 0, _, _, _, _, _, _, _, _, _, _, _, _, _, _, _, _, _, _, _ => none
  | k + 1, x2, x3, x9, x76, x278000, x278001, x278002, x278003, x278004, x278005, x278006, x278007, x278008, x278009, x278010, x278011, x286000, x286001, x286002 => if x76 = true then (some false) else (governorlaw15_LimitBounds.l0 k x2 x3 x9 0 x278000 x278001 x278002 x278003 x278004 x278005 x278006 x278007 x278008 x278009 x278010 x278011 x286000 x286001 x286002)
def governorlaw15_LimitBounds.l0 : Nat → List Int → Int → Bool → Int → Int → Int → Int → Int → Int → Int → Int → Int → Int → Int → Int → Int → Int → Int → Bool → Option (Bool)
  | 0, _, _, _, _, _, _, _, _, _, _, _, _, _, _, _, _, _, _, _ => none
  | k + 1, x2, x3, x9, x11, x278000, x278001, x278002, x278003, x278004, x278005, x278006, x278007, x278008, x278009, x278010, x278011, x286000, x286001, x286002 => if x11 < (x2.length : Int) then (if 0 ≤ x11 then ((limit_Next.f x278000 x278001 x278002 x278003 x278004 x278005 x278006 x278007 x278008 x278009 x278010 x278011 x286000 x286001 x286002 (rd x2 x11) (wrap64 ((wrap64 (x3)) + x11))).bind fun bt287 => (if bt287.1 < x278000 then (some false) else (if bt287.1 > x278001 then (some false) else (if bt287.1 > (wrap64 (x286000 + x278002)) then (some false) else (if bt287.1 < (wrap64 (x286000 - x278002)) then (some false) else (governorlaw15_LimitBounds.l0 k x2 x3 x9 (wrap64 (x11 + 1)) x278000 x278001 x278002 x278003 x278004 x278005 x278006 x278007 x278008 x278009 x278010 x278011 bt287.1 bt287.2.1 bt287.2.2)))))) else (none)) else (some x9)
end
def governorlaw15_LimitBounds.f (k : Nat) (a0_0 : Int) (a0_1 : Int) (a0_2 : Int) (a0_3 : Int) (a0_4 : Int) (a0_5 : Int) (a0_6 : Int) (a0_7 : Int) (a0_8 : Int) (a0_9 : Int) (a0_10 : Int) (a0_11 : Int) (a1_0 : Int) (a1_1 : Int) (a1_2 : Bool) (l2 : List Int) (a3 : Int) : Option (Bool) := (governorlaw15_head.f).bind fun t279 => ((governorref09_Conf.f a0_0 a0_1 a0_2 a0_3 a0_4 a0_5 a0_6 a0_7 a0_8 a0_9 a0_10 a0_11).bind fun t280 => (if t280 = true then ((governorlaw15_time.f a1_1).bind fun t281 => (if t281 = true then (governorlaw15_LimitBounds.j0 k l2 a3 t279 (decide ((l2.length : Int) > 300)) a0_0 a0_1 a0_2 a0_3 a0_4 a0_5 a0_6 a0_7 a0_8 a0_9 a0_10 a0_11 a1_0 a1_1 a1_2) else (governorlaw15_LimitBounds.j0 k l2 a3 t279 true a0_0 a0_1 a0_2 a0_3 a0_4 a0_5 a0_6 a0_7 a0_8 a0_9 a0_10 a0_11 a1_0 a1_1 a1_2))) else (governorlaw15_LimitBounds.j0 k l2 a3 t279 true a0_0 a0_1 a0_2 a0_3 a0_4 a0_5 a0_6 a0_7 a0_8 a0_9 a0_10 a0_11 a1_0 a1_1 a1_2)))
theorem governorlaw15_LimitBounds.mono_l : ∀ k, (∀ y0 y1 y2 y3 y4 y5 y6 y7 y8 y9 y10 y11 y12 y13 y14 y15 y16 y17 y18, LeO (governorlaw15_LimitBounds.j0 k y0 y1 y2 y3 y4 y5 y6 y7 y8 y9 y10 y11 y12 y13 y14 y15 y16 y17 y18) (governorlaw15_LimitBounds.j0 (k + 1) y0 y1 y2 y3 y4 y5 y6 y7 y8 y9 y10 y11 y12 y13 y14 y15 y16 y17 y18)) ∧ (∀ y0 y1 y2 y3 y4 y5 y6 y7 y8 y9 y10 y11 y12 y13 y14 y15 y16 y17 y18, LeO (governorlaw15_LimitBounds.j1 k y0 y1 y2 y3 y4 y5 y6 y7 y8 y9 y10 y11 y12 y13 y14 y15 y16 y17 y18) (governorlaw15_LimitBounds.j1 (k + 1) y0 y1 y2 y3 y4 y5 y6 y7 y8 y9 y10 y11 y12 y13 y14 y15 y16 y17 y18)) ∧ (∀ y0 y1 y2 y3 y4 y5 y6 y7 y8 y9 y10 y11 y12 y13 y14 y15 y16 y17 y18, LeO (governorlaw15_LimitBounds.l0 k y0 y1 y2 y3 y4 y5 y6 y7 y8 y9 y10 y11 y12 y13 y14 y15 y16 y17 y18) (governorlaw15_LimitBounds.l0 (k + 1) y0 y1 y2 y3 y4 y5 y6 y7 y8 y9 y10 y11 y12 y13 y14 y15 y16 y17 y18))
  | 0 => ⟨fun _ _ _ _ _ _ _ _ _ _ _ _ _ _ _ _ _ _ _ r h => by simp [governorlaw15_LimitBounds.j0] at h, fun _ _ _ _ _ _ _ _ _ _ _ _ _ _ _ _ _ _ _ r h => by simp [governorlaw15_LimitBounds.j1] at h, fun _ _ _ _ _ _ _ _ _ _ _ _ _ _ _ _ _ _ _ r h => by simp [governorlaw15_LimitBounds.l0] at h⟩
  | k + 1 => by
    obtain ⟨ih0, ih1, ih2⟩ := governorlaw15_LimitBounds.mono_l k
    refine ⟨?_, ?_, ?_⟩
    · intro y0 y1 y2 y3 y4 y5 y6 y7 y8 y9 y10 y11 y12 y13 y14 y15 y16 y17 y18
      unfold governorlaw15_LimitBounds.j0
      repeat' first
      | (with_reducible exact ih0 _ _ _ _ _ _ _ _ _ _ _ _ _ _ _ _ _ _ _)
      | (with_reducible exact ih1 _ _ _ _ _ _ _ _ _ _ _ _ _ _ _ _ _ _ _)
      | (with_reducible exact ih2 _ _ _ _ _ _ _ _ _ _ _ _ _ _ _ _ _ _ _)
      | (with_reducible exact LeO.refl _)
      | (with_reducible exact LeO.none _)
      | (with_reducible refine LeO.ite ?_ ?_)
      | (with_reducible refine LeO.bind ?_ (fun _ => ?_))
      | exact ih0 _ _ _ _ _ _ _ _ _ _ _ _ _ _ _ _ _ _ _
      | exact ih1 _ _ _ _ _ _ _ _ _ _ _ _ _ _ _ _ _ _ _
      | exact ih2 _ _ _ _ _ _ _ _ _ _ _ _ _ _ _ _ _ _ _
      | exact LeO.none _
      | refine LeO.ite ?_ ?_
      | refine LeO.bind ?_ (fun _ => ?_)
    · intro y0 y1 y2 y3 y4 y5 y6 y7 y8 y9 y10 y11 y12 y13 y14 y15 y16 y17 y18
      unfold governorlaw15_LimitBounds.j1
      repeat' first
      | (with_reducible exact ih0 _ _ _ _ _ _ _ _ _ _ _ _ _ _ _ _ _ _ _)
      | (with_reducible exact ih1 _ _ _ _ _ _ _ _ _ _ _ _ _ _ _ _ _ _ _)
      | (with_reducible exact ih2 _ _ _ _ _ _ _ _ _ _ _ _ _ _ _ _ _ _ _)
      | (with_reducible exact LeO.refl _)
      | (with_reducible exact LeO.none _)
      | (with_reducible refine LeO.ite ?_ ?_)
      | (with_reducible refine LeO.bind ?_ (fun _ => ?_))
      | exact ih0 _ _ _ _ _ _ _ _ _ _ _ _ _ _ _ _ _ _ _
      | exact ih1 _ _ _ _ _ _ _ _ _ _ _ _ _ _ _ _ _ _ _
      | exact ih2 _ _ _ _ _ _ _ _ _ _ _ _ _ _ _ _ _ _ _
      | exact LeO.none _
      | refine LeO.ite ?_ ?_
      | refine LeO.bind ?_ (fun _ => ?_)
    · intro y0 y1 y2 y3 y4 y5 y6 y7 y8 y9 y10 y11 y12 y13 y14 y15 y16 y17 y18
      unfold governorlaw15_LimitBounds.l0
      repeat' first
      | (with_reducible exact ih0 _ _ _ _ _ _ _ _ _ _ _ _ _ _ _ _ _ _ _)
      | (with_reducible exact ih1 _ _ _ _ _ _ _ _ _ _ _ _ _ _ _ _ _ _ _)
      | (with_reducible exact ih2 _ _ _ _ _ _ _ _ _ _ _ _ _ _ _ _ _ _ _)
      | (with_reducible exact LeO.refl _)
      | (with_reducible exact LeO.none _)
      | (with_reducible refine LeO.ite ?_ ?_)
      | (with_reducible refine LeO.bind ?_ (fun _ => ?_))
      | exact ih0 _ _ _ _ _ _ _ _ _ _ _ _ _ _ _ _ _ _ _
      | exact ih1 _ _ _ _ _ _ _ _ _ _ _ _ _ _ _ _ _ _ _
      | exact ih2 _ _ _ _ _ _ _ _ _ _ _ _ _ _ _ _ _ _ _
      | exact LeO.none _
      | refine LeO.ite ?_ ?_
      | refine LeO.bind ?_ (fun _ => ?_)
theorem governorlaw15_LimitBounds.mono : ∀ a0 a1 a2 a3 a4 a5 a6 a7 a8 a9 a10 a11 a12 a13 a14 a15 a16 k, LeO (governorlaw15_LimitBounds.f k a0 a1 a2 a3 a4 a5 a6 a7 a8 a9 a10 a11 a12 a13 a14 a15 a16) (governorlaw15_LimitBounds.f (k + 1) a0 a1 a2 a3 a4 a5 a6 a7 a8 a9 a10 a11 a12 a13 a14 a15 a16) := by
  intro a0 a1 a2 a3 a4 a5 a6 a7 a8 a9 a10 a11 a12 a13 a14 a15 a16 k
  obtain ⟨ih0, ih1, ih2⟩ := governorlaw15_LimitBounds.mono_l k
  unfold governorlaw15_LimitBounds.f
  repeat' first
      | (with_reducible exact ih0 _ _ _ _ _ _ _ _ _ _ _ _ _ _ _ _ _ _ _)
      | (with_reducible exact ih1 _ _ _ _ _ _ _ _ _ _ _ _ _ _ _ _ _ _ _)
      | (with_reducible exact ih2 _ _ _ _ _ _ _ _ _ _ _ _ _ _ _ _ _ _ _)
      | (with_reducible exact LeO.refl _)
      | (with_reducible exact LeO.none _)
      | (with_reducible refine LeO.ite ?_ ?_)
      | (with_reducible refine LeO.bind ?_ (fun _ => ?_))
      | exact ih0 _ _ _ _ _ _ _ _ _ _ _ _ _ _ _ _ _ _ _
      | exact ih1 _ _ _ _ _ _ _ _ _ _ _ _ _ _ _ _ _ _ _
      | exact ih2 _ _ _ _ _ _ _ _ _ _ _ _ _ _ _ _ _ _ _
      | exact LeO.none _
      | refine LeO.ite ?_ ?_
      | refine LeO.bind ?_ (fun _ => ?_)
def governorlaw15_LimitBounds.T10 : Bool × List (List Nat × List Nat) := (true, [([], []), ([], []), ([], []), ([], []), ([2, 3], [2, 3]), ([4], [4]), ([], []), ([6], [6]), ([], []), ([7, 8], [7, 8]), ([0, 1, 5, 9], [0, 1, 5, 9]), ([], []), ([11, 10, 10, 0, 1, 2, 3, 4, 5, 6, 7, 8, 9, 10, 11], [10, 11])])
def governorlaw15_LimitBounds.B10 : List Nat := [0, 0, 0, 0, 12, 28, 0, 64, 0, 448, 1023, 0, 4095]
theorem governorlaw15_LimitBounds.tab10 : rtab .any (opsOf Try.f10 10) = governorlaw15_LimitBounds.T10 := by kernel_rfl
theorem governorlaw15_LimitBounds.bits10 : waitsOk governorlaw15_LimitBounds.T10.2 governorlaw15_LimitBounds.B10 = true := by kernel_rfl
set_option maxHeartbeats 8000000 in
set_option maxRecDepth 100000 in
theorem governorlaw15_LimitBounds.calls (k : Nat) (a0_0 : Int) (a0_1 : Int) (a0_2 : Int) (a0_3 : Int) (a0_4 : Int) (a0_5 : Int) (a0_6 : Int) (a0_7 : Int) (a0_8 : Int) (a0_9 : Int) (a0_10 : Int) (a0_11 : Int) (a1_0 : Int) (a1_1 : Int) (a1_2 : Bool) (A2 : Option Addr) (c2 : Nat) (l2 : List Int) (a3 : Int) (r : Bool) (w : World) (hr2 : Kd.C (Kd.int .i64) w A2 l2.length l2) (hc2 : l2.length ≤ c2) (hrT : r = true) (h : governorlaw15_LimitBounds.f k a0_0 a0_1 a0_2 a0_3 a0_4 a0_5 a0_6 a0_7 a0_8 a0_9 a0_10 a0_11 a1_0 a1_1 a1_2 l2 a3 = some r) :
    Calls Try.prog 10 #[.agg #[.int .i64 a0_0, .int .i64 a0_1, .int .i64 a0_2, .int .i64 a0_3, .int .i64 a0_4, .int .i64 a0_5, .int .i64 a0_6, .int .i64 a0_7, .int .i64 a0_8, .int .i64 a0_9, .int .i64 a0_10, .int .i64 a0_11], .agg #[.int .i64 a1_0, .int .i64 a1_1, .bool a1_2], .slice A2 l2.length c2, .int .u16 a3] w fun e w' => e = .returned (.bool r) ∧ Below w.heap.size w w' := by
  have hu37 := Try.underlying37
  have hu39 := Try.underlying39
  have HR2 := Aside0.mk hr2
  have HC2 := Aside0.mk hc2
  clear hr2 hc2
  have HB := Aside0.mk (Below.refl w.heap.size w)
  have HRT := Aside0.mk hrT
  clear hrT
  have H : ((governorlaw15_head.f).bind fun t279 => ((governorref09_Conf.f a0_0 a0_1 a0_2 a0_3 a0_4 a0_5 a0_6 a0_7 a0_8 a0_9 a0_10 a0_11).bind fun t280 => (if t280 = true then ((governorlaw15_time.f a1_1).bind fun t281 => (if t281 = true then (governorlaw15_LimitBounds.j0 k l2 a3 t279 (decide ((l2.length : Int) > 300)) a0_0 a0_1 a0_2 a0_3 a0_4 a0_5 a0_6 a0_7 a0_8 a0_9 a0_10 a0_11 a1_0 a1_1 a1_2) else (governorlaw15_LimitBounds.j0 k l2 a3 t279 true a0_0 a0_1 a0_2 a0_3 a0_4 a0_5 a0_6 a0_7 a0_8 a0_9 a0_10 a0_11 a1_0 a1_1 a1_2))) else (governorlaw15_LimitBounds.j0 k l2 a3 t279 true a0_0 a0_1 a0_2 a0_3 a0_4 a0_5 a0_6 a0_7 a0_8 a0_9 a0_10 a0_11 a1_0 a1_1 a1_2)))) = some r := h
  clear h
  replace H := Option.bind_eq_some_iff.mp H
  obtain ⟨t279, A50, H⟩ := H
  replace H : ((governorref09_Conf.f a0_0 a0_1 a0_2 a0_3 a0_4 a0_5 a0_6 a0_7 a0_8 a0_9 a0_10 a0_11).bind fun t280 => (if t280 = true then ((governorlaw15_time.f a1_1).bind fun t281 => (if t281 = true then (governorlaw15_LimitBounds.j0 k l2 a3 t279 (decide ((l2.length : Int) > 300)) a0_0 a0_1 a0_2 a0_3 a0_4 a0_5 a0_6 a0_7 a0_8 a0_9 a0_10 a0_11 a1_0 a1_1 a1_2) else (governorlaw15_LimitBounds.j0 k l2 a3 t279 true a0_0 a0_1 a0_2 a0_3 a0_4 a0_5 a0_6 a0_7 a0_8 a0_9 a0_10 a0_11 a1_0 a1_1 a1_2))) else (governorlaw15_LimitBounds.j0 k l2 a3 t279 true a0_0 a0_1 a0_2 a0_3 a0_4 a0_5 a0_6 a0_7 a0_8 a0_9 a0_10 a0_11 a1_0 a1_1 a1_2))) = some r := H
  have A5 := Aside0.mk A50
  clear A50
  have HC6 := Aside0.mk H
  clear H
  go_enter Try.func10, Try.ntmps10
  go_upto_region 2 with (first | ((with_reducible refine gate_dst (N := 4) rfl ?_); (try (refine gate_guard (by rfl) ?_; dsimp only)); refine box_event ?hg (N := 4) ?hd (cs := #[.int .i64 a0_0, .int .i64 a0_1, .int .i64 a0_2, .int .i64 a0_3, .int .i64 a0_4, .int .i64 a0_5, .int .i64 a0_6, .int .i64 a0_7, .int .i64 a0_8, .int .i64 a0_9, .int .i64 a0_10, .int .i64 a0_11]) (t := 37) ?hr ?_; (case hd => rfl); (case hg => rfl); (case hr => first | (go_simp; done) | (go_simp; rfl)); intro gb277 hg w7 hbox hb; have n0_ := Aside0.mk (below_step (by repeat (first | (with_reducible first | exact HB.out | apply below_alloc | apply pw_below_drewN | apply below_drew1) | exact HB.out)) hb); have n1_ := Aside0.mk (hbox); have n2_ := Aside0.mk ((by rw [hg]; exact (below_size (by repeat (first | (with_reducible first | exact HB.out | apply below_alloc | apply pw_below_drewN | apply below_drew1) | exact HB.out))) : w.heap.size ≤ gb277)); have n3_ := Aside0.mk ((by rw [hg]; exact (below_size (by repeat (first | (with_reducible first | exact HB.out | apply below_alloc | apply pw_below_drewN | apply below_drew1) | exact HB.out))) : w.heap.size ≤ gb277)); clear HB; have HB := n0_; have BK277 := n1_; have GW277 := n2_; have GE277 := n3_; clear n0_ n1_ n2_ n3_; clear hb hbox hg) | ((with_reducible refine gate_dst (N := 5) rfl ?_); (try (refine gate_guard (by rfl) ?_; dsimp only)); refine box_event ?hg (N := 5) ?hd (cs := #[.int .i64 a1_0, .int .i64 a1_1, .bool a1_2]) (t := 39) ?hr ?_; (case hd => rfl); (case hg => rfl); (case hr => first | (go_simp; done) | (go_simp; rfl)); intro gb278 hg w8 hbox hb; have n0_ := Aside0.mk (blk_below (g := gb277) (o := .cells #[.int .i64 a0_0, .int .i64 a0_1, .int .i64 a0_2, .int .i64 a0_3, .int .i64 a0_4, .int .i64 a0_5, .int .i64 a0_6, .int .i64 a0_7, .int .i64 a0_8, .int .i64 a0_9, .int .i64 a0_10, .int .i64 a0_11] 37 (0, 0)) (by (with_reducible repeat (first | refine blk_drewN ?_ _ | refine blk_drew ?_ | refine blk_alloc ?_ _)); exact BK277.out) hb); have n1_ := Aside0.mk (below_step (by repeat (first | (with_reducible first | exact HB.out | apply below_alloc | apply pw_below_drewN | apply below_drew1 | refine below_set ?_ GE277.out) | exact HB.out)) hb); have n2_ := Aside0.mk (hbox); have n3_ := Aside0.mk ((by rw [hg]; exact (below_size (by repeat (first | (with_reducible first | exact HB.out | apply below_alloc | apply pw_below_drewN | apply below_drew1 | refine below_set ?_ GE277.out) | exact HB.out))) : w.heap.size ≤ gb278)); have n4_ := Aside0.mk ((by rw [hg]; exact (below_size (by repeat (first | (with_reducible first | exact HB.out | apply below_alloc | apply pw_below_drewN | apply below_drew1 | refine below_set ?_ GE277.out) | exact HB.out))) : w.heap.size ≤ gb278)); have n5_ := Aside0.mk ((by rw [hg]; exact Nat.ne_of_lt (blk_lt (g := gb277) (o := .cells #[.int .i64 a0_0, .int .i64 a0_1, .int .i64 a0_2, .int .i64 a0_3, .int .i64 a0_4, .int .i64 a0_5, .int .i64 a0_6, .int .i64 a0_7, .int .i64 a0_8, .int .i64 a0_9, .int .i64 a0_10, .int .i64 a0_11] 37 (0, 0)) (by (with_reducible repeat (first | refine blk_drewN ?_ _ | refine blk_drew ?_ | refine blk_alloc ?_ _)); exact BK277.out)) : gb277 ≠ gb278)); have n6_ := Aside0.mk ((by rw [hg]; exact Nat.ne_of_gt (blk_lt (g := gb277) (o := .cells #[.int .i64 a0_0, .int .i64 a0_1, .int .i64 a0_2, .int .i64 a0_3, .int .i64 a0_4, .int .i64 a0_5, .int .i64 a0_6, .int .i64 a0_7, .int .i64 a0_8, .int .i64 a0_9, .int .i64 a0_10, .int .i64 a0_11] 37 (0, 0)) (by (with_reducible repeat (first | refine blk_drewN ?_ _ | refine blk_drew ?_ | refine blk_alloc ?_ _)); exact BK277.out)) : gb278 ≠ gb277)); clear BK277; clear HB; have BK277 := n0_; have HB := n1_; have BK278 := n2_; have GW278 := n3_; have GE278 := n4_; have NB277_278 := n5_; have NB278_277 := n6_; clear n0_ n1_ n2_ n3_ n4_ n5_ n6_; clear hb hbox hg) | ((with_reducible refine gate_callee (f := 21) rfl ?_); refine goesL_ (some 13) rfl rfl Try.func21 (by kernel_rfl) rfl #[] rfl (by (try simp only [List.map_toArray, List.map_cons, List.map_nil]); first | done | rfl | (simp only [List.length_drop, List.length_take]; rfl)) ?_; (with_reducible refine (governorlaw15_head.calls  t279 _ A5.out).mono ?_); rintro e w9 ⟨rfl, hb⟩; refine ⟨_, rfl, ?_⟩; have n0_ := Aside0.mk (blk_below (g := gb277) (o := .cells #[.int .i64 a0_0, .int .i64 a0_1, .int .i64 a0_2, .int .i64 a0_3, .int .i64 a0_4, .int .i64 a0_5, .int .i64 a0_6, .int .i64 a0_7, .int .i64 a0_8, .int .i64 a0_9, .int .i64 a0_10, .int .i64 a0_11] 37 (0, 0)) (by (with_reducible repeat (first | refine blk_drewN ?_ _ | refine blk_drew ?_ | refine blk_alloc ?_ _)); exact BK277.out) hb); have n1_ := Aside0.mk (blk_below (g := gb278) (o := .cells #[.int .i64 a1_0, .int .i64 a1_1, .bool a1_2] 39 (0, 0)) (by (with_reducible repeat (first | refine blk_drewN ?_ _ | refine blk_drew ?_ | refine blk_alloc ?_ _)); exact BK278.out) hb); have n2_ := Aside0.mk (below_step (by repeat (first | (with_reducible first | exact HB.out | apply below_alloc | apply pw_below_drewN | apply below_drew1 | refine below_set ?_ GE277.out | refine below_set ?_ GE278.out) | exact HB.out)) hb); clear BK277; clear BK278; clear HB; have BK277 := n0_; have BK278 := n1_; have HB := n2_; clear n0_ n1_ n2_; (try clear hb); (try clear hb2); (try clear hk); (try clear hi)))
  (try simp only [Act.put, List.setIfInBounds_toArray, List.set_cons_zero, List.set_cons_succ])
  go_cut [27] (fun v27 wc => ∃ (kq : Nat) (x27_5 : Bool), v27 = .bool x27_5 ∧ Aside0 (governorlaw15_LimitBounds.j0 kq l2 a3 t279 x27_5 a0_0 a0_1 a0_2 a0_3 a0_4 a0_5 a0_6 a0_7 a0_8 a0_9 a0_10 a0_11 a1_0 a1_1 a1_2 = some r) ∧ Aside0 (kq ≤ k) ∧ Aside0 (wc.heap[gb277]? = some (.cells #[.int .i64 a0_0, .int .i64 a0_1, .int .i64 a0_2, .int .i64 a0_3, .int .i64 a0_4, .int .i64 a0_5, .int .i64 a0_6, .int .i64 a0_7, .int .i64 a0_8, .int .i64 a0_9, .int .i64 a0_10, .int .i64 a0_11] 37 (0, 0))) ∧ Aside0 (wc.heap[gb278]? = some (.cells #[.int .i64 a1_0, .int .i64 a1_1, .bool a1_2] 39 (0, 0))) ∧ Aside0 (Below w.heap.size w wc))
  case first =>
    have H := HC6.out
    clear HC6
    replace H := Option.bind_eq_some_iff.mp H
    obtain ⟨t280, A100, H⟩ := H
    replace H : (if t280 = true then ((governorlaw15_time.f a1_1).bind fun t281 => (if t281 = true then (governorlaw15_LimitBounds.j0 k l2 a3 t279 (decide ((l2.length : Int) > 300)) a0_0 a0_1 a0_2 a0_3 a0_4 a0_5 a0_6 a0_7 a0_8 a0_9 a0_10 a0_11 a1_0 a1_1 a1_2) else (governorlaw15_LimitBounds.j0 k l2 a3 t279 true a0_0 a0_1 a0_2 a0_3 a0_4 a0_5 a0_6 a0_7 a0_8 a0_9 a0_10 a0_11 a1_0 a1_1 a1_2))) else (governorlaw15_LimitBounds.j0 k l2 a3 t279 true a0_0 a0_1 a0_2 a0_3 a0_4 a0_5 a0_6 a0_7 a0_8 a0_9 a0_10 a0_11 a1_0 a1_1 a1_2)) = some r := H
    have A10 := Aside0.mk A100
    clear A100
    by_cases c11 : t280 = true
    · subst c11
      have H1 : ((governorlaw15_time.f a1_1).bind fun t281 => (if t281 = true then (governorlaw15_LimitBounds.j0 k l2 a3 t279 (decide ((l2.length : Int) > 300)) a0_0 a0_1 a0_2 a0_3 a0_4 a0_5 a0_6 a0_7 a0_8 a0_9 a0_10 a0_11 a1_0 a1_1 a1_2) else (governorlaw15_LimitBounds.j0 k l2 a3 t279 true a0_0 a0_1 a0_2 a0_3 a0_4 a0_5 a0_6 a0_7 a0_8 a0_9 a0_10 a0_11 a1_0 a1_1 a1_2))) = some r := by rw [if_pos rfl] at H; exact H
      clear H
      have H := H1
      clear H1
      replace H := Option.bind_eq_some_iff.mp H
      obtain ⟨t281, A120, H⟩ := H
      replace H : (if t281 = true then (governorlaw15_LimitBounds.j0 k l2 a3 t279 (decide ((l2.length : Int) > 300)) a0_0 a0_1 a0_2 a0_3 a0_4 a0_5 a0_6 a0_7 a0_8 a0_9 a0_10 a0_11 a1_0 a1_1 a1_2) else (governorlaw15_LimitBounds.j0 k l2 a3 t279 true a0_0 a0_1 a0_2 a0_3 a0_4 a0_5 a0_6 a0_7 a0_8 a0_9 a0_10 a0_11 a1_0 a1_1 a1_2)) = some r := H
      have A12 := Aside0.mk A120
      clear A120
      by_cases c13 : t281 = true
      · subst c13
        have H1 : (governorlaw15_LimitBounds.j0 k l2 a3 t279 (decide ((l2.length : Int) > 300)) a0_0 a0_1 a0_2 a0_3 a0_4 a0_5 a0_6 a0_7 a0_8 a0_9 a0_10 a0_11 a1_0 a1_1 a1_2) = some r := by rw [if_pos rfl] at H; exact H
        clear H
        have H := H1
        clear H1
        have H' := Aside0.mk H
        clear H
        have hnb14 := NB277_278.out
        have hnc14 := NB278_277.out
        have hcz15_0 : w9.cell? ⟨gb277, 0, none⟩ = some (.int .i64 a0_0) := (blk_cell BK277.out 0).trans rfl
        have hcz15_1 : w9.cell? ⟨gb277, 1, none⟩ = some (.int .i64 a0_1) := (blk_cell BK277.out 1).trans rfl
        have hcz15_2 : w9.cell? ⟨gb277, 2, none⟩ = some (.int .i64 a0_2) := (blk_cell BK277.out 2).trans rfl
        have hcz15_3 : w9.cell? ⟨gb277, 3, none⟩ = some (.int .i64 a0_3) := (blk_cell BK277.out 3).trans rfl
        have hcz15_4 : w9.cell? ⟨gb277, 4, none⟩ = some (.int .i64 a0_4) := (blk_cell BK277.out 4).trans rfl
        have hcz15_5 : w9.cell? ⟨gb277, 5, none⟩ = some (.int .i64 a0_5) := (blk_cell BK277.out 5).trans rfl
        have hcz15_6 : w9.cell? ⟨gb277, 6, none⟩ = some (.int .i64 a0_6) := (blk_cell BK277.out 6).trans rfl
        have hcz15_7 : w9.cell? ⟨gb277, 7, none⟩ = some (.int .i64 a0_7) := (blk_cell BK277.out 7).trans rfl
        have hcz15_8 : w9.cell? ⟨gb277, 8, none⟩ = some (.int .i64 a0_8) := (blk_cell BK277.out 8).trans rfl
        have hcz15_9 : w9.cell? ⟨gb277, 9, none⟩ = some (.int .i64 a0_9) := (blk_cell BK277.out 9).trans rfl
        have hcz15_10 : w9.cell? ⟨gb277, 10, none⟩ = some (.int .i64 a0_10) := (blk_cell BK277.out 10).trans rfl
        have hcz15_11 : w9.cell? ⟨gb277, 11, none⟩ = some (.int .i64 a0_11) := (blk_cell BK277.out 11).trans rfl
        have hfz15_0 := blk_frozen BK277.out 0
        have hfz15_1 := blk_frozen BK277.out 1
        have hfz15_2 := blk_frozen BK277.out 2
        have hfz15_3 := blk_frozen BK277.out 3
        have hfz15_4 := blk_frozen BK277.out 4
        have hfz15_5 := blk_frozen BK277.out 5
        have hfz15_6 := blk_frozen BK277.out 6
        have hfz15_7 := blk_frozen BK277.out 7
        have hfz15_8 := blk_frozen BK277.out 8
        have hfz15_9 := blk_frozen BK277.out 9
        have hfz15_10 := blk_frozen BK277.out 10
        have hfz15_11 := blk_frozen BK277.out 11
        go_wp2_with (first | ((with_reducible refine gate_callee (f := 22) rfl ?_); refine goesL_ (some 15) rfl rfl Try.func22 (by kernel_rfl) rfl #[.agg #[.int .i64 a0_0, .int .i64 a0_1, .int .i64 a0_2, .int .i64 a0_3, .int .i64 a0_4, .int .i64 a0_5, .int .i64 a0_6, .int .i64 a0_7, .int .i64 a0_8, .int .i64 a0_9, .int .i64 a0_10, .int .i64 a0_11]] rfl (by (try simp only [List.map_toArray, List.map_cons, List.map_nil]); first | done | rfl | (simp only [List.length_drop, List.length_take]; rfl)) ?_; (with_reducible refine (governorref09_Conf.calls a0_0 a0_1 a0_2 a0_3 a0_4 a0_5 a0_6 a0_7 a0_8 a0_9 a0_10 a0_11 true _ A10.out).mono ?_); rintro e w16 ⟨rfl, hb⟩; refine ⟨_, rfl, ?_⟩; have n0_ := Aside0.mk (blk_below (g := gb277) (o := .cells #[.int .i64 a0_0, .int .i64 a0_1, .int .i64 a0_2, .int .i64 a0_3, .int .i64 a0_4, .int .i64 a0_5, .int .i64 a0_6, .int .i64 a0_7, .int .i64 a0_8, .int .i64 a0_9, .int .i64 a0_10, .int .i64 a0_11] 37 (0, 0)) (by (with_reducible repeat (first | refine blk_drewN ?_ _ | refine blk_drew ?_ | refine blk_alloc ?_ _)); exact BK277.out) hb); have n1_ := Aside0.mk (blk_below (g := gb278) (o := .cells #[.int .i64 a1_0, .int .i64 a1_1, .bool a1_2] 39 (0, 0)) (by (with_reducible repeat (first | refine blk_drewN ?_ _ | refine blk_drew ?_ | refine blk_alloc ?_ _)); exact BK278.out) hb); have n2_ := Aside0.mk (below_step (by repeat (first | (with_reducible first | exact HB.out | apply below_alloc | apply pw_below_drewN | apply below_drew1 | refine below_set ?_ GE277.out | refine below_set ?_ GE278.out) | exact HB.out)) hb); clear BK277; clear BK278; clear HB; have BK277 := n0_; have BK278 := n1_; have HB := n2_; clear n0_ n1_ n2_; (try clear hb); (try clear hb2); (try clear hk); (try clear hi); have hcz17_0 : w16.cell? ⟨gb278, 0, none⟩ = some (.int .i64 a1_0) := (blk_cell BK278.out 0).trans rfl; have hcz17_1 : w16.cell? ⟨gb278, 1, none⟩ = some (.int .i64 a1_1) := (blk_cell BK278.out 1).trans rfl; have hcz17_2 : w16.cell? ⟨gb278, 2, none⟩ = some (.bool a1_2) := (blk_cell BK278.out 2).trans rfl; have hfz17_0 := blk_frozen BK278.out 0; have hfz17_1 := blk_frozen BK278.out 1; have hfz17_2 := blk_frozen BK278.out 2) | (go_at_call 23; (with_reducible refine (governorlaw15_time.calls a1_1 true _ A12.out).mono ?_); rintro e w' ⟨rfl, ⟨nd, rfl⟩⟩))
        go_meet
        case rel => exact ⟨_, (decide ((l2.length : Int) > 300)), (by first | rfl | (simp; done) | (simp [*]; done)), H', ⟨by first | omega | exact Nat.le_refl _⟩, ⟨by (with_reducible repeat (first | refine blk_drewN ?_ _ | refine blk_drew ?_ | refine blk_alloc ?_ _)); exact BK277.out⟩, ⟨by (with_reducible repeat (first | refine blk_drewN ?_ _ | refine blk_drew ?_ | refine blk_alloc ?_ _)); exact BK278.out⟩, ⟨by repeat (first | (with_reducible first | exact HB.out | apply below_alloc | apply pw_below_drewN | apply below_drew1 | refine below_set ?_ GE277.out | refine below_set ?_ GE278.out) | exact HB.out)⟩⟩
      · replace c13 := Bool.eq_false_iff.mpr c13
        subst c13
        have H1 : (governorlaw15_LimitBounds.j0 k l2 a3 t279 true a0_0 a0_1 a0_2 a0_3 a0_4 a0_5 a0_6 a0_7 a0_8 a0_9 a0_10 a0_11 a1_0 a1_1 a1_2) = some r := by rw [if_neg (show ¬ (false = true) by decide)] at H; exact H
        clear H
        have H := H1
        clear H1
        have H' := Aside0.mk H
        clear H
        have hnb18 := NB277_278.out
        have hnc18 := NB278_277.out
        have hcz19_0 : w9.cell? ⟨gb277, 0, none⟩ = some (.int .i64 a0_0) := (blk_cell BK277.out 0).trans rfl
        have hcz19_1 : w9.cell? ⟨gb277, 1, none⟩ = some (.int .i64 a0_1) := (blk_cell BK277.out 1).trans rfl
        have hcz19_2 : w9.cell? ⟨gb277, 2, none⟩ = some (.int .i64 a0_2) := (blk_cell BK277.out 2).trans rfl
        have hcz19_3 : w9.cell? ⟨gb277, 3, none⟩ = some (.int .i64 a0_3) := (blk_cell BK277.out 3).trans rfl
        have hcz19_4 : w9.cell? ⟨gb277, 4, none⟩ = some (.int .i64 a0_4) := (blk_cell BK277.out 4).trans rfl
        have hcz19_5 : w9.cell? ⟨gb277, 5, none⟩ = some (.int .i64 a0_5) := (blk_cell BK277.out 5).trans rfl
        have hcz19_6 : w9.cell? ⟨gb277, 6, none⟩ = some (.int .i64 a0_6) := (blk_cell BK277.out 6).trans rfl
        have hcz19_7 : w9.cell? ⟨gb277, 7, none⟩ = some (.int .i64 a0_7) := (blk_cell BK277.out 7).trans rfl
        have hcz19_8 : w9.cell? ⟨gb277, 8, none⟩ = some (.int .i64 a0_8) := (blk_cell BK277.out 8).trans rfl
        have hcz19_9 : w9.cell? ⟨gb277, 9, none⟩ = some (.int .i64 a0_9) := (blk_cell BK277.out 9).trans rfl
        have hcz19_10 : w9.cell? ⟨gb277, 10, none⟩ = some (.int .i64 a0_10) := (blk_cell BK277.out 10).trans rfl
        have hcz19_11 : w9.cell? ⟨gb277, 11, none⟩ = some (.int .i64 a0_11) := (blk_cell BK277.out 11).trans rfl
        have hfz19_0 := blk_frozen BK277.out 0
        have hfz19_1 := blk_frozen BK277.out 1
        have hfz19_2 := blk_frozen BK277.out 2
        have hfz19_3 := blk_frozen BK277.out 3
        have hfz19_4 := blk_frozen BK277.out 4
        have hfz19_5 := blk_frozen BK277.out 5
        have hfz19_6 := blk_frozen BK277.out 6
        have hfz19_7 := blk_frozen BK277.out 7
        have hfz19_8 := blk_frozen BK277.out 8
        have hfz19_9 := blk_frozen BK277.out 9
        have hfz19_10 := blk_frozen BK277.out 10
        have hfz19_11 := blk_frozen BK277.out 11
        go_wp2_with (first | ((with_reducible refine gate_callee (f := 22) rfl ?_); refine goesL_ (some 15) rfl rfl Try.func22 (by kernel_rfl) rfl #[.agg #[.int .i64 a0_0, .int .i64 a0_1, .int .i64 a0_2, .int .i64 a0_3, .int .i64 a0_4, .int .i64 a0_5, .int .i64 a0_6, .int .i64 a0_7, .int .i64 a0_8, .int .i64 a0_9, .int .i64 a0_10, .int .i64 a0_11]] rfl (by (try simp only [List.map_toArray, List.map_cons, List.map_nil]); first | done | rfl | (simp only [List.length_drop, List.length_take]; rfl)) ?_; (with_reducible refine (governorref09_Conf.calls a0_0 a0_1 a0_2 a0_3 a0_4 a0_5 a0_6 a0_7 a0_8 a0_9 a0_10 a0_11 true _ A10.out).mono ?_); rintro e w20 ⟨rfl, hb⟩; refine ⟨_, rfl, ?_⟩; have n0_ := Aside0.mk (blk_below (g := gb277) (o := .cells #[.int .i64 a0_0, .int .i64 a0_1, .int .i64 a0_2, .int .i64 a0_3, .int .i64 a0_4, .int .i64 a0_5, .int .i64 a0_6, .int .i64 a0_7, .int .i64 a0_8, .int .i64 a0_9, .int .i64 a0_10, .int .i64 a0_11] 37 (0, 0)) (by (with_reducible repeat (first | refine blk_drewN ?_ _ | refine blk_drew ?_ | refine blk_alloc ?_ _)); exact BK277.out) hb); have n1_ := Aside0.mk (blk_below (g := gb278) (o := .cells #[.int .i64 a1_0, .int .i64 a1_1, .bool a1_2] 39 (0, 0)) (by (with_reducible repeat (first | refine blk_drewN ?_ _ | refine blk_drew ?_ | refine blk_alloc ?_ _)); exact BK278.out) hb); have n2_ := Aside0.mk (below_step (by repeat (first | (with_reducible first | exact HB.out | apply below_alloc | apply pw_below_drewN | apply below_drew1 | refine below_set ?_ GE277.out | refine below_set ?_ GE278.out) | exact HB.out)) hb); clear BK277; clear BK278; clear HB; have BK277 := n0_; have BK278 := n1_; have HB := n2_; clear n0_ n1_ n2_; (try clear hb); (try clear hb2); (try clear hk); (try clear hi); have hcz21_0 : w20.cell? ⟨gb278, 0, none⟩ = some (.int .i64 a1_0) := (blk_cell BK278.out 0).trans rfl; have hcz21_1 : w20.cell? ⟨gb278, 1, none⟩ = some (.int .i64 a1_1) := (blk_cell BK278.out 1).trans rfl; have hcz21_2 : w20.cell? ⟨gb278, 2, none⟩ = some (.bool a1_2) := (blk_cell BK278.out 2).trans rfl; have hfz21_0 := blk_frozen BK278.out 0; have hfz21_1 := blk_frozen BK278.out 1; have hfz21_2 := blk_frozen BK278.out 2) | (go_at_call 23; (with_reducible refine (governorlaw15_time.calls a1_1 false _ A12.out).mono ?_); rintro e w' ⟨rfl, ⟨nd, rfl⟩⟩))
        go_meet
        case rel => exact ⟨_, (true), (by first | rfl | (simp; done) | (simp [*]; done)), H', ⟨by first | omega | exact Nat.le_refl _⟩, ⟨by (with_reducible repeat (first | refine blk_drewN ?_ _ | refine blk_drew ?_ | refine blk_alloc ?_ _)); exact BK277.out⟩, ⟨by (with_reducible repeat (first | refine blk_drewN ?_ _ | refine blk_drew ?_ | refine blk_alloc ?_ _)); exact BK278.out⟩, ⟨by repeat (first | (with_reducible first | exact HB.out | apply below_alloc | apply pw_below_drewN | apply below_drew1 | refine below_set ?_ GE277.out | refine below_set ?_ GE278.out) | exact HB.out)⟩⟩
    · replace c11 := Bool.eq_false_iff.mpr c11
      subst c11
      have H1 : (governorlaw15_LimitBounds.j0 k l2 a3 t279 true a0_0 a0_1 a0_2 a0_3 a0_4 a0_5 a0_6 a0_7 a0_8 a0_9 a0_10 a0_11 a1_0 a1_1 a1_2) = some r := by rw [if_neg (show ¬ (false = true) by decide)] at H; exact H
      clear H
      have H := H1
      clear H1
      have H' := Aside0.mk H
      clear H
      have hnb22 := NB277_278.out
      have hnc22 := NB278_277.out
      have hcz23_0 : w9.cell? ⟨gb277, 0, none⟩ = some (.int .i64 a0_0) := (blk_cell BK277.out 0).trans rfl
      have hcz23_1 : w9.cell? ⟨gb277, 1, none⟩ = some (.int .i64 a0_1) := (blk_cell BK277.out 1).trans rfl
      have hcz23_2 : w9.cell? ⟨gb277, 2, none⟩ = some (.int .i64 a0_2) := (blk_cell BK277.out 2).trans rfl
      have hcz23_3 : w9.cell? ⟨gb277, 3, none⟩ = some (.int .i64 a0_3) := (blk_cell BK277.out 3).trans rfl
      have hcz23_4 : w9.cell? ⟨gb277, 4, none⟩ = some (.int .i64 a0_4) := (blk_cell BK277.out 4).trans rfl
      have hcz23_5 : w9.cell? ⟨gb277, 5, none⟩ = some (.int .i64 a0_5) := (blk_cell BK277.out 5).trans rfl
      have hcz23_6 : w9.cell? ⟨gb277, 6, none⟩ = some (.int .i64 a0_6) := (blk_cell BK277.out 6).trans rfl
      have hcz23_7 : w9.cell? ⟨gb277, 7, none⟩ = some (.int .i64 a0_7) := (blk_cell BK277.out 7).trans rfl
      have hcz23_8 : w9.cell? ⟨gb277, 8, none⟩ = some (.int .i64 a0_8) := (blk_cell BK277.out 8).trans rfl
      have hcz23_9 : w9.cell? ⟨gb277, 9, none⟩ = some (.int .i64 a0_9) := (blk_cell BK277.out 9).trans rfl
      have hcz23_10 : w9.cell? ⟨gb277, 10, none⟩ = some (.int .i64 a0_10) := (blk_cell BK277.out 10).trans rfl
      have hcz23_11 : w9.cell? ⟨gb277, 11, none⟩ = some (.int .i64 a0_11) := (blk_cell BK277.out 11).trans rfl
      have hfz23_0 := blk_frozen BK277.out 0
      have hfz23_1 := blk_frozen BK277.out 1
      have hfz23_2 := blk_frozen BK277.out 2
      have hfz23_3 := blk_frozen BK277.out 3
      have hfz23_4 := blk_frozen BK277.out 4
      have hfz23_5 := blk_frozen BK277.out 5
      have hfz23_6 := blk_frozen BK277.out 6
      have hfz23_7 := blk_frozen BK277.out 7
      have hfz23_8 := blk_frozen BK277.out 8
      have hfz23_9 := blk_frozen BK277.out 9
      have hfz23_10 := blk_frozen BK277.out 10
      have hfz23_11 := blk_frozen BK277.out 11
      go_wp2_with (first | ((with_reducible refine gate_callee (f := 22) rfl ?_); refine goesL_ (some 15) rfl rfl Try.func22 (by kernel_rfl) rfl #[.agg #[.int .i64 a0_0, .int .i64 a0_1, .int .i64 a0_2, .int .i64 a0_3, .int .i64 a0_4, .int .i64 a0_5, .int .i64 a0_6, .int .i64 a0_7, .int .i64 a0_8, .int .i64 a0_9, .int .i64 a0_10, .int .i64 a0_11]] rfl (by (try simp only [List.map_toArray, List.map_cons, List.map_nil]); first | done | rfl | (simp only [List.length_drop, List.length_take]; rfl)) ?_; (with_reducible refine (governorref09_Conf.calls a0_0 a0_1 a0_2 a0_3 a0_4 a0_5 a0_6 a0_7 a0_8 a0_9 a0_10 a0_11 false _ A10.out).mono ?_); rintro e w24 ⟨rfl, hb⟩; refine ⟨_, rfl, ?_⟩; have n0_ := Aside0.mk (blk_below (g := gb277) (o := .cells #[.int .i64 a0_0, .int .i64 a0_1, .int .i64 a0_2, .int .i64 a0_3, .int .i64 a0_4, .int .i64 a0_5, .int .i64 a0_6, .int .i64 a0_7, .int .i64 a0_8, .int .i64 a0_9, .int .i64 a0_10, .int .i64 a0_11] 37 (0, 0)) (by (with_reducible repeat (first | refine blk_drewN ?_ _ | refine blk_drew ?_ | refine blk_alloc ?_ _)); exact BK277.out) hb); have n1_ := Aside0.mk (blk_below (g := gb278) (o := .cells #[.int .i64 a1_0, .int .i64 a1_1, .bool a1_2] 39 (0, 0)) (by (with_reducible repeat (first | refine blk_drewN ?_ _ | refine blk_drew ?_ | refine blk_alloc ?_ _)); exact BK278.out) hb); have n2_ := Aside0.mk (below_step (by repeat (first | (with_reducible first | exact HB.out | apply below_alloc | apply pw_below_drewN | apply below_drew1 | refine below_set ?_ GE277.out | refine below_set ?_ GE278.out) | exact HB.out)) hb); clear BK277; clear BK278; clear HB; have BK277 := n0_; have BK278 := n1_; have HB := n2_; clear n0_ n1_ n2_; (try clear hb); (try clear hb2); (try clear hk); (try clear hi)))
      go_meet
      case rel => exact ⟨_, (true), (by first | rfl | (simp; done) | (simp [*]; done)), H', ⟨by first | omega | exact Nat.le_refl _⟩, ⟨by (with_reducible repeat (first | refine blk_drewN ?_ _ | refine blk_drew ?_ | refine blk_alloc ?_ _)); exact BK277.out⟩, ⟨by (with_reducible repeat (first | refine blk_drewN ?_ _ | refine blk_drew ?_ | refine blk_alloc ?_ _)); exact BK278.out⟩, ⟨by repeat (first | (with_reducible first | exact HB.out | apply below_alloc | apply pw_below_drewN | apply below_drew1 | refine below_set ?_ GE277.out | refine below_set ?_ GE278.out) | exact HB.out)⟩⟩
  case rest =>
    clear HC6
    try clear c1
    try clear c2
    try clear p2
    try clear c10
    try clear c11
    try clear c13
    try clear c14
    try clear c18
    try clear c21
    try clear c22
    try clear hcz15_0
    try clear hcz15_1
    try clear hcz15_10
    try clear hcz15_11
    try clear hcz15_2
    try clear hcz15_3
    try clear hcz15_4
    try clear hcz15_5
    try clear hcz15_6
    try clear hcz15_7
    try clear hcz15_8
    try clear hcz15_9
    try clear hcz17_0
    try clear hcz17_1
    try clear hcz17_2
    try clear hcz19_0
    try clear hcz19_1
    try clear hcz19_10
    try clear hcz19_11
    try clear hcz19_2
    try clear hcz19_3
    try clear hcz19_4
    try clear hcz19_5
    try clear hcz19_6
    try clear hcz19_7
    try clear hcz19_8
    try clear hcz19_9
    try clear hcz21_0
    try clear hcz21_1
    try clear hcz21_2
    try clear hcz23_0
    try clear hcz23_1
    try clear hcz23_10
    try clear hcz23_11
    try clear hcz23_2
    try clear hcz23_3
    try clear hcz23_4
    try clear hcz23_5
    try clear hcz23_6
    try clear hcz23_7
    try clear hcz23_8
    try clear hcz23_9
    try clear hfz15_0
    try clear hfz15_1
    try clear hfz15_10
    try clear hfz15_11
    try clear hfz15_2
    try clear hfz15_3
    try clear hfz15_4
    try clear hfz15_5
    try clear hfz15_6
    try clear hfz15_7
    try clear hfz15_8
    try clear hfz15_9
    try clear hfz17_0
    try clear hfz17_1
    try clear hfz17_2
    try clear hfz19_0
    try clear hfz19_1
    try clear hfz19_10
    try clear hfz19_11
    try clear hfz19_2
    try clear hfz19_3
    try clear hfz19_4
    try clear hfz19_5
    try clear hfz19_6
    try clear hfz19_7
    try clear hfz19_8
    try clear hfz19_9
    try clear hfz21_0
    try clear hfz21_1
    try clear hfz21_2
    try clear hfz23_0
    try clear hfz23_1
    try clear hfz23_10
    try clear hfz23_11
    try clear hfz23_2
    try clear hfz23_3
    try clear hfz23_4
    try clear hfz23_5
    try clear hfz23_6
    try clear hfz23_7
    try clear hfz23_8
    try clear hfz23_9
    obtain ⟨kq, x27_5, rfl, HA, HJ5, BK277, BK278, HB⟩ := hcut
    cases kq with
    | zero => exact absurd HA.out (by simp [governorlaw15_LimitBounds.j0])
    | succ kj5 =>
      have H := HA.out
      clear HA
      simp only [governorlaw15_LimitBounds.j0] at H
      by_cases c25 : x27_5 = true
      · subst c25
        have H1 : (some t279) = some r := by rw [if_pos rfl] at H; exact H
        clear H
        have H := H1
        clear H1
        obtain rfl := Option.some.inj H
        go_wp2
        go_ret
        exact ⟨by first | rfl | (simp [errW_none, errW_some] <;> rfl) | (simp [*, errW_none, errW_some] <;> rfl), by repeat (first | (with_reducible first | exact HB.out | apply below_alloc | apply pw_below_drewN | apply below_drew1 | refine below_set ?_ GE277.out | refine below_set ?_ GE278.out) | exact HB.out)⟩
      · replace c25 := Bool.eq_false_iff.mpr c25
        subst c25
        have H1 : ((limit_Into.f a0_0 a0_1 a0_2 a0_3 a0_4 a0_5 a0_6 a0_7 a0_8 a0_9 a0_10 a0_11 a1_0 a1_1 a1_2).bind fun bt282 => (if bt282.1 < a0_0 then (governorlaw15_LimitBounds.j1 kj5 l2 a3 t279 true a0_0 a0_1 a0_2 a0_3 a0_4 a0_5 a0_6 a0_7 a0_8 a0_9 a0_10 a0_11 bt282.1 bt282.2.1 bt282.2.2) else (if bt282.1 > a0_1 then (governorlaw15_LimitBounds.j1 kj5 l2 a3 t279 true a0_0 a0_1 a0_2 a0_3 a0_4 a0_5 a0_6 a0_7 a0_8 a0_9 a0_10 a0_11 bt282.1 bt282.2.1 bt282.2.2) else (if bt282.2.1 = a1_1 then (if (bt282.2.2 != a1_2) = true then (governorlaw15_LimitBounds.j1 kj5 l2 a3 t279 true a0_0 a0_1 a0_2 a0_3 a0_4 a0_5 a0_6 a0_7 a0_8 a0_9 a0_10 a0_11 bt282.1 bt282.2.1 bt282.2.2) else (if a1_0 ≥ a0_0 then (if a1_0 ≤ a0_1 then (governorlaw15_LimitBounds.j1 kj5 l2 a3 t279 (!(bt282.1 == a1_0) || (!(bt282.2.1 == a1_1) || (!(bt282.2.2 == a1_2)))) a0_0 a0_1 a0_2 a0_3 a0_4 a0_5 a0_6 a0_7 a0_8 a0_9 a0_10 a0_11 bt282.1 bt282.2.1 bt282.2.2) else (governorlaw15_LimitBounds.j1 kj5 l2 a3 t279 false a0_0 a0_1 a0_2 a0_3 a0_4 a0_5 a0_6 a0_7 a0_8 a0_9 a0_10 a0_11 bt282.1 bt282.2.1 bt282.2.2)) else (governorlaw15_LimitBounds.j1 kj5 l2 a3 t279 false a0_0 a0_1 a0_2 a0_3 a0_4 a0_5 a0_6 a0_7 a0_8 a0_9 a0_10 a0_11 bt282.1 bt282.2.1 bt282.2.2))) else (governorlaw15_LimitBounds.j1 kj5 l2 a3 t279 true a0_0 a0_1 a0_2 a0_3 a0_4 a0_5 a0_6 a0_7 a0_8 a0_9 a0_10 a0_11 bt282.1 bt282.2.1 bt282.2.2))))) = some r := by rw [if_neg (show ¬ (false = true) by decide)] at H; exact H
        clear H
        have H := H1
        clear H1
        replace H := Option.bind_eq_some_iff.mp H
        obtain ⟨⟨t282, t283, t284⟩, A260, H⟩ := H
        replace H : (if t282 < a0_0 then (governorlaw15_LimitBounds.j1 kj5 l2 a3 t279 true a0_0 a0_1 a0_2 a0_3 a0_4 a0_5 a0_6 a0_7 a0_8 a0_9 a0_10 a0_11 t282 t283 t284) else (if t282 > a0_1 then (governorlaw15_LimitBounds.j1 kj5 l2 a3 t279 true a0_0 a0_1 a0_2 a0_3 a0_4 a0_5 a0_6 a0_7 a0_8 a0_9 a0_10 a0_11 t282 t283 t284) else (if t283 = a1_1 then (if (t284 != a1_2) = true then (governorlaw15_LimitBounds.j1 kj5 l2 a3 t279 true a0_0 a0_1 a0_2 a0_3 a0_4 a0_5 a0_6 a0_7 a0_8 a0_9 a0_10 a0_11 t282 t283 t284) else (if a1_0 ≥ a0_0 then (if a1_0 ≤ a0_1 then (governorlaw15_LimitBounds.j1 kj5 l2 a3 t279 (!(t282 == a1_0) || (!(t283 == a1_1) || (!(t284 == a1_2)))) a0_0 a0_1 a0_2 a0_3 a0_4 a0_5 a0_6 a0_7 a0_8 a0_9 a0_10 a0_11 t282 t283 t284) else (governorlaw15_LimitBounds.j1 kj5 l2 a3 t279 false a0_0 a0_1 a0_2 a0_3 a0_4 a0_5 a0_6 a0_7 a0_8 a0_9 a0_10 a0_11 t282 t283 t284)) else (governorlaw15_LimitBounds.j1 kj5 l2 a3 t279 false a0_0 a0_1 a0_2 a0_3 a0_4 a0_5 a0_6 a0_7 a0_8 a0_9 a0_10 a0_11 t282 t283 t284))) else (governorlaw15_LimitBounds.j1 kj5 l2 a3 t279 true a0_0 a0_1 a0_2 a0_3 a0_4 a0_5 a0_6 a0_7 a0_8 a0_9 a0_10 a0_11 t282 t283 t284)))) = some r := H
        have A26 := Aside0.mk A260
        clear A260
        have HC27 := Aside0.mk H
        clear H
        have hnb28 := NB277_278.out
        have hnc28 := NB278_277.out
        have hcz29_0 : wc.cell? ⟨gb277, 0, none⟩ = some (.int .i64 a0_0) := (blk_cell BK277.out 0).trans rfl
        have hcz29_1 : wc.cell? ⟨gb277, 1, none⟩ = some (.int .i64 a0_1) := (blk_cell BK277.out 1).trans rfl
        have hcz29_2 : wc.cell? ⟨gb277, 2, none⟩ = some (.int .i64 a0_2) := (blk_cell BK277.out 2).trans rfl
        have hcz29_3 : wc.cell? ⟨gb277, 3, none⟩ = some (.int .i64 a0_3) := (blk_cell BK277.out 3).trans rfl
        have hcz29_4 : wc.cell? ⟨gb277, 4, none⟩ = some (.int .i64 a0_4) := (blk_cell BK277.out 4).trans rfl
        have hcz29_5 : wc.cell? ⟨gb277, 5, none⟩ = some (.int .i64 a0_5) := (blk_cell BK277.out 5).trans rfl
        have hcz29_6 : wc.cell? ⟨gb277, 6, none⟩ = some (.int .i64 a0_6) := (blk_cell BK277.out 6).trans rfl
        have hcz29_7 : wc.cell? ⟨gb277, 7, none⟩ = some (.int .i64 a0_7) := (blk_cell BK277.out 7).trans rfl
        have hcz29_8 : wc.cell? ⟨gb277, 8, none⟩ = some (.int .i64 a0_8) := (blk_cell BK277.out 8).trans rfl
        have hcz29_9 : wc.cell? ⟨gb277, 9, none⟩ = some (.int .i64 a0_9) := (blk_cell BK277.out 9).trans rfl
        have hcz29_10 : wc.cell? ⟨gb277, 10, none⟩ = some (.int .i64 a0_10) := (blk_cell BK277.out 10).trans rfl
        have hcz29_11 : wc.cell? ⟨gb277, 11, none⟩ = some (.int .i64 a0_11) := (blk_cell BK277.out 11).trans rfl
        have hfz29_0 := blk_frozen BK277.out 0
        have hfz29_1 := blk_frozen BK277.out 1
        have hfz29_2 := blk_frozen BK277.out 2
        have hfz29_3 := blk_frozen BK277.out 3
        have hfz29_4 := blk_frozen BK277.out 4
        have hfz29_5 := blk_frozen BK277.out 5
        have hfz29_6 := blk_frozen BK277.out 6
        have hfz29_7 := blk_frozen BK277.out 7
        have hfz29_8 := blk_frozen BK277.out 8
        have hfz29_9 := blk_frozen BK277.out 9
        have hfz29_10 := blk_frozen BK277.out 10
        have hfz29_11 := blk_frozen BK277.out 11
        have hcz30_0 : wc.cell? ⟨gb278, 0, none⟩ = some (.int .i64 a1_0) := (blk_cell BK278.out 0).trans rfl
        have hcz30_1 : wc.cell? ⟨gb278, 1, none⟩ = some (.int .i64 a1_1) := (blk_cell BK278.out 1).trans rfl
        have hcz30_2 : wc.cell? ⟨gb278, 2, none⟩ = some (.bool a1_2) := (blk_cell BK278.out 2).trans rfl
        have hfz30_0 := blk_frozen BK278.out 0
        have hfz30_1 := blk_frozen BK278.out 1
        have hfz30_2 := blk_frozen BK278.out 2
        go_upto_region 5 with (first | ((with_reducible refine gate_callee (f := 24) rfl ?_); refine goesL_ (some 31) rfl rfl Try.func24 (by kernel_rfl) rfl #[.agg #[.int .i64 a0_0, .int .i64 a0_1, .int .i64 a0_2, .int .i64 a0_3, .int .i64 a0_4, .int .i64 a0_5, .int .i64 a0_6, .int .i64 a0_7, .int .i64 a0_8, .int .i64 a0_9, .int .i64 a0_10, .int .i64 a0_11], .agg #[.int .i64 a1_0, .int .i64 a1_1, .bool a1_2]] rfl (by (try simp only [List.map_toArray, List.map_cons, List.map_nil]); first | done | rfl | (simp only [List.length_drop, List.length_take]; rfl)) ?_; (with_reducible refine (limit_Into.calls a0_0 a0_1 a0_2 a0_3 a0_4 a0_5 a0_6 a0_7 a0_8 a0_9 a0_10 a0_11 a1_0 a1_1 a1_2 t282 t283 t284 _ A26.out).mono ?_); rintro e w31 ⟨rfl, hb⟩; refine ⟨_, rfl, ?_⟩; have n0_ := Aside0.mk (blk_below (g := gb277) (o := .cells #[.int .i64 a0_0, .int .i64 a0_1, .int .i64 a0_2, .int .i64 a0_3, .int .i64 a0_4, .int .i64 a0_5, .int .i64 a0_6, .int .i64 a0_7, .int .i64 a0_8, .int .i64 a0_9, .int .i64 a0_10, .int .i64 a0_11] 37 (0, 0)) (by (with_reducible repeat (first | refine blk_drewN ?_ _ | refine blk_drew ?_ | refine blk_alloc ?_ _)); exact BK277.out) hb); have n1_ := Aside0.mk (blk_below (g := gb278) (o := .cells #[.int .i64 a1_0, .int .i64 a1_1, .bool a1_2] 39 (0, 0)) (by (with_reducible repeat (first | refine blk_drewN ?_ _ | refine blk_drew ?_ | refine blk_alloc ?_ _)); exact BK278.out) hb); have n2_ := Aside0.mk (below_step (by repeat (first | (with_reducible first | exact HB.out | apply below_alloc | apply pw_below_drewN | apply below_drew1 | refine below_set ?_ GE277.out | refine below_set ?_ GE278.out) | exact HB.out)) hb); clear BK277; clear BK278; clear HB; have BK277 := n0_; have BK278 := n1_; have HB := n2_; clear n0_ n1_ n2_; (try clear hb); (try clear hb2); (try clear hk); (try clear hi)) | ((with_reducible refine gate_dst (N := 10) rfl ?_); (try (refine gate_guard (by rfl) ?_; dsimp only)); refine box_event ?hg (N := 10) ?hd (cs := #[.int .i64 0, .int .i64 0, .bool false]) (t := 39) ?hr ?_; (case hd => rfl); (case hg => rfl); (case hr => first | (go_simp; done) | (go_simp; rfl)); intro gb285 hg w32 hbox hb; have n0_ := Aside0.mk (blk_below (g := gb277) (o := .cells #[.int .i64 a0_0, .int .i64 a0_1, .int .i64 a0_2, .int .i64 a0_3, .int .i64 a0_4, .int .i64 a0_5, .int .i64 a0_6, .int .i64 a0_7, .int .i64 a0_8, .int .i64 a0_9, .int .i64 a0_10, .int .i64 a0_11] 37 (0, 0)) (by (with_reducible repeat (first | refine blk_drewN ?_ _ | refine blk_drew ?_ | refine blk_alloc ?_ _)); exact BK277.out) hb); have n1_ := Aside0.mk (blk_below (g := gb278) (o := .cells #[.int .i64 a1_0, .int .i64 a1_1, .bool a1_2] 39 (0, 0)) (by (with_reducible repeat (first | refine blk_drewN ?_ _ | refine blk_drew ?_ | refine blk_alloc ?_ _)); exact BK278.out) hb); have n2_ := Aside0.mk (below_step (by repeat (first | (with_reducible first | exact HB.out | apply below_alloc | apply pw_below_drewN | apply below_drew1 | refine below_set ?_ GE277.out | refine below_set ?_ GE278.out) | exact HB.out)) hb); have n3_ := Aside0.mk (hbox); have n4_ := Aside0.mk ((by rw [hg]; exact (below_size (by repeat (first | (with_reducible first | exact HB.out | apply below_alloc | apply pw_below_drewN | apply below_drew1 | refine below_set ?_ GE277.out | refine below_set ?_ GE278.out) | exact HB.out))) : w.heap.size ≤ gb285)); have n5_ := Aside0.mk ((by rw [hg]; exact (below_size (by repeat (first | (with_reducible first | exact HB.out | apply below_alloc | apply pw_below_drewN | apply below_drew1 | refine below_set ?_ GE277.out | refine below_set ?_ GE278.out) | exact HB.out))) : w.heap.size ≤ gb285)); have n6_ := Aside0.mk ((by rw [hg]; exact Nat.ne_of_lt (blk_lt (g := gb277) (o := .cells #[.int .i64 a0_0, .int .i64 a0_1, .int .i64 a0_2, .int .i64 a0_3, .int .i64 a0_4, .int .i64 a0_5, .int .i64 a0_6, .int .i64 a0_7, .int .i64 a0_8, .int .i64 a0_9, .int .i64 a0_10, .int .i64 a0_11] 37 (0, 0)) (by (with_reducible repeat (first | refine blk_drewN ?_ _ | refine blk_drew ?_ | refine blk_alloc ?_ _)); exact BK277.out)) : gb277 ≠ gb285)); have n7_ := Aside0.mk ((by rw [hg]; exact Nat.ne_of_gt (blk_lt (g := gb277) (o := .cells #[.int .i64 a0_0, .int .i64 a0_1, .int .i64 a0_2, .int .i64 a0_3, .int .i64 a0_4, .int .i64 a0_5, .int .i64 a0_6, .int .i64 a0_7, .int .i64 a0_8, .int .i64 a0_9, .int .i64 a0_10, .int .i64 a0_11] 37 (0, 0)) (by (with_reducible repeat (first | refine blk_drewN ?_ _ | refine blk_drew ?_ | refine blk_alloc ?_ _)); exact BK277.out)) : gb285 ≠ gb277)); have n8_ := Aside0.mk ((by rw [hg]; exact Nat.ne_of_lt (blk_lt (g := gb278) (o := .cells #[.int .i64 a1_0, .int .i64 a1_1, .bool a1_2] 39 (0, 0)) (by (with_reducible repeat (first | refine blk_drewN ?_ _ | refine blk_drew ?_ | refine blk_alloc ?_ _)); exact BK278.out)) : gb278 ≠ gb285)); have n9_ := Aside0.mk ((by rw [hg]; exact Nat.ne_of_gt (blk_lt (g := gb278) (o := .cells #[.int .i64 a1_0, .int .i64 a1_1, .bool a1_2] 39 (0, 0)) (by (with_reducible repeat (first | refine blk_drewN ?_ _ | refine blk_drew ?_ | refine blk_alloc ?_ _)); exact BK278.out)) : gb285 ≠ gb278)); clear BK277; clear BK278; clear HB; have BK277 := n0_; have BK278 := n1_; have HB := n2_; have BK285 := n3_; have GW285 := n4_; have GE285 := n5_; have NB277_285 := n6_; have NB285_277 := n7_; have NB278_285 := n8_; have NB285_278 := n9_; clear n0_ n1_ n2_ n3_ n4_ n5_ n6_ n7_ n8_ n9_; clear hb hbox hg; have hnb33 := NB285_277.out; have hnc33 := NB277_285.out; have hnb34 := NB285_278.out; have hnc34 := NB278_285.out; have hcz35_0 : w32.cell? ⟨gb285, 0, none⟩ = some (.int .i64 0) := (blk_cell BK285.out 0).trans rfl; have hcz35_1 : w32.cell? ⟨gb285, 1, none⟩ = some (.int .i64 0) := (blk_cell BK285.out 1).trans rfl; have hcz35_2 : w32.cell? ⟨gb285, 2, none⟩ = some (.bool false) := (blk_cell BK285.out 2).trans rfl; have hfz35_0 := blk_frozen BK285.out 0; have hfz35_1 := blk_frozen BK285.out 1; have hfz35_2 := blk_frozen BK285.out 2))
        (try simp only [Act.put, List.setIfInBounds_toArray, List.set_cons_zero, List.set_cons_succ])
        go_cut [76] (fun v76 wc => ∃ (kq : Nat) (x76_26 : Bool), v76 = .bool x76_26 ∧ Aside0 (governorlaw15_LimitBounds.j1 kq l2 a3 t279 x76_26 a0_0 a0_1 a0_2 a0_3 a0_4 a0_5 a0_6 a0_7 a0_8 a0_9 a0_10 a0_11 t282 t283 t284 = some r) ∧ Aside0 (kq ≤ kj5) ∧ Aside0 (wc.heap[gb277]? = some (.cells #[.int .i64 a0_0, .int .i64 a0_1, .int .i64 a0_2, .int .i64 a0_3, .int .i64 a0_4, .int .i64 a0_5, .int .i64 a0_6, .int .i64 a0_7, .int .i64 a0_8, .int .i64 a0_9, .int .i64 a0_10, .int .i64 a0_11] 37 (0, 0))) ∧ Aside0 (wc.heap[gb278]? = some (.cells #[.int .i64 a1_0, .int .i64 a1_1, .bool a1_2] 39 (0, 0))) ∧ Aside0 (wc.heap[gb285]? = some (.cells #[.int .i64 t282, .int .i64 t283, .bool t284] 39 (0, 0))) ∧ Aside0 (Below w.heap.size w wc))
        case first =>
          have H := HC27.out
          clear HC27
          by_cases c36 : t282 < a0_0
          · rw [if_pos c36] at H
            have c36b0 : decide (t282 < a0_0) = true := decide_eq_true c36
            clear c36
            (first | rw [c36b0] | (simp only [i64_w, i32_w]; rw [c36b0]) | skip)
            have H' := Aside0.mk H
            clear H
            have hnb37 := NB285_277.out
            have hnc37 := NB277_285.out
            have hnb38 := NB285_278.out
            have hnc38 := NB278_285.out
            have hcz39_0 : w32.cell? ⟨gb285, 0, none⟩ = some (.int .i64 0) := (blk_cell BK285.out 0).trans rfl
            have hcz39_1 : w32.cell? ⟨gb285, 1, none⟩ = some (.int .i64 0) := (blk_cell BK285.out 1).trans rfl
            have hcz39_2 : w32.cell? ⟨gb285, 2, none⟩ = some (.bool false) := (blk_cell BK285.out 2).trans rfl
            have hfz39_0 := blk_frozen BK285.out 0
            have hfz39_1 := blk_frozen BK285.out 1
            have hfz39_2 := blk_frozen BK285.out 2
            have hnb40 := NB277_278.out
            have hnc40 := NB278_277.out
            have hcz41_0 : w32.cell? ⟨gb277, 0, none⟩ = some (.int .i64 a0_0) := (blk_cell BK277.out 0).trans rfl
            have hcz41_1 : w32.cell? ⟨gb277, 1, none⟩ = some (.int .i64 a0_1) := (blk_cell BK277.out 1).trans rfl
            have hcz41_2 : w32.cell? ⟨gb277, 2, none⟩ = some (.int .i64 a0_2) := (blk_cell BK277.out 2).trans rfl
            have hcz41_3 : w32.cell? ⟨gb277, 3, none⟩ = some (.int .i64 a0_3) := (blk_cell BK277.out 3).trans rfl
            have hcz41_4 : w32.cell? ⟨gb277, 4, none⟩ = some (.int .i64 a0_4) := (blk_cell BK277.out 4).trans rfl
            have hcz41_5 : w32.cell? ⟨gb277, 5, none⟩ = some (.int .i64 a0_5) := (blk_cell BK277.out 5).trans rfl
            have hcz41_6 : w32.cell? ⟨gb277, 6, none⟩ = some (.int .i64 a0_6) := (blk_cell BK277.out 6).trans rfl
            have hcz41_7 : w32.cell? ⟨gb277, 7, none⟩ = some (.int .i64 a0_7) := (blk_cell BK277.out 7).trans rfl
            have hcz41_8 : w32.cell? ⟨gb277, 8, none⟩ = some (.int .i64 a0_8) := (blk_cell BK277.out 8).trans rfl
            have hcz41_9 : w32.cell? ⟨gb277, 9, none⟩ = some (.int .i64 a0_9) := (blk_cell BK277.out 9).trans rfl
            have hcz41_10 : w32.cell? ⟨gb277, 10, none⟩ = some (.int .i64 a0_10) := (blk_cell BK277.out 10).trans rfl
            have hcz41_11 : w32.cell? ⟨gb277, 11, none⟩ = some (.int .i64 a0_11) := (blk_cell BK277.out 11).trans rfl
            have hfz41_0 := blk_frozen BK277.out 0
            have hfz41_1 := blk_frozen BK277.out 1
            have hfz41_2 := blk_frozen BK277.out 2
            have hfz41_3 := blk_frozen BK277.out 3
            have hfz41_4 := blk_frozen BK277.out 4
            have hfz41_5 := blk_frozen BK277.out 5
            have hfz41_6 := blk_frozen BK277.out 6
            have hfz41_7 := blk_frozen BK277.out 7
            have hfz41_8 := blk_frozen BK277.out 8
            have hfz41_9 := blk_frozen BK277.out 9
            have hfz41_10 := blk_frozen BK277.out 10
            have hfz41_11 := blk_frozen BK277.out 11
            go_wp2
            go_meet
            case rel => exact ⟨_, (true), (by first | rfl | (simp; done) | (simp [*]; done)), H', ⟨by have := HJ5.out; first | omega | exact Nat.le_refl _⟩, ⟨by (with_reducible repeat (first | refine blk_drewN ?_ _ | refine blk_drew ?_ | refine blk_alloc ?_ _)); refine blk_far ?_ NB277_285.out _; (with_reducible repeat (first | refine blk_drewN ?_ _ | refine blk_drew ?_ | refine blk_alloc ?_ _)); refine blk_far ?_ NB277_285.out _; (with_reducible repeat (first | refine blk_drewN ?_ _ | refine blk_drew ?_ | refine blk_alloc ?_ _)); refine blk_far ?_ NB277_285.out _; (with_reducible repeat (first | refine blk_drewN ?_ _ | refine blk_drew ?_ | refine blk_alloc ?_ _)); exact BK277.out⟩, ⟨by (with_reducible repeat (first | refine blk_drewN ?_ _ | refine blk_drew ?_ | refine blk_alloc ?_ _)); refine blk_far ?_ NB278_285.out _; (with_reducible repeat (first | refine blk_drewN ?_ _ | refine blk_drew ?_ | refine blk_alloc ?_ _)); refine blk_far ?_ NB278_285.out _; (with_reducible repeat (first | refine blk_drewN ?_ _ | refine blk_drew ?_ | refine blk_alloc ?_ _)); refine blk_far ?_ NB278_285.out _; (with_reducible repeat (first | refine blk_drewN ?_ _ | refine blk_drew ?_ | refine blk_alloc ?_ _)); exact BK278.out⟩, ⟨by (with_reducible repeat (first | refine blk_drewN ?_ _ | refine blk_drew ?_ | refine blk_alloc ?_ _)); refine blk_put (cs := #[.int .i64 t282, .int .i64 t283, .bool false]) ?_ 2 _ rfl; (with_reducible repeat (first | refine blk_drewN ?_ _ | refine blk_drew ?_ | refine blk_alloc ?_ _)); refine blk_put (cs := #[.int .i64 t282, .int .i64 0, .bool false]) ?_ 1 _ rfl; (with_reducible repeat (first | refine blk_drewN ?_ _ | refine blk_drew ?_ | refine blk_alloc ?_ _)); refine blk_put (cs := #[.int .i64 0, .int .i64 0, .bool false]) ?_ 0 _ rfl; (with_reducible repeat (first | refine blk_drewN ?_ _ | refine blk_drew ?_ | refine blk_alloc ?_ _)); exact BK285.out⟩, ⟨by repeat (first | (with_reducible first | exact HB.out | apply below_alloc | apply pw_below_drewN | apply below_drew1 | refine below_set ?_ GE277.out | refine below_set ?_ GE278.out | refine below_set ?_ GE285.out) | exact HB.out)⟩⟩
          · rw [if_neg c36] at H
            have c36b0 : decide (t282 < a0_0) = false := decide_eq_false c36
            clear c36
            (first | rw [c36b0] | (simp only [i64_w, i32_w]; rw [c36b0]) | skip)
            by_cases c42 : t282 > a0_1
            · rw [if_pos c42] at H
              have c42b0 : decide (a0_1 < t282) = true := decide_eq_true c42
              clear c42
              have H' := Aside0.mk H
              clear H
              have hnb43 := NB285_277.out
              have hnc43 := NB277_285.out
              have hnb44 := NB285_278.out
              have hnc44 := NB278_285.out
              have hcz45_0 : w32.cell? ⟨gb285, 0, none⟩ = some (.int .i64 0) := (blk_cell BK285.out 0).trans rfl
              have hcz45_1 : w32.cell? ⟨gb285, 1, none⟩ = some (.int .i64 0) := (blk_cell BK285.out 1).trans rfl
              have hcz45_2 : w32.cell? ⟨gb285, 2, none⟩ = some (.bool false) := (blk_cell BK285.out 2).trans rfl
              have hfz45_0 := blk_frozen BK285.out 0
              have hfz45_1 := blk_frozen BK285.out 1
              have hfz45_2 := blk_frozen BK285.out 2
              have hnb46 := NB277_278.out
              have hnc46 := NB278_277.out
              have hcz47_0 : w32.cell? ⟨gb277, 0, none⟩ = some (.int .i64 a0_0) := (blk_cell BK277.out 0).trans rfl
              have hcz47_1 : w32.cell? ⟨gb277, 1, none⟩ = some (.int .i64 a0_1) := (blk_cell BK277.out 1).trans rfl
              have hcz47_2 : w32.cell? ⟨gb277, 2, none⟩ = some (.int .i64 a0_2) := (blk_cell BK277.out 2).trans rfl
              have hcz47_3 : w32.cell? ⟨gb277, 3, none⟩ = some (.int .i64 a0_3) := (blk_cell BK277.out 3).trans rfl
              have hcz47_4 : w32.cell? ⟨gb277, 4, none⟩ = some (.int .i64 a0_4) := (blk_cell BK277.out 4).trans rfl
              have hcz47_5 : w32.cell? ⟨gb277, 5, none⟩ = some (.int .i64 a0_5) := (blk_cell BK277.out 5).trans rfl
              have hcz47_6 : w32.cell? ⟨gb277, 6, none⟩ = some (.int .i64 a0_6) := (blk_cell BK277.out 6).trans rfl
              have hcz47_7 : w32.cell? ⟨gb277, 7, none⟩ = some (.int .i64 a0_7) := (blk_cell BK277.out 7).trans rfl
              have hcz47_8 : w32.cell? ⟨gb277, 8, none⟩ = some (.int .i64 a0_8) := (blk_cell BK277.out 8).trans rfl
              have hcz47_9 : w32.cell? ⟨gb277, 9, none⟩ = some (.int .i64 a0_9) := (blk_cell BK277.out 9).trans rfl
              have hcz47_10 : w32.cell? ⟨gb277, 10, none⟩ = some (.int .i64 a0_10) := (blk_cell BK277.out 10).trans rfl
              have hcz47_11 : w32.cell? ⟨gb277, 11, none⟩ = some (.int .i64 a0_11) := (blk_cell BK277.out 11).trans rfl
              have hfz47_0 := blk_frozen BK277.out 0
              have hfz47_1 := blk_frozen BK277.out 1
              have hfz47_2 := blk_frozen BK277.out 2
              have hfz47_3 := blk_frozen BK277.out 3
              have hfz47_4 := blk_frozen BK277.out 4
              have hfz47_5 := blk_frozen BK277.out 5
              have hfz47_6 := blk_frozen BK277.out 6
              have hfz47_7 := blk_frozen BK277.out 7
              have hfz47_8 := blk_frozen BK277.out 8
              have hfz47_9 := blk_frozen BK277.out 9
              have hfz47_10 := blk_frozen BK277.out 10
              have hfz47_11 := blk_frozen BK277.out 11
              go_wp2
              go_meet
              case rel => exact ⟨_, (true), (by first | rfl | (simp; done) | (simp [*]; done)), H', ⟨by have := HJ5.out; first | omega | exact Nat.le_refl _⟩, ⟨by (with_reducible repeat (first | refine blk_drewN ?_ _ | refine blk_drew ?_ | refine blk_alloc ?_ _)); refine blk_far ?_ NB277_285.out _; (with_reducible repeat (first | refine blk_drewN ?_ _ | refine blk_drew ?_ | refine blk_alloc ?_ _)); refine blk_far ?_ NB277_285.out _; (with_reducible repeat (first | refine blk_drewN ?_ _ | refine blk_drew ?_ | refine blk_alloc ?_ _)); refine blk_far ?_ NB277_285.out _; (with_reducible repeat (first | refine blk_drewN ?_ _ | refine blk_drew ?_ | refine blk_alloc ?_ _)); exact BK277.out⟩, ⟨by (with_reducible repeat (first | refine blk_drewN ?_ _ | refine blk_drew ?_ | refine blk_alloc ?_ _)); refine blk_far ?_ NB278_285.out _; (with_reducible repeat (first | refine blk_drewN ?_ _ | refine blk_drew ?_ | refine blk_alloc ?_ _)); refine blk_far ?_ NB278_285.out _; (with_reducible repeat (first | refine blk_drewN ?_ _ | refine blk_drew ?_ | refine blk_alloc ?_ _)); refine blk_far ?_ NB278_285.out _; (with_reducible repeat (first | refine blk_drewN ?_ _ | refine blk_drew ?_ | refine blk_alloc ?_ _)); exact BK278.out⟩, ⟨by (with_reducible repeat (first | refine blk_drewN ?_ _ | refine blk_drew ?_ | refine blk_alloc ?_ _)); refine blk_put (cs := #[.int .i64 t282, .int .i64 t283, .bool false]) ?_ 2 _ rfl; (with_reducible repeat (first | refine blk_drewN ?_ _ | refine blk_drew ?_ | refine blk_alloc ?_ _)); refine blk_put (cs := #[.int .i64 t282, .int .i64 0, .bool false]) ?_ 1 _ rfl; (with_reducible repeat (first | refine blk_drewN ?_ _ | refine blk_drew ?_ | refine blk_alloc ?_ _)); refine blk_put (cs := #[.int .i64 0, .int .i64 0, .bool false]) ?_ 0 _ rfl; (with_reducible repeat (first | refine blk_drewN ?_ _ | refine blk_drew ?_ | refine blk_alloc ?_ _)); exact BK285.out⟩, ⟨by repeat (first | (with_reducible first | exact HB.out | apply below_alloc | apply pw_below_drewN | apply below_drew1 | refine below_set ?_ GE277.out | refine below_set ?_ GE278.out | refine below_set ?_ GE285.out) | exact HB.out)⟩⟩
            · rw [if_neg c42] at H
              have c42b0 : decide (a0_1 < t282) = false := decide_eq_false c42
              clear c42
              by_cases c48 : t283 = a1_1
              · rw [if_pos c48] at H
                have c48b0 : (t283 == a1_1) = true := beq_iff_eq.mpr c48
                have c48b1 : (t283 != a1_1) = false := bne_eq_false_iff_eq.mpr c48
                clear c48
                by_cases c49 : (t284 != a1_2) = true
                · rw [if_pos c49] at H
                  have c49b0 : (t284 != a1_2) = true := c49
                  (try (have c49b1 : decide (t284 = a1_2) = false := by simpa using c49))
                  (try (have c49b2 : (t284 == a1_2) = false := by simpa using c49))
                  (try (have c49b3 : ¬ (t284 = a1_2) := by simpa using c49))
                  clear c49
                  have H' := Aside0.mk H
                  clear H
                  have hnb50 := NB285_277.out
                  have hnc50 := NB277_285.out
                  have hnb51 := NB285_278.out
                  have hnc51 := NB278_285.out
                  have hcz52_0 : w32.cell? ⟨gb285, 0, none⟩ = some (.int .i64 0) := (blk_cell BK285.out 0).trans rfl
                  have hcz52_1 : w32.cell? ⟨gb285, 1, none⟩ = some (.int .i64 0) := (blk_cell BK285.out 1).trans rfl
                  have hcz52_2 : w32.cell? ⟨gb285, 2, none⟩ = some (.bool false) := (blk_cell BK285.out 2).trans rfl
                  have hfz52_0 := blk_frozen BK285.out 0
                  have hfz52_1 := blk_frozen BK285.out 1
                  have hfz52_2 := blk_frozen BK285.out 2
                  have hnb53 := NB277_278.out
                  have hnc53 := NB278_277.out
                  have hcz54_0 : w32.cell? ⟨gb277, 0, none⟩ = some (.int .i64 a0_0) := (blk_cell BK277.out 0).trans rfl
                  have hcz54_1 : w32.cell? ⟨gb277, 1, none⟩ = some (.int .i64 a0_1) := (blk_cell BK277.out 1).trans rfl
                  have hcz54_2 : w32.cell? ⟨gb277, 2, none⟩ = some (.int .i64 a0_2) := (blk_cell BK277.out 2).trans rfl
                  have hcz54_3 : w32.cell? ⟨gb277, 3, none⟩ = some (.int .i64 a0_3) := (blk_cell BK277.out 3).trans rfl
                  have hcz54_4 : w32.cell? ⟨gb277, 4, none⟩ = some (.int .i64 a0_4) := (blk_cell BK277.out 4).trans rfl
                  have hcz54_5 : w32.cell? ⟨gb277, 5, none⟩ = some (.int .i64 a0_5) := (blk_cell BK277.out 5).trans rfl
                  have hcz54_6 : w32.cell? ⟨gb277, 6, none⟩ = some (.int .i64 a0_6) := (blk_cell BK277.out 6).trans rfl
                  have hcz54_7 : w32.cell? ⟨gb277, 7, none⟩ = some (.int .i64 a0_7) := (blk_cell BK277.out 7).trans rfl
                  have hcz54_8 : w32.cell? ⟨gb277, 8, none⟩ = some (.int .i64 a0_8) := (blk_cell BK277.out 8).trans rfl
                  have hcz54_9 : w32.cell? ⟨gb277, 9, none⟩ = some (.int .i64 a0_9) := (blk_cell BK277.out 9).trans rfl
                  have hcz54_10 : w32.cell? ⟨gb277, 10, none⟩ = some (.int .i64 a0_10) := (blk_cell BK277.out 10).trans rfl
                  have hcz54_11 : w32.cell? ⟨gb277, 11, none⟩ = some (.int .i64 a0_11) := (blk_cell BK277.out 11).trans rfl
                  have hfz54_0 := blk_frozen BK277.out 0
                  have hfz54_1 := blk_frozen BK277.out 1
                  have hfz54_2 := blk_frozen BK277.out 2
                  have hfz54_3 := blk_frozen BK277.out 3
                  have hfz54_4 := blk_frozen BK277.out 4
                  have hfz54_5 := blk_frozen BK277.out 5
                  have hfz54_6 := blk_frozen BK277.out 6
                  have hfz54_7 := blk_frozen BK277.out 7
                  have hfz54_8 := blk_frozen BK277.out 8
                  have hfz54_9 := blk_frozen BK277.out 9
                  have hfz54_10 := blk_frozen BK277.out 10
                  have hfz54_11 := blk_frozen BK277.out 11
                  have hcz55_0 : w32.cell? ⟨gb278, 0, none⟩ = some (.int .i64 a1_0) := (blk_cell BK278.out 0).trans rfl
                  have hcz55_1 : w32.cell? ⟨gb278, 1, none⟩ = some (.int .i64 a1_1) := (blk_cell BK278.out 1).trans rfl
                  have hcz55_2 : w32.cell? ⟨gb278, 2, none⟩ = some (.bool a1_2) := (blk_cell BK278.out 2).trans rfl
                  have hfz55_0 := blk_frozen BK278.out 0
                  have hfz55_1 := blk_frozen BK278.out 1
                  have hfz55_2 := blk_frozen BK278.out 2
                  go_wp2
                  go_meet
                  case rel => exact ⟨_, (true), (by first | rfl | (simp; done) | (simp [*]; done)), H', ⟨by have := HJ5.out; first | omega | exact Nat.le_refl _⟩, ⟨by (with_reducible repeat (first | refine blk_drewN ?_ _ | refine blk_drew ?_ | refine blk_alloc ?_ _)); refine blk_far ?_ NB277_285.out _; (with_reducible repeat (first | refine blk_drewN ?_ _ | refine blk_drew ?_ | refine blk_alloc ?_ _)); refine blk_far ?_ NB277_285.out _; (with_reducible repeat (first | refine blk_drewN ?_ _ | refine blk_drew ?_ | refine blk_alloc ?_ _)); refine blk_far ?_ NB277_285.out _; (with_reducible repeat (first | refine blk_drewN ?_ _ | refine blk_drew ?_ | refine blk_alloc ?_ _)); exact BK277.out⟩, ⟨by (with_reducible repeat (first | refine blk_drewN ?_ _ | refine blk_drew ?_ | refine blk_alloc ?_ _)); refine blk_far ?_ NB278_285.out _; (with_reducible repeat (first | refine blk_drewN ?_ _ | refine blk_drew ?_ | refine blk_alloc ?_ _)); refine blk_far ?_ NB278_285.out _; (with_reducible repeat (first | refine blk_drewN ?_ _ | refine blk_drew ?_ | refine blk_alloc ?_ _)); refine blk_far ?_ NB278_285.out _; (with_reducible repeat (first | refine blk_drewN ?_ _ | refine blk_drew ?_ | refine blk_alloc ?_ _)); exact BK278.out⟩, ⟨by (with_reducible repeat (first | refine blk_drewN ?_ _ | refine blk_drew ?_ | refine blk_alloc ?_ _)); refine blk_put (cs := #[.int .i64 t282, .int .i64 t283, .bool false]) ?_ 2 _ rfl; (with_reducible repeat (first | refine blk_drewN ?_ _ | refine blk_drew ?_ | refine blk_alloc ?_ _)); refine blk_put (cs := #[.int .i64 t282, .int .i64 0, .bool false]) ?_ 1 _ rfl; (with_reducible repeat (first | refine blk_drewN ?_ _ | refine blk_drew ?_ | refine blk_alloc ?_ _)); refine blk_put (cs := #[.int .i64 0, .int .i64 0, .bool false]) ?_ 0 _ rfl; (with_reducible repeat (first | refine blk_drewN ?_ _ | refine blk_drew ?_ | refine blk_alloc ?_ _)); exact BK285.out⟩, ⟨by repeat (first | (with_reducible first | exact HB.out | apply below_alloc | apply pw_below_drewN | apply below_drew1 | refine below_set ?_ GE277.out | refine below_set ?_ GE278.out | refine below_set ?_ GE285.out) | exact HB.out)⟩⟩
                · rw [if_neg c49] at H
                  have c49b0 : (t284 != a1_2) = false := by simpa using c49
                  (try (have c49b1 : decide (t284 = a1_2) = true := by simpa using c49))
                  (try (have c49b2 : (t284 == a1_2) = true := by simpa using c49))
                  clear c49
                  by_cases c56 : a1_0 ≥ a0_0
                  · rw [if_pos c56] at H
                    have c56b0 : decide (a0_0 ≤ a1_0) = true := decide_eq_true c56
                    clear c56
                    by_cases c57 : a1_0 ≤ a0_1
                    · rw [if_pos c57] at H
                      have c57b0 : decide (a1_0 ≤ a0_1) = true := decide_eq_true c57
                      clear c57
                      have H' := Aside0.mk H
                      clear H
                      have hnb58 := NB285_277.out
                      have hnc58 := NB277_285.out
                      have hnb59 := NB285_278.out
                      have hnc59 := NB278_285.out
                      have hcz60_0 : w32.cell? ⟨gb285, 0, none⟩ = some (.int .i64 0) := (blk_cell BK285.out 0).trans rfl
                      have hcz60_1 : w32.cell? ⟨gb285, 1, none⟩ = some (.int .i64 0) := (blk_cell BK285.out 1).trans rfl
                      have hcz60_2 : w32.cell? ⟨gb285, 2, none⟩ = some (.bool false) := (blk_cell BK285.out 2).trans rfl
                      have hfz60_0 := blk_frozen BK285.out 0
                      have hfz60_1 := blk_frozen BK285.out 1
                      have hfz60_2 := blk_frozen BK285.out 2
                      have hnb61 := NB277_278.out
                      have hnc61 := NB278_277.out
                      have hcz62_0 : w32.cell? ⟨gb277, 0, none⟩ = some (.int .i64 a0_0) := (blk_cell BK277.out 0).trans rfl
                      have hcz62_1 : w32.cell? ⟨gb277, 1, none⟩ = some (.int .i64 a0_1) := (blk_cell BK277.out 1).trans rfl
                      have hcz62_2 : w32.cell? ⟨gb277, 2, none⟩ = some (.int .i64 a0_2) := (blk_cell BK277.out 2).trans rfl
                      have hcz62_3 : w32.cell? ⟨gb277, 3, none⟩ = some (.int .i64 a0_3) := (blk_cell BK277.out 3).trans rfl
                      have hcz62_4 : w32.cell? ⟨gb277, 4, none⟩ = some (.int .i64 a0_4) := (blk_cell BK277.out 4).trans rfl
                      have hcz62_5 : w32.cell? ⟨gb277, 5, none⟩ = some (.int .i64 a0_5) := (blk_cell BK277.out 5).trans rfl
                      have hcz62_6 : w32.cell? ⟨gb277, 6, none⟩ = some (.int .i64 a0_6) := (blk_cell BK277.out 6).trans rfl
                      have hcz62_7 : w32.cell? ⟨gb277, 7, none⟩ = some (.int .i64 a0_7) := (blk_cell BK277.out 7).trans rfl
                      have hcz62_8 : w32.cell? ⟨gb277, 8, none⟩ = some (.int .i64 a0_8) := (blk_cell BK277.out 8).trans rfl
                      have hcz62_9 : w32.cell? ⟨gb277, 9, none⟩ = some (.int .i64 a0_9) := (blk_cell BK277.out 9).trans rfl
                      have hcz62_10 : w32.cell? ⟨gb277, 10, none⟩ = some (.int .i64 a0_10) := (blk_cell BK277.out 10).trans rfl
                      have hcz62_11 : w32.cell? ⟨gb277, 11, none⟩ = some (.int .i64 a0_11) := (blk_cell BK277.out 11).trans rfl
                      have hfz62_0 := blk_frozen BK277.out 0
                      have hfz62_1 := blk_frozen BK277.out 1
                      have hfz62_2 := blk_frozen BK277.out 2
                      have hfz62_3 := blk_frozen BK277.out 3
                      have hfz62_4 := blk_frozen BK277.out 4
                      have hfz62_5 := blk_frozen BK277.out 5
                      have hfz62_6 := blk_frozen BK277.out 6
                      have hfz62_7 := blk_frozen BK277.out 7
                      have hfz62_8 := blk_frozen BK277.out 8
                      have hfz62_9 := blk_frozen BK277.out 9
                      have hfz62_10 := blk_frozen BK277.out 10
                      have hfz62_11 := blk_frozen BK277.out 11
                      have hcz63_0 : w32.cell? ⟨gb278, 0, none⟩ = some (.int .i64 a1_0) := (blk_cell BK278.out 0).trans rfl
                      have hcz63_1 : w32.cell? ⟨gb278, 1, none⟩ = some (.int .i64 a1_1) := (blk_cell BK278.out 1).trans rfl
                      have hcz63_2 : w32.cell? ⟨gb278, 2, none⟩ = some (.bool a1_2) := (blk_cell BK278.out 2).trans rfl
                      have hfz63_0 := blk_frozen BK278.out 0
                      have hfz63_1 := blk_frozen BK278.out 1
                      have hfz63_2 := blk_frozen BK278.out 2
                      go_wp2
                      go_meet
                      case rel => exact ⟨_, ((!(t282 == a1_0) || (!(t283 == a1_1) || (!(t284 == a1_2))))), (by first | rfl | (simp; done) | (simp [*]; done)), H', ⟨by have := HJ5.out; first | omega | exact Nat.le_refl _⟩, ⟨by (with_reducible repeat (first | refine blk_drewN ?_ _ | refine blk_drew ?_ | refine blk_alloc ?_ _)); refine blk_far ?_ NB277_285.out _; (with_reducible repeat (first | refine blk_drewN ?_ _ | refine blk_drew ?_ | refine blk_alloc ?_ _)); refine blk_far ?_ NB277_285.out _; (with_reducible repeat (first | refine blk_drewN ?_ _ | refine blk_drew ?_ | refine blk_alloc ?_ _)); refine blk_far ?_ NB277_285.out _; (with_reducible repeat (first | refine blk_drewN ?_ _ | refine blk_drew ?_ | refine blk_alloc ?_ _)); exact BK277.out⟩, ⟨by (with_reducible repeat (first | refine blk_drewN ?_ _ | refine blk_drew ?_ | refine blk_alloc ?_ _)); refine blk_far ?_ NB278_285.out _; (with_reducible repeat (first | refine blk_drewN ?_ _ | refine blk_drew ?_ | refine blk_alloc ?_ _)); refine blk_far ?_ NB278_285.out _; (with_reducible repeat (first | refine blk_drewN ?_ _ | refine blk_drew ?_ | refine blk_alloc ?_ _)); refine blk_far ?_ NB278_285.out _; (with_reducible repeat (first | refine blk_drewN ?_ _ | refine blk_drew ?_ | refine blk_alloc ?_ _)); exact BK278.out⟩, ⟨by (with_reducible repeat (first | refine blk_drewN ?_ _ | refine blk_drew ?_ | refine blk_alloc ?_ _)); refine blk_put (cs := #[.int .i64 t282, .int .i64 t283, .bool false]) ?_ 2 _ rfl; (with_reducible repeat (first | refine blk_drewN ?_ _ | refine blk_drew ?_ | refine blk_alloc ?_ _)); refine blk_put (cs := #[.int .i64 t282, .int .i64 0, .bool false]) ?_ 1 _ rfl; (with_reducible repeat (first | refine blk_drewN ?_ _ | refine blk_drew ?_ | refine blk_alloc ?_ _)); refine blk_put (cs := #[.int .i64 0, .int .i64 0, .bool false]) ?_ 0 _ rfl; (with_reducible repeat (first | refine blk_drewN ?_ _ | refine blk_drew ?_ | refine blk_alloc ?_ _)); exact BK285.out⟩, ⟨by repeat (first | (with_reducible first | exact HB.out | apply below_alloc | apply pw_below_drewN | apply below_drew1 | refine below_set ?_ GE277.out | refine below_set ?_ GE278.out | refine below_set ?_ GE285.out) | exact HB.out)⟩⟩
                    · rw [if_neg c57] at H
                      have c57b0 : decide (a1_0 ≤ a0_1) = false := decide_eq_false c57
                      clear c57
                      have H' := Aside0.mk H
                      clear H
                      have hnb64 := NB285_277.out
                      have hnc64 := NB277_285.out
                      have hnb65 := NB285_278.out
                      have hnc65 := NB278_285.out
                      have hcz66_0 : w32.cell? ⟨gb285, 0, none⟩ = some (.int .i64 0) := (blk_cell BK285.out 0).trans rfl
                      have hcz66_1 : w32.cell? ⟨gb285, 1, none⟩ = some (.int .i64 0) := (blk_cell BK285.out 1).trans rfl
                      have hcz66_2 : w32.cell? ⟨gb285, 2, none⟩ = some (.bool false) := (blk_cell BK285.out 2).trans rfl
                      have hfz66_0 := blk_frozen BK285.out 0
                      have hfz66_1 := blk_frozen BK285.out 1
                      have hfz66_2 := blk_frozen BK285.out 2
                      have hnb67 := NB277_278.out
                      have hnc67 := NB278_277.out
                      have hcz68_0 : w32.cell? ⟨gb277, 0, none⟩ = some (.int .i64 a0_0) := (blk_cell BK277.out 0).trans rfl
                      have hcz68_1 : w32.cell? ⟨gb277, 1, none⟩ = some (.int .i64 a0_1) := (blk_cell BK277.out 1).trans rfl
                      have hcz68_2 : w32.cell? ⟨gb277, 2, none⟩ = some (.int .i64 a0_2) := (blk_cell BK277.out 2).trans rfl
                      have hcz68_3 : w32.cell? ⟨gb277, 3, none⟩ = some (.int .i64 a0_3) := (blk_cell BK277.out 3).trans rfl
                      have hcz68_4 : w32.cell? ⟨gb277, 4, none⟩ = some (.int .i64 a0_4) := (blk_cell BK277.out 4).trans rfl
                      have hcz68_5 : w32.cell? ⟨gb277, 5, none⟩ = some (.int .i64 a0_5) := (blk_cell BK277.out 5).trans rfl
                      have hcz68_6 : w32.cell? ⟨gb277, 6, none⟩ = some (.int .i64 a0_6) := (blk_cell BK277.out 6).trans rfl
                      have hcz68_7 : w32.cell? ⟨gb277, 7, none⟩ = some (.int .i64 a0_7) := (blk_cell BK277.out 7).trans rfl
                      have hcz68_8 : w32.cell? ⟨gb277, 8, none⟩ = some (.int .i64 a0_8) := (blk_cell BK277.out 8).trans rfl
                      have hcz68_9 : w32.cell? ⟨gb277, 9, none⟩ = some (.int .i64 a0_9) := (blk_cell BK277.out 9).trans rfl
                      have hcz68_10 : w32.cell? ⟨gb277, 10, none⟩ = some (.int .i64 a0_10) := (blk_cell BK277.out 10).trans rfl
                      have hcz68_11 : w32.cell? ⟨gb277, 11, none⟩ = some (.int .i64 a0_11) := (blk_cell BK277.out 11).trans rfl
                      have hfz68_0 := blk_frozen BK277.out 0
                      have hfz68_1 := blk_frozen BK277.out 1
                      have hfz68_2 := blk_frozen BK277.out 2
                      have hfz68_3 := blk_frozen BK277.out 3
                      have hfz68_4 := blk_frozen BK277.out 4
                      have hfz68_5 := blk_frozen BK277.out 5
                      have hfz68_6 := blk_frozen BK277.out 6
                      have hfz68_7 := blk_frozen BK277.out 7
                      have hfz68_8 := blk_frozen BK277.out 8
                      have hfz68_9 := blk_frozen BK277.out 9
                      have hfz68_10 := blk_frozen BK277.out 10
                      have hfz68_11 := blk_frozen BK277.out 11
                      have hcz69_0 : w32.cell? ⟨gb278, 0, none⟩ = some (.int .i64 a1_0) := (blk_cell BK278.out 0).trans rfl
                      have hcz69_1 : w32.cell? ⟨gb278, 1, none⟩ = some (.int .i64 a1_1) := (blk_cell BK278.out 1).trans rfl
                      have hcz69_2 : w32.cell? ⟨gb278, 2, none⟩ = some (.bool a1_2) := (blk_cell BK278.out 2).trans rfl
                      have hfz69_0 := blk_frozen BK278.out 0
                      have hfz69_1 := blk_frozen BK278.out 1
                      have hfz69_2 := blk_frozen BK278.out 2
                      go_wp2
                      go_meet
                      case rel => exact ⟨_, (false), (by first | rfl | (simp; done) | (simp [*]; done)), H', ⟨by have := HJ5.out; first | omega | exact Nat.le_refl _⟩, ⟨by (with_reducible repeat (first | refine blk_drewN ?_ _ | refine blk_drew ?_ | refine blk_alloc ?_ _)); refine blk_far ?_ NB277_285.out _; (with_reducible repeat (first | refine blk_drewN ?_ _ | refine blk_drew ?_ | refine blk_alloc ?_ _)); refine blk_far ?_ NB277_285.out _; (with_reducible repeat (first | refine blk_drewN ?_ _ | refine blk_drew ?_ | refine blk_alloc ?_ _)); refine blk_far ?_ NB277_285.out _; (with_reducible repeat (first | refine blk_drewN ?_ _ | refine blk_drew ?_ | refine blk_alloc ?_ _)); exact BK277.out⟩, ⟨by (with_reducible repeat (first | refine blk_drewN ?_ _ | refine blk_drew ?_ | refine blk_alloc ?_ _)); refine blk_far ?_ NB278_285.out _; (with_reducible repeat (first | refine blk_drewN ?_ _ | refine blk_drew ?_ | refine blk_alloc ?_ _)); refine blk_far ?_ NB278_285.out _; (with_reducible repeat (first | refine blk_drewN ?_ _ | refine blk_drew ?_ | refine blk_alloc ?_ _)); refine blk_far ?_ NB278_285.out _; (with_reducible repeat (first | refine blk_drewN ?_ _ | refine blk_drew ?_ | refine blk_alloc ?_ _)); exact BK278.out⟩, ⟨by (with_reducible repeat (first | refine blk_drewN ?_ _ | refine blk_drew ?_ | refine blk_alloc ?_ _)); refine blk_put (cs := #[.int .i64 t282, .int .i64 t283, .bool false]) ?_ 2 _ rfl; (with_reducible repeat (first | refine blk_drewN ?_ _ | refine blk_drew ?_ | refine blk_alloc ?_ _)); refine blk_put (cs := #[.int .i64 t282, .int .i64 0, .bool false]) ?_ 1 _ rfl; (with_reducible repeat (first | refine blk_drewN ?_ _ | refine blk_drew ?_ | refine blk_alloc ?_ _)); refine blk_put (cs := #[.int .i64 0, .int .i64 0, .bool false]) ?_ 0 _ rfl; (with_reducible repeat (first | refine blk_drewN ?_ _ | refine blk_drew ?_ | refine blk_alloc ?_ _)); exact BK285.out⟩, ⟨by repeat (first | (with_reducible first | exact HB.out | apply below_alloc | apply pw_below_drewN | apply below_drew1 | refine below_set ?_ GE277.out | refine below_set ?_ GE278.out | refine below_set ?_ GE285.out) | exact HB.out)⟩⟩
                  · rw [if_neg c56] at H
                    have c56b0 : decide (a0_0 ≤ a1_0) = false := decide_eq_false c56
                    clear c56
                    have H' := Aside0.mk H
                    clear H
                    have hnb70 := NB285_277.out
                    have hnc70 := NB277_285.out
                    have hnb71 := NB285_278.out
                    have hnc71 := NB278_285.out
                    have hcz72_0 : w32.cell? ⟨gb285, 0, none⟩ = some (.int .i64 0) := (blk_cell BK285.out 0).trans rfl
                    have hcz72_1 : w32.cell? ⟨gb285, 1, none⟩ = some (.int .i64 0) := (blk_cell BK285.out 1).trans rfl
                    have hcz72_2 : w32.cell? ⟨gb285, 2, none⟩ = some (.bool false) := (blk_cell BK285.out 2).trans rfl
                    have hfz72_0 := blk_frozen BK285.out 0
                    have hfz72_1 := blk_frozen BK285.out 1
                    have hfz72_2 := blk_frozen BK285.out 2
                    have hnb73 := NB277_278.out
                    have hnc73 := NB278_277.out
                    have hcz74_0 : w32.cell? ⟨gb277, 0, none⟩ = some (.int .i64 a0_0) := (blk_cell BK277.out 0).trans rfl
                    have hcz74_1 : w32.cell? ⟨gb277, 1, none⟩ = some (.int .i64 a0_1) := (blk_cell BK277.out 1).trans rfl
                    have hcz74_2 : w32.cell? ⟨gb277, 2, none⟩ = some (.int .i64 a0_2) := (blk_cell BK277.out 2).trans rfl
                    have hcz74_3 : w32.cell? ⟨gb277, 3, none⟩ = some (.int .i64 a0_3) := (blk_cell BK277.out 3).trans rfl
                    have hcz74_4 : w32.cell? ⟨gb277, 4, none⟩ = some (.int .i64 a0_4) := (blk_cell BK277.out 4).trans rfl
                    have hcz74_5 : w32.cell? ⟨gb277, 5, none⟩ = some (.int .i64 a0_5) := (blk_cell BK277.out 5).trans rfl
                    have hcz74_6 : w32.cell? ⟨gb277, 6, none⟩ = some (.int .i64 a0_6) := (blk_cell BK277.out 6).trans rfl
                    have hcz74_7 : w32.cell? ⟨gb277, 7, none⟩ = some (.int .i64 a0_7) := (blk_cell BK277.out 7).trans rfl
                    have hcz74_8 : w32.cell? ⟨gb277, 8, none⟩ = some (.int .i64 a0_8) := (blk_cell BK277.out 8).trans rfl
                    have hcz74_9 : w32.cell? ⟨gb277, 9, none⟩ = some (.int .i64 a0_9) := (blk_cell BK277.out 9).trans rfl
                    have hcz74_10 : w32.cell? ⟨gb277, 10, none⟩ = some (.int .i64 a0_10) := (blk_cell BK277.out 10).trans rfl
                    have hcz74_11 : w32.cell? ⟨gb277, 11, none⟩ = some (.int .i64 a0_11) := (blk_cell BK277.out 11).trans rfl
                    have hfz74_0 := blk_frozen BK277.out 0
                    have hfz74_1 := blk_frozen BK277.out 1
                    have hfz74_2 := blk_frozen BK277.out 2
                    have hfz74_3 := blk_frozen BK277.out 3
                    have hfz74_4 := blk_frozen BK277.out 4
                    have hfz74_5 := blk_frozen BK277.out 5
                    have hfz74_6 := blk_frozen BK277.out 6
                    have hfz74_7 := blk_frozen BK277.out 7
                    have hfz74_8 := blk_frozen BK277.out 8
                    have hfz74_9 := blk_frozen BK277.out 9
                    have hfz74_10 := blk_frozen BK277.out 10
                    have hfz74_11 := blk_frozen BK277.out 11
                    have hcz75_0 : w32.cell? ⟨gb278, 0, none⟩ = some (.int .i64 a1_0) := (blk_cell BK278.out 0).trans rfl
                    have hcz75_1 : w32.cell? ⟨gb278, 1, none⟩ = some (.int .i64 a1_1) := (blk_cell BK278.out 1).trans rfl
                    have hcz75_2 : w32.cell? ⟨gb278, 2, none⟩ = some (.bool a1_2) := (blk_cell BK278.out 2).trans rfl
                    have hfz75_0 := blk_frozen BK278.out 0
                    have hfz75_1 := blk_frozen BK278.out 1
                    have hfz75_2 := blk_frozen BK278.out 2
                    go_wp2
                    go_meet
                    case rel => exact ⟨_, (false), (by first | rfl | (simp; done) | (simp [*]; done)), H', ⟨by have := HJ5.out; first | omega | exact Nat.le_refl _⟩, ⟨by (with_reducible repeat (first | refine blk_drewN ?_ _ | refine blk_drew ?_ | refine blk_alloc ?_ _)); refine blk_far ?_ NB277_285.out _; (with_reducible repeat (first | refine blk_drewN ?_ _ | refine blk_drew ?_ | refine blk_alloc ?_ _)); refine blk_far ?_ NB277_285.out _; (with_reducible repeat (first | refine blk_drewN ?_ _ | refine blk_drew ?_ | refine blk_alloc ?_ _)); refine blk_far ?_ NB277_285.out _; (with_reducible repeat (first | refine blk_drewN ?_ _ | refine blk_drew ?_ | refine blk_alloc ?_ _)); exact BK277.out⟩, ⟨by (with_reducible repeat (first | refine blk_drewN ?_ _ | refine blk_drew ?_ | refine blk_alloc ?_ _)); refine blk_far ?_ NB278_285.out _; (with_reducible repeat (first | refine blk_drewN ?_ _ | refine blk_drew ?_ | refine blk_alloc ?_ _)); refine blk_far ?_ NB278_285.out _; (with_reducible repeat (first | refine blk_drewN ?_ _ | refine blk_drew ?_ | refine blk_alloc ?_ _)); refine blk_far ?_ NB278_285.out _; (with_reducible repeat (first | refine blk_drewN ?_ _ | refine blk_drew ?_ | refine blk_alloc ?_ _)); exact BK278.out⟩, ⟨by (with_reducible repeat (first | refine blk_drewN ?_ _ | refine blk_drew ?_ | refine blk_alloc ?_ _)); refine blk_put (cs := #[.int .i64 t282, .int .i64 t283, .bool false]) ?_ 2 _ rfl; (with_reducible repeat (first | refine blk_drewN ?_ _ | refine blk_drew ?_ | refine blk_alloc ?_ _)); refine blk_put (cs := #[.int .i64 t282, .int .i64 0, .bool false]) ?_ 1 _ rfl; (with_reducible repeat (first | refine blk_drewN ?_ _ | refine blk_drew ?_ | refine blk_alloc ?_ _)); refine blk_put (cs := #[.int .i64 0, .int .i64 0, .bool false]) ?_ 0 _ rfl; (with_reducible repeat (first | refine blk_drewN ?_ _ | refine blk_drew ?_ | refine blk_alloc ?_ _)); exact BK285.out⟩, ⟨by repeat (first | (with_reducible first | exact HB.out | apply below_alloc | apply pw_below_drewN | apply below_drew1 | refine below_set ?_ GE277.out | refine below_set ?_ GE278.out | refine below_set ?_ GE285.out) | exact HB.out)⟩⟩
              · rw [if_neg c48] at H
                have c48b0 : (t283 == a1_1) = false := beq_eq_false_iff_ne.mpr c48
                have c48b1 : (t283 != a1_1) = true := bne_iff_ne.mpr c48
                have H' := Aside0.mk H
                clear H
                have hnb76 := NB285_277.out
                have hnc76 := NB277_285.out
                have hnb77 := NB285_278.out
                have hnc77 := NB278_285.out
                have hcz78_0 : w32.cell? ⟨gb285, 0, none⟩ = some (.int .i64 0) := (blk_cell BK285.out 0).trans rfl
                have hcz78_1 : w32.cell? ⟨gb285, 1, none⟩ = some (.int .i64 0) := (blk_cell BK285.out 1).trans rfl
                have hcz78_2 : w32.cell? ⟨gb285, 2, none⟩ = some (.bool false) := (blk_cell BK285.out 2).trans rfl
                have hfz78_0 := blk_frozen BK285.out 0
                have hfz78_1 := blk_frozen BK285.out 1
                have hfz78_2 := blk_frozen BK285.out 2
                have hnb79 := NB277_278.out
                have hnc79 := NB278_277.out
                have hcz80_0 : w32.cell? ⟨gb277, 0, none⟩ = some (.int .i64 a0_0) := (blk_cell BK277.out 0).trans rfl
                have hcz80_1 : w32.cell? ⟨gb277, 1, none⟩ = some (.int .i64 a0_1) := (blk_cell BK277.out 1).trans rfl
                have hcz80_2 : w32.cell? ⟨gb277, 2, none⟩ = some (.int .i64 a0_2) := (blk_cell BK277.out 2).trans rfl
                have hcz80_3 : w32.cell? ⟨gb277, 3, none⟩ = some (.int .i64 a0_3) := (blk_cell BK277.out 3).trans rfl
                have hcz80_4 : w32.cell? ⟨gb277, 4, none⟩ = some (.int .i64 a0_4) := (blk_cell BK277.out 4).trans rfl
                have hcz80_5 : w32.cell? ⟨gb277, 5, none⟩ = some (.int .i64 a0_5) := (blk_cell BK277.out 5).trans rfl
                have hcz80_6 : w32.cell? ⟨gb277, 6, none⟩ = some (.int .i64 a0_6) := (blk_cell BK277.out 6).trans rfl
                have hcz80_7 : w32.cell? ⟨gb277, 7, none⟩ = some (.int .i64 a0_7) := (blk_cell BK277.out 7).trans rfl
                have hcz80_8 : w32.cell? ⟨gb277, 8, none⟩ = some (.int .i64 a0_8) := (blk_cell BK277.out 8).trans rfl
                have hcz80_9 : w32.cell? ⟨gb277, 9, none⟩ = some (.int .i64 a0_9) := (blk_cell BK277.out 9).trans rfl
                have hcz80_10 : w32.cell? ⟨gb277, 10, none⟩ = some (.int .i64 a0_10) := (blk_cell BK277.out 10).trans rfl
                have hcz80_11 : w32.cell? ⟨gb277, 11, none⟩ = some (.int .i64 a0_11) := (blk_cell BK277.out 11).trans rfl
                have hfz80_0 := blk_frozen BK277.out 0
                have hfz80_1 := blk_frozen BK277.out 1
                have hfz80_2 := blk_frozen BK277.out 2
                have hfz80_3 := blk_frozen BK277.out 3
                have hfz80_4 := blk_frozen BK277.out 4
                have hfz80_5 := blk_frozen BK277.out 5
                have hfz80_6 := blk_frozen BK277.out 6
                have hfz80_7 := blk_frozen BK277.out 7
                have hfz80_8 := blk_frozen BK277.out 8
                have hfz80_9 := blk_frozen BK277.out 9
                have hfz80_10 := blk_frozen BK277.out 10
                have hfz80_11 := blk_frozen BK277.out 11
                have hcz81_0 : w32.cell? ⟨gb278, 0, none⟩ = some (.int .i64 a1_0) := (blk_cell BK278.out 0).trans rfl
                have hcz81_1 : w32.cell? ⟨gb278, 1, none⟩ = some (.int .i64 a1_1) := (blk_cell BK278.out 1).trans rfl
                have hcz81_2 : w32.cell? ⟨gb278, 2, none⟩ = some (.bool a1_2) := (blk_cell BK278.out 2).trans rfl
                have hfz81_0 := blk_frozen BK278.out 0
                have hfz81_1 := blk_frozen BK278.out 1
                have hfz81_2 := blk_frozen BK278.out 2
                go_wp2
                go_meet
                case rel => exact ⟨_, (true), (by first | rfl | (simp; done) | (simp [*]; done)), H', ⟨by have := HJ5.out; first | omega | exact Nat.le_refl _⟩, ⟨by (with_reducible repeat (first | refine blk_drewN ?_ _ | refine blk_drew ?_ | refine blk_alloc ?_ _)); refine blk_far ?_ NB277_285.out _; (with_reducible repeat (first | refine blk_drewN ?_ _ | refine blk_drew ?_ | refine blk_alloc ?_ _)); refine blk_far ?_ NB277_285.out _; (with_reducible repeat (first | refine blk_drewN ?_ _ | refine blk_drew ?_ | refine blk_alloc ?_ _)); refine blk_far ?_ NB277_285.out _; (with_reducible repeat (first | refine blk_drewN ?_ _ | refine blk_drew ?_ | refine blk_alloc ?_ _)); exact BK277.out⟩, ⟨by (with_reducible repeat (first | refine blk_drewN ?_ _ | refine blk_drew ?_ | refine blk_alloc ?_ _)); refine blk_far ?_ NB278_285.out _; (with_reducible repeat (first | refine blk_drewN ?_ _ | refine blk_drew ?_ | refine blk_alloc ?_ _)); refine blk_far ?_ NB278_285.out _; (with_reducible repeat (first | refine blk_drewN ?_ _ | refine blk_drew ?_ | refine blk_alloc ?_ _)); refine blk_far ?_ NB278_285.out _; (with_reducible repeat (first | refine blk_drewN ?_ _ | refine blk_drew ?_ | refine blk_alloc ?_ _)); exact BK278.out⟩, ⟨by (with_reducible repeat (first | refine blk_drewN ?_ _ | refine blk_drew ?_ | refine blk_alloc ?_ _)); refine blk_put (cs := #[.int .i64 t282, .int .i64 t283, .bool false]) ?_ 2 _ rfl; (with_reducible repeat (first | refine blk_drewN ?_ _ | refine blk_drew ?_ | refine blk_alloc ?_ _)); refine blk_put (cs := #[.int .i64 t282, .int .i64 0, .bool false]) ?_ 1 _ rfl; (with_reducible repeat (first | refine blk_drewN ?_ _ | refine blk_drew ?_ | refine blk_alloc ?_ _)); refine blk_put (cs := #[.int .i64 0, .int .i64 0, .bool false]) ?_ 0 _ rfl; (with_reducible repeat (first | refine blk_drewN ?_ _ | refine blk_drew ?_ | refine blk_alloc ?_ _)); exact BK285.out⟩, ⟨by repeat (first | (with_reducible first | exact HB.out | apply below_alloc | apply pw_below_drewN | apply below_drew1 | refine below_set ?_ GE277.out | refine below_set ?_ GE278.out | refine below_set ?_ GE285.out) | exact HB.out)⟩⟩
        case rest =>
          clear HC27
          try clear c1
          try clear c2
          try clear p2
          try clear c3
          try clear c4
          try clear c5
          try clear c6
          try clear c7
          try clear c10
          try clear c11
          try clear c13
          try clear c14
          try clear c18
          try clear c21
          try clear c22
          try clear c24
          try clear c25
          try clear c28
          try clear c33
          try clear c34
          try clear c36
          try clear c36b0
          try clear c37
          try clear c38
          try clear c40
          try clear c42
          try clear c42b0
          try clear c43
          try clear c44
          try clear c46
          try clear c48
          try clear c48b0
          try clear c48b1
          try clear c49
          try clear c49b0
          try clear c49b1
          try clear c49b2
          try clear c50
          try clear c51
          try clear c53
          try clear c56
          try clear c56b0
          try clear c57
          try clear c57b0
          try clear c58
          try clear c59
          try clear c61
          try clear c64
          try clear c65
          try clear c67
          try clear c70
          try clear c71
          try clear c73
          try clear c76
          try clear c77
          try clear c79
          try clear hcz15_0
          try clear hcz15_1
          try clear hcz15_10
          try clear hcz15_11
          try clear hcz15_2
          try clear hcz15_3
          try clear hcz15_4
          try clear hcz15_5
          try clear hcz15_6
          try clear hcz15_7
          try clear hcz15_8
          try clear hcz15_9
          try clear hcz17_0
          try clear hcz17_1
          try clear hcz17_2
          try clear hcz19_0
          try clear hcz19_1
          try clear hcz19_10
          try clear hcz19_11
          try clear hcz19_2
          try clear hcz19_3
          try clear hcz19_4
          try clear hcz19_5
          try clear hcz19_6
          try clear hcz19_7
          try clear hcz19_8
          try clear hcz19_9
          try clear hcz21_0
          try clear hcz21_1
          try clear hcz21_2
          try clear hcz23_0
          try clear hcz23_1
          try clear hcz23_10
          try clear hcz23_11
          try clear hcz23_2
          try clear hcz23_3
          try clear hcz23_4
          try clear hcz23_5
          try clear hcz23_6
          try clear hcz23_7
          try clear hcz23_8
          try clear hcz23_9
          try clear hcz29_0
          try clear hcz29_1
          try clear hcz29_10
          try clear hcz29_11
          try clear hcz29_2
          try clear hcz29_3
          try clear hcz29_4
          try clear hcz29_5
          try clear hcz29_6
          try clear hcz29_7
          try clear hcz29_8
          try clear hcz29_9
          try clear hcz30_0
          try clear hcz30_1
          try clear hcz30_2
          try clear hcz35_0
          try clear hcz35_1
          try clear hcz35_2
          try clear hcz39_0
          try clear hcz39_1
          try clear hcz39_2
          try clear hcz41_0
          try clear hcz41_1
          try clear hcz41_10
          try clear hcz41_11
          try clear hcz41_2
          try clear hcz41_3
          try clear hcz41_4
          try clear hcz41_5
          try clear hcz41_6
          try clear hcz41_7
          try clear hcz41_8
          try clear hcz41_9
          try clear hcz45_0
          try clear hcz45_1
          try clear hcz45_2
          try clear hcz47_0
          try clear hcz47_1
          try clear hcz47_10
          try clear hcz47_11
          try clear hcz47_2
          try clear hcz47_3
          try clear hcz47_4
          try clear hcz47_5
          try clear hcz47_6
          try clear hcz47_7
          try clear hcz47_8
          try clear hcz47_9
          try clear hcz52_0
          try clear hcz52_1
          try clear hcz52_2
          try clear hcz54_0
          try clear hcz54_1
          try clear hcz54_10
          try clear hcz54_11
          try clear hcz54_2
          try clear hcz54_3
          try clear hcz54_4
          try clear hcz54_5
          try clear hcz54_6
          try clear hcz54_7
          try clear hcz54_8
          try clear hcz54_9
          try clear hcz55_0
          try clear hcz55_1
          try clear hcz55_2
          try clear hcz60_0
          try clear hcz60_1
          try clear hcz60_2
          try clear hcz62_0
          try clear hcz62_1
          try clear hcz62_10
          try clear hcz62_11
          try clear hcz62_2
          try clear hcz62_3
          try clear hcz62_4
          try clear hcz62_5
          try clear hcz62_6
          try clear hcz62_7
          try clear hcz62_8
          try clear hcz62_9
          try clear hcz63_0
          try clear hcz63_1
          try clear hcz63_2
          try clear hcz66_0
          try clear hcz66_1
          try clear hcz66_2
          try clear hcz68_0
          try clear hcz68_1
          try clear hcz68_10
          try clear hcz68_11
          try clear hcz68_2
          try clear hcz68_3
          try clear hcz68_4
          try clear hcz68_5
          try clear hcz68_6
          try clear hcz68_7
          try clear hcz68_8
          try clear hcz68_9
          try clear hcz69_0
          try clear hcz69_1
          try clear hcz69_2
          try clear hcz72_0
          try clear hcz72_1
          try clear hcz72_2
          try clear hcz74_0
          try clear hcz74_1
          try clear hcz74_10
          try clear hcz74_11
          try clear hcz74_2
          try clear hcz74_3
          try clear hcz74_4
          try clear hcz74_5
          try clear hcz74_6
          try clear hcz74_7
          try clear hcz74_8
          try clear hcz74_9
          try clear hcz75_0
          try clear hcz75_1
          try clear hcz75_2
          try clear hcz78_0
          try clear hcz78_1
          try clear hcz78_2
          try clear hcz80_0
          try clear hcz80_1
          try clear hcz80_10
          try clear hcz80_11
          try clear hcz80_2
          try clear hcz80_3
          try clear hcz80_4
          try clear hcz80_5
          try clear hcz80_6
          try clear hcz80_7
          try clear hcz80_8
          try clear hcz80_9
          try clear hcz81_0
          try clear hcz81_1
          try clear hcz81_2
          try clear hfz15_0
          try clear hfz15_1
          try clear hfz15_10
          try clear hfz15_11
          try clear hfz15_2
          try clear hfz15_3
          try clear hfz15_4
          try clear hfz15_5
          try clear hfz15_6
          try clear hfz15_7
          try clear hfz15_8
          try clear hfz15_9
          try clear hfz17_0
          try clear hfz17_1
          try clear hfz17_2
          try clear hfz19_0
          try clear hfz19_1
          try clear hfz19_10
          try clear hfz19_11
          try clear hfz19_2
          try clear hfz19_3
          try clear hfz19_4
          try clear hfz19_5
          try clear hfz19_6
          try clear hfz19_7
          try clear hfz19_8
          try clear hfz19_9
          try clear hfz21_0
          try clear hfz21_1
          try clear hfz21_2
          try clear hfz23_0
          try clear hfz23_1
          try clear hfz23_10
          try clear hfz23_11
          try clear hfz23_2
          try clear hfz23_3
          try clear hfz23_4
          try clear hfz23_5
          try clear hfz23_6
          try clear hfz23_7
          try clear hfz23_8
          try clear hfz23_9
          try clear hfz29_0
          try clear hfz29_1
          try clear hfz29_10
          try clear hfz29_11
          try clear hfz29_2
          try clear hfz29_3
          try clear hfz29_4
          try clear hfz29_5
          try clear hfz29_6
          try clear hfz29_7
          try clear hfz29_8
          try clear hfz29_9
          try clear hfz30_0
          try clear hfz30_1
          try clear hfz30_2
          try clear hfz35_0
          try clear hfz35_1
          try clear hfz35_2
          try clear hfz39_0
          try clear hfz39_1
          try clear hfz39_2
          try clear hfz41_0
          try clear hfz41_1
          try clear hfz41_10
          try clear hfz41_11
          try clear hfz41_2
          try clear hfz41_3
          try clear hfz41_4
          try clear hfz41_5
          try clear hfz41_6
          try clear hfz41_7
          try clear hfz41_8
          try clear hfz41_9
          try clear hfz45_0
          try clear hfz45_1
          try clear hfz45_2
          try clear hfz47_0
          try clear hfz47_1
          try clear hfz47_10
          try clear hfz47_11
          try clear hfz47_2
          try clear hfz47_3
          try clear hfz47_4
          try clear hfz47_5
          try clear hfz47_6
          try clear hfz47_7
          try clear hfz47_8
          try clear hfz47_9
          try clear hfz52_0
          try clear hfz52_1
          try clear hfz52_2
          try clear hfz54_0
          try clear hfz54_1
          try clear hfz54_10
          try clear hfz54_11
          try clear hfz54_2
          try clear hfz54_3
          try clear hfz54_4
          try clear hfz54_5
          try clear hfz54_6
          try clear hfz54_7
          try clear hfz54_8
          try clear hfz54_9
          try clear hfz55_0
          try clear hfz55_1
          try clear hfz55_2
          try clear hfz60_0
          try clear hfz60_1
          try clear hfz60_2
          try clear hfz62_0
          try clear hfz62_1
          try clear hfz62_10
          try clear hfz62_11
          try clear hfz62_2
          try clear hfz62_3
          try clear hfz62_4
          try clear hfz62_5
          try clear hfz62_6
          try clear hfz62_7
          try clear hfz62_8
          try clear hfz62_9
          try clear hfz63_0
          try clear hfz63_1
          try clear hfz63_2
          try clear hfz66_0
          try clear hfz66_1
          try clear hfz66_2
          try clear hfz68_0
          try clear hfz68_1
          try clear hfz68_10
          try clear hfz68_11
          try clear hfz68_2
          try clear hfz68_3
          try clear hfz68_4
          try clear hfz68_5
          try clear hfz68_6
          try clear hfz68_7
          try clear hfz68_8
          try clear hfz68_9
          try clear hfz69_0
          try clear hfz69_1
          try clear hfz69_2
          try clear hfz72_0
          try clear hfz72_1
          try clear hfz72_2
          try clear hfz74_0
          try clear hfz74_1
          try clear hfz74_10
          try clear hfz74_11
          try clear hfz74_2
          try clear hfz74_3
          try clear hfz74_4
          try clear hfz74_5
          try clear hfz74_6
          try clear hfz74_7
          try clear hfz74_8
          try clear hfz74_9
          try clear hfz75_0
          try clear hfz75_1
          try clear hfz75_2
          try clear hfz78_0
          try clear hfz78_1
          try clear hfz78_2
          try clear hfz80_0
          try clear hfz80_1
          try clear hfz80_10
          try clear hfz80_11
          try clear hfz80_2
          try clear hfz80_3
          try clear hfz80_4
          try clear hfz80_5
          try clear hfz80_6
          try clear hfz80_7
          try clear hfz80_8
          try clear hfz80_9
          try clear hfz81_0
          try clear hfz81_1
          try clear hfz81_2
          try clear p2
          obtain ⟨kq, x76_26, rfl, HA, HJ26, BK277, BK278, BK285, HB⟩ := hcut
          cases kq with
          | zero => exact absurd HA.out (by simp [governorlaw15_LimitBounds.j1])
          | succ kj26 =>
            have H := HA.out
            clear HA
            simp only [governorlaw15_LimitBounds.j1] at H
            by_cases c82 : x76_26 = true
            · subst c82
              have H1 : (some false) = some r := by rw [if_pos rfl] at H; exact H
              clear H
              have H := H1
              clear H1
              exact absurd (Option.some.inj H) (by rw [HRT.out]; decide)
            · replace c82 := Bool.eq_false_iff.mpr c82
              subst c82
              have H1 : (governorlaw15_LimitBounds.l0 kj26 l2 a3 t279 0 a0_0 a0_1 a0_2 a0_3 a0_4 a0_5 a0_6 a0_7 a0_8 a0_9 a0_10 a0_11 t282 t283 t284) = some r := by rw [if_neg (show ¬ (false = true) by decide)] at H; exact H
              clear H
              have H := H1
              clear H1
              have H' := Aside0.mk H
              clear H
              go_wp2
              go_loopg [11] kj26 (fun kq v11 w' => ∃ (x11_3 : Int) (x286000_3 : Int) (x286001_3 : Int) (x286002_3 : Bool), v11 = .int .i64 x11_3 ∧ Aside0 (governorlaw15_LimitBounds.l0 kq l2 a3 t279 x11_3 a0_0 a0_1 a0_2 a0_3 a0_4 a0_5 a0_6 a0_7 a0_8 a0_9 a0_10 a0_11 x286000_3 x286001_3 x286002_3 = some r) ∧ Aside0 (kq ≤ kj26) ∧ Aside0 (w'.heap[gb277]? = some (.cells #[.int .i64 a0_0, .int .i64 a0_1, .int .i64 a0_2, .int .i64 a0_3, .int .i64 a0_4, .int .i64 a0_5, .int .i64 a0_6, .int .i64 a0_7, .int .i64 a0_8, .int .i64 a0_9, .int .i64 a0_10, .int .i64 a0_11] 37 (0, 0))) ∧ Aside0 (w'.heap[gb278]? = some (.cells #[.int .i64 a1_0, .int .i64 a1_1, .bool a1_2] 39 (0, 0))) ∧ Aside0 (w'.heap[gb285]? = some (.cells #[.int .i64 x286000_3, .int .i64 x286001_3, .bool x286002_3] 39 (0, 0))) ∧ Aside0 (Below w.heap.size w w'))
              case atStart => exact ⟨(0), (t282), (t283), (t284), (by first | rfl | (simp; done) | (simp [*]; done)), H', ⟨Nat.le_refl _⟩, ⟨by (with_reducible repeat (first | refine blk_drewN ?_ _ | refine blk_drew ?_ | refine blk_alloc ?_ _)); exact BK277.out⟩, ⟨by (with_reducible repeat (first | refine blk_drewN ?_ _ | refine blk_drew ?_ | refine blk_alloc ?_ _)); exact BK278.out⟩, ⟨by (with_reducible repeat (first | refine blk_drewN ?_ _ | refine blk_drew ?_ | refine blk_alloc ?_ _)); exact BK285.out⟩, ⟨by repeat (first | (with_reducible first | exact HB.out | apply below_alloc | apply pw_below_drewN | apply below_drew1 | refine below_set ?_ GE277.out | refine below_set ?_ GE278.out | refine below_set ?_ GE285.out) | exact HB.out)⟩⟩
              case round =>
                clear H'
                try clear c1
                try clear c2
                try clear p2
                try clear c3
                try clear c4
                try clear c5
                try clear c6
                try clear c7
                try clear c8
                try clear c10
                try clear c11
                try clear c13
                try clear c14
                try clear c18
                try clear c21
                try clear c22
                try clear c24
                try clear c25
                try clear c28
                try clear c33
                try clear c34
                try clear c36
                try clear c36b0
                try clear c37
                try clear c38
                try clear c40
                try clear c42
                try clear c42b0
                try clear c43
                try clear c44
                try clear c46
                try clear c48
                try clear c48b0
                try clear c48b1
                try clear c49
                try clear c49b0
                try clear c49b1
                try clear c49b2
                try clear c50
                try clear c51
                try clear c53
                try clear c56
                try clear c56b0
                try clear c57
                try clear c57b0
                try clear c58
                try clear c59
                try clear c61
                try clear c64
                try clear c65
                try clear c67
                try clear c70
                try clear c71
                try clear c73
                try clear c76
                try clear c77
                try clear c79
                try clear c82
                try clear hcz15_0
                try clear hcz15_1
                try clear hcz15_10
                try clear hcz15_11
                try clear hcz15_2
                try clear hcz15_3
                try clear hcz15_4
                try clear hcz15_5
                try clear hcz15_6
                try clear hcz15_7
                try clear hcz15_8
                try clear hcz15_9
                try clear hcz17_0
                try clear hcz17_1
                try clear hcz17_2
                try clear hcz19_0
                try clear hcz19_1
                try clear hcz19_10
                try clear hcz19_11
                try clear hcz19_2
                try clear hcz19_3
                try clear hcz19_4
                try clear hcz19_5
                try clear hcz19_6
                try clear hcz19_7
                try clear hcz19_8
                try clear hcz19_9
                try clear hcz21_0
                try clear hcz21_1
                try clear hcz21_2
                try clear hcz23_0
                try clear hcz23_1
                try clear hcz23_10
                try clear hcz23_11
                try clear hcz23_2
                try clear hcz23_3
                try clear hcz23_4
                try clear hcz23_5
                try clear hcz23_6
                try clear hcz23_7
                try clear hcz23_8
                try clear hcz23_9
                try clear hcz29_0
                try clear hcz29_1
                try clear hcz29_10
                try clear hcz29_11
                try clear hcz29_2
                try clear hcz29_3
                try clear hcz29_4
                try clear hcz29_5
                try clear hcz29_6
                try clear hcz29_7
                try clear hcz29_8
                try clear hcz29_9
                try clear hcz30_0
                try clear hcz30_1
                try clear hcz30_2
                try clear hcz35_0
                try clear hcz35_1
                try clear hcz35_2
                try clear hcz39_0
                try clear hcz39_1
                try clear hcz39_2
                try clear hcz41_0
                try clear hcz41_1
                try clear hcz41_10
                try clear hcz41_11
                try clear hcz41_2
                try clear hcz41_3
                try clear hcz41_4
                try clear hcz41_5
                try clear hcz41_6
                try clear hcz41_7
                try clear hcz41_8
                try clear hcz41_9
                try clear hcz45_0
                try clear hcz45_1
                try clear hcz45_2
                try clear hcz47_0
                try clear hcz47_1
                try clear hcz47_10
                try clear hcz47_11
                try clear hcz47_2
                try clear hcz47_3
                try clear hcz47_4
                try clear hcz47_5
                try clear hcz47_6
                try clear hcz47_7
                try clear hcz47_8
                try clear hcz47_9
                try clear hcz52_0
                try clear hcz52_1
                try clear hcz52_2
                try clear hcz54_0
                try clear hcz54_1
                try clear hcz54_10
                try clear hcz54_11
                try clear hcz54_2
                try clear hcz54_3
                try clear hcz54_4
                try clear hcz54_5
                try clear hcz54_6
                try clear hcz54_7
                try clear hcz54_8
                try clear hcz54_9
                try clear hcz55_0
                try clear hcz55_1
                try clear hcz55_2
                try clear hcz60_0
                try clear hcz60_1
                try clear hcz60_2
                try clear hcz62_0
                try clear hcz62_1
                try clear hcz62_10
                try clear hcz62_11
                try clear hcz62_2
                try clear hcz62_3
                try clear hcz62_4
                try clear hcz62_5
                try clear hcz62_6
                try clear hcz62_7
                try clear hcz62_8
                try clear hcz62_9
                try clear hcz63_0
                try clear hcz63_1
                try clear hcz63_2
                try clear hcz66_0
                try clear hcz66_1
                try clear hcz66_2
                try clear hcz68_0
                try clear hcz68_1
                try clear hcz68_10
                try clear hcz68_11
                try clear hcz68_2
                try clear hcz68_3
                try clear hcz68_4
                try clear hcz68_5
                try clear hcz68_6
                try clear hcz68_7
                try clear hcz68_8
                try clear hcz68_9
                try clear hcz69_0
                try clear hcz69_1
                try clear hcz69_2
                try clear hcz72_0
                try clear hcz72_1
                try clear hcz72_2
                try clear hcz74_0
                try clear hcz74_1
                try clear hcz74_10
                try clear hcz74_11
                try clear hcz74_2
                try clear hcz74_3
                try clear hcz74_4
                try clear hcz74_5
                try clear hcz74_6
                try clear hcz74_7
                try clear hcz74_8
                try clear hcz74_9
                try clear hcz75_0
                try clear hcz75_1
                try clear hcz75_2
                try clear hcz78_0
                try clear hcz78_1
                try clear hcz78_2
                try clear hcz80_0
                try clear hcz80_1
                try clear hcz80_10
                try clear hcz80_11
                try clear hcz80_2
                try clear hcz80_3
                try clear hcz80_4
                try clear hcz80_5
                try clear hcz80_6
                try clear hcz80_7
                try clear hcz80_8
                try clear hcz80_9
                try clear hcz81_0
                try clear hcz81_1
                try clear hcz81_2
                try clear hfz15_0
                try clear hfz15_1
                try clear hfz15_10
                try clear hfz15_11
                try clear hfz15_2
                try clear hfz15_3
                try clear hfz15_4
                try clear hfz15_5
                try clear hfz15_6
                try clear hfz15_7
                try clear hfz15_8
                try clear hfz15_9
                try clear hfz17_0
                try clear hfz17_1
                try clear hfz17_2
                try clear hfz19_0
                try clear hfz19_1
                try clear hfz19_10
                try clear hfz19_11
                try clear hfz19_2
                try clear hfz19_3
                try clear hfz19_4
                try clear hfz19_5
                try clear hfz19_6
                try clear hfz19_7
                try clear hfz19_8
                try clear hfz19_9
                try clear hfz21_0
                try clear hfz21_1
                try clear hfz21_2
                try clear hfz23_0
                try clear hfz23_1
                try clear hfz23_10
                try clear hfz23_11
                try clear hfz23_2
                try clear hfz23_3
                try clear hfz23_4
                try clear hfz23_5
                try clear hfz23_6
                try clear hfz23_7
                try clear hfz23_8
                try clear hfz23_9
                try clear hfz29_0
                try clear hfz29_1
                try clear hfz29_10
                try clear hfz29_11
                try clear hfz29_2
                try clear hfz29_3
                try clear hfz29_4
                try clear hfz29_5
                try clear hfz29_6
                try clear hfz29_7
                try clear hfz29_8
                try clear hfz29_9
                try clear hfz30_0
                try clear hfz30_1
                try clear hfz30_2
                try clear hfz35_0
                try clear hfz35_1
                try clear hfz35_2
                try clear hfz39_0
                try clear hfz39_1
                try clear hfz39_2
                try clear hfz41_0
                try clear hfz41_1
                try clear hfz41_10
                try clear hfz41_11
                try clear hfz41_2
                try clear hfz41_3
                try clear hfz41_4
                try clear hfz41_5
                try clear hfz41_6
                try clear hfz41_7
                try clear hfz41_8
                try clear hfz41_9
                try clear hfz45_0
                try clear hfz45_1
                try clear hfz45_2
                try clear hfz47_0
                try clear hfz47_1
                try clear hfz47_10
                try clear hfz47_11
                try clear hfz47_2
                try clear hfz47_3
                try clear hfz47_4
                try clear hfz47_5
                try clear hfz47_6
                try clear hfz47_7
                try clear hfz47_8
                try clear hfz47_9
                try clear hfz52_0
                try clear hfz52_1
                try clear hfz52_2
                try clear hfz54_0
                try clear hfz54_1
                try clear hfz54_10
                try clear hfz54_11
                try clear hfz54_2
                try clear hfz54_3
                try clear hfz54_4
                try clear hfz54_5
                try clear hfz54_6
                try clear hfz54_7
                try clear hfz54_8
                try clear hfz54_9
                try clear hfz55_0
                try clear hfz55_1
                try clear hfz55_2
                try clear hfz60_0
                try clear hfz60_1
                try clear hfz60_2
                try clear hfz62_0
                try clear hfz62_1
                try clear hfz62_10
                try clear hfz62_11
                try clear hfz62_2
                try clear hfz62_3
                try clear hfz62_4
                try clear hfz62_5
                try clear hfz62_6
                try clear hfz62_7
                try clear hfz62_8
                try clear hfz62_9
                try clear hfz63_0
                try clear hfz63_1
                try clear hfz63_2
                try clear hfz66_0
                try clear hfz66_1
                try clear hfz66_2
                try clear hfz68_0
                try clear hfz68_1
                try clear hfz68_10
                try clear hfz68_11
                try clear hfz68_2
                try clear hfz68_3
                try clear hfz68_4
                try clear hfz68_5
                try clear hfz68_6
                try clear hfz68_7
                try clear hfz68_8
                try clear hfz68_9
                try clear hfz69_0
                try clear hfz69_1
                try clear hfz69_2
                try clear hfz72_0
                try clear hfz72_1
                try clear hfz72_2
                try clear hfz74_0
                try clear hfz74_1
                try clear hfz74_10
                try clear hfz74_11
                try clear hfz74_2
                try clear hfz74_3
                try clear hfz74_4
                try clear hfz74_5
                try clear hfz74_6
                try clear hfz74_7
                try clear hfz74_8
                try clear hfz74_9
                try clear hfz75_0
                try clear hfz75_1
                try clear hfz75_2
                try clear hfz78_0
                try clear hfz78_1
                try clear hfz78_2
                try clear hfz80_0
                try clear hfz80_1
                try clear hfz80_10
                try clear hfz80_11
                try clear hfz80_2
                try clear hfz80_3
                try clear hfz80_4
                try clear hfz80_5
                try clear hfz80_6
                try clear hfz80_7
                try clear hfz80_8
                try clear hfz80_9
                try clear hfz81_0
                try clear hfz81_1
                try clear hfz81_2
                try clear p2
                obtain ⟨x11_3, x286000_3, x286001_3, x286002_3, rfl, HA, HK3, BK277, BK278, BK285, HB⟩ := hrel
                cases gk with
                | zero => exact absurd HA.out (by simp [governorlaw15_LimitBounds.l0])
                | succ k3 =>
                  have H := HA.out
                  clear HA
                  simp only [governorlaw15_LimitBounds.l0] at H
                  by_cases c83 : x11_3 < (l2.length : Int)
                  · rw [if_pos c83] at H
                    have c83b0 : decide (x11_3 < (l2.length : Int)) = true := decide_eq_true c83
                    clear c83
                    by_cases c84 : 0 ≤ x11_3
                    · rw [if_pos c84] at H
                      have c84b0 : decide (0 ≤ x11_3) = true := decide_eq_true c84
                      clear c84
                      replace H := Option.bind_eq_some_iff.mp H
                      obtain ⟨⟨t287, t288, t289⟩, A850, H⟩ := H
                      replace H : (if t287 < a0_0 then (some false) else (if t287 > a0_1 then (some false) else (if t287 > (wrap64 (x286000_3 + a0_2)) then (some false) else (if t287 < (wrap64 (x286000_3 - a0_2)) then (some false) else (governorlaw15_LimitBounds.l0 k3 l2 a3 t279 (wrap64 (x11_3 + 1)) a0_0 a0_1 a0_2 a0_3 a0_4 a0_5 a0_6 a0_7 a0_8 a0_9 a0_10 a0_11 t287 t288 t289))))) = some r := H
                      have A85 := Aside0.mk A850
                      clear A850
                      by_cases c86 : t287 < a0_0
                      · rw [if_pos c86] at H
                        have c86b0 : decide (t287 < a0_0) = true := decide_eq_true c86
                        clear c86
                        exact absurd (Option.some.inj H) (by rw [HRT.out]; decide)
                      · rw [if_neg c86] at H
                        have c86b0 : decide (t287 < a0_0) = false := decide_eq_false c86
                        clear c86
                        by_cases c87 : t287 > a0_1
                        · rw [if_pos c87] at H
                          have c87b0 : decide (a0_1 < t287) = true := decide_eq_true c87
                          clear c87
                          exact absurd (Option.some.inj H) (by rw [HRT.out]; decide)
                        · rw [if_neg c87] at H
                          have c87b0 : decide (a0_1 < t287) = false := decide_eq_false c87
                          clear c87
                          by_cases c88 : t287 > (wrap64 (x286000_3 + a0_2))
                          · rw [if_pos c88] at H
                            have c88b0 : decide ((wrap64 (x286000_3 + a0_2)) < t287) = true := decide_eq_true c88
                            clear c88
                            exact absurd (Option.some.inj H) (by rw [HRT.out]; decide)
                          · rw [if_neg c88] at H
                            have c88b0 : decide ((wrap64 (x286000_3 + a0_2)) < t287) = false := decide_eq_false c88
                            clear c88
                            by_cases c89 : t287 < (wrap64 (x286000_3 - a0_2))
                            · rw [if_pos c89] at H
                              have c89b0 : decide (t287 < (wrap64 (x286000_3 - a0_2))) = true := decide_eq_true c89
                              clear c89
                              exact absurd (Option.some.inj H) (by rw [HRT.out]; decide)
                            · rw [if_neg c89] at H
                              have c89b0 : decide (t287 < (wrap64 (x286000_3 - a0_2))) = false := decide_eq_false c89
                              clear c89
                              have H' := Aside0.mk H
                              clear H
                              try go_wp2
                              have n0_ := Aside0.mk (blk_drew BK277.out)
                              have n1_ := Aside0.mk (blk_drew BK278.out)
                              have n2_ := Aside0.mk (blk_drew BK285.out)
                              have n3_ := Aside0.mk (below_drew1 HB.out)
                              clear BK277
                              clear BK278
                              clear BK285
                              clear HB
                              have BK277 := n0_
                              have BK278 := n1_
                              have BK285 := n2_
                              have HB := n3_
                              clear n0_ n1_ n2_ n3_
                              have p286 : 0 ≤ (x11_3 : Int) := of_decide_eq_true (by first | (with_reducible assumption) | assumption)
                              have q286 : x11_3 < (l2.length : Int) := of_decide_eq_true (by first | (with_reducible assumption) | assumption)
                              obtain ⟨ad286, e286, hx286_0⟩ := Kd.at_int HR2.out x11_3 p286 q286
                              have hw286_0 := hx286_0
                              cases e286
                              replace hx286_0 := (HB.out.cell (World.block_lt_of_cell? w _ hx286_0)).trans hx286_0
                              replace p286 := eq_true p286
                              replace q286 := eq_true q286
                              refine start_ (n := 13) (S := fun w' => w'.cell? ⟨gb277, 0, none⟩ = some (.int .i64 a0_0) ∧ w'.cell? ⟨gb277, 1, none⟩ = some (.int .i64 a0_1) ∧ w'.cell? ⟨gb277, 2, none⟩ = some (.int .i64 a0_2) ∧ w'.cell? ⟨gb277, 3, none⟩ = some (.int .i64 a0_3) ∧ w'.cell? ⟨gb277, 4, none⟩ = some (.int .i64 a0_4) ∧ w'.cell? ⟨gb277, 5, none⟩ = some (.int .i64 a0_5) ∧ w'.cell? ⟨gb277, 6, none⟩ = some (.int .i64 a0_6) ∧ w'.cell? ⟨gb277, 7, none⟩ = some (.int .i64 a0_7) ∧ w'.cell? ⟨gb277, 8, none⟩ = some (.int .i64 a0_8) ∧ w'.cell? ⟨gb277, 9, none⟩ = some (.int .i64 a0_9) ∧ w'.cell? ⟨gb277, 10, none⟩ = some (.int .i64 a0_10) ∧ w'.cell? ⟨gb277, 11, none⟩ = some (.int .i64 a0_11) ∧ w'.cell? ⟨gb285, 0, none⟩ = some (.int .i64 x286000_3) ∧ w'.cell? ⟨gb285, 1, none⟩ = some (.int .i64 x286001_3) ∧ w'.cell? ⟨gb285, 2, none⟩ = some (.bool x286002_3) ∧ w'.cell? (ad286.add (x11_3).toNat) = some (.int .i64 (rd l2 x11_3))) (ds := []) #[false, false, false, false, false, false, false, false, false, false, false, false, false] (by kernel_rfl) rfl rfl ⟨(blk_cell BK277.out 0).trans rfl, (blk_cell BK277.out 1).trans rfl, (blk_cell BK277.out 2).trans rfl, (blk_cell BK277.out 3).trans rfl, (blk_cell BK277.out 4).trans rfl, (blk_cell BK277.out 5).trans rfl, (blk_cell BK277.out 6).trans rfl, (blk_cell BK277.out 7).trans rfl, (blk_cell BK277.out 8).trans rfl, (blk_cell BK277.out 9).trans rfl, (blk_cell BK277.out 10).trans rfl, (blk_cell BK277.out 11).trans rfl, (blk_cell BK285.out 0).trans rfl, (blk_cell BK285.out 1).trans rfl, (blk_cell BK285.out 2).trans rfl, ((HB.out.cell (World.block_lt_of_cell? w _ hw286_0)).trans hw286_0)⟩ (fun hHeld => ?_); refine with_tabW governorlaw15_LimitBounds.tab10 governorlaw15_LimitBounds.bits10 (fun HT_ HW_ => ?_)
                              generalize wr.drew = w90 at BK277 BK278 BK285 HB hx286_0 hHeld ⊢
                              refine pure_ (i := 2) (N := some 85) (v := ?_) (a' := ?_) #[false, false, true, false, false, false, false, false, false, false, false, false, false] rfl rfl (any_of HT_.out (by kernel_rfl)) (fun _ _ _ h => h) (Or.inl ⟨by rfl, ?_⟩) ?_ ?_
                              rotate_left
                              · intro w'
                                go_simp
                                with_reducible rfl
                              rotate_left
                              · simp only [Act.put, List.setIfInBounds_toArray, List.set_cons_zero, List.set_cons_succ, i64_w, i32_w]
                                rfl
                              refine pure_ (i := 3) (N := some 86) (v := ?_) (a' := ?_) #[false, false, true, true, false, false, false, false, false, false, false, false, false] rfl rfl (any_of HT_.out (by kernel_rfl)) (fun _ _ _ h => h) (Or.inl ⟨by rfl, ?_⟩) ?_ ?_
                              rotate_left
                              · intro w'
                                go_simp
                                with_reducible rfl
                              rotate_left
                              · simp only [Act.put, List.setIfInBounds_toArray, List.set_cons_zero, List.set_cons_succ, i64_w, i32_w]
                                rfl
                              refine pure_ (i := 4) (N := some 87) (v := ?_) (a' := ?_) #[false, false, true, true, true, false, false, false, false, false, false, false, false] rfl rfl (any_of HT_.out (by kernel_rfl)) (fun _ _ _ h => h) (Or.inl ⟨by rfl, ?_⟩) ?_ ?_
                              rotate_left
                              · intro w'
                                go_simp
                                with_reducible rfl
                              rotate_left
                              · simp only [Act.put, List.setIfInBounds_toArray, List.set_cons_zero, List.set_cons_succ, i64_w, i32_w]
                                rfl
                              refine pure_ (i := 6) (N := some 89) (v := ?_) (a' := ?_) #[false, false, true, true, true, false, true, false, false, false, false, false, false] rfl rfl (any_of HT_.out (by kernel_rfl)) (fun _ _ _ h => h) (Or.inl ⟨by rfl, ?_⟩) ?_ ?_
                              rotate_left
                              · intro w'
                                go_simp
                                with_reducible rfl
                              rotate_left
                              · simp only [Act.put, List.setIfInBounds_toArray, List.set_cons_zero, List.set_cons_succ, i64_w, i32_w]
                                rfl
                              refine pure_ (i := 7) (N := some 90) (v := ?_) (a' := ?_) #[false, false, true, true, true, false, true, true, false, false, false, false, false] rfl rfl (any_of HT_.out (by kernel_rfl)) (fun _ _ _ h => h) (Or.inl ⟨by rfl, ?_⟩) ?_ ?_
                              rotate_left
                              · intro w'
                                go_simp
                                with_reducible rfl
                              rotate_left
                              · simp only [Act.put, List.setIfInBounds_toArray, List.set_cons_zero, List.set_cons_succ, i64_w, i32_w]
                                rfl
                              refine pure_ (i := 8) (N := some 91) (v := ?_) (a' := ?_) #[false, false, true, true, true, false, true, true, true, false, false, false, false] rfl rfl (any_of HT_.out (by kernel_rfl)) (fun _ _ _ h => h) (Or.inl ⟨by rfl, ?_⟩) ?_ ?_
                              rotate_left
                              · intro w'
                                go_simp
                                with_reducible rfl
                              rotate_left
                              · simp only [Act.put, List.setIfInBounds_toArray, List.set_cons_zero, List.set_cons_succ, i64_w, i32_w]
                                rfl
                              refine pure_ (i := 9) (N := some 92) (v := ?_) (a' := ?_) #[false, false, true, true, true, false, true, true, true, true, false, false, false] rfl rfl (any_of HT_.out (by kernel_rfl)) (fun _ _ _ h => h) (Or.inl ⟨by rfl, ?_⟩) ?_ ?_
                              rotate_left
                              · intro w'
                                go_simp
                                with_reducible rfl
                              rotate_left
                              · simp only [Act.put, List.setIfInBounds_toArray, List.set_cons_zero, List.set_cons_succ, i64_w, i32_w]
                                rfl
                              refine take_ (i := 0) (N := some 83) (v := ?_) (a' := ?_) #[true, false, true, true, true, false, true, true, true, true, false, false, false] rfl rfl (take_ofW HT_.out HW_.out (by kernel_rfl)) (fun _ _ _ h => h) (Or.inl ⟨by rfl, ?_⟩) hHeld ?_ ?_
                              rotate_left
                              · rintro w' ⟨s0, s1, s2, s3, s4, s5, s6, s7, s8, s9, s10, s11, s12, s13, s14, s15⟩
                                go_simp
                                with_reducible rfl
                              rotate_left
                              · simp only [Act.put, List.setIfInBounds_toArray, List.set_cons_zero, List.set_cons_succ, i64_w, i32_w]
                                rfl
                              refine take_ (i := 1) (N := some 84) (v := ?_) (a' := ?_) #[true, true, true, true, true, false, true, true, true, true, false, false, false] rfl rfl (take_ofW HT_.out HW_.out (by kernel_rfl)) (fun _ _ _ h => h) (Or.inl ⟨by rfl, ?_⟩) hHeld ?_ ?_
                              rotate_left
                              · rintro w' ⟨s0, s1, s2, s3, s4, s5, s6, s7, s8, s9, s10, s11, s12, s13, s14, s15⟩
                                go_simp
                                with_reducible rfl
                              rotate_left
                              · simp only [Act.put, List.setIfInBounds_toArray, List.set_cons_zero, List.set_cons_succ, i64_w, i32_w]
                                rfl
                              refine take_ (i := 5) (N := some 88) (v := ?_) (a' := ?_) #[true, true, true, true, true, true, true, true, true, true, false, false, false] rfl rfl (take_ofW HT_.out HW_.out (by kernel_rfl)) (fun _ _ _ h => h) (Or.inl ⟨by rfl, ?_⟩) hHeld ?_ ?_
                              rotate_left
                              · rintro w' ⟨s0, s1, s2, s3, s4, s5, s6, s7, s8, s9, s10, s11, s12, s13, s14, s15⟩
                                go_simp
                                with_reducible rfl
                              rotate_left
                              · simp only [Act.put, List.setIfInBounds_toArray, List.set_cons_zero, List.set_cons_succ, i64_w, i32_w]
                                rfl
                              refine join_ (σ := Nat) 1 #[true, true, true, true, true, true, true, true, true, true, true, true, false] (fun s_ => [(93, .agg #[.int .i64 t287, .int .i64 t288, .bool t289]), (12, .pointer (some ⟨s_, 0, none⟩))]) (fun s_ w' => (w'.cell? ⟨gb277, 0, none⟩ = some (.int .i64 a0_0) ∧ w'.cell? ⟨gb277, 1, none⟩ = some (.int .i64 a0_1) ∧ w'.cell? ⟨gb277, 2, none⟩ = some (.int .i64 a0_2) ∧ w'.cell? ⟨gb277, 3, none⟩ = some (.int .i64 a0_3) ∧ w'.cell? ⟨gb277, 4, none⟩ = some (.int .i64 a0_4) ∧ w'.cell? ⟨gb277, 5, none⟩ = some (.int .i64 a0_5) ∧ w'.cell? ⟨gb277, 6, none⟩ = some (.int .i64 a0_6) ∧ w'.cell? ⟨gb277, 7, none⟩ = some (.int .i64 a0_7) ∧ w'.cell? ⟨gb277, 8, none⟩ = some (.int .i64 a0_8) ∧ w'.cell? ⟨gb277, 9, none⟩ = some (.int .i64 a0_9) ∧ w'.cell? ⟨gb277, 10, none⟩ = some (.int .i64 a0_10) ∧ w'.cell? ⟨gb277, 11, none⟩ = some (.int .i64 a0_11) ∧ w'.cell? ⟨gb285, 0, none⟩ = some (.int .i64 x286000_3) ∧ w'.cell? ⟨gb285, 1, none⟩ = some (.int .i64 x286001_3) ∧ w'.cell? ⟨gb285, 2, none⟩ = some (.bool x286002_3) ∧ w'.cell? (ad286.add (x11_3).toNat) = some (.int .i64 (rd l2 x11_3))) ∧ (w'.heap[gb277]? = some (.cells #[.int .i64 a0_0, .int .i64 a0_1, .int .i64 a0_2, .int .i64 a0_3, .int .i64 a0_4, .int .i64 a0_5, .int .i64 a0_6, .int .i64 a0_7, .int .i64 a0_8, .int .i64 a0_9, .int .i64 a0_10, .int .i64 a0_11] 37 (0, 0))) ∧ (w'.heap[gb278]? = some (.cells #[.int .i64 a1_0, .int .i64 a1_1, .bool a1_2] 39 (0, 0))) ∧ (w'.heap[gb285]? = some (.cells #[.int .i64 x286000_3, .int .i64 x286001_3, .bool x286002_3] 39 (0, 0))) ∧ (w'.heap[s_]? = some (.cells #[.int .i64 0, .int .i64 0, .bool false] 39 (0, 0))) ∧ (w.heap.size ≤ s_) ∧ (w.heap.size ≤ s_) ∧ (gb277 ≠ s_) ∧ (s_ ≠ gb277) ∧ (gb278 ≠ s_) ∧ (s_ ≠ gb278) ∧ (gb285 ≠ s_) ∧ (s_ ≠ gb285) ∧ (Below w.heap.size w w')) ?_ ?_
                              rotate_left
                              · intro hCont
                                refine two_ (i := 10) (j := 11) (Ni := some 93) (Nj := some 12) #[true, true, true, true, true, true, true, true, true, true, true, false, false] #[true, true, true, true, true, true, true, true, true, true, false, true, false] rfl rfl rfl rfl (two_of HT_.out (by kernel_rfl)) (by decide) (by decide) (fun K hK => ?_) (fun K hK => ?_)
                                · skip
                                  refine goes_ Try.func26 (by kernel_rfl) rfl #[.agg #[.int .i64 a0_0, .int .i64 a0_1, .int .i64 a0_2, .int .i64 a0_3, .int .i64 a0_4, .int .i64 a0_5, .int .i64 a0_6, .int .i64 a0_7, .int .i64 a0_8, .int .i64 a0_9, .int .i64 a0_10, .int .i64 a0_11], .agg #[.int .i64 x286000_3, .int .i64 x286001_3, .bool x286002_3], .int .i64 (rd l2 x11_3), .int .i64 (wrap64 ((wrap64 (a3)) + x11_3))] (by rfl) rfl rfl (by (try simp only [List.map_toArray, List.map_cons, List.map_nil]); first | done | rfl | (simp only [List.length_drop, List.length_take]; rfl)) ?_
                                  with_reducible refine (limit_Next.calls a0_0 a0_1 a0_2 a0_3 a0_4 a0_5 a0_6 a0_7 a0_8 a0_9 a0_10 a0_11 x286000_3 x286001_3 x286002_3 (rd l2 x11_3) (wrap64 ((wrap64 (a3)) + x11_3)) t287 t288 t289 _ A85.out).mono ?_
                                  rintro e w91 ⟨rfl, hb⟩
                                  refine ⟨_, rfl, ?_⟩
                                  have n0_ := Aside0.mk (blk_below (g := gb277) (o := .cells #[.int .i64 a0_0, .int .i64 a0_1, .int .i64 a0_2, .int .i64 a0_3, .int .i64 a0_4, .int .i64 a0_5, .int .i64 a0_6, .int .i64 a0_7, .int .i64 a0_8, .int .i64 a0_9, .int .i64 a0_10, .int .i64 a0_11] 37 (0, 0)) (by (with_reducible repeat (first | refine blk_drewN ?_ _ | refine blk_drew ?_ | refine blk_alloc ?_ _)); exact BK277.out) hb)
                                  have n1_ := Aside0.mk (blk_below (g := gb278) (o := .cells #[.int .i64 a1_0, .int .i64 a1_1, .bool a1_2] 39 (0, 0)) (by (with_reducible repeat (first | refine blk_drewN ?_ _ | refine blk_drew ?_ | refine blk_alloc ?_ _)); exact BK278.out) hb)
                                  have n2_ := Aside0.mk (blk_below (g := gb285) (o := .cells #[.int .i64 x286000_3, .int .i64 x286001_3, .bool x286002_3] 39 (0, 0)) (by (with_reducible repeat (first | refine blk_drewN ?_ _ | refine blk_drew ?_ | refine blk_alloc ?_ _)); exact BK285.out) hb)
                                  have n3_ := Aside0.mk (below_step (by repeat (first | (with_reducible first | exact HB.out | apply below_alloc | apply pw_below_drewN | apply below_drew1 | refine below_set ?_ GE277.out | refine below_set ?_ GE278.out | refine below_set ?_ GE285.out) | exact HB.out)) hb)
                                  clear BK277
                                  clear BK278
                                  clear BK285
                                  clear HB
                                  have BK277 := n0_
                                  have BK278 := n1_
                                  have BK285 := n2_
                                  have HB := n3_
                                  clear n0_ n1_ n2_ n3_
                                  (try clear hb)
                                  (try clear hb2)
                                  (try clear hk)
                                  (try clear hi)
                                  refine hK.out _ _ ⟨(blk_cell BK277.out 0).trans rfl, (blk_cell BK277.out 1).trans rfl, (blk_cell BK277.out 2).trans rfl, (blk_cell BK277.out 3).trans rfl, (blk_cell BK277.out 4).trans rfl, (blk_cell BK277.out 5).trans rfl, (blk_cell BK277.out 6).trans rfl, (blk_cell BK277.out 7).trans rfl, (blk_cell BK277.out 8).trans rfl, (blk_cell BK277.out 9).trans rfl, (blk_cell BK277.out 10).trans rfl, (blk_cell BK277.out 11).trans rfl, (blk_cell BK285.out 0).trans rfl, (blk_cell BK285.out 1).trans rfl, (blk_cell BK285.out 2).trans rfl, ((HB.out.cell (World.block_lt_of_cell? w _ hw286_0)).trans hw286_0)⟩ (fun hHeld => ?_)
                                  clear hK K
                                  refine norm_ (a' := ?_) ?_ ?_
                                  rotate_left
                                  · show Act.put _ (some 93) _ = _
                                    simp only [Act.put, List.setIfInBounds_toArray, List.set_cons_zero, List.set_cons_succ, i64_w, i32_w]
                                    rfl
                                  refine one_ (i := 11) (N := some 12) #[true, true, true, true, true, true, true, true, true, true, true, true, false] rfl rfl (one_of HT_.out (by kernel_rfl)) (by decide) (fun K hK => ?_)
                                  refine box_step ?hg (N := 12) ?hd (cs := #[.int .i64 0, .int .i64 0, .bool false]) (t := 39) ?hr ?_; (case hd => rfl); (case hg => rfl); (case hr => first | (go_simp; done) | (go_simp; rfl))
                                  intro gb290 hg w92 hbox hb
                                  have n0_ := Aside0.mk (blk_below (g := gb277) (o := .cells #[.int .i64 a0_0, .int .i64 a0_1, .int .i64 a0_2, .int .i64 a0_3, .int .i64 a0_4, .int .i64 a0_5, .int .i64 a0_6, .int .i64 a0_7, .int .i64 a0_8, .int .i64 a0_9, .int .i64 a0_10, .int .i64 a0_11] 37 (0, 0)) (by (with_reducible repeat (first | refine blk_drewN ?_ _ | refine blk_drew ?_ | refine blk_alloc ?_ _)); exact BK277.out) hb)
                                  have n1_ := Aside0.mk (blk_below (g := gb278) (o := .cells #[.int .i64 a1_0, .int .i64 a1_1, .bool a1_2] 39 (0, 0)) (by (with_reducible repeat (first | refine blk_drewN ?_ _ | refine blk_drew ?_ | refine blk_alloc ?_ _)); exact BK278.out) hb)
                                  have n2_ := Aside0.mk (blk_below (g := gb285) (o := .cells #[.int .i64 x286000_3, .int .i64 x286001_3, .bool x286002_3] 39 (0, 0)) (by (with_reducible repeat (first | refine blk_drewN ?_ _ | refine blk_drew ?_ | refine blk_alloc ?_ _)); exact BK285.out) hb)
                                  have n3_ := Aside0.mk (below_step (by repeat (first | (with_reducible first | exact HB.out | apply below_alloc | apply pw_below_drewN | apply below_drew1 | refine below_set ?_ GE277.out | refine below_set ?_ GE278.out | refine below_set ?_ GE285.out) | exact HB.out)) hb)
                                  have n4_ := Aside0.mk (hbox)
                                  have n5_ := Aside0.mk ((by rw [hg]; exact (below_size (by repeat (first | (with_reducible first | exact HB.out | apply below_alloc | apply pw_below_drewN | apply below_drew1 | refine below_set ?_ GE277.out | refine below_set ?_ GE278.out | refine below_set ?_ GE285.out) | exact HB.out))) : w.heap.size ≤ gb290))
                                  have n6_ := Aside0.mk ((by rw [hg]; exact (below_size (by repeat (first | (with_reducible first | exact HB.out | apply below_alloc | apply pw_below_drewN | apply below_drew1 | refine below_set ?_ GE277.out | refine below_set ?_ GE278.out | refine below_set ?_ GE285.out) | exact HB.out))) : w.heap.size ≤ gb290))
                                  have n7_ := Aside0.mk ((by rw [hg]; exact Nat.ne_of_lt (blk_lt (g := gb277) (o := .cells #[.int .i64 a0_0, .int .i64 a0_1, .int .i64 a0_2, .int .i64 a0_3, .int .i64 a0_4, .int .i64 a0_5, .int .i64 a0_6, .int .i64 a0_7, .int .i64 a0_8, .int .i64 a0_9, .int .i64 a0_10, .int .i64 a0_11] 37 (0, 0)) (by (with_reducible repeat (first | refine blk_drewN ?_ _ | refine blk_drew ?_ | refine blk_alloc ?_ _)); exact BK277.out)) : gb277 ≠ gb290))
                                  have n8_ := Aside0.mk ((by rw [hg]; exact Nat.ne_of_gt (blk_lt (g := gb277) (o := .cells #[.int .i64 a0_0, .int .i64 a0_1, .int .i64 a0_2, .int .i64 a0_3, .int .i64 a0_4, .int .i64 a0_5, .int .i64 a0_6, .int .i64 a0_7, .int .i64 a0_8, .int .i64 a0_9, .int .i64 a0_10, .int .i64 a0_11] 37 (0, 0)) (by (with_reducible repeat (first | refine blk_drewN ?_ _ | refine blk_drew ?_ | refine blk_alloc ?_ _)); exact BK277.out)) : gb290 ≠ gb277))
                                  have n9_ := Aside0.mk ((by rw [hg]; exact Nat.ne_of_lt (blk_lt (g := gb278) (o := .cells #[.int .i64 a1_0, .int .i64 a1_1, .bool a1_2] 39 (0, 0)) (by (with_reducible repeat (first | refine blk_drewN ?_ _ | refine blk_drew ?_ | refine blk_alloc ?_ _)); exact BK278.out)) : gb278 ≠ gb290))
                                  have n10_ := Aside0.mk ((by rw [hg]; exact Nat.ne_of_gt (blk_lt (g := gb278) (o := .cells #[.int .i64 a1_0, .int .i64 a1_1, .bool a1_2] 39 (0, 0)) (by (with_reducible repeat (first | refine blk_drewN ?_ _ | refine blk_drew ?_ | refine blk_alloc ?_ _)); exact BK278.out)) : gb290 ≠ gb278))
                                  have n11_ := Aside0.mk ((by rw [hg]; exact Nat.ne_of_lt (blk_lt (g := gb285) (o := .cells #[.int .i64 x286000_3, .int .i64 x286001_3, .bool x286002_3] 39 (0, 0)) (by (with_reducible repeat (first | refine blk_drewN ?_ _ | refine blk_drew ?_ | refine blk_alloc ?_ _)); exact BK285.out)) : gb285 ≠ gb290))
                                  have n12_ := Aside0.mk ((by rw [hg]; exact Nat.ne_of_gt (blk_lt (g := gb285) (o := .cells #[.int .i64 x286000_3, .int .i64 x286001_3, .bool x286002_3] 39 (0, 0)) (by (with_reducible repeat (first | refine blk_drewN ?_ _ | refine blk_drew ?_ | refine blk_alloc ?_ _)); exact BK285.out)) : gb290 ≠ gb285))
                                  clear BK277
                                  clear BK278
                                  clear BK285
                                  clear HB
                                  have BK277 := n0_
                                  have BK278 := n1_
                                  have BK285 := n2_
                                  have HB := n3_
                                  have BK290 := n4_
                                  have GW290 := n5_
                                  have GE290 := n6_
                                  have NB277_290 := n7_
                                  have NB290_277 := n8_
                                  have NB278_290 := n9_
                                  have NB290_278 := n10_
                                  have NB285_290 := n11_
                                  have NB290_285 := n12_
                                  clear n0_ n1_ n2_ n3_ n4_ n5_ n6_ n7_ n8_ n9_ n10_ n11_ n12_
                                  clear hb hbox hg
                                  refine hK.out _ _ ⟨(blk_cell BK277.out 0).trans rfl, (blk_cell BK277.out 1).trans rfl, (blk_cell BK277.out 2).trans rfl, (blk_cell BK277.out 3).trans rfl, (blk_cell BK277.out 4).trans rfl, (blk_cell BK277.out 5).trans rfl, (blk_cell BK277.out 6).trans rfl, (blk_cell BK277.out 7).trans rfl, (blk_cell BK277.out 8).trans rfl, (blk_cell BK277.out 9).trans rfl, (blk_cell BK277.out 10).trans rfl, (blk_cell BK277.out 11).trans rfl, (blk_cell BK285.out 0).trans rfl, (blk_cell BK285.out 1).trans rfl, (blk_cell BK285.out 2).trans rfl, ((HB.out.cell (World.block_lt_of_cell? w _ hw286_0)).trans hw286_0)⟩ (fun hHeld => ?_)
                                  clear hK K
                                  refine norm_ (a' := ?_) ?_ ?_
                                  rotate_left
                                  · show Act.put _ (some 12) _ = _
                                    simp only [Act.put, List.setIfInBounds_toArray, List.set_cons_zero, List.set_cons_succ, i64_w, i32_w]
                                    rfl
                                  exact norm_ (by simp only [putAll, Act.put, List.setIfInBounds_toArray, List.set_cons_zero, List.set_cons_succ]) (hCont (gb290) _ ⟨hHeld, (by (with_reducible repeat (first | refine blk_drewN ?_ _ | refine blk_drew ?_ | refine blk_alloc ?_ _)); exact BK277.out), (by (with_reducible repeat (first | refine blk_drewN ?_ _ | refine blk_drew ?_ | refine blk_alloc ?_ _)); exact BK278.out), (by (with_reducible repeat (first | refine blk_drewN ?_ _ | refine blk_drew ?_ | refine blk_alloc ?_ _)); exact BK285.out), (by (with_reducible repeat (first | refine blk_drewN ?_ _ | refine blk_drew ?_ | refine blk_alloc ?_ _)); exact BK290.out), GW290.out, GE290.out, NB277_290.out, NB290_277.out, NB278_290.out, NB290_278.out, NB285_290.out, NB290_285.out, (by repeat (first | (with_reducible first | exact HB.out | apply below_alloc | apply pw_below_drewN | apply below_drew1 | refine below_set ?_ GE277.out | refine below_set ?_ GE278.out | refine below_set ?_ GE285.out | refine below_set ?_ GE290.out) | exact HB.out))⟩)
                                · skip
                                  refine box_step ?hg (N := 12) ?hd (cs := #[.int .i64 0, .int .i64 0, .bool false]) (t := 39) ?hr ?_; (case hd => rfl); (case hg => rfl); (case hr => first | (go_simp; done) | (go_simp; rfl))
                                  intro gb290 hg w91 hbox hb
                                  have n0_ := Aside0.mk (blk_below (g := gb277) (o := .cells #[.int .i64 a0_0, .int .i64 a0_1, .int .i64 a0_2, .int .i64 a0_3, .int .i64 a0_4, .int .i64 a0_5, .int .i64 a0_6, .int .i64 a0_7, .int .i64 a0_8, .int .i64 a0_9, .int .i64 a0_10, .int .i64 a0_11] 37 (0, 0)) (by (with_reducible repeat (first | refine blk_drewN ?_ _ | refine blk_drew ?_ | refine blk_alloc ?_ _)); exact BK277.out) hb)
                                  have n1_ := Aside0.mk (blk_below (g := gb278) (o := .cells #[.int .i64 a1_0, .int .i64 a1_1, .bool a1_2] 39 (0, 0)) (by (with_reducible repeat (first | refine blk_drewN ?_ _ | refine blk_drew ?_ | refine blk_alloc ?_ _)); exact BK278.out) hb)
                                  have n2_ := Aside0.mk (blk_below (g := gb285) (o := .cells #[.int .i64 x286000_3, .int .i64 x286001_3, .bool x286002_3] 39 (0, 0)) (by (with_reducible repeat (first | refine blk_drewN ?_ _ | refine blk_drew ?_ | refine blk_alloc ?_ _)); exact BK285.out) hb)
                                  have n3_ := Aside0.mk (below_step (by repeat (first | (with_reducible first | exact HB.out | apply below_alloc | apply pw_below_drewN | apply below_drew1 | refine below_set ?_ GE277.out | refine below_set ?_ GE278.out | refine below_set ?_ GE285.out) | exact HB.out)) hb)
                                  have n4_ := Aside0.mk (hbox)
                                  have n5_ := Aside0.mk ((by rw [hg]; exact (below_size (by repeat (first | (with_reducible first | exact HB.out | apply below_alloc | apply pw_below_drewN | apply below_drew1 | refine below_set ?_ GE277.out | refine below_set ?_ GE278.out | refine below_set ?_ GE285.out) | exact HB.out))) : w.heap.size ≤ gb290))
                                  have n6_ := Aside0.mk ((by rw [hg]; exact (below_size (by repeat (first | (with_reducible first | exact HB.out | apply below_alloc | apply pw_below_drewN | apply below_drew1 | refine below_set ?_ GE277.out | refine below_set ?_ GE278.out | refine below_set ?_ GE285.out) | exact HB.out))) : w.heap.size ≤ gb290))
                                  have n7_ := Aside0.mk ((by rw [hg]; exact Nat.ne_of_lt (blk_lt (g := gb277) (o := .cells #[.int .i64 a0_0, .int .i64 a0_1, .int .i64 a0_2, .int .i64 a0_3, .int .i64 a0_4, .int .i64 a0_5, .int .i64 a0_6, .int .i64 a0_7, .int .i64 a0_8, .int .i64 a0_9, .int .i64 a0_10, .int .i64 a0_11] 37 (0, 0)) (by (with_reducible repeat (first | refine blk_drewN ?_ _ | refine blk_drew ?_ | refine blk_alloc ?_ _)); exact BK277.out)) : gb277 ≠ gb290))
                                  have n8_ := Aside0.mk ((by rw [hg]; exact Nat.ne_of_gt (blk_lt (g := gb277) (o := .cells #[.int .i64 a0_0, .int .i64 a0_1, .int .i64 a0_2, .int .i64 a0_3, .int .i64 a0_4, .int .i64 a0_5, .int .i64 a0_6, .int .i64 a0_7, .int .i64 a0_8, .int .i64 a0_9, .int .i64 a0_10, .int .i64 a0_11] 37 (0, 0)) (by (with_reducible repeat (first | refine blk_drewN ?_ _ | refine blk_drew ?_ | refine blk_alloc ?_ _)); exact BK277.out)) : gb290 ≠ gb277))
                                  have n9_ := Aside0.mk ((by rw [hg]; exact Nat.ne_of_lt (blk_lt (g := gb278) (o := .cells #[.int .i64 a1_0, .int .i64 a1_1, .bool a1_2] 39 (0, 0)) (by (with_reducible repeat (first | refine blk_drewN ?_ _ | refine blk_drew ?_ | refine blk_alloc ?_ _)); exact BK278.out)) : gb278 ≠ gb290))
                                  have n10_ := Aside0.mk ((by rw [hg]; exact Nat.ne_of_gt (blk_lt (g := gb278) (o := .cells #[.int .i64 a1_0, .int .i64 a1_1, .bool a1_2] 39 (0, 0)) (by (with_reducible repeat (first | refine blk_drewN ?_ _ | refine blk_drew ?_ | refine blk_alloc ?_ _)); exact BK278.out)) : gb290 ≠ gb278))
                                  have n11_ := Aside0.mk ((by rw [hg]; exact Nat.ne_of_lt (blk_lt (g := gb285) (o := .cells #[.int .i64 x286000_3, .int .i64 x286001_3, .bool x286002_3] 39 (0, 0)) (by (with_reducible repeat (first | refine blk_drewN ?_ _ | refine blk_drew ?_ | refine blk_alloc ?_ _)); exact BK285.out)) : gb285 ≠ gb290))
                                  have n12_ := Aside0.mk ((by rw [hg]; exact Nat.ne_of_gt (blk_lt (g := gb285) (o := .cells #[.int .i64 x286000_3, .int .i64 x286001_3, .bool x286002_3] 39 (0, 0)) (by (with_reducible repeat (first | refine blk_drewN ?_ _ | refine blk_drew ?_ | refine blk_alloc ?_ _)); exact BK285.out)) : gb290 ≠ gb285))
                                  clear BK277
                                  clear BK278
                                  clear BK285
                                  clear HB
                                  have BK277 := n0_
                                  have BK278 := n1_
                                  have BK285 := n2_
                                  have HB := n3_
                                  have BK290 := n4_
                                  have GW290 := n5_
                                  have GE290 := n6_
                                  have NB277_290 := n7_
                                  have NB290_277 := n8_
                                  have NB278_290 := n9_
                                  have NB290_278 := n10_
                                  have NB285_290 := n11_
                                  have NB290_285 := n12_
                                  clear n0_ n1_ n2_ n3_ n4_ n5_ n6_ n7_ n8_ n9_ n10_ n11_ n12_
                                  clear hb hbox hg
                                  refine hK.out _ _ ⟨(blk_cell BK277.out 0).trans rfl, (blk_cell BK277.out 1).trans rfl, (blk_cell BK277.out 2).trans rfl, (blk_cell BK277.out 3).trans rfl, (blk_cell BK277.out 4).trans rfl, (blk_cell BK277.out 5).trans rfl, (blk_cell BK277.out 6).trans rfl, (blk_cell BK277.out 7).trans rfl, (blk_cell BK277.out 8).trans rfl, (blk_cell BK277.out 9).trans rfl, (blk_cell BK277.out 10).trans rfl, (blk_cell BK277.out 11).trans rfl, (blk_cell BK285.out 0).trans rfl, (blk_cell BK285.out 1).trans rfl, (blk_cell BK285.out 2).trans rfl, ((HB.out.cell (World.block_lt_of_cell? w _ hw286_0)).trans hw286_0)⟩ (fun hHeld => ?_)
                                  clear hK K
                                  refine norm_ (a' := ?_) ?_ ?_
                                  rotate_left
                                  · show Act.put _ (some 12) _ = _
                                    simp only [Act.put, List.setIfInBounds_toArray, List.set_cons_zero, List.set_cons_succ, i64_w, i32_w]
                                    rfl
                                  refine one_ (i := 10) (N := some 93) #[true, true, true, true, true, true, true, true, true, true, true, true, false] rfl rfl (one_of HT_.out (by kernel_rfl)) (by decide) (fun K hK => ?_)
                                  refine goes_ Try.func26 (by kernel_rfl) rfl #[.agg #[.int .i64 a0_0, .int .i64 a0_1, .int .i64 a0_2, .int .i64 a0_3, .int .i64 a0_4, .int .i64 a0_5, .int .i64 a0_6, .int .i64 a0_7, .int .i64 a0_8, .int .i64 a0_9, .int .i64 a0_10, .int .i64 a0_11], .agg #[.int .i64 x286000_3, .int .i64 x286001_3, .bool x286002_3], .int .i64 (rd l2 x11_3), .int .i64 (wrap64 ((wrap64 (a3)) + x11_3))] (by rfl) rfl rfl (by (try simp only [List.map_toArray, List.map_cons, List.map_nil]); first | done | rfl | (simp only [List.length_drop, List.length_take]; rfl)) ?_
                                  with_reducible refine (limit_Next.calls a0_0 a0_1 a0_2 a0_3 a0_4 a0_5 a0_6 a0_7 a0_8 a0_9 a0_10 a0_11 x286000_3 x286001_3 x286002_3 (rd l2 x11_3) (wrap64 ((wrap64 (a3)) + x11_3)) t287 t288 t289 _ A85.out).mono ?_
                                  rintro e w92 ⟨rfl, hb⟩
                                  refine ⟨_, rfl, ?_⟩
                                  have n0_ := Aside0.mk (blk_below (g := gb277) (o := .cells #[.int .i64 a0_0, .int .i64 a0_1, .int .i64 a0_2, .int .i64 a0_3, .int .i64 a0_4, .int .i64 a0_5, .int .i64 a0_6, .int .i64 a0_7, .int .i64 a0_8, .int .i64 a0_9, .int .i64 a0_10, .int .i64 a0_11] 37 (0, 0)) (by (with_reducible repeat (first | refine blk_drewN ?_ _ | refine blk_drew ?_ | refine blk_alloc ?_ _)); exact BK277.out) hb)
                                  have n1_ := Aside0.mk (blk_below (g := gb278) (o := .cells #[.int .i64 a1_0, .int .i64 a1_1, .bool a1_2] 39 (0, 0)) (by (with_reducible repeat (first | refine blk_drewN ?_ _ | refine blk_drew ?_ | refine blk_alloc ?_ _)); exact BK278.out) hb)
                                  have n2_ := Aside0.mk (blk_below (g := gb285) (o := .cells #[.int .i64 x286000_3, .int .i64 x286001_3, .bool x286002_3] 39 (0, 0)) (by (with_reducible repeat (first | refine blk_drewN ?_ _ | refine blk_drew ?_ | refine blk_alloc ?_ _)); exact BK285.out) hb)
                                  have n3_ := Aside0.mk (blk_below (g := gb290) (o := .cells #[.int .i64 0, .int .i64 0, .bool false] 39 (0, 0)) (by (with_reducible repeat (first | refine blk_drewN ?_ _ | refine blk_drew ?_ | refine blk_alloc ?_ _)); exact BK290.out) hb)
                                  have n4_ := Aside0.mk (below_step (by repeat (first | (with_reducible first | exact HB.out | apply below_alloc | apply pw_below_drewN | apply below_drew1 | refine below_set ?_ GE277.out | refine below_set ?_ GE278.out | refine below_set ?_ GE285.out | refine below_set ?_ GE290.out) | exact HB.out)) hb)
                                  clear BK277
                                  clear BK278
                                  clear BK285
                                  clear BK290
                                  clear HB
                                  have BK277 := n0_
                                  have BK278 := n1_
                                  have BK285 := n2_
                                  have BK290 := n3_
                                  have HB := n4_
                                  clear n0_ n1_ n2_ n3_ n4_
                                  (try clear hb)
                                  (try clear hb2)
                                  (try clear hk)
                                  (try clear hi)
                                  refine hK.out _ _ ⟨(blk_cell BK277.out 0).trans rfl, (blk_cell BK277.out 1).trans rfl, (blk_cell BK277.out 2).trans rfl, (blk_cell BK277.out 3).trans rfl, (blk_cell BK277.out 4).trans rfl, (blk_cell BK277.out 5).trans rfl, (blk_cell BK277.out 6).trans rfl, (blk_cell BK277.out 7).trans rfl, (blk_cell BK277.out 8).trans rfl, (blk_cell BK277.out 9).trans rfl, (blk_cell BK277.out 10).trans rfl, (blk_cell BK277.out 11).trans rfl, (blk_cell BK285.out 0).trans rfl, (blk_cell BK285.out 1).trans rfl, (blk_cell BK285.out 2).trans rfl, ((HB.out.cell (World.block_lt_of_cell? w _ hw286_0)).trans hw286_0)⟩ (fun hHeld => ?_)
                                  clear hK K
                                  refine norm_ (a' := ?_) ?_ ?_
                                  rotate_left
                                  · show Act.put _ (some 93) _ = _
                                    simp only [Act.put, List.setIfInBounds_toArray, List.set_cons_zero, List.set_cons_succ, i64_w, i32_w]
                                    rfl
                                  exact norm_ (by simp only [putAll, Act.put, List.setIfInBounds_toArray, List.set_cons_zero, List.set_cons_succ]) (hCont (gb290) _ ⟨hHeld, (by (with_reducible repeat (first | refine blk_drewN ?_ _ | refine blk_drew ?_ | refine blk_alloc ?_ _)); exact BK277.out), (by (with_reducible repeat (first | refine blk_drewN ?_ _ | refine blk_drew ?_ | refine blk_alloc ?_ _)); exact BK278.out), (by (with_reducible repeat (first | refine blk_drewN ?_ _ | refine blk_drew ?_ | refine blk_alloc ?_ _)); exact BK285.out), (by (with_reducible repeat (first | refine blk_drewN ?_ _ | refine blk_drew ?_ | refine blk_alloc ?_ _)); exact BK290.out), GW290.out, GE290.out, NB277_290.out, NB290_277.out, NB278_290.out, NB290_278.out, NB285_290.out, NB290_285.out, (by repeat (first | (with_reducible first | exact HB.out | apply below_alloc | apply pw_below_drewN | apply below_drew1 | refine below_set ?_ GE277.out | refine below_set ?_ GE278.out | refine below_set ?_ GE285.out | refine below_set ?_ GE290.out) | exact HB.out))⟩)
                              rintro gb290 w93 ⟨hS_, h0_, h1_, h2_, h3_, h4_, h5_, h6_, h7_, h8_, h9_, h10_, h11_, h12_⟩
                              have n0_ : Aside0 (w93.heap[gb277]? = some (.cells #[.int .i64 a0_0, .int .i64 a0_1, .int .i64 a0_2, .int .i64 a0_3, .int .i64 a0_4, .int .i64 a0_5, .int .i64 a0_6, .int .i64 a0_7, .int .i64 a0_8, .int .i64 a0_9, .int .i64 a0_10, .int .i64 a0_11] 37 (0, 0))) := ⟨h0_⟩
                              have n1_ : Aside0 (w93.heap[gb278]? = some (.cells #[.int .i64 a1_0, .int .i64 a1_1, .bool a1_2] 39 (0, 0))) := ⟨h1_⟩
                              have n2_ : Aside0 (w93.heap[gb285]? = some (.cells #[.int .i64 x286000_3, .int .i64 x286001_3, .bool x286002_3] 39 (0, 0))) := ⟨h2_⟩
                              have n3_ : Aside0 (w93.heap[gb290]? = some (.cells #[.int .i64 0, .int .i64 0, .bool false] 39 (0, 0))) := ⟨h3_⟩
                              have n4_ : Aside0 (w.heap.size ≤ gb290) := ⟨h4_⟩
                              have n5_ : Aside0 (w.heap.size ≤ gb290) := ⟨h5_⟩
                              have n6_ : Aside0 (gb277 ≠ gb290) := ⟨h6_⟩
                              have n7_ : Aside0 (gb290 ≠ gb277) := ⟨h7_⟩
                              have n8_ : Aside0 (gb278 ≠ gb290) := ⟨h8_⟩
                              have n9_ : Aside0 (gb290 ≠ gb278) := ⟨h9_⟩
                              have n10_ : Aside0 (gb285 ≠ gb290) := ⟨h10_⟩
                              have n11_ : Aside0 (gb290 ≠ gb285) := ⟨h11_⟩
                              have n12_ : Aside0 (Below w.heap.size w w93) := ⟨h12_⟩
                              clear BK277
                              clear BK278
                              clear BK285
                              clear HB
                              clear h0_ h1_ h2_ h3_ h4_ h5_ h6_ h7_ h8_ h9_ h10_ h11_ h12_
                              have BK277 := n0_
                              have BK278 := n1_
                              have BK285 := n2_
                              have BK290 := n3_
                              have GW290 := n4_
                              have GE290 := n5_
                              have NB277_290 := n6_
                              have NB290_277 := n7_
                              have NB278_290 := n8_
                              have NB290_278 := n9_
                              have NB285_290 := n10_
                              have NB290_285 := n11_
                              have HB := n12_
                              clear n0_ n1_ n2_ n3_ n4_ n5_ n6_ n7_ n8_ n9_ n10_ n11_ n12_
                              have hHeld : w93.cell? ⟨gb277, 0, none⟩ = some (.int .i64 a0_0) ∧ w93.cell? ⟨gb277, 1, none⟩ = some (.int .i64 a0_1) ∧ w93.cell? ⟨gb277, 2, none⟩ = some (.int .i64 a0_2) ∧ w93.cell? ⟨gb277, 3, none⟩ = some (.int .i64 a0_3) ∧ w93.cell? ⟨gb277, 4, none⟩ = some (.int .i64 a0_4) ∧ w93.cell? ⟨gb277, 5, none⟩ = some (.int .i64 a0_5) ∧ w93.cell? ⟨gb277, 6, none⟩ = some (.int .i64 a0_6) ∧ w93.cell? ⟨gb277, 7, none⟩ = some (.int .i64 a0_7) ∧ w93.cell? ⟨gb277, 8, none⟩ = some (.int .i64 a0_8) ∧ w93.cell? ⟨gb277, 9, none⟩ = some (.int .i64 a0_9) ∧ w93.cell? ⟨gb277, 10, none⟩ = some (.int .i64 a0_10) ∧ w93.cell? ⟨gb277, 11, none⟩ = some (.int .i64 a0_11) ∧ w93.cell? ⟨gb285, 0, none⟩ = some (.int .i64 x286000_3) ∧ w93.cell? ⟨gb285, 1, none⟩ = some (.int .i64 x286001_3) ∧ w93.cell? ⟨gb285, 2, none⟩ = some (.bool x286002_3) ∧ w93.cell? (ad286.add (x11_3).toNat) = some (.int .i64 (rd l2 x11_3)) := hS_
                              refine norm_ (a' := ?_) ?_ ?_
                              rotate_left
                              · simp only [putAll, Act.put, List.setIfInBounds_toArray, List.set_cons_zero, List.set_cons_succ]
                                rfl
                              refine one_ (i := 12) (N := none) #[true, true, true, true, true, true, true, true, true, true, true, true, true] rfl rfl (one_of HT_.out (by kernel_rfl)) (by decide) (fun K hK => ?_)
                              have hs94 : w93.cell? ⟨gb290, 0, none⟩ = some (.int .i64 0) := (blk_cell BK290.out 0).trans rfl
                              have hfs94 := blk_frozen BK290.out 0
                              have hns94_0 := NB277_290.out
                              have hns94_1 := NB278_290.out
                              have hns94_2 := NB285_290.out
                              have hms94_0 := NB290_277.out
                              have hms94_1 := NB290_278.out
                              have hms94_2 := NB290_285.out
                              have hs95 : w93.cell? ⟨gb290, 1, none⟩ = some (.int .i64 0) := (blk_cell BK290.out 1).trans rfl
                              have hfs95 := blk_frozen BK290.out 1
                              have hns95_0 := NB277_290.out
                              have hns95_1 := NB278_290.out
                              have hns95_2 := NB285_290.out
                              have hms95_0 := NB290_277.out
                              have hms95_1 := NB290_278.out
                              have hms95_2 := NB290_285.out
                              have hs96 : w93.cell? ⟨gb290, 2, none⟩ = some (.bool false) := (blk_cell BK290.out 2).trans rfl
                              have hfs96 := blk_frozen BK290.out 2
                              have hns96_0 := NB277_290.out
                              have hns96_1 := NB278_290.out
                              have hns96_2 := NB285_290.out
                              have hms96_0 := NB290_277.out
                              have hms96_1 := NB290_278.out
                              have hms96_2 := NB290_285.out
                              refine skip_ (w1 := ?_) (by rfl) rfl ?_ ?_
                              rotate_left
                              · go_simp
                                rfl
                              refine hK.out _ _ ⟨((cell_far (p := ⟨gb290, _, none⟩) NB277_290.out _).trans (((cell_far (p := ⟨gb290, _, none⟩) NB277_290.out _).trans (((cell_far (p := ⟨gb290, _, none⟩) NB277_290.out _).trans (hHeld.1)))))), ((cell_far (p := ⟨gb290, _, none⟩) NB277_290.out _).trans (((cell_far (p := ⟨gb290, _, none⟩) NB277_290.out _).trans (((cell_far (p := ⟨gb290, _, none⟩) NB277_290.out _).trans (hHeld.2.1)))))), ((cell_far (p := ⟨gb290, _, none⟩) NB277_290.out _).trans (((cell_far (p := ⟨gb290, _, none⟩) NB277_290.out _).trans (((cell_far (p := ⟨gb290, _, none⟩) NB277_290.out _).trans (hHeld.2.2.1)))))), ((cell_far (p := ⟨gb290, _, none⟩) NB277_290.out _).trans (((cell_far (p := ⟨gb290, _, none⟩) NB277_290.out _).trans (((cell_far (p := ⟨gb290, _, none⟩) NB277_290.out _).trans (hHeld.2.2.2.1)))))), ((cell_far (p := ⟨gb290, _, none⟩) NB277_290.out _).trans (((cell_far (p := ⟨gb290, _, none⟩) NB277_290.out _).trans (((cell_far (p := ⟨gb290, _, none⟩) NB277_290.out _).trans (hHeld.2.2.2.2.1)))))), ((cell_far (p := ⟨gb290, _, none⟩) NB277_290.out _).trans (((cell_far (p := ⟨gb290, _, none⟩) NB277_290.out _).trans (((cell_far (p := ⟨gb290, _, none⟩) NB277_290.out _).trans (hHeld.2.2.2.2.2.1)))))), ((cell_far (p := ⟨gb290, _, none⟩) NB277_290.out _).trans (((cell_far (p := ⟨gb290, _, none⟩) NB277_290.out _).trans (((cell_far (p := ⟨gb290, _, none⟩) NB277_290.out _).trans (hHeld.2.2.2.2.2.2.1)))))), ((cell_far (p := ⟨gb290, _, none⟩) NB277_290.out _).trans (((cell_far (p := ⟨gb290, _, none⟩) NB277_290.out _).trans (((cell_far (p := ⟨gb290, _, none⟩) NB277_290.out _).trans (hHeld.2.2.2.2.2.2.2.1)))))), ((cell_far (p := ⟨gb290, _, none⟩) NB277_290.out _).trans (((cell_far (p := ⟨gb290, _, none⟩) NB277_290.out _).trans (((cell_far (p := ⟨gb290, _, none⟩) NB277_290.out _).trans (hHeld.2.2.2.2.2.2.2.2.1)))))), ((cell_far (p := ⟨gb290, _, none⟩) NB277_290.out _).trans (((cell_far (p := ⟨gb290, _, none⟩) NB277_290.out _).trans (((cell_far (p := ⟨gb290, _, none⟩) NB277_290.out _).trans (hHeld.2.2.2.2.2.2.2.2.2.1)))))), ((cell_far (p := ⟨gb290, _, none⟩) NB277_290.out _).trans (((cell_far (p := ⟨gb290, _, none⟩) NB277_290.out _).trans (((cell_far (p := ⟨gb290, _, none⟩) NB277_290.out _).trans (hHeld.2.2.2.2.2.2.2.2.2.2.1)))))), ((cell_far (p := ⟨gb290, _, none⟩) NB277_290.out _).trans (((cell_far (p := ⟨gb290, _, none⟩) NB277_290.out _).trans (((cell_far (p := ⟨gb290, _, none⟩) NB277_290.out _).trans (hHeld.2.2.2.2.2.2.2.2.2.2.2.1)))))), ((cell_far (p := ⟨gb290, _, none⟩) NB285_290.out _).trans (((cell_far (p := ⟨gb290, _, none⟩) NB285_290.out _).trans (((cell_far (p := ⟨gb290, _, none⟩) NB285_290.out _).trans (hHeld.2.2.2.2.2.2.2.2.2.2.2.2.1)))))), ((cell_far (p := ⟨gb290, _, none⟩) NB285_290.out _).trans (((cell_far (p := ⟨gb290, _, none⟩) NB285_290.out _).trans (((cell_far (p := ⟨gb290, _, none⟩) NB285_290.out _).trans (hHeld.2.2.2.2.2.2.2.2.2.2.2.2.2.1)))))), ((cell_far (p := ⟨gb290, _, none⟩) NB285_290.out _).trans (((cell_far (p := ⟨gb290, _, none⟩) NB285_290.out _).trans (((cell_far (p := ⟨gb290, _, none⟩) NB285_290.out _).trans (hHeld.2.2.2.2.2.2.2.2.2.2.2.2.2.2.1)))))), ((cell_far (p := ⟨gb290, _, none⟩) (by first | exact Nat.ne_of_lt (Nat.lt_of_lt_of_le (by have := World.block_lt_of_cell? _ _ hw286_0; first | rwa [add_block] at this | exact this) GW290.out) | (rw [add_block]; exact Nat.ne_of_lt (Nat.lt_of_lt_of_le (by have := World.block_lt_of_cell? _ _ hw286_0; first | rwa [add_block] at this | exact this) GW290.out)) | (show (Addr.add _ _).block ≠ _; rw [add_block]; exact Nat.ne_of_lt (Nat.lt_of_lt_of_le (by have := World.block_lt_of_cell? _ _ hw286_0; first | rwa [add_block] at this | exact this) GW290.out)) | (dsimp only; exact Nat.ne_of_lt (Nat.lt_of_lt_of_le (by have := World.block_lt_of_cell? _ _ hw286_0; first | rwa [add_block] at this | exact this) GW290.out))) _).trans (((cell_far (p := ⟨gb290, _, none⟩) (by first | exact Nat.ne_of_lt (Nat.lt_of_lt_of_le (by have := World.block_lt_of_cell? _ _ hw286_0; first | rwa [add_block] at this | exact this) GW290.out) | (rw [add_block]; exact Nat.ne_of_lt (Nat.lt_of_lt_of_le (by have := World.block_lt_of_cell? _ _ hw286_0; first | rwa [add_block] at this | exact this) GW290.out)) | (show (Addr.add _ _).block ≠ _; rw [add_block]; exact Nat.ne_of_lt (Nat.lt_of_lt_of_le (by have := World.block_lt_of_cell? _ _ hw286_0; first | rwa [add_block] at this | exact this) GW290.out)) | (dsimp only; exact Nat.ne_of_lt (Nat.lt_of_lt_of_le (by have := World.block_lt_of_cell? _ _ hw286_0; first | rwa [add_block] at this | exact this) GW290.out))) _).trans (((cell_far (p := ⟨gb290, _, none⟩) (by first | exact Nat.ne_of_lt (Nat.lt_of_lt_of_le (by have := World.block_lt_of_cell? _ _ hw286_0; first | rwa [add_block] at this | exact this) GW290.out) | (rw [add_block]; exact Nat.ne_of_lt (Nat.lt_of_lt_of_le (by have := World.block_lt_of_cell? _ _ hw286_0; first | rwa [add_block] at this | exact this) GW290.out)) | (show (Addr.add _ _).block ≠ _; rw [add_block]; exact Nat.ne_of_lt (Nat.lt_of_lt_of_le (by have := World.block_lt_of_cell? _ _ hw286_0; first | rwa [add_block] at this | exact this) GW290.out)) | (dsimp only; exact Nat.ne_of_lt (Nat.lt_of_lt_of_le (by have := World.block_lt_of_cell? _ _ hw286_0; first | rwa [add_block] at this | exact this) GW290.out))) _).trans (hHeld.2.2.2.2.2.2.2.2.2.2.2.2.2.2.2))))))⟩ (fun hHeld => ?_)
                              clear hK K
                              refine done_ (done_of HT_.out (by kernel_rfl)) ?_
                              have hnb97 := NB290_277.out
                              have hnc97 := NB277_290.out
                              have hnb98 := NB290_278.out
                              have hnc98 := NB278_290.out
                              have hnb99 := NB290_285.out
                              have hnc99 := NB285_290.out
                              have hcz100_0 : w93.cell? ⟨gb290, 0, none⟩ = some (.int .i64 0) := (blk_cell BK290.out 0).trans rfl
                              have hcz100_1 : w93.cell? ⟨gb290, 1, none⟩ = some (.int .i64 0) := (blk_cell BK290.out 1).trans rfl
                              have hcz100_2 : w93.cell? ⟨gb290, 2, none⟩ = some (.bool false) := (blk_cell BK290.out 2).trans rfl
                              have hfz100_0 := blk_frozen BK290.out 0
                              have hfz100_1 := blk_frozen BK290.out 1
                              have hfz100_2 := blk_frozen BK290.out 2
                              have hnb101 := NB277_278.out
                              have hnc101 := NB278_277.out
                              have hnb102 := NB277_285.out
                              have hnc102 := NB285_277.out
                              have hcz103_0 : w93.cell? ⟨gb277, 0, none⟩ = some (.int .i64 a0_0) := (blk_cell BK277.out 0).trans rfl
                              have hcz103_1 : w93.cell? ⟨gb277, 1, none⟩ = some (.int .i64 a0_1) := (blk_cell BK277.out 1).trans rfl
                              have hcz103_2 : w93.cell? ⟨gb277, 2, none⟩ = some (.int .i64 a0_2) := (blk_cell BK277.out 2).trans rfl
                              have hcz103_3 : w93.cell? ⟨gb277, 3, none⟩ = some (.int .i64 a0_3) := (blk_cell BK277.out 3).trans rfl
                              have hcz103_4 : w93.cell? ⟨gb277, 4, none⟩ = some (.int .i64 a0_4) := (blk_cell BK277.out 4).trans rfl
                              have hcz103_5 : w93.cell? ⟨gb277, 5, none⟩ = some (.int .i64 a0_5) := (blk_cell BK277.out 5).trans rfl
                              have hcz103_6 : w93.cell? ⟨gb277, 6, none⟩ = some (.int .i64 a0_6) := (blk_cell BK277.out 6).trans rfl
                              have hcz103_7 : w93.cell? ⟨gb277, 7, none⟩ = some (.int .i64 a0_7) := (blk_cell BK277.out 7).trans rfl
                              have hcz103_8 : w93.cell? ⟨gb277, 8, none⟩ = some (.int .i64 a0_8) := (blk_cell BK277.out 8).trans rfl
                              have hcz103_9 : w93.cell? ⟨gb277, 9, none⟩ = some (.int .i64 a0_9) := (blk_cell BK277.out 9).trans rfl
                              have hcz103_10 : w93.cell? ⟨gb277, 10, none⟩ = some (.int .i64 a0_10) := (blk_cell BK277.out 10).trans rfl
                              have hcz103_11 : w93.cell? ⟨gb277, 11, none⟩ = some (.int .i64 a0_11) := (blk_cell BK277.out 11).trans rfl
                              have hfz103_0 := blk_frozen BK277.out 0
                              have hfz103_1 := blk_frozen BK277.out 1
                              have hfz103_2 := blk_frozen BK277.out 2
                              have hfz103_3 := blk_frozen BK277.out 3
                              have hfz103_4 := blk_frozen BK277.out 4
                              have hfz103_5 := blk_frozen BK277.out 5
                              have hfz103_6 := blk_frozen BK277.out 6
                              have hfz103_7 := blk_frozen BK277.out 7
                              have hfz103_8 := blk_frozen BK277.out 8
                              have hfz103_9 := blk_frozen BK277.out 9
                              have hfz103_10 := blk_frozen BK277.out 10
                              have hfz103_11 := blk_frozen BK277.out 11
                              have hnb104 := NB285_278.out
                              have hnc104 := NB278_285.out
                              have hcz105_0 : w93.cell? ⟨gb285, 0, none⟩ = some (.int .i64 x286000_3) := (blk_cell BK285.out 0).trans rfl
                              have hcz105_1 : w93.cell? ⟨gb285, 1, none⟩ = some (.int .i64 x286001_3) := (blk_cell BK285.out 1).trans rfl
                              have hcz105_2 : w93.cell? ⟨gb285, 2, none⟩ = some (.bool x286002_3) := (blk_cell BK285.out 2).trans rfl
                              have hfz105_0 := blk_frozen BK285.out 0
                              have hfz105_1 := blk_frozen BK285.out 1
                              have hfz105_2 := blk_frozen BK285.out 2
                              try go_wp2
                              go_roundg k3
                              case measure => have := HJ5.out; have := HJ26.out; have := HK3.out; omega
                              case rel => exact ⟨(wrap64 (x11_3 + 1)), (t287), (t288), (t289), (by first | rfl | (simp; done) | (simp [*]; done)), H', ⟨by have := HJ5.out; have := HJ26.out; have := HK3.out; omega⟩, ⟨by (with_reducible repeat (first | refine blk_drewN ?_ _ | refine blk_drew ?_ | refine blk_alloc ?_ _)); refine blk_far ?_ NB277_285.out _; (with_reducible repeat (first | refine blk_drewN ?_ _ | refine blk_drew ?_ | refine blk_alloc ?_ _)); refine blk_far ?_ NB277_285.out _; (with_reducible repeat (first | refine blk_drewN ?_ _ | refine blk_drew ?_ | refine blk_alloc ?_ _)); refine blk_far ?_ NB277_285.out _; (with_reducible repeat (first | refine blk_drewN ?_ _ | refine blk_drew ?_ | refine blk_alloc ?_ _)); refine blk_far ?_ NB277_290.out _; (with_reducible repeat (first | refine blk_drewN ?_ _ | refine blk_drew ?_ | refine blk_alloc ?_ _)); refine blk_far ?_ NB277_290.out _; (with_reducible repeat (first | refine blk_drewN ?_ _ | refine blk_drew ?_ | refine blk_alloc ?_ _)); refine blk_far ?_ NB277_290.out _; (with_reducible repeat (first | refine blk_drewN ?_ _ | refine blk_drew ?_ | refine blk_alloc ?_ _)); exact BK277.out⟩, ⟨by (with_reducible repeat (first | refine blk_drewN ?_ _ | refine blk_drew ?_ | refine blk_alloc ?_ _)); refine blk_far ?_ NB278_285.out _; (with_reducible repeat (first | refine blk_drewN ?_ _ | refine blk_drew ?_ | refine blk_alloc ?_ _)); refine blk_far ?_ NB278_285.out _; (with_reducible repeat (first | refine blk_drewN ?_ _ | refine blk_drew ?_ | refine blk_alloc ?_ _)); refine blk_far ?_ NB278_285.out _; (with_reducible repeat (first | refine blk_drewN ?_ _ | refine blk_drew ?_ | refine blk_alloc ?_ _)); refine blk_far ?_ NB278_290.out _; (with_reducible repeat (first | refine blk_drewN ?_ _ | refine blk_drew ?_ | refine blk_alloc ?_ _)); refine blk_far ?_ NB278_290.out _; (with_reducible repeat (first | refine blk_drewN ?_ _ | refine blk_drew ?_ | refine blk_alloc ?_ _)); refine blk_far ?_ NB278_290.out _; (with_reducible repeat (first | refine blk_drewN ?_ _ | refine blk_drew ?_ | refine blk_alloc ?_ _)); exact BK278.out⟩, ⟨by (with_reducible repeat (first | refine blk_drewN ?_ _ | refine blk_drew ?_ | refine blk_alloc ?_ _)); refine blk_put (cs := #[.int .i64 t287, .int .i64 t288, .bool x286002_3]) ?_ 2 _ rfl; (with_reducible repeat (first | refine blk_drewN ?_ _ | refine blk_drew ?_ | refine blk_alloc ?_ _)); refine blk_put (cs := #[.int .i64 t287, .int .i64 x286001_3, .bool x286002_3]) ?_ 1 _ rfl; (with_reducible repeat (first | refine blk_drewN ?_ _ | refine blk_drew ?_ | refine blk_alloc ?_ _)); refine blk_put (cs := #[.int .i64 x286000_3, .int .i64 x286001_3, .bool x286002_3]) ?_ 0 _ rfl; (with_reducible repeat (first | refine blk_drewN ?_ _ | refine blk_drew ?_ | refine blk_alloc ?_ _)); refine blk_far ?_ NB285_290.out _; (with_reducible repeat (first | refine blk_drewN ?_ _ | refine blk_drew ?_ | refine blk_alloc ?_ _)); refine blk_far ?_ NB285_290.out _; (with_reducible repeat (first | refine blk_drewN ?_ _ | refine blk_drew ?_ | refine blk_alloc ?_ _)); refine blk_far ?_ NB285_290.out _; (with_reducible repeat (first | refine blk_drewN ?_ _ | refine blk_drew ?_ | refine blk_alloc ?_ _)); exact BK285.out⟩, ⟨by repeat (first | (with_reducible first | exact HB.out | apply below_alloc | apply pw_below_drewN | apply below_drew1 | refine below_set ?_ GE277.out | refine below_set ?_ GE278.out | refine below_set ?_ GE285.out | refine below_set ?_ GE290.out) | exact HB.out)⟩⟩
                    · rw [if_neg c84] at H
                      exact absurd H (by simp)
                  · rw [if_neg c83] at H
                    have c83b0 : decide (x11_3 < (l2.length : Int)) = false := decide_eq_false c83
                    clear c83
                    obtain rfl := Option.some.inj H
                    go_wp2
                    go_ret
                    exact ⟨by first | rfl | (simp [errW_none, errW_some] <;> rfl) | (simp [*, errW_none, errW_some] <;> rfl), by repeat (first | (with_reducible first | exact HB.out | apply below_alloc | apply pw_below_drewN | apply below_drew1 | refine below_set ?_ GE277.out | refine below_set ?_ GE278.out | refine below_set ?_ GE285.out) | exact HB.out)⟩

end Go.Proofs.Ytnipomnkjegebaa.PAll
