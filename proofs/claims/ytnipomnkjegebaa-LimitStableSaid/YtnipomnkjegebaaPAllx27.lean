-- laid by a program of this session (tprint.py) out of the translation and of texts typed by hand; Lean checks it
import Derived.Test.YtnipomnkjegebaaPAllx0
import Derived.Test.YtnipomnkjegebaaPAllx16
import Derived.Test.YtnipomnkjegebaaPAllx18
import Derived.Test.YtnipomnkjegebaaPAllx20
import Derived.Test.YtnipomnkjegebaaPAllx21
import Derived.Test.YtnipomnkjegebaaPAllx22
namespace Go.Proofs.Ytnipomnkjegebaa.PAll
open Go.RowKit Go.Proofs.YtnipomnkjegebaaW.PrintWords Go.Proofs.YtnipomnkjegebaaW.PrintLast Go.Proofs.YtnipomnkjegebaaW.PrintMore
attribute [local go_sem] max2_int min2_int max_two min_two max_three min_three max_four min_four   -- for this text's walks alone
set_option linter.unusedVariables false
set_option linter.unusedSimpArgs false

/-! ### governorlaw15_LimitStable: function 11 -/
mutual
def governorlaw15_LimitStable.j0 : Nat → List Int → List Int → Bool → Bool → Int → Int → Int → Int → Int → Int → Int → Int → Int → Int → Int → Int → Int → Int → Bool → Option (Bool)
  | 0, _, _, _, _, _, _, _, _, _, _, _, _, _, _, _, _, _, _, _ => none
  | k + 1, x2, x3, x9, x30, x292000, x292001, x292002, x292003, x292004, x292005, x292006, x292007, x292008, x292009, x292010, x292011, x293000, x293001, x293002 => if x30 = true then (some x9) else ((limit_Into.f x292000 x292001 x292002 x292003 x292004 x292005 x292006 x292007 x292008 x292009 x292010 x292011 x293000 x293001 x293002).bind fun bt296 => (governorlaw15_LimitStable.l0 k x2 x3 x9 0 0 false 0 x292000 x292001 x292002 x292003 x292004 x292005 x292006 x292007 x292008 x292009 x292010 x292011 bt296.1 bt296.2.1 false))
def governorlaw15_LimitStable.l0 : Nat → List Int → List Int → Bool → Int → Int → Bool → Int → Int → Int → Int → Int → Int → Int → Int → Int → Int → Int → Int → Int → Int → Int → Bool → Option (Bool)
  | 0, _, _, _, _, _, _, _, _, _, _, _, _, _, _, _, _, _, _, _, _, _, _ => none
  | k + 1, x2, x3, x9, x11, x12, x13, x14, x292000, x292001, x292002, x292003, x292004, x292005, x292006, x292007, x292008, x292009, x292010, x292011, x300000, x300001, x300002 => if x14 < (x2.length : Int) then (if x14 < (x3.length : Int) then (if 0 ≤ x14 then (governorlaw15_LimitStable.j2 k x2 x3 x9 (wrap64 (x11 + (wrap64 (rd x3 x14)))) x12 x13 x14 x292000 x292001 x292002 x292003 x292004 x292005 x292006 x292007 x292008 x292009 x292010 x292011 x300000 x300001 x300002) else (none)) else (governorlaw15_LimitStable.j2 k x2 x3 x9 x11 x12 x13 x14 x292000 x292001 x292002 x292003 x292004 x292005 x292006 x292007 x292008 x292009 x292010 x292011 x300000 x300001 x300002)) else (some x9)
def governorlaw15_LimitStable.j2 : Nat → List Int → List Int → Bool → Int → Int → Bool → Int → Int → Int → Int → Int → Int → Int → Int → Int → Int → Int → Int → Int → Int → Int → Bool → Option (Bool)
  | 0, _, _, _, _, _, _, _, _, _, _, _, _, _, _, _, _, _, _, _, _, _, _ => none
  | k + 1, x2, x3, x9, x11, x12, x13, x14, x292000, x292001, x292002, x292003, x292004, x292005, x292006, x292007, x292008, x292009, x292010, x292011, x300000, x300001, x300002 => if 0 ≤ x14 then (if x14 < (x2.length : Int) then ((limit_Next.f x292000 x292001 x292002 x292003 x292004 x292005 x292006 x292007 x292008 x292009 x292010 x292011 x300000 x300001 x300002 (rd x2 x14) x11).bind fun bt302 => (if bt302.1 < x300000 then (if x13 = true then (governorlaw15_LimitStable.j3 k x2 x3 x9 x11 x12 x13 x14 (decide ((wrap64 (x11 - x12)) < x292003)) x292000 x292001 x292002 x292003 x292004 x292005 x292006 x292007 x292008 x292009 x292010 x292011 x300000 x300001 x300002 bt302.1 bt302.2.1 bt302.2.2) else (governorlaw15_LimitStable.j3 k x2 x3 x9 x11 x12 x13 x14 false x292000 x292001 x292002 x292003 x292004 x292005 x292006 x292007 x292008 x292009 x292010 x292011 x300000 x300001 x300002 bt302.1 bt302.2.1 bt302.2.2)) else (governorlaw15_LimitStable.j3 k x2 x3 x9 x11 x12 x13 x14 false x292000 x292001 x292002 x292003 x292004 x292005 x292006 x292007 x292008 x292009 x292010 x292011 x300000 x300001 x300002 bt302.1 bt302.2.1 bt302.2.2))) else (none)) else (none)
def governorlaw15_LimitStable.j3 : Nat → List Int → List Int → Bool → Int → Int → Bool → Int → Bool → Int → Int → Int → Int → Int → Int → Int → Int → Int → Int → Int → Int → Int → Int → Bool → Int → Int → Bool → Option (Bool)
  | 0, _, _, _, _, _, _, _, _, _, _, _, _, _, _, _, _, _, _, _, _, _, _, _, _, _, _ => none
  | k + 1, x2, x3, x9, x11, x12, x13, x14, x76, x292000, x292001, x292002, x292003, x292004, x292005, x292006, x292007, x292008, x292009, x292010, x292011, x300000, x300001, x300002, x306000, x306001, x306002 => if x76 = true then (some false) else (if x306000 > x300000 then (if (x306002 != true) = true then (some false) else (if x306001 = x11 then (governorlaw15_LimitStable.l0 k x2 x3 x9 x11 x11 true (wrap64 (x14 + 1)) x292000 x292001 x292002 x292003 x292004 x292005 x292006 x292007 x292008 x292009 x292010 x292011 x306000 x306001 x306002) else (some false))) else (if (x306002 != x13) = true then (some false) else (if x13 = true then (if x306001 = x12 then (governorlaw15_LimitStable.l0 k x2 x3 x9 x11 x12 x13 (wrap64 (x14 + 1)) x292000 x292001 x292002 x292003 x292004 x292005 x292006 x292007 x292008 x292009 x292010 x292011 x306000 x306001 x306002) else (some false)) else (governorlaw15_LimitStable.l0 k x2 x3 x9 x11 x12 x13 (wrap64 (x14 + 1)) x292000 x292001 x292002 x292003 x292004 x292005 x292006 x292007 x292008 x292009 x292010 x292011 x306000 x306001 x306002))))
end
def governorlaw15_LimitStable.f (k : Nat) (a0_0 : Int) (a0_1 : Int) (a0_2 : Int) (a0_3 : Int) (a0_4 : Int) (a0_5 : Int) (a0_6 : Int) (a0_7 : Int) (a0_8 : Int) (a0_9 : Int) (a0_10 : Int) (a0_11 : Int) (a1_0 : Int) (a1_1 : Int) (a1_2 : Bool) (l2 : List Int) (l3 : List Int) : Option (Bool) := (governorlaw15_head.f).bind fun t293 => ((governorref09_Conf.f a0_0 a0_1 a0_2 a0_3 a0_4 a0_5 a0_6 a0_7 a0_8 a0_9 a0_10 a0_11).bind fun t294 => (if t294 = true then ((governorlaw15_time.f a1_1).bind fun t295 => (if t295 = true then (governorlaw15_LimitStable.j0 k l2 l3 t293 (decide ((l2.length : Int) > 300)) a0_0 a0_1 a0_2 a0_3 a0_4 a0_5 a0_6 a0_7 a0_8 a0_9 a0_10 a0_11 a1_0 a1_1 a1_2) else (governorlaw15_LimitStable.j0 k l2 l3 t293 true a0_0 a0_1 a0_2 a0_3 a0_4 a0_5 a0_6 a0_7 a0_8 a0_9 a0_10 a0_11 a1_0 a1_1 a1_2))) else (governorlaw15_LimitStable.j0 k l2 l3 t293 true a0_0 a0_1 a0_2 a0_3 a0_4 a0_5 a0_6 a0_7 a0_8 a0_9 a0_10 a0_11 a1_0 a1_1 a1_2)))
theorem governorlaw15_LimitStable.mono_l : ∀ k, (∀ y0 y1 y2 y3 y4 y5 y6 y7 y8 y9 y10 y11 y12 y13 y14 y15 y16 y17 y18, LeO (governorlaw15_LimitStable.j0 k y0 y1 y2 y3 y4 y5 y6 y7 y8 y9 y10 y11 y12 y13 y14 y15 y16 y17 y18) (governorlaw15_LimitStable.j0 (k + 1) y0 y1 y2 y3 y4 y5 y6 y7 y8 y9 y10 y11 y12 y13 y14 y15 y16 y17 y18)) ∧ (∀ y0 y1 y2 y3 y4 y5 y6 y7 y8 y9 y10 y11 y12 y13 y14 y15 y16 y17 y18 y19 y20 y21, LeO (governorlaw15_LimitStable.l0 k y0 y1 y2 y3 y4 y5 y6 y7 y8 y9 y10 y11 y12 y13 y14 y15 y16 y17 y18 y19 y20 y21) (governorlaw15_LimitStable.l0 (k + 1) y0 y1 y2 y3 y4 y5 y6 y7 y8 y9 y10 y11 y12 y13 y14 y15 y16 y17 y18 y19 y20 y21)) ∧ (∀ y0 y1 y2 y3 y4 y5 y6 y7 y8 y9 y10 y11 y12 y13 y14 y15 y16 y17 y18 y19 y20 y21, LeO (governorlaw15_LimitStable.j2 k y0 y1 y2 y3 y4 y5 y6 y7 y8 y9 y10 y11 y12 y13 y14 y15 y16 y17 y18 y19 y20 y21) (governorlaw15_LimitStable.j2 (k + 1) y0 y1 y2 y3 y4 y5 y6 y7 y8 y9 y10 y11 y12 y13 y14 y15 y16 y17 y18 y19 y20 y21)) ∧ (∀ y0 y1 y2 y3 y4 y5 y6 y7 y8 y9 y10 y11 y12 y13 y14 y15 y16 y17 y18 y19 y20 y21 y22 y23 y24 y25, LeO (governorlaw15_LimitStable.j3 k y0 y1 y2 y3 y4 y5 y6 y7 y8 y9 y10 y11 y12 y13 y14 y15 y16 y17 y18 y19 y20 y21 y22 y23 y24 y25) (governorlaw15_LimitStable.j3 (k + 1) y0 y1 y2 y3 y4 y5 y6 y7 y8 y9 y10 y11 y12 y13 y14 y15 y16 y17 y18 y19 y20 y21 y22 y23 y24 y25))
  | 0 => ⟨fun _ _ _ _ _ _ _ _ _ _ _ _ _ _ _ _ _ _ _ r h => by simp [governorlaw15_LimitStable.j0] at h, fun _ _ _ _ _ _ _ _ _ _ _ _ _ _ _ _ _ _ _ _ _ _ r h => by simp [governorlaw15_LimitStable.l0] at h, fun _ _ _ _ _ _ _ _ _ _ _ _ _ _ _ _ _ _ _ _ _ _ r h => by simp [governorlaw15_LimitStable.j2] at h, fun _ _ _ _ _ _ _ _ _ _ _ _ _ _ _ _ _ _ _ _ _ _ _ _ _ _ r h => by simp [governorlaw15_LimitStable.j3] at h⟩
  | k + 1 => by
    obtain ⟨ih0, ih1, ih2, ih3⟩ := governorlaw15_LimitStable.mono_l k
    refine ⟨?_, ?_, ?_, ?_⟩
    · intro y0 y1 y2 y3 y4 y5 y6 y7 y8 y9 y10 y11 y12 y13 y14 y15 y16 y17 y18
      unfold governorlaw15_LimitStable.j0
      repeat' first
      | (with_reducible exact ih0 _ _ _ _ _ _ _ _ _ _ _ _ _ _ _ _ _ _ _)
      | (with_reducible exact ih1 _ _ _ _ _ _ _ _ _ _ _ _ _ _ _ _ _ _ _ _ _ _)
      | (with_reducible exact ih2 _ _ _ _ _ _ _ _ _ _ _ _ _ _ _ _ _ _ _ _ _ _)
      | (with_reducible exact ih3 _ _ _ _ _ _ _ _ _ _ _ _ _ _ _ _ _ _ _ _ _ _ _ _ _ _)
      | (with_reducible exact LeO.refl _)
      | (with_reducible exact LeO.none _)
      | (with_reducible refine LeO.ite ?_ ?_)
      | (with_reducible refine LeO.bind ?_ (fun _ => ?_))
      | exact ih0 _ _ _ _ _ _ _ _ _ _ _ _ _ _ _ _ _ _ _
      | exact ih1 _ _ _ _ _ _ _ _ _ _ _ _ _ _ _ _ _ _ _ _ _ _
      | exact ih2 _ _ _ _ _ _ _ _ _ _ _ _ _ _ _ _ _ _ _ _ _ _
      | exact ih3 _ _ _ _ _ _ _ _ _ _ _ _ _ _ _ _ _ _ _ _ _ _ _ _ _ _
      | exact LeO.none _
      | refine LeO.ite ?_ ?_
      | refine LeO.bind ?_ (fun _ => ?_)
    · intro y0 y1 y2 y3 y4 y5 y6 y7 y8 y9 y10 y11 y12 y13 y14 y15 y16 y17 y18 y19 y20 y21
      unfold governorlaw15_LimitStable.l0
      repeat' first
      | (with_reducible exact ih0 _ _ _ _ _ _ _ _ _ _ _ _ _ _ _ _ _ _ _)
      | (with_reducible exact ih1 _ _ _ _ _ _ _ _ _ _ _ _ _ _ _ _ _ _ _ _ _ _)
      | (with_reducible exact ih2 _ _ _ _ _ _ _ _ _ _ _ _ _ _ _ _ _ _ _ _ _ _)
      | (with_reducible exact ih3 _ _ _ _ _ _ _ _ _ _ _ _ _ _ _ _ _ _ _ _ _ _ _ _ _ _)
      | (with_reducible exact LeO.refl _)
      | (with_reducible exact LeO.none _)
      | (with_reducible refine LeO.ite ?_ ?_)
      | (with_reducible refine LeO.bind ?_ (fun _ => ?_))
      | exact ih0 _ _ _ _ _ _ _ _ _ _ _ _ _ _ _ _ _ _ _
      | exact ih1 _ _ _ _ _ _ _ _ _ _ _ _ _ _ _ _ _ _ _ _ _ _
      | exact ih2 _ _ _ _ _ _ _ _ _ _ _ _ _ _ _ _ _ _ _ _ _ _
      | exact ih3 _ _ _ _ _ _ _ _ _ _ _ _ _ _ _ _ _ _ _ _ _ _ _ _ _ _
      | exact LeO.none _
      | refine LeO.ite ?_ ?_
      | refine LeO.bind ?_ (fun _ => ?_)
    · intro y0 y1 y2 y3 y4 y5 y6 y7 y8 y9 y10 y11 y12 y13 y14 y15 y16 y17 y18 y19 y20 y21
      unfold governorlaw15_LimitStable.j2
      repeat' first
      | (with_reducible exact ih0 _ _ _ _ _ _ _ _ _ _ _ _ _ _ _ _ _ _ _)
      | (with_reducible exact ih1 _ _ _ _ _ _ _ _ _ _ _ _ _ _ _ _ _ _ _ _ _ _)
      | (with_reducible exact ih2 _ _ _ _ _ _ _ _ _ _ _ _ _ _ _ _ _ _ _ _ _ _)
      | (with_reducible exact ih3 _ _ _ _ _ _ _ _ _ _ _ _ _ _ _ _ _ _ _ _ _ _ _ _ _ _)
      | (with_reducible exact LeO.refl _)
      | (with_reducible exact LeO.none _)
      | (with_reducible refine LeO.ite ?_ ?_)
      | (with_reducible refine LeO.bind ?_ (fun _ => ?_))
      | exact ih0 _ _ _ _ _ _ _ _ _ _ _ _ _ _ _ _ _ _ _
      | exact ih1 _ _ _ _ _ _ _ _ _ _ _ _ _ _ _ _ _ _ _ _ _ _
      | exact ih2 _ _ _ _ _ _ _ _ _ _ _ _ _ _ _ _ _ _ _ _ _ _
      | exact ih3 _ _ _ _ _ _ _ _ _ _ _ _ _ _ _ _ _ _ _ _ _ _ _ _ _ _
      | exact LeO.none _
      | refine LeO.ite ?_ ?_
      | refine LeO.bind ?_ (fun _ => ?_)
    · intro y0 y1 y2 y3 y4 y5 y6 y7 y8 y9 y10 y11 y12 y13 y14 y15 y16 y17 y18 y19 y20 y21 y22 y23 y24 y25
      unfold governorlaw15_LimitStable.j3
      repeat' first
      | (with_reducible exact ih0 _ _ _ _ _ _ _ _ _ _ _ _ _ _ _ _ _ _ _)
      | (with_reducible exact ih1 _ _ _ _ _ _ _ _ _ _ _ _ _ _ _ _ _ _ _ _ _ _)
      | (with_reducible exact ih2 _ _ _ _ _ _ _ _ _ _ _ _ _ _ _ _ _ _ _ _ _ _)
      | (with_reducible exact ih3 _ _ _ _ _ _ _ _ _ _ _ _ _ _ _ _ _ _ _ _ _ _ _ _ _ _)
      | (with_reducible exact LeO.refl _)
      | (with_reducible exact LeO.none _)
      | (with_reducible refine LeO.ite ?_ ?_)
      | (with_reducible refine LeO.bind ?_ (fun _ => ?_))
      | exact ih0 _ _ _ _ _ _ _ _ _ _ _ _ _ _ _ _ _ _ _
      | exact ih1 _ _ _ _ _ _ _ _ _ _ _ _ _ _ _ _ _ _ _ _ _ _
      | exact ih2 _ _ _ _ _ _ _ _ _ _ _ _ _ _ _ _ _ _ _ _ _ _
      | exact ih3 _ _ _ _ _ _ _ _ _ _ _ _ _ _ _ _ _ _ _ _ _ _ _ _ _ _
      | exact LeO.none _
      | refine LeO.ite ?_ ?_
      | refine LeO.bind ?_ (fun _ => ?_)
theorem governorlaw15_LimitStable.mono : ∀ a0 a1 a2 a3 a4 a5 a6 a7 a8 a9 a10 a11 a12 a13 a14 a15 a16 k, LeO (governorlaw15_LimitStable.f k a0 a1 a2 a3 a4 a5 a6 a7 a8 a9 a10 a11 a12 a13 a14 a15 a16) (governorlaw15_LimitStable.f (k + 1) a0 a1 a2 a3 a4 a5 a6 a7 a8 a9 a10 a11 a12 a13 a14 a15 a16) := by
  intro a0 a1 a2 a3 a4 a5 a6 a7 a8 a9 a10 a11 a12 a13 a14 a15 a16 k
  obtain ⟨ih0, ih1, ih2, ih3⟩ := governorlaw15_LimitStable.mono_l k
  unfold governorlaw15_LimitStable.f
  repeat' first
      | (with_reducible exact ih0 _ _ _ _ _ _ _ _ _ _ _ _ _ _ _ _ _ _ _)
      | (with_reducible exact ih1 _ _ _ _ _ _ _ _ _ _ _ _ _ _ _ _ _ _ _ _ _ _)
      | (with_reducible exact ih2 _ _ _ _ _ _ _ _ _ _ _ _ _ _ _ _ _ _ _ _ _ _)
      | (with_reducible exact ih3 _ _ _ _ _ _ _ _ _ _ _ _ _ _ _ _ _ _ _ _ _ _ _ _ _ _)
      | (with_reducible exact LeO.refl _)
      | (with_reducible exact LeO.none _)
      | (with_reducible refine LeO.ite ?_ ?_)
      | (with_reducible refine LeO.bind ?_ (fun _ => ?_))
      | exact ih0 _ _ _ _ _ _ _ _ _ _ _ _ _ _ _ _ _ _ _
      | exact ih1 _ _ _ _ _ _ _ _ _ _ _ _ _ _ _ _ _ _ _ _ _ _
      | exact ih2 _ _ _ _ _ _ _ _ _ _ _ _ _ _ _ _ _ _ _ _ _ _
      | exact ih3 _ _ _ _ _ _ _ _ _ _ _ _ _ _ _ _ _ _ _ _ _ _ _ _ _ _
      | exact LeO.none _
      | refine LeO.ite ?_ ?_
      | refine LeO.bind ?_ (fun _ => ?_)
def governorlaw15_LimitStable.T14 : Bool × List (List Nat × List Nat) := (true, [([], []), ([], []), ([], []), ([], []), ([2, 3], [2, 3]), ([4], [4]), ([], []), ([0, 1, 5, 6], [0, 1, 5, 6]), ([], []), ([8, 7, 7, 0, 1, 2, 3, 4, 5, 6, 7, 8], [7, 8])])
def governorlaw15_LimitStable.B14 : List Nat := [0, 0, 0, 0, 12, 28, 0, 127, 0, 511]
theorem governorlaw15_LimitStable.tab14 : rtab .any (opsOf Try.f11 14) = governorlaw15_LimitStable.T14 := by kernel_rfl
theorem governorlaw15_LimitStable.bits14 : waitsOk governorlaw15_LimitStable.T14.2 governorlaw15_LimitStable.B14 = true := by kernel_rfl
set_option maxHeartbeats 8000000 in
set_option maxRecDepth 100000 in
theorem governorlaw15_LimitStable.calls (k : Nat) (a0_0 : Int) (a0_1 : Int) (a0_2 : Int) (a0_3 : Int) (a0_4 : Int) (a0_5 : Int) (a0_6 : Int) (a0_7 : Int) (a0_8 : Int) (a0_9 : Int) (a0_10 : Int) (a0_11 : Int) (a1_0 : Int) (a1_1 : Int) (a1_2 : Bool) (A2 : Option Addr) (c2 : Nat) (l2 : List Int) (A3 : Option Addr) (c3 : Nat) (l3 : List Int) (r : Bool) (w : World) (hr2 : Kd.C (Kd.int .i64) w A2 l2.length l2) (hc2 : l2.length ≤ c2) (hr3 : Kd.C (Kd.int .u8) w A3 l3.length l3) (hc3 : l3.length ≤ c3) (hrT : r = true) (h : governorlaw15_LimitStable.f k a0_0 a0_1 a0_2 a0_3 a0_4 a0_5 a0_6 a0_7 a0_8 a0_9 a0_10 a0_11 a1_0 a1_1 a1_2 l2 l3 = some r) :
    Calls Try.prog 11 #[.agg #[.int .i64 a0_0, .int .i64 a0_1, .int .i64 a0_2, .int .i64 a0_3, .int .i64 a0_4, .int .i64 a0_5, .int .i64 a0_6, .int .i64 a0_7, .int .i64 a0_8, .int .i64 a0_9, .int .i64 a0_10, .int .i64 a0_11], .agg #[.int .i64 a1_0, .int .i64 a1_1, .bool a1_2], .slice A2 l2.length c2, .slice A3 l3.length c3] w fun e w' => e = .returned (.bool r) ∧ Below w.heap.size w w' := by
  have hu37 := Try.underlying37
  have hu39 := Try.underlying39
  have HR2 := Aside0.mk hr2
  have HC2 := Aside0.mk hc2
  clear hr2 hc2
  have HR3 := Aside0.mk hr3
  have HC3 := Aside0.mk hc3
  clear hr3 hc3
  have HB := Aside0.mk (Below.refl w.heap.size w)
  have HRT := Aside0.mk hrT
  clear hrT
  have H : ((governorlaw15_head.f).bind fun t293 => ((governorref09_Conf.f a0_0 a0_1 a0_2 a0_3 a0_4 a0_5 a0_6 a0_7 a0_8 a0_9 a0_10 a0_11).bind fun t294 => (if t294 = true then ((governorlaw15_time.f a1_1).bind fun t295 => (if t295 = true then (governorlaw15_LimitStable.j0 k l2 l3 t293 (decide ((l2.length : Int) > 300)) a0_0 a0_1 a0_2 a0_3 a0_4 a0_5 a0_6 a0_7 a0_8 a0_9 a0_10 a0_11 a1_0 a1_1 a1_2) else (governorlaw15_LimitStable.j0 k l2 l3 t293 true a0_0 a0_1 a0_2 a0_3 a0_4 a0_5 a0_6 a0_7 a0_8 a0_9 a0_10 a0_11 a1_0 a1_1 a1_2))) else (governorlaw15_LimitStable.j0 k l2 l3 t293 true a0_0 a0_1 a0_2 a0_3 a0_4 a0_5 a0_6 a0_7 a0_8 a0_9 a0_10 a0_11 a1_0 a1_1 a1_2)))) = some r := h
  clear h
  replace H := Option.bind_eq_some_iff.mp H
  obtain ⟨t293, A50, H⟩ := H
  replace H : ((governorref09_Conf.f a0_0 a0_1 a0_2 a0_3 a0_4 a0_5 a0_6 a0_7 a0_8 a0_9 a0_10 a0_11).bind fun t294 => (if t294 = true then ((governorlaw15_time.f a1_1).bind fun t295 => (if t295 = true then (governorlaw15_LimitStable.j0 k l2 l3 t293 (decide ((l2.length : Int) > 300)) a0_0 a0_1 a0_2 a0_3 a0_4 a0_5 a0_6 a0_7 a0_8 a0_9 a0_10 a0_11 a1_0 a1_1 a1_2) else (governorlaw15_LimitStable.j0 k l2 l3 t293 true a0_0 a0_1 a0_2 a0_3 a0_4 a0_5 a0_6 a0_7 a0_8 a0_9 a0_10 a0_11 a1_0 a1_1 a1_2))) else (governorlaw15_LimitStable.j0 k l2 l3 t293 true a0_0 a0_1 a0_2 a0_3 a0_4 a0_5 a0_6 a0_7 a0_8 a0_9 a0_10 a0_11 a1_0 a1_1 a1_2))) = some r := H
  have A5 := Aside0.mk A50
  clear A50
  have HC6 := Aside0.mk H
  clear H
  go_enter Try.func11, Try.ntmps11
  go_upto_region 2 with (first | ((with_reducible refine gate_dst (N := 4) rfl ?_); (try (refine gate_guard (by rfl) ?_; dsimp only)); refine box_event ?hg (N := 4) ?hd (cs := #[.int .i64 a0_0, .int .i64 a0_1, .int .i64 a0_2, .int .i64 a0_3, .int .i64 a0_4, .int .i64 a0_5, .int .i64 a0_6, .int .i64 a0_7, .int .i64 a0_8, .int .i64 a0_9, .int .i64 a0_10, .int .i64 a0_11]) (t := 37) ?hr ?_; (case hd => rfl); (case hg => rfl); (case hr => first | (go_simp; done) | (go_simp; rfl)); intro gb291 hg w7 hbox hb; have n0_ := Aside0.mk (below_step (by repeat (first | (with_reducible first | exact HB.out | apply below_alloc | apply pw_below_drewN | apply below_drew1) | exact HB.out)) hb); have n1_ := Aside0.mk (hbox); have n2_ := Aside0.mk ((by rw [hg]; exact (below_size (by repeat (first | (with_reducible first | exact HB.out | apply below_alloc | apply pw_below_drewN | apply below_drew1) | exact HB.out))) : w.heap.size ≤ gb291)); have n3_ := Aside0.mk ((by rw [hg]; exact (below_size (by repeat (first | (with_reducible first | exact HB.out | apply below_alloc | apply pw_below_drewN | apply below_drew1) | exact HB.out))) : w.heap.size ≤ gb291)); clear HB; have HB := n0_; have BK291 := n1_; have GW291 := n2_; have GE291 := n3_; clear n0_ n1_ n2_ n3_; clear hb hbox hg) | ((with_reducible refine gate_dst (N := 5) rfl ?_); (try (refine gate_guard (by rfl) ?_; dsimp only)); refine box_event ?hg (N := 5) ?hd (cs := #[.int .i64 a1_0, .int .i64 a1_1, .bool a1_2]) (t := 39) ?hr ?_; (case hd => rfl); (case hg => rfl); (case hr => first | (go_simp; done) | (go_simp; rfl)); intro gb292 hg w8 hbox hb; have n0_ := Aside0.mk (blk_below (g := gb291) (o := .cells #[.int .i64 a0_0, .int .i64 a0_1, .int .i64 a0_2, .int .i64 a0_3, .int .i64 a0_4, .int .i64 a0_5, .int .i64 a0_6, .int .i64 a0_7, .int .i64 a0_8, .int .i64 a0_9, .int .i64 a0_10, .int .i64 a0_11] 37 (0, 0)) (by (with_reducible repeat (first | refine blk_drewN ?_ _ | refine blk_drew ?_ | refine blk_alloc ?_ _)); exact BK291.out) hb); have n1_ := Aside0.mk (below_step (by repeat (first | (with_reducible first | exact HB.out | apply below_alloc | apply pw_below_drewN | apply below_drew1 | refine below_set ?_ GE291.out) | exact HB.out)) hb); have n2_ := Aside0.mk (hbox); have n3_ := Aside0.mk ((by rw [hg]; exact (below_size (by repeat (first | (with_reducible first | exact HB.out | apply below_alloc | apply pw_below_drewN | apply below_drew1 | refine below_set ?_ GE291.out) | exact HB.out))) : w.heap.size ≤ gb292)); have n4_ := Aside0.mk ((by rw [hg]; exact (below_size (by repeat (first | (with_reducible first | exact HB.out | apply below_alloc | apply pw_below_drewN | apply below_drew1 | refine below_set ?_ GE291.out) | exact HB.out))) : w.heap.size ≤ gb292)); have n5_ := Aside0.mk ((by rw [hg]; exact Nat.ne_of_lt (blk_lt (g := gb291) (o := .cells #[.int .i64 a0_0, .int .i64 a0_1, .int .i64 a0_2, .int .i64 a0_3, .int .i64 a0_4, .int .i64 a0_5, .int .i64 a0_6, .int .i64 a0_7, .int .i64 a0_8, .int .i64 a0_9, .int .i64 a0_10, .int .i64 a0_11] 37 (0, 0)) (by (with_reducible repeat (first | refine blk_drewN ?_ _ | refine blk_drew ?_ | refine blk_alloc ?_ _)); exact BK291.out)) : gb291 ≠ gb292)); have n6_ := Aside0.mk ((by rw [hg]; exact Nat.ne_of_gt (blk_lt (g := gb291) (o := .cells #[.int .i64 a0_0, .int .i64 a0_1, .int .i64 a0_2, .int .i64 a0_3, .int .i64 a0_4, .int .i64 a0_5, .int .i64 a0_6, .int .i64 a0_7, .int .i64 a0_8, .int .i64 a0_9, .int .i64 a0_10, .int .i64 a0_11] 37 (0, 0)) (by (with_reducible repeat (first | refine blk_drewN ?_ _ | refine blk_drew ?_ | refine blk_alloc ?_ _)); exact BK291.out)) : gb292 ≠ gb291)); clear BK291; clear HB; have BK291 := n0_; have HB := n1_; have BK292 := n2_; have GW292 := n3_; have GE292 := n4_; have NB291_292 := n5_; have NB292_291 := n6_; clear n0_ n1_ n2_ n3_ n4_ n5_ n6_; clear hb hbox hg) | ((with_reducible refine gate_callee (f := 21) rfl ?_); refine goesL_ (some 16) rfl rfl Try.func21 (by kernel_rfl) rfl #[] rfl (by (try simp only [List.map_toArray, List.map_cons, List.map_nil]); first | done | rfl | (simp only [List.length_drop, List.length_take]; rfl)) ?_; (with_reducible refine (governorlaw15_head.calls  t293 _ A5.out).mono ?_); rintro e w9 ⟨rfl, hb⟩; refine ⟨_, rfl, ?_⟩; have n0_ := Aside0.mk (blk_below (g := gb291) (o := .cells #[.int .i64 a0_0, .int .i64 a0_1, .int .i64 a0_2, .int .i64 a0_3, .int .i64 a0_4, .int .i64 a0_5, .int .i64 a0_6, .int .i64 a0_7, .int .i64 a0_8, .int .i64 a0_9, .int .i64 a0_10, .int .i64 a0_11] 37 (0, 0)) (by (with_reducible repeat (first | refine blk_drewN ?_ _ | refine blk_drew ?_ | refine blk_alloc ?_ _)); exact BK291.out) hb); have n1_ := Aside0.mk (blk_below (g := gb292) (o := .cells #[.int .i64 a1_0, .int .i64 a1_1, .bool a1_2] 39 (0, 0)) (by (with_reducible repeat (first | refine blk_drewN ?_ _ | refine blk_drew ?_ | refine blk_alloc ?_ _)); exact BK292.out) hb); have n2_ := Aside0.mk (below_step (by repeat (first | (with_reducible first | exact HB.out | apply below_alloc | apply pw_below_drewN | apply below_drew1 | refine below_set ?_ GE291.out | refine below_set ?_ GE292.out) | exact HB.out)) hb); clear BK291; clear BK292; clear HB; have BK291 := n0_; have BK292 := n1_; have HB := n2_; clear n0_ n1_ n2_; (try clear hb); (try clear hb2); (try clear hk); (try clear hi)))
  (try simp only [Act.put, List.setIfInBounds_toArray, List.set_cons_zero, List.set_cons_succ])
  go_cut [30] (fun v30 wc => ∃ (kq : Nat) (x30_5 : Bool), v30 = .bool x30_5 ∧ Aside0 (governorlaw15_LimitStable.j0 kq l2 l3 t293 x30_5 a0_0 a0_1 a0_2 a0_3 a0_4 a0_5 a0_6 a0_7 a0_8 a0_9 a0_10 a0_11 a1_0 a1_1 a1_2 = some r) ∧ Aside0 (kq ≤ k) ∧ Aside0 (wc.heap[gb291]? = some (.cells #[.int .i64 a0_0, .int .i64 a0_1, .int .i64 a0_2, .int .i64 a0_3, .int .i64 a0_4, .int .i64 a0_5, .int .i64 a0_6, .int .i64 a0_7, .int .i64 a0_8, .int .i64 a0_9, .int .i64 a0_10, .int .i64 a0_11] 37 (0, 0))) ∧ Aside0 (wc.heap[gb292]? = some (.cells #[.int .i64 a1_0, .int .i64 a1_1, .bool a1_2] 39 (0, 0))) ∧ Aside0 (Below w.heap.size w wc))
  case first =>
    have H := HC6.out
    clear HC6
    replace H := Option.bind_eq_some_iff.mp H
    obtain ⟨t294, A100, H⟩ := H
    replace H : (if t294 = true then ((governorlaw15_time.f a1_1).bind fun t295 => (if t295 = true then (governorlaw15_LimitStable.j0 k l2 l3 t293 (decide ((l2.length : Int) > 300)) a0_0 a0_1 a0_2 a0_3 a0_4 a0_5 a0_6 a0_7 a0_8 a0_9 a0_10 a0_11 a1_0 a1_1 a1_2) else (governorlaw15_LimitStable.j0 k l2 l3 t293 true a0_0 a0_1 a0_2 a0_3 a0_4 a0_5 a0_6 a0_7 a0_8 a0_9 a0_10 a0_11 a1_0 a1_1 a1_2))) else (governorlaw15_LimitStable.j0 k l2 l3 t293 true a0_0 a0_1 a0_2 a0_3 a0_4 a0_5 a0_6 a0_7 a0_8 a0_9 a0_10 a0_11 a1_0 a1_1 a1_2)) = some r := H
    have A10 := Aside0.mk A100
    clear A100
    by_cases c11 : t294 = true
    · subst c11
      have H1 : ((governorlaw15_time.f a1_1).bind fun t295 => (if t295 = true then (governorlaw15_LimitStable.j0 k l2 l3 t293 (decide ((l2.length : Int) > 300)) a0_0 a0_1 a0_2 a0_3 a0_4 a0_5 a0_6 a0_7 a0_8 a0_9 a0_10 a0_11 a1_0 a1_1 a1_2) else (governorlaw15_LimitStable.j0 k l2 l3 t293 true a0_0 a0_1 a0_2 a0_3 a0_4 a0_5 a0_6 a0_7 a0_8 a0_9 a0_10 a0_11 a1_0 a1_1 a1_2))) = some r := by rw [if_pos rfl] at H; exact H
      clear H
      have H := H1
      clear H1
      replace H := Option.bind_eq_some_iff.mp H
      obtain ⟨t295, A120, H⟩ := H
      replace H : (if t295 = true then (governorlaw15_LimitStable.j0 k l2 l3 t293 (decide ((l2.length : Int) > 300)) a0_0 a0_1 a0_2 a0_3 a0_4 a0_5 a0_6 a0_7 a0_8 a0_9 a0_10 a0_11 a1_0 a1_1 a1_2) else (governorlaw15_LimitStable.j0 k l2 l3 t293 true a0_0 a0_1 a0_2 a0_3 a0_4 a0_5 a0_6 a0_7 a0_8 a0_9 a0_10 a0_11 a1_0 a1_1 a1_2)) = some r := H
      have A12 := Aside0.mk A120
      clear A120
      by_cases c13 : t295 = true
      · subst c13
        have H1 : (governorlaw15_LimitStable.j0 k l2 l3 t293 (decide ((l2.length : Int) > 300)) a0_0 a0_1 a0_2 a0_3 a0_4 a0_5 a0_6 a0_7 a0_8 a0_9 a0_10 a0_11 a1_0 a1_1 a1_2) = some r := by rw [if_pos rfl] at H; exact H
        clear H
        have H := H1
        clear H1
        have H' := Aside0.mk H
        clear H
        have hnb14 := NB291_292.out
        have hnc14 := NB292_291.out
        have hcz15_0 : w9.cell? ⟨gb291, 0, none⟩ = some (.int .i64 a0_0) := (blk_cell BK291.out 0).trans rfl
        have hcz15_1 : w9.cell? ⟨gb291, 1, none⟩ = some (.int .i64 a0_1) := (blk_cell BK291.out 1).trans rfl
        have hcz15_2 : w9.cell? ⟨gb291, 2, none⟩ = some (.int .i64 a0_2) := (blk_cell BK291.out 2).trans rfl
        have hcz15_3 : w9.cell? ⟨gb291, 3, none⟩ = some (.int .i64 a0_3) := (blk_cell BK291.out 3).trans rfl
        have hcz15_4 : w9.cell? ⟨gb291, 4, none⟩ = some (.int .i64 a0_4) := (blk_cell BK291.out 4).trans rfl
        have hcz15_5 : w9.cell? ⟨gb291, 5, none⟩ = some (.int .i64 a0_5) := (blk_cell BK291.out 5).trans rfl
        have hcz15_6 : w9.cell? ⟨gb291, 6, none⟩ = some (.int .i64 a0_6) := (blk_cell BK291.out 6).trans rfl
        have hcz15_7 : w9.cell? ⟨gb291, 7, none⟩ = some (.int .i64 a0_7) := (blk_cell BK291.out 7).trans rfl
        have hcz15_8 : w9.cell? ⟨gb291, 8, none⟩ = some (.int .i64 a0_8) := (blk_cell BK291.out 8).trans rfl
        have hcz15_9 : w9.cell? ⟨gb291, 9, none⟩ = some (.int .i64 a0_9) := (blk_cell BK291.out 9).trans rfl
        have hcz15_10 : w9.cell? ⟨gb291, 10, none⟩ = some (.int .i64 a0_10) := (blk_cell BK291.out 10).trans rfl
        have hcz15_11 : w9.cell? ⟨gb291, 11, none⟩ = some (.int .i64 a0_11) := (blk_cell BK291.out 11).trans rfl
        have hfz15_0 := blk_frozen BK291.out 0
        have hfz15_1 := blk_frozen BK291.out 1
        have hfz15_2 := blk_frozen BK291.out 2
        have hfz15_3 := blk_frozen BK291.out 3
        have hfz15_4 := blk_frozen BK291.out 4
        have hfz15_5 := blk_frozen BK291.out 5
        have hfz15_6 := blk_frozen BK291.out 6
        have hfz15_7 := blk_frozen BK291.out 7
        have hfz15_8 := blk_frozen BK291.out 8
        have hfz15_9 := blk_frozen BK291.out 9
        have hfz15_10 := blk_frozen BK291.out 10
        have hfz15_11 := blk_frozen BK291.out 11
        go_wp2_with (first | ((with_reducible refine gate_callee (f := 22) rfl ?_); refine goesL_ (some 18) rfl rfl Try.func22 (by kernel_rfl) rfl #[.agg #[.int .i64 a0_0, .int .i64 a0_1, .int .i64 a0_2, .int .i64 a0_3, .int .i64 a0_4, .int .i64 a0_5, .int .i64 a0_6, .int .i64 a0_7, .int .i64 a0_8, .int .i64 a0_9, .int .i64 a0_10, .int .i64 a0_11]] rfl (by (try simp only [List.map_toArray, List.map_cons, List.map_nil]); first | done | rfl | (simp only [List.length_drop, List.length_take]; rfl)) ?_; (with_reducible refine (governorref09_Conf.calls a0_0 a0_1 a0_2 a0_3 a0_4 a0_5 a0_6 a0_7 a0_8 a0_9 a0_10 a0_11 true _ A10.out).mono ?_); rintro e w16 ⟨rfl, hb⟩; refine ⟨_, rfl, ?_⟩; have n0_ := Aside0.mk (blk_below (g := gb291) (o := .cells #[.int .i64 a0_0, .int .i64 a0_1, .int .i64 a0_2, .int .i64 a0_3, .int .i64 a0_4, .int .i64 a0_5, .int .i64 a0_6, .int .i64 a0_7, .int .i64 a0_8, .int .i64 a0_9, .int .i64 a0_10, .int .i64 a0_11] 37 (0, 0)) (by (with_reducible repeat (first | refine blk_drewN ?_ _ | refine blk_drew ?_ | refine blk_alloc ?_ _)); exact BK291.out) hb); have n1_ := Aside0.mk (blk_below (g := gb292) (o := .cells #[.int .i64 a1_0, .int .i64 a1_1, .bool a1_2] 39 (0, 0)) (by (with_reducible repeat (first | refine blk_drewN ?_ _ | refine blk_drew ?_ | refine blk_alloc ?_ _)); exact BK292.out) hb); have n2_ := Aside0.mk (below_step (by repeat (first | (with_reducible first | exact HB.out | apply below_alloc | apply pw_below_drewN | apply below_drew1 | refine below_set ?_ GE291.out | refine below_set ?_ GE292.out) | exact HB.out)) hb); clear BK291; clear BK292; clear HB; have BK291 := n0_; have BK292 := n1_; have HB := n2_; clear n0_ n1_ n2_; (try clear hb); (try clear hb2); (try clear hk); (try clear hi); have hcz17_0 : w16.cell? ⟨gb292, 0, none⟩ = some (.int .i64 a1_0) := (blk_cell BK292.out 0).trans rfl; have hcz17_1 : w16.cell? ⟨gb292, 1, none⟩ = some (.int .i64 a1_1) := (blk_cell BK292.out 1).trans rfl; have hcz17_2 : w16.cell? ⟨gb292, 2, none⟩ = some (.bool a1_2) := (blk_cell BK292.out 2).trans rfl; have hfz17_0 := blk_frozen BK292.out 0; have hfz17_1 := blk_frozen BK292.out 1; have hfz17_2 := blk_frozen BK292.out 2) | (go_at_call 23; (with_reducible refine (governorlaw15_time.calls a1_1 true _ A12.out).mono ?_); rintro e w' ⟨rfl, ⟨nd, rfl⟩⟩))
        go_meet
        case rel => exact ⟨_, (decide ((l2.length : Int) > 300)), (by first | rfl | (simp; done) | (simp [*]; done)), H', ⟨by first | omega | exact Nat.le_refl _⟩, ⟨by (with_reducible repeat (first | refine blk_drewN ?_ _ | refine blk_drew ?_ | refine blk_alloc ?_ _)); exact BK291.out⟩, ⟨by (with_reducible repeat (first | refine blk_drewN ?_ _ | refine blk_drew ?_ | refine blk_alloc ?_ _)); exact BK292.out⟩, ⟨by repeat (first | (with_reducible first | exact HB.out | apply below_alloc | apply pw_below_drewN | apply below_drew1 | refine below_set ?_ GE291.out | refine below_set ?_ GE292.out) | exact HB.out)⟩⟩
      · replace c13 := Bool.eq_false_iff.mpr c13
        subst c13
        have H1 : (governorlaw15_LimitStable.j0 k l2 l3 t293 true a0_0 a0_1 a0_2 a0_3 a0_4 a0_5 a0_6 a0_7 a0_8 a0_9 a0_10 a0_11 a1_0 a1_1 a1_2) = some r := by rw [if_neg (show ¬ (false = true) by decide)] at H; exact H
        clear H
        have H := H1
        clear H1
        have H' := Aside0.mk H
        clear H
        have hnb18 := NB291_292.out
        have hnc18 := NB292_291.out
        have hcz19_0 : w9.cell? ⟨gb291, 0, none⟩ = some (.int .i64 a0_0) := (blk_cell BK291.out 0).trans rfl
        have hcz19_1 : w9.cell? ⟨gb291, 1, none⟩ = some (.int .i64 a0_1) := (blk_cell BK291.out 1).trans rfl
        have hcz19_2 : w9.cell? ⟨gb291, 2, none⟩ = some (.int .i64 a0_2) := (blk_cell BK291.out 2).trans rfl
        have hcz19_3 : w9.cell? ⟨gb291, 3, none⟩ = some (.int .i64 a0_3) := (blk_cell BK291.out 3).trans rfl
        have hcz19_4 : w9.cell? ⟨gb291, 4, none⟩ = some (.int .i64 a0_4) := (blk_cell BK291.out 4).trans rfl
        have hcz19_5 : w9.cell? ⟨gb291, 5, none⟩ = some (.int .i64 a0_5) := (blk_cell BK291.out 5).trans rfl
        have hcz19_6 : w9.cell? ⟨gb291, 6, none⟩ = some (.int .i64 a0_6) := (blk_cell BK291.out 6).trans rfl
        have hcz19_7 : w9.cell? ⟨gb291, 7, none⟩ = some (.int .i64 a0_7) := (blk_cell BK291.out 7).trans rfl
        have hcz19_8 : w9.cell? ⟨gb291, 8, none⟩ = some (.int .i64 a0_8) := (blk_cell BK291.out 8).trans rfl
        have hcz19_9 : w9.cell? ⟨gb291, 9, none⟩ = some (.int .i64 a0_9) := (blk_cell BK291.out 9).trans rfl
        have hcz19_10 : w9.cell? ⟨gb291, 10, none⟩ = some (.int .i64 a0_10) := (blk_cell BK291.out 10).trans rfl
        have hcz19_11 : w9.cell? ⟨gb291, 11, none⟩ = some (.int .i64 a0_11) := (blk_cell BK291.out 11).trans rfl
        have hfz19_0 := blk_frozen BK291.out 0
        have hfz19_1 := blk_frozen BK291.out 1
        have hfz19_2 := blk_frozen BK291.out 2
        have hfz19_3 := blk_frozen BK291.out 3
        have hfz19_4 := blk_frozen BK291.out 4
        have hfz19_5 := blk_frozen BK291.out 5
        have hfz19_6 := blk_frozen BK291.out 6
        have hfz19_7 := blk_frozen BK291.out 7
        have hfz19_8 := blk_frozen BK291.out 8
        have hfz19_9 := blk_frozen BK291.out 9
        have hfz19_10 := blk_frozen BK291.out 10
        have hfz19_11 := blk_frozen BK291.out 11
        go_wp2_with (first | ((with_reducible refine gate_callee (f := 22) rfl ?_); refine goesL_ (some 18) rfl rfl Try.func22 (by kernel_rfl) rfl #[.agg #[.int .i64 a0_0, .int .i64 a0_1, .int .i64 a0_2, .int .i64 a0_3, .int .i64 a0_4, .int .i64 a0_5, .int .i64 a0_6, .int .i64 a0_7, .int .i64 a0_8, .int .i64 a0_9, .int .i64 a0_10, .int .i64 a0_11]] rfl (by (try simp only [List.map_toArray, List.map_cons, List.map_nil]); first | done | rfl | (simp only [List.length_drop, List.length_take]; rfl)) ?_; (with_reducible refine (governorref09_Conf.calls a0_0 a0_1 a0_2 a0_3 a0_4 a0_5 a0_6 a0_7 a0_8 a0_9 a0_10 a0_11 true _ A10.out).mono ?_); rintro e w20 ⟨rfl, hb⟩; refine ⟨_, rfl, ?_⟩; have n0_ := Aside0.mk (blk_below (g := gb291) (o := .cells #[.int .i64 a0_0, .int .i64 a0_1, .int .i64 a0_2, .int .i64 a0_3, .int .i64 a0_4, .int .i64 a0_5, .int .i64 a0_6, .int .i64 a0_7, .int .i64 a0_8, .int .i64 a0_9, .int .i64 a0_10, .int .i64 a0_11] 37 (0, 0)) (by (with_reducible repeat (first | refine blk_drewN ?_ _ | refine blk_drew ?_ | refine blk_alloc ?_ _)); exact BK291.out) hb); have n1_ := Aside0.mk (blk_below (g := gb292) (o := .cells #[.int .i64 a1_0, .int .i64 a1_1, .bool a1_2] 39 (0, 0)) (by (with_reducible repeat (first | refine blk_drewN ?_ _ | refine blk_drew ?_ | refine blk_alloc ?_ _)); exact BK292.out) hb); have n2_ := Aside0.mk (below_step (by repeat (first | (with_reducible first | exact HB.out | apply below_alloc | apply pw_below_drewN | apply below_drew1 | refine below_set ?_ GE291.out | refine below_set ?_ GE292.out) | exact HB.out)) hb); clear BK291; clear BK292; clear HB; have BK291 := n0_; have BK292 := n1_; have HB := n2_; clear n0_ n1_ n2_; (try clear hb); (try clear hb2); (try clear hk); (try clear hi); have hcz21_0 : w20.cell? ⟨gb292, 0, none⟩ = some (.int .i64 a1_0) := (blk_cell BK292.out 0).trans rfl; have hcz21_1 : w20.cell? ⟨gb292, 1, none⟩ = some (.int .i64 a1_1) := (blk_cell BK292.out 1).trans rfl; have hcz21_2 : w20.cell? ⟨gb292, 2, none⟩ = some (.bool a1_2) := (blk_cell BK292.out 2).trans rfl; have hfz21_0 := blk_frozen BK292.out 0; have hfz21_1 := blk_frozen BK292.out 1; have hfz21_2 := blk_frozen BK292.out 2) | (go_at_call 23; (with_reducible refine (governorlaw15_time.calls a1_1 false _ A12.out).mono ?_); rintro e w' ⟨rfl, ⟨nd, rfl⟩⟩))
        go_meet
        case rel => exact ⟨_, (true), (by first | rfl | (simp; done) | (simp [*]; done)), H', ⟨by first | omega | exact Nat.le_refl _⟩, ⟨by (with_reducible repeat (first | refine blk_drewN ?_ _ | refine blk_drew ?_ | refine blk_alloc ?_ _)); exact BK291.out⟩, ⟨by (with_reducible repeat (first | refine blk_drewN ?_ _ | refine blk_drew ?_ | refine blk_alloc ?_ _)); exact BK292.out⟩, ⟨by repeat (first | (with_reducible first | exact HB.out | apply below_alloc | apply pw_below_drewN | apply below_drew1 | refine below_set ?_ GE291.out | refine below_set ?_ GE292.out) | exact HB.out)⟩⟩
    · replace c11 := Bool.eq_false_iff.mpr c11
      subst c11
      have H1 : (governorlaw15_LimitStable.j0 k l2 l3 t293 true a0_0 a0_1 a0_2 a0_3 a0_4 a0_5 a0_6 a0_7 a0_8 a0_9 a0_10 a0_11 a1_0 a1_1 a1_2) = some r := by rw [if_neg (show ¬ (false = true) by decide)] at H; exact H
      clear H
      have H := H1
      clear H1
      have H' := Aside0.mk H
      clear H
      have hnb22 := NB291_292.out
      have hnc22 := NB292_291.out
      have hcz23_0 : w9.cell? ⟨gb291, 0, none⟩ = some (.int .i64 a0_0) := (blk_cell BK291.out 0).trans rfl
      have hcz23_1 : w9.cell? ⟨gb291, 1, none⟩ = some (.int .i64 a0_1) := (blk_cell BK291.out 1).trans rfl
      have hcz23_2 : w9.cell? ⟨gb291, 2, none⟩ = some (.int .i64 a0_2) := (blk_cell BK291.out 2).trans rfl
      have hcz23_3 : w9.cell? ⟨gb291, 3, none⟩ = some (.int .i64 a0_3) := (blk_cell BK291.out 3).trans rfl
      have hcz23_4 : w9.cell? ⟨gb291, 4, none⟩ = some (.int .i64 a0_4) := (blk_cell BK291.out 4).trans rfl
      have hcz23_5 : w9.cell? ⟨gb291, 5, none⟩ = some (.int .i64 a0_5) := (blk_cell BK291.out 5).trans rfl
      have hcz23_6 : w9.cell? ⟨gb291, 6, none⟩ = some (.int .i64 a0_6) := (blk_cell BK291.out 6).trans rfl
      have hcz23_7 : w9.cell? ⟨gb291, 7, none⟩ = some (.int .i64 a0_7) := (blk_cell BK291.out 7).trans rfl
      have hcz23_8 : w9.cell? ⟨gb291, 8, none⟩ = some (.int .i64 a0_8) := (blk_cell BK291.out 8).trans rfl
      have hcz23_9 : w9.cell? ⟨gb291, 9, none⟩ = some (.int .i64 a0_9) := (blk_cell BK291.out 9).trans rfl
      have hcz23_10 : w9.cell? ⟨gb291, 10, none⟩ = some (.int .i64 a0_10) := (blk_cell BK291.out 10).trans rfl
      have hcz23_11 : w9.cell? ⟨gb291, 11, none⟩ = some (.int .i64 a0_11) := (blk_cell BK291.out 11).trans rfl
      have hfz23_0 := blk_frozen BK291.out 0
      have hfz23_1 := blk_frozen BK291.out 1
      have hfz23_2 := blk_frozen BK291.out 2
      have hfz23_3 := blk_frozen BK291.out 3
      have hfz23_4 := blk_frozen BK291.out 4
      have hfz23_5 := blk_frozen BK291.out 5
      have hfz23_6 := blk_frozen BK291.out 6
      have hfz23_7 := blk_frozen BK291.out 7
      have hfz23_8 := blk_frozen BK291.out 8
      have hfz23_9 := blk_frozen BK291.out 9
      have hfz23_10 := blk_frozen BK291.out 10
      have hfz23_11 := blk_frozen BK291.out 11
      go_wp2_with (first | ((with_reducible refine gate_callee (f := 22) rfl ?_); refine goesL_ (some 18) rfl rfl Try.func22 (by kernel_rfl) rfl #[.agg #[.int .i64 a0_0, .int .i64 a0_1, .int .i64 a0_2, .int .i64 a0_3, .int .i64 a0_4, .int .i64 a0_5, .int .i64 a0_6, .int .i64 a0_7, .int .i64 a0_8, .int .i64 a0_9, .int .i64 a0_10, .int .i64 a0_11]] rfl (by (try simp only [List.map_toArray, List.map_cons, List.map_nil]); first | done | rfl | (simp only [List.length_drop, List.length_take]; rfl)) ?_; (with_reducible refine (governorref09_Conf.calls a0_0 a0_1 a0_2 a0_3 a0_4 a0_5 a0_6 a0_7 a0_8 a0_9 a0_10 a0_11 false _ A10.out).mono ?_); rintro e w24 ⟨rfl, hb⟩; refine ⟨_, rfl, ?_⟩; have n0_ := Aside0.mk (blk_below (g := gb291) (o := .cells #[.int .i64 a0_0, .int .i64 a0_1, .int .i64 a0_2, .int .i64 a0_3, .int .i64 a0_4, .int .i64 a0_5, .int .i64 a0_6, .int .i64 a0_7, .int .i64 a0_8, .int .i64 a0_9, .int .i64 a0_10, .int .i64 a0_11] 37 (0, 0)) (by (with_reducible repeat (first | refine blk_drewN ?_ _ | refine blk_drew ?_ | refine blk_alloc ?_ _)); exact BK291.out) hb); have n1_ := Aside0.mk (blk_below (g := gb292) (o := .cells #[.int .i64 a1_0, .int .i64 a1_1, .bool a1_2] 39 (0, 0)) (by (with_reducible repeat (first | refine blk_drewN ?_ _ | refine blk_drew ?_ | refine blk_alloc ?_ _)); exact BK292.out) hb); have n2_ := Aside0.mk (below_step (by repeat (first | (with_reducible first | exact HB.out | apply below_alloc | apply pw_below_drewN | apply below_drew1 | refine below_set ?_ GE291.out | refine below_set ?_ GE292.out) | exact HB.out)) hb); clear BK291; clear BK292; clear HB; have BK291 := n0_; have BK292 := n1_; have HB := n2_; clear n0_ n1_ n2_; (try clear hb); (try clear hb2); (try clear hk); (try clear hi)))
      go_meet
      case rel => exact ⟨_, (true), (by first | rfl | (simp; done) | (simp [*]; done)), H', ⟨by first | omega | exact Nat.le_refl _⟩, ⟨by (with_reducible repeat (first | refine blk_drewN ?_ _ | refine blk_drew ?_ | refine blk_alloc ?_ _)); exact BK291.out⟩, ⟨by (with_reducible repeat (first | refine blk_drewN ?_ _ | refine blk_drew ?_ | refine blk_alloc ?_ _)); exact BK292.out⟩, ⟨by repeat (first | (with_reducible first | exact HB.out | apply below_alloc | apply pw_below_drewN | apply below_drew1 | refine below_set ?_ GE291.out | refine below_set ?_ GE292.out) | exact HB.out)⟩⟩
  case rest =>
    clear HC6
    try clear c1
    try clear c2
    try clear p2
    try clear c3
    try clear c11
    try clear c13
    try clear c14
    try clear c18
    try clear c21
    try clear c22
    try clear hcz15_0
    try clear hcz15_1
    try clear hcz15_10
    try clear hcz15_11
    try clear hcz15_2
    try clear hcz15_3
    try clear hcz15_4
    try clear hcz15_5
    try clear hcz15_6
    try clear hcz15_7
    try clear hcz15_8
    try clear hcz15_9
    try clear hcz17_0
    try clear hcz17_1
    try clear hcz17_2
    try clear hcz19_0
    try clear hcz19_1
    try clear hcz19_10
    try clear hcz19_11
    try clear hcz19_2
    try clear hcz19_3
    try clear hcz19_4
    try clear hcz19_5
    try clear hcz19_6
    try clear hcz19_7
    try clear hcz19_8
    try clear hcz19_9
    try clear hcz21_0
    try clear hcz21_1
    try clear hcz21_2
    try clear hcz23_0
    try clear hcz23_1
    try clear hcz23_10
    try clear hcz23_11
    try clear hcz23_2
    try clear hcz23_3
    try clear hcz23_4
    try clear hcz23_5
    try clear hcz23_6
    try clear hcz23_7
    try clear hcz23_8
    try clear hcz23_9
    try clear hfz15_0
    try clear hfz15_1
    try clear hfz15_10
    try clear hfz15_11
    try clear hfz15_2
    try clear hfz15_3
    try clear hfz15_4
    try clear hfz15_5
    try clear hfz15_6
    try clear hfz15_7
    try clear hfz15_8
    try clear hfz15_9
    try clear hfz17_0
    try clear hfz17_1
    try clear hfz17_2
    try clear hfz19_0
    try clear hfz19_1
    try clear hfz19_10
    try clear hfz19_11
    try clear hfz19_2
    try clear hfz19_3
    try clear hfz19_4
    try clear hfz19_5
    try clear hfz19_6
    try clear hfz19_7
    try clear hfz19_8
    try clear hfz19_9
    try clear hfz21_0
    try clear hfz21_1
    try clear hfz21_2
    try clear hfz23_0
    try clear hfz23_1
    try clear hfz23_10
    try clear hfz23_11
    try clear hfz23_2
    try clear hfz23_3
    try clear hfz23_4
    try clear hfz23_5
    try clear hfz23_6
    try clear hfz23_7
    try clear hfz23_8
    try clear hfz23_9
    obtain ⟨kq, x30_5, rfl, HA, HJ5, BK291, BK292, HB⟩ := hcut
    cases kq with
    | zero => exact absurd HA.out (by simp [governorlaw15_LimitStable.j0])
    | succ kj5 =>
      have H := HA.out
      clear HA
      simp only [governorlaw15_LimitStable.j0] at H
      by_cases c25 : x30_5 = true
      · subst c25
        have H1 : (some t293) = some r := by rw [if_pos rfl] at H; exact H
        clear H
        have H := H1
        clear H1
        obtain rfl := Option.some.inj H
        go_wp2
        go_ret
        exact ⟨by first | rfl | (simp [errW_none, errW_some] <;> rfl) | (simp [*, errW_none, errW_some] <;> rfl), by repeat (first | (with_reducible first | exact HB.out | apply below_alloc | apply pw_below_drewN | apply below_drew1 | refine below_set ?_ GE291.out | refine below_set ?_ GE292.out) | exact HB.out)⟩
      · replace c25 := Bool.eq_false_iff.mpr c25
        subst c25
        have H1 : ((limit_Into.f a0_0 a0_1 a0_2 a0_3 a0_4 a0_5 a0_6 a0_7 a0_8 a0_9 a0_10 a0_11 a1_0 a1_1 a1_2).bind fun bt296 => (governorlaw15_LimitStable.l0 kj5 l2 l3 t293 0 0 false 0 a0_0 a0_1 a0_2 a0_3 a0_4 a0_5 a0_6 a0_7 a0_8 a0_9 a0_10 a0_11 bt296.1 bt296.2.1 false)) = some r := by rw [if_neg (show ¬ (false = true) by decide)] at H; exact H
        clear H
        have H := H1
        clear H1
        replace H := Option.bind_eq_some_iff.mp H
        obtain ⟨⟨t296, t297, t298⟩, A260, H⟩ := H
        replace H : (governorlaw15_LimitStable.l0 kj5 l2 l3 t293 0 0 false 0 a0_0 a0_1 a0_2 a0_3 a0_4 a0_5 a0_6 a0_7 a0_8 a0_9 a0_10 a0_11 t296 t297 false) = some r := H
        have A26 := Aside0.mk A260
        clear A260
        have H' := Aside0.mk H
        clear H
        have hnb27 := NB291_292.out
        have hnc27 := NB292_291.out
        have hcz28_0 : wc.cell? ⟨gb291, 0, none⟩ = some (.int .i64 a0_0) := (blk_cell BK291.out 0).trans rfl
        have hcz28_1 : wc.cell? ⟨gb291, 1, none⟩ = some (.int .i64 a0_1) := (blk_cell BK291.out 1).trans rfl
        have hcz28_2 : wc.cell? ⟨gb291, 2, none⟩ = some (.int .i64 a0_2) := (blk_cell BK291.out 2).trans rfl
        have hcz28_3 : wc.cell? ⟨gb291, 3, none⟩ = some (.int .i64 a0_3) := (blk_cell BK291.out 3).trans rfl
        have hcz28_4 : wc.cell? ⟨gb291, 4, none⟩ = some (.int .i64 a0_4) := (blk_cell BK291.out 4).trans rfl
        have hcz28_5 : wc.cell? ⟨gb291, 5, none⟩ = some (.int .i64 a0_5) := (blk_cell BK291.out 5).trans rfl
        have hcz28_6 : wc.cell? ⟨gb291, 6, none⟩ = some (.int .i64 a0_6) := (blk_cell BK291.out 6).trans rfl
        have hcz28_7 : wc.cell? ⟨gb291, 7, none⟩ = some (.int .i64 a0_7) := (blk_cell BK291.out 7).trans rfl
        have hcz28_8 : wc.cell? ⟨gb291, 8, none⟩ = some (.int .i64 a0_8) := (blk_cell BK291.out 8).trans rfl
        have hcz28_9 : wc.cell? ⟨gb291, 9, none⟩ = some (.int .i64 a0_9) := (blk_cell BK291.out 9).trans rfl
        have hcz28_10 : wc.cell? ⟨gb291, 10, none⟩ = some (.int .i64 a0_10) := (blk_cell BK291.out 10).trans rfl
        have hcz28_11 : wc.cell? ⟨gb291, 11, none⟩ = some (.int .i64 a0_11) := (blk_cell BK291.out 11).trans rfl
        have hfz28_0 := blk_frozen BK291.out 0
        have hfz28_1 := blk_frozen BK291.out 1
        have hfz28_2 := blk_frozen BK291.out 2
        have hfz28_3 := blk_frozen BK291.out 3
        have hfz28_4 := blk_frozen BK291.out 4
        have hfz28_5 := blk_frozen BK291.out 5
        have hfz28_6 := blk_frozen BK291.out 6
        have hfz28_7 := blk_frozen BK291.out 7
        have hfz28_8 := blk_frozen BK291.out 8
        have hfz28_9 := blk_frozen BK291.out 9
        have hfz28_10 := blk_frozen BK291.out 10
        have hfz28_11 := blk_frozen BK291.out 11
        have hcz29_0 : wc.cell? ⟨gb292, 0, none⟩ = some (.int .i64 a1_0) := (blk_cell BK292.out 0).trans rfl
        have hcz29_1 : wc.cell? ⟨gb292, 1, none⟩ = some (.int .i64 a1_1) := (blk_cell BK292.out 1).trans rfl
        have hcz29_2 : wc.cell? ⟨gb292, 2, none⟩ = some (.bool a1_2) := (blk_cell BK292.out 2).trans rfl
        have hfz29_0 := blk_frozen BK292.out 0
        have hfz29_1 := blk_frozen BK292.out 1
        have hfz29_2 := blk_frozen BK292.out 2
        go_wp2_with (first | ((with_reducible refine gate_callee (f := 24) rfl ?_); refine goesL_ (some 34) rfl rfl Try.func24 (by kernel_rfl) rfl #[.agg #[.int .i64 a0_0, .int .i64 a0_1, .int .i64 a0_2, .int .i64 a0_3, .int .i64 a0_4, .int .i64 a0_5, .int .i64 a0_6, .int .i64 a0_7, .int .i64 a0_8, .int .i64 a0_9, .int .i64 a0_10, .int .i64 a0_11], .agg #[.int .i64 a1_0, .int .i64 a1_1, .bool a1_2]] rfl (by (try simp only [List.map_toArray, List.map_cons, List.map_nil]); first | done | rfl | (simp only [List.length_drop, List.length_take]; rfl)) ?_; (with_reducible refine (limit_Into.calls a0_0 a0_1 a0_2 a0_3 a0_4 a0_5 a0_6 a0_7 a0_8 a0_9 a0_10 a0_11 a1_0 a1_1 a1_2 t296 t297 t298 _ A26.out).mono ?_); rintro e w30 ⟨rfl, hb⟩; refine ⟨_, rfl, ?_⟩; have n0_ := Aside0.mk (blk_below (g := gb291) (o := .cells #[.int .i64 a0_0, .int .i64 a0_1, .int .i64 a0_2, .int .i64 a0_3, .int .i64 a0_4, .int .i64 a0_5, .int .i64 a0_6, .int .i64 a0_7, .int .i64 a0_8, .int .i64 a0_9, .int .i64 a0_10, .int .i64 a0_11] 37 (0, 0)) (by (with_reducible repeat (first | refine blk_drewN ?_ _ | refine blk_drew ?_ | refine blk_alloc ?_ _)); exact BK291.out) hb); have n1_ := Aside0.mk (blk_below (g := gb292) (o := .cells #[.int .i64 a1_0, .int .i64 a1_1, .bool a1_2] 39 (0, 0)) (by (with_reducible repeat (first | refine blk_drewN ?_ _ | refine blk_drew ?_ | refine blk_alloc ?_ _)); exact BK292.out) hb); have n2_ := Aside0.mk (below_step (by repeat (first | (with_reducible first | exact HB.out | apply below_alloc | apply pw_below_drewN | apply below_drew1 | refine below_set ?_ GE291.out | refine below_set ?_ GE292.out) | exact HB.out)) hb); clear BK291; clear BK292; clear HB; have BK291 := n0_; have BK292 := n1_; have HB := n2_; clear n0_ n1_ n2_; (try clear hb); (try clear hb2); (try clear hk); (try clear hi)) | ((with_reducible refine gate_dst (N := 10) rfl ?_); (try (refine gate_guard (by rfl) ?_; dsimp only)); refine box_event ?hg (N := 10) ?hd (cs := #[.int .i64 0, .int .i64 0, .bool false]) (t := 39) ?hr ?_; (case hd => rfl); (case hg => rfl); (case hr => first | (go_simp; done) | (go_simp; rfl)); intro gb299 hg w31 hbox hb; have n0_ := Aside0.mk (blk_below (g := gb291) (o := .cells #[.int .i64 a0_0, .int .i64 a0_1, .int .i64 a0_2, .int .i64 a0_3, .int .i64 a0_4, .int .i64 a0_5, .int .i64 a0_6, .int .i64 a0_7, .int .i64 a0_8, .int .i64 a0_9, .int .i64 a0_10, .int .i64 a0_11] 37 (0, 0)) (by (with_reducible repeat (first | refine blk_drewN ?_ _ | refine blk_drew ?_ | refine blk_alloc ?_ _)); exact BK291.out) hb); have n1_ := Aside0.mk (blk_below (g := gb292) (o := .cells #[.int .i64 a1_0, .int .i64 a1_1, .bool a1_2] 39 (0, 0)) (by (with_reducible repeat (first | refine blk_drewN ?_ _ | refine blk_drew ?_ | refine blk_alloc ?_ _)); exact BK292.out) hb); have n2_ := Aside0.mk (below_step (by repeat (first | (with_reducible first | exact HB.out | apply below_alloc | apply pw_below_drewN | apply below_drew1 | refine below_set ?_ GE291.out | refine below_set ?_ GE292.out) | exact HB.out)) hb); have n3_ := Aside0.mk (hbox); have n4_ := Aside0.mk ((by rw [hg]; exact (below_size (by repeat (first | (with_reducible first | exact HB.out | apply below_alloc | apply pw_below_drewN | apply below_drew1 | refine below_set ?_ GE291.out | refine below_set ?_ GE292.out) | exact HB.out))) : w.heap.size ≤ gb299)); have n5_ := Aside0.mk ((by rw [hg]; exact (below_size (by repeat (first | (with_reducible first | exact HB.out | apply below_alloc | apply pw_below_drewN | apply below_drew1 | refine below_set ?_ GE291.out | refine below_set ?_ GE292.out) | exact HB.out))) : w.heap.size ≤ gb299)); have n6_ := Aside0.mk ((by rw [hg]; exact Nat.ne_of_lt (blk_lt (g := gb291) (o := .cells #[.int .i64 a0_0, .int .i64 a0_1, .int .i64 a0_2, .int .i64 a0_3, .int .i64 a0_4, .int .i64 a0_5, .int .i64 a0_6, .int .i64 a0_7, .int .i64 a0_8, .int .i64 a0_9, .int .i64 a0_10, .int .i64 a0_11] 37 (0, 0)) (by (with_reducible repeat (first | refine blk_drewN ?_ _ | refine blk_drew ?_ | refine blk_alloc ?_ _)); exact BK291.out)) : gb291 ≠ gb299)); have n7_ := Aside0.mk ((by rw [hg]; exact Nat.ne_of_gt (blk_lt (g := gb291) (o := .cells #[.int .i64 a0_0, .int .i64 a0_1, .int .i64 a0_2, .int .i64 a0_3, .int .i64 a0_4, .int .i64 a0_5, .int .i64 a0_6, .int .i64 a0_7, .int .i64 a0_8, .int .i64 a0_9, .int .i64 a0_10, .int .i64 a0_11] 37 (0, 0)) (by (with_reducible repeat (first | refine blk_drewN ?_ _ | refine blk_drew ?_ | refine blk_alloc ?_ _)); exact BK291.out)) : gb299 ≠ gb291)); have n8_ := Aside0.mk ((by rw [hg]; exact Nat.ne_of_lt (blk_lt (g := gb292) (o := .cells #[.int .i64 a1_0, .int .i64 a1_1, .bool a1_2] 39 (0, 0)) (by (with_reducible repeat (first | refine blk_drewN ?_ _ | refine blk_drew ?_ | refine blk_alloc ?_ _)); exact BK292.out)) : gb292 ≠ gb299)); have n9_ := Aside0.mk ((by rw [hg]; exact Nat.ne_of_gt (blk_lt (g := gb292) (o := .cells #[.int .i64 a1_0, .int .i64 a1_1, .bool a1_2] 39 (0, 0)) (by (with_reducible repeat (first | refine blk_drewN ?_ _ | refine blk_drew ?_ | refine blk_alloc ?_ _)); exact BK292.out)) : gb299 ≠ gb292)); clear BK291; clear BK292; clear HB; have BK291 := n0_; have BK292 := n1_; have HB := n2_; have BK299 := n3_; have GW299 := n4_; have GE299 := n5_; have NB291_299 := n6_; have NB299_291 := n7_; have NB292_299 := n8_; have NB299_292 := n9_; clear n0_ n1_ n2_ n3_ n4_ n5_ n6_ n7_ n8_ n9_; clear hb hbox hg; have hnb32 := NB299_291.out; have hnc32 := NB291_299.out; have hnb33 := NB299_292.out; have hnc33 := NB292_299.out; have hcz34_0 : w31.cell? ⟨gb299, 0, none⟩ = some (.int .i64 0) := (blk_cell BK299.out 0).trans rfl; have hcz34_1 : w31.cell? ⟨gb299, 1, none⟩ = some (.int .i64 0) := (blk_cell BK299.out 1).trans rfl; have hcz34_2 : w31.cell? ⟨gb299, 2, none⟩ = some (.bool false) := (blk_cell BK299.out 2).trans rfl; have hfz34_0 := blk_frozen BK299.out 0; have hfz34_1 := blk_frozen BK299.out 1; have hfz34_2 := blk_frozen BK299.out 2))
        go_loopg [11, 12, 13, 14] kj5 (fun kq v11 v12 v13 v14 w' => ∃ (x11_2 : Int) (x12_2 : Int) (x13_2 : Bool) (x14_2 : Int) (x300000_2 : Int) (x300001_2 : Int) (x300002_2 : Bool), v11 = .int .i64 x11_2 ∧ v12 = .int .i64 x12_2 ∧ v13 = .bool x13_2 ∧ v14 = .int .i64 x14_2 ∧ Aside0 (governorlaw15_LimitStable.l0 kq l2 l3 t293 x11_2 x12_2 x13_2 x14_2 a0_0 a0_1 a0_2 a0_3 a0_4 a0_5 a0_6 a0_7 a0_8 a0_9 a0_10 a0_11 x300000_2 x300001_2 x300002_2 = some r) ∧ Aside0 (kq ≤ kj5) ∧ Aside0 (w'.heap[gb291]? = some (.cells #[.int .i64 a0_0, .int .i64 a0_1, .int .i64 a0_2, .int .i64 a0_3, .int .i64 a0_4, .int .i64 a0_5, .int .i64 a0_6, .int .i64 a0_7, .int .i64 a0_8, .int .i64 a0_9, .int .i64 a0_10, .int .i64 a0_11] 37 (0, 0))) ∧ Aside0 (w'.heap[gb292]? = some (.cells #[.int .i64 a1_0, .int .i64 a1_1, .bool a1_2] 39 (0, 0))) ∧ Aside0 (w'.heap[gb299]? = some (.cells #[.int .i64 x300000_2, .int .i64 x300001_2, .bool x300002_2] 39 (0, 0))) ∧ Aside0 (Below w.heap.size w w'))
        case atStart => exact ⟨(0), (0), (false), (0), (t296), (t297), (false), (by first | rfl | (simp; done) | (simp [*]; done)), (by first | rfl | (simp; done) | (simp [*]; done)), (by first | rfl | (simp; done) | (simp [*]; done)), (by first | rfl | (simp; done) | (simp [*]; done)), H', ⟨Nat.le_refl _⟩, ⟨by (with_reducible repeat (first | refine blk_drewN ?_ _ | refine blk_drew ?_ | refine blk_alloc ?_ _)); refine blk_far ?_ NB291_299.out _; (with_reducible repeat (first | refine blk_drewN ?_ _ | refine blk_drew ?_ | refine blk_alloc ?_ _)); refine blk_far ?_ NB291_299.out _; (with_reducible repeat (first | refine blk_drewN ?_ _ | refine blk_drew ?_ | refine blk_alloc ?_ _)); refine blk_far ?_ NB291_299.out _; (with_reducible repeat (first | refine blk_drewN ?_ _ | refine blk_drew ?_ | refine blk_alloc ?_ _)); refine blk_far ?_ NB291_299.out _; (with_reducible repeat (first | refine blk_drewN ?_ _ | refine blk_drew ?_ | refine blk_alloc ?_ _)); exact BK291.out⟩, ⟨by (with_reducible repeat (first | refine blk_drewN ?_ _ | refine blk_drew ?_ | refine blk_alloc ?_ _)); refine blk_far ?_ NB292_299.out _; (with_reducible repeat (first | refine blk_drewN ?_ _ | refine blk_drew ?_ | refine blk_alloc ?_ _)); refine blk_far ?_ NB292_299.out _; (with_reducible repeat (first | refine blk_drewN ?_ _ | refine blk_drew ?_ | refine blk_alloc ?_ _)); refine blk_far ?_ NB292_299.out _; (with_reducible repeat (first | refine blk_drewN ?_ _ | refine blk_drew ?_ | refine blk_alloc ?_ _)); refine blk_far ?_ NB292_299.out _; (with_reducible repeat (first | refine blk_drewN ?_ _ | refine blk_drew ?_ | refine blk_alloc ?_ _)); exact BK292.out⟩, ⟨by (with_reducible repeat (first | refine blk_drewN ?_ _ | refine blk_drew ?_ | refine blk_alloc ?_ _)); refine blk_put (cs := #[.int .i64 t296, .int .i64 t297, .bool t298]) ?_ 2 _ rfl; (with_reducible repeat (first | refine blk_drewN ?_ _ | refine blk_drew ?_ | refine blk_alloc ?_ _)); refine blk_put (cs := #[.int .i64 t296, .int .i64 t297, .bool false]) ?_ 2 _ rfl; (with_reducible repeat (first | refine blk_drewN ?_ _ | refine blk_drew ?_ | refine blk_alloc ?_ _)); refine blk_put (cs := #[.int .i64 t296, .int .i64 0, .bool false]) ?_ 1 _ rfl; (with_reducible repeat (first | refine blk_drewN ?_ _ | refine blk_drew ?_ | refine blk_alloc ?_ _)); refine blk_put (cs := #[.int .i64 0, .int .i64 0, .bool false]) ?_ 0 _ rfl; (with_reducible repeat (first | refine blk_drewN ?_ _ | refine blk_drew ?_ | refine blk_alloc ?_ _)); exact BK299.out⟩, ⟨by repeat (first | (with_reducible first | exact HB.out | apply below_alloc | apply pw_below_drewN | apply below_drew1 | refine below_set ?_ GE291.out | refine below_set ?_ GE292.out | refine below_set ?_ GE299.out) | exact HB.out)⟩⟩
        case round =>
          clear H'
          try clear c1
          try clear c2
          try clear p2
          try clear c3
          try clear c11
          try clear c13
          try clear c14
          try clear c18
          try clear c21
          try clear c22
          try clear c24
          try clear c25
          try clear c27
          try clear c32
          try clear c33
          try clear hcz15_0
          try clear hcz15_1
          try clear hcz15_10
          try clear hcz15_11
          try clear hcz15_2
          try clear hcz15_3
          try clear hcz15_4
          try clear hcz15_5
          try clear hcz15_6
          try clear hcz15_7
          try clear hcz15_8
          try clear hcz15_9
          try clear hcz17_0
          try clear hcz17_1
          try clear hcz17_2
          try clear hcz19_0
          try clear hcz19_1
          try clear hcz19_10
          try clear hcz19_11
          try clear hcz19_2
          try clear hcz19_3
          try clear hcz19_4
          try clear hcz19_5
          try clear hcz19_6
          try clear hcz19_7
          try clear hcz19_8
          try clear hcz19_9
          try clear hcz21_0
          try clear hcz21_1
          try clear hcz21_2
          try clear hcz23_0
          try clear hcz23_1
          try clear hcz23_10
          try clear hcz23_11
          try clear hcz23_2
          try clear hcz23_3
          try clear hcz23_4
          try clear hcz23_5
          try clear hcz23_6
          try clear hcz23_7
          try clear hcz23_8
          try clear hcz23_9
          try clear hcz28_0
          try clear hcz28_1
          try clear hcz28_10
          try clear hcz28_11
          try clear hcz28_2
          try clear hcz28_3
          try clear hcz28_4
          try clear hcz28_5
          try clear hcz28_6
          try clear hcz28_7
          try clear hcz28_8
          try clear hcz28_9
          try clear hcz29_0
          try clear hcz29_1
          try clear hcz29_2
          try clear hcz34_0
          try clear hcz34_1
          try clear hcz34_2
          try clear hfz15_0
          try clear hfz15_1
          try clear hfz15_10
          try clear hfz15_11
          try clear hfz15_2
          try clear hfz15_3
          try clear hfz15_4
          try clear hfz15_5
          try clear hfz15_6
          try clear hfz15_7
          try clear hfz15_8
          try clear hfz15_9
          try clear hfz17_0
          try clear hfz17_1
          try clear hfz17_2
          try clear hfz19_0
          try clear hfz19_1
          try clear hfz19_10
          try clear hfz19_11
          try clear hfz19_2
          try clear hfz19_3
          try clear hfz19_4
          try clear hfz19_5
          try clear hfz19_6
          try clear hfz19_7
          try clear hfz19_8
          try clear hfz19_9
          try clear hfz21_0
          try clear hfz21_1
          try clear hfz21_2
          try clear hfz23_0
          try clear hfz23_1
          try clear hfz23_10
          try clear hfz23_11
          try clear hfz23_2
          try clear hfz23_3
          try clear hfz23_4
          try clear hfz23_5
          try clear hfz23_6
          try clear hfz23_7
          try clear hfz23_8
          try clear hfz23_9
          try clear hfz28_0
          try clear hfz28_1
          try clear hfz28_10
          try clear hfz28_11
          try clear hfz28_2
          try clear hfz28_3
          try clear hfz28_4
          try clear hfz28_5
          try clear hfz28_6
          try clear hfz28_7
          try clear hfz28_8
          try clear hfz28_9
          try clear hfz29_0
          try clear hfz29_1
          try clear hfz29_2
          try clear hfz34_0
          try clear hfz34_1
          try clear hfz34_2
          try clear p2
          obtain ⟨x11_2, x12_2, x13_2, x14_2, x300000_2, x300001_2, x300002_2, rfl, rfl, rfl, rfl, HA, HK2, BK291, BK292, BK299, HB⟩ := hrel
          cases gk with
          | zero => exact absurd HA.out (by simp [governorlaw15_LimitStable.l0])
          | succ k2 =>
            have H := HA.out
            clear HA
            simp only [governorlaw15_LimitStable.l0] at H
            by_cases c35 : x14_2 < (l2.length : Int)
            · rw [if_pos c35] at H
              have c35b0 : decide (x14_2 < (l2.length : Int)) = true := decide_eq_true c35
              clear c35
              have HC36 := Aside0.mk H
              clear H
              go_upto_if 45 with (fail)
              go_cut [11] (fun v11 wc => ∃ (kq : Nat) (x11_35 : Int), v11 = .int .i64 x11_35 ∧ Aside0 (governorlaw15_LimitStable.j2 kq l2 l3 t293 x11_35 x12_2 x13_2 x14_2 a0_0 a0_1 a0_2 a0_3 a0_4 a0_5 a0_6 a0_7 a0_8 a0_9 a0_10 a0_11 x300000_2 x300001_2 x300002_2 = some r) ∧ Aside0 (kq ≤ k2) ∧ Aside0 (wc.heap[gb291]? = some (.cells #[.int .i64 a0_0, .int .i64 a0_1, .int .i64 a0_2, .int .i64 a0_3, .int .i64 a0_4, .int .i64 a0_5, .int .i64 a0_6, .int .i64 a0_7, .int .i64 a0_8, .int .i64 a0_9, .int .i64 a0_10, .int .i64 a0_11] 37 (0, 0))) ∧ Aside0 (wc.heap[gb292]? = some (.cells #[.int .i64 a1_0, .int .i64 a1_1, .bool a1_2] 39 (0, 0))) ∧ Aside0 (wc.heap[gb299]? = some (.cells #[.int .i64 x300000_2, .int .i64 x300001_2, .bool x300002_2] 39 (0, 0))) ∧ Aside0 (Below w.heap.size w wc))
              case first =>
                have H := HC36.out
                clear HC36
                by_cases c37 : x14_2 < (l3.length : Int)
                · rw [if_pos c37] at H
                  have c37b0 : decide (x14_2 < (l3.length : Int)) = true := decide_eq_true c37
                  clear c37
                  (first | rw [c37b0] | (simp only [i64_w, i32_w]; rw [c37b0]) | skip)
                  by_cases c38 : 0 ≤ x14_2
                  · rw [if_pos c38] at H
                    have c38b0 : decide (0 ≤ x14_2) = true := decide_eq_true c38
                    clear c38
                    have H' := Aside0.mk H
                    clear H
                    have p300 : 0 ≤ (x14_2 : Int) := of_decide_eq_true (by first | (with_reducible assumption) | assumption)
                    have q300 : x14_2 < (l3.length : Int) := of_decide_eq_true (by first | (with_reducible assumption) | assumption)
                    obtain ⟨ad300, e300, hx300_0⟩ := Kd.at_int HR3.out x14_2 p300 q300
                    cases e300
                    replace hx300_0 := (HB.out.cell (World.block_lt_of_cell? w _ hx300_0)).trans hx300_0
                    replace p300 := eq_true p300
                    replace q300 := eq_true q300
                    go_wp2
                    go_meet
                    case rel => exact ⟨_, (wrap64 (x11_2 + (wrap64 (rd l3 x14_2)))), (by first | rfl | (simp; done) | (simp [*]; done)), H', ⟨by have := HJ5.out; have := HK2.out; first | omega | exact Nat.le_refl _⟩, ⟨by (with_reducible repeat (first | refine blk_drewN ?_ _ | refine blk_drew ?_ | refine blk_alloc ?_ _)); exact BK291.out⟩, ⟨by (with_reducible repeat (first | refine blk_drewN ?_ _ | refine blk_drew ?_ | refine blk_alloc ?_ _)); exact BK292.out⟩, ⟨by (with_reducible repeat (first | refine blk_drewN ?_ _ | refine blk_drew ?_ | refine blk_alloc ?_ _)); exact BK299.out⟩, ⟨by repeat (first | (with_reducible first | exact HB.out | apply below_alloc | apply pw_below_drewN | apply below_drew1 | refine below_set ?_ GE291.out | refine below_set ?_ GE292.out | refine below_set ?_ GE299.out) | exact HB.out)⟩⟩
                  · rw [if_neg c38] at H
                    exact absurd H (by simp)
                · rw [if_neg c37] at H
                  have c37b0 : decide (x14_2 < (l3.length : Int)) = false := decide_eq_false c37
                  clear c37
                  (first | rw [c37b0] | (simp only [i64_w, i32_w]; rw [c37b0]) | skip)
                  have H' := Aside0.mk H
                  clear H
                  go_wp2
                  go_meet
                  case rel => exact ⟨_, (x11_2), (by first | rfl | (simp; done) | (simp [*]; done)), H', ⟨by have := HJ5.out; have := HK2.out; first | omega | exact Nat.le_refl _⟩, ⟨by (with_reducible repeat (first | refine blk_drewN ?_ _ | refine blk_drew ?_ | refine blk_alloc ?_ _)); exact BK291.out⟩, ⟨by (with_reducible repeat (first | refine blk_drewN ?_ _ | refine blk_drew ?_ | refine blk_alloc ?_ _)); exact BK292.out⟩, ⟨by (with_reducible repeat (first | refine blk_drewN ?_ _ | refine blk_drew ?_ | refine blk_alloc ?_ _)); exact BK299.out⟩, ⟨by repeat (first | (with_reducible first | exact HB.out | apply below_alloc | apply pw_below_drewN | apply below_drew1 | refine below_set ?_ GE291.out | refine below_set ?_ GE292.out | refine below_set ?_ GE299.out) | exact HB.out)⟩⟩
              case rest =>
                clear HC36
                try clear c1
                try clear c2
                try clear p2
                try clear c3
                try clear p3
                try clear q3
                try clear hx3
                try clear p6
                try clear c11
                try clear c13
                try clear c14
                try clear c18
                try clear c21
                try clear c22
                try clear c24
                try clear c25
                try clear c27
                try clear p30
                try clear q30
                try clear hx30
                try clear c32
                try clear c33
                try clear c35
                try clear c35b0
                try clear c37
                try clear c37b0
                try clear c38
                try clear c38b0
                try clear hcz15_0
                try clear hcz15_1
                try clear hcz15_10
                try clear hcz15_11
                try clear hcz15_2
                try clear hcz15_3
                try clear hcz15_4
                try clear hcz15_5
                try clear hcz15_6
                try clear hcz15_7
                try clear hcz15_8
                try clear hcz15_9
                try clear hcz17_0
                try clear hcz17_1
                try clear hcz17_2
                try clear hcz19_0
                try clear hcz19_1
                try clear hcz19_10
                try clear hcz19_11
                try clear hcz19_2
                try clear hcz19_3
                try clear hcz19_4
                try clear hcz19_5
                try clear hcz19_6
                try clear hcz19_7
                try clear hcz19_8
                try clear hcz19_9
                try clear hcz21_0
                try clear hcz21_1
                try clear hcz21_2
                try clear hcz23_0
                try clear hcz23_1
                try clear hcz23_10
                try clear hcz23_11
                try clear hcz23_2
                try clear hcz23_3
                try clear hcz23_4
                try clear hcz23_5
                try clear hcz23_6
                try clear hcz23_7
                try clear hcz23_8
                try clear hcz23_9
                try clear hcz28_0
                try clear hcz28_1
                try clear hcz28_10
                try clear hcz28_11
                try clear hcz28_2
                try clear hcz28_3
                try clear hcz28_4
                try clear hcz28_5
                try clear hcz28_6
                try clear hcz28_7
                try clear hcz28_8
                try clear hcz28_9
                try clear hcz29_0
                try clear hcz29_1
                try clear hcz29_2
                try clear hcz34_0
                try clear hcz34_1
                try clear hcz34_2
                try clear hfz15_0
                try clear hfz15_1
                try clear hfz15_10
                try clear hfz15_11
                try clear hfz15_2
                try clear hfz15_3
                try clear hfz15_4
                try clear hfz15_5
                try clear hfz15_6
                try clear hfz15_7
                try clear hfz15_8
                try clear hfz15_9
                try clear hfz17_0
                try clear hfz17_1
                try clear hfz17_2
                try clear hfz19_0
                try clear hfz19_1
                try clear hfz19_10
                try clear hfz19_11
                try clear hfz19_2
                try clear hfz19_3
                try clear hfz19_4
                try clear hfz19_5
                try clear hfz19_6
                try clear hfz19_7
                try clear hfz19_8
                try clear hfz19_9
                try clear hfz21_0
                try clear hfz21_1
                try clear hfz21_2
                try clear hfz23_0
                try clear hfz23_1
                try clear hfz23_10
                try clear hfz23_11
                try clear hfz23_2
                try clear hfz23_3
                try clear hfz23_4
                try clear hfz23_5
                try clear hfz23_6
                try clear hfz23_7
                try clear hfz23_8
                try clear hfz23_9
                try clear hfz28_0
                try clear hfz28_1
                try clear hfz28_10
                try clear hfz28_11
                try clear hfz28_2
                try clear hfz28_3
                try clear hfz28_4
                try clear hfz28_5
                try clear hfz28_6
                try clear hfz28_7
                try clear hfz28_8
                try clear hfz28_9
                try clear hfz29_0
                try clear hfz29_1
                try clear hfz29_2
                try clear hfz34_0
                try clear hfz34_1
                try clear hfz34_2
                try clear hx300_0
                try clear p2
                try clear p300
                try clear q300
                obtain ⟨kq, x11_35, rfl, HA, HJ35, BK291, BK292, BK299, HB⟩ := hcut
                cases kq with
                | zero => exact absurd HA.out (by simp [governorlaw15_LimitStable.j2])
                | succ kj35 =>
                  have H := HA.out
                  clear HA
                  simp only [governorlaw15_LimitStable.j2] at H
                  by_cases c39 : 0 ≤ x14_2
                  · rw [if_pos c39] at H
                    have c39b0 : decide (0 ≤ x14_2) = true := decide_eq_true c39
                    clear c39
                    by_cases c40 : x14_2 < (l2.length : Int)
                    · rw [if_pos c40] at H
                      have c40b0 : decide (x14_2 < (l2.length : Int)) = true := decide_eq_true c40
                      clear c40
                      replace H := Option.bind_eq_some_iff.mp H
                      obtain ⟨⟨t302, t303, t304⟩, A410, H⟩ := H
                      replace H : (if t302 < x300000_2 then (if x13_2 = true then (governorlaw15_LimitStable.j3 kj35 l2 l3 t293 x11_35 x12_2 x13_2 x14_2 (decide ((wrap64 (x11_35 - x12_2)) < a0_3)) a0_0 a0_1 a0_2 a0_3 a0_4 a0_5 a0_6 a0_7 a0_8 a0_9 a0_10 a0_11 x300000_2 x300001_2 x300002_2 t302 t303 t304) else (governorlaw15_LimitStable.j3 kj35 l2 l3 t293 x11_35 x12_2 x13_2 x14_2 false a0_0 a0_1 a0_2 a0_3 a0_4 a0_5 a0_6 a0_7 a0_8 a0_9 a0_10 a0_11 x300000_2 x300001_2 x300002_2 t302 t303 t304)) else (governorlaw15_LimitStable.j3 kj35 l2 l3 t293 x11_35 x12_2 x13_2 x14_2 false a0_0 a0_1 a0_2 a0_3 a0_4 a0_5 a0_6 a0_7 a0_8 a0_9 a0_10 a0_11 x300000_2 x300001_2 x300002_2 t302 t303 t304)) = some r := H
                      have A41 := Aside0.mk A410
                      clear A410
                      have HC42 := Aside0.mk H
                      clear H
                      try go_wp2
                      have n0_ := Aside0.mk (blk_drew BK291.out)
                      have n1_ := Aside0.mk (blk_drew BK292.out)
                      have n2_ := Aside0.mk (blk_drew BK299.out)
                      have n3_ := Aside0.mk (below_drew1 HB.out)
                      clear BK291
                      clear BK292
                      clear BK299
                      clear HB
                      have BK291 := n0_
                      have BK292 := n1_
                      have BK299 := n2_
                      have HB := n3_
                      clear n0_ n1_ n2_ n3_
                      have p301 : 0 ≤ (x14_2 : Int) := of_decide_eq_true (by first | (with_reducible assumption) | assumption)
                      have q301 : x14_2 < (l2.length : Int) := of_decide_eq_true (by first | (with_reducible assumption) | assumption)
                      obtain ⟨ad301, e301, hx301_0⟩ := Kd.at_int HR2.out x14_2 p301 q301
                      have hw301_0 := hx301_0
                      cases e301
                      replace hx301_0 := (HB.out.cell (World.block_lt_of_cell? w _ hx301_0)).trans hx301_0
                      replace p301 := eq_true p301
                      replace q301 := eq_true q301
                      refine start_ (n := 10) (S := fun w' => w'.cell? ⟨gb291, 0, none⟩ = some (.int .i64 a0_0) ∧ w'.cell? ⟨gb291, 1, none⟩ = some (.int .i64 a0_1) ∧ w'.cell? ⟨gb291, 2, none⟩ = some (.int .i64 a0_2) ∧ w'.cell? ⟨gb291, 3, none⟩ = some (.int .i64 a0_3) ∧ w'.cell? ⟨gb291, 4, none⟩ = some (.int .i64 a0_4) ∧ w'.cell? ⟨gb291, 5, none⟩ = some (.int .i64 a0_5) ∧ w'.cell? ⟨gb291, 6, none⟩ = some (.int .i64 a0_6) ∧ w'.cell? ⟨gb291, 7, none⟩ = some (.int .i64 a0_7) ∧ w'.cell? ⟨gb291, 8, none⟩ = some (.int .i64 a0_8) ∧ w'.cell? ⟨gb291, 9, none⟩ = some (.int .i64 a0_9) ∧ w'.cell? ⟨gb291, 10, none⟩ = some (.int .i64 a0_10) ∧ w'.cell? ⟨gb291, 11, none⟩ = some (.int .i64 a0_11) ∧ w'.cell? ⟨gb299, 0, none⟩ = some (.int .i64 x300000_2) ∧ w'.cell? ⟨gb299, 1, none⟩ = some (.int .i64 x300001_2) ∧ w'.cell? ⟨gb299, 2, none⟩ = some (.bool x300002_2) ∧ w'.cell? (ad301.add (x14_2).toNat) = some (.int .i64 (rd l2 x14_2))) (ds := []) #[false, false, false, false, false, false, false, false, false, false] (by kernel_rfl) rfl rfl ⟨(blk_cell BK291.out 0).trans rfl, (blk_cell BK291.out 1).trans rfl, (blk_cell BK291.out 2).trans rfl, (blk_cell BK291.out 3).trans rfl, (blk_cell BK291.out 4).trans rfl, (blk_cell BK291.out 5).trans rfl, (blk_cell BK291.out 6).trans rfl, (blk_cell BK291.out 7).trans rfl, (blk_cell BK291.out 8).trans rfl, (blk_cell BK291.out 9).trans rfl, (blk_cell BK291.out 10).trans rfl, (blk_cell BK291.out 11).trans rfl, (blk_cell BK299.out 0).trans rfl, (blk_cell BK299.out 1).trans rfl, (blk_cell BK299.out 2).trans rfl, ((HB.out.cell (World.block_lt_of_cell? w _ hw301_0)).trans hw301_0)⟩ (fun hHeld => ?_); refine with_tabW governorlaw15_LimitStable.tab14 governorlaw15_LimitStable.bits14 (fun HT_ HW_ => ?_)
                      generalize wc.drew = w43 at BK291 BK292 BK299 HB hx301_0 hHeld ⊢
                      refine pure_ (i := 2) (N := some 55) (v := ?_) (a' := ?_) #[false, false, true, false, false, false, false, false, false, false] rfl rfl (any_of HT_.out (by kernel_rfl)) (fun _ _ _ h => h) (Or.inl ⟨by rfl, ?_⟩) ?_ ?_
                      rotate_left
                      · intro w'
                        go_simp
                        with_reducible rfl
                      rotate_left
                      · simp only [Act.put, List.setIfInBounds_toArray, List.set_cons_zero, List.set_cons_succ, i64_w, i32_w]
                        rfl
                      refine pure_ (i := 3) (N := some 56) (v := ?_) (a' := ?_) #[false, false, true, true, false, false, false, false, false, false] rfl rfl (any_of HT_.out (by kernel_rfl)) (fun _ _ _ h => h) (Or.inl ⟨by rfl, ?_⟩) ?_ ?_
                      rotate_left
                      · intro w'
                        go_simp
                        with_reducible rfl
                      rotate_left
                      · simp only [Act.put, List.setIfInBounds_toArray, List.set_cons_zero, List.set_cons_succ, i64_w, i32_w]
                        rfl
                      refine pure_ (i := 4) (N := some 57) (v := ?_) (a' := ?_) #[false, false, true, true, true, false, false, false, false, false] rfl rfl (any_of HT_.out (by kernel_rfl)) (fun _ _ _ h => h) (Or.inl ⟨by rfl, ?_⟩) ?_ ?_
                      rotate_left
                      · intro w'
                        go_simp
                        with_reducible rfl
                      rotate_left
                      · simp only [Act.put, List.setIfInBounds_toArray, List.set_cons_zero, List.set_cons_succ, i64_w, i32_w]
                        rfl
                      refine pure_ (i := 6) (N := some 59) (v := ?_) (a' := ?_) #[false, false, true, true, true, false, true, false, false, false] rfl rfl (any_of HT_.out (by kernel_rfl)) (fun _ _ _ h => h) (Or.inl ⟨by rfl, ?_⟩) ?_ ?_
                      rotate_left
                      · intro w'
                        go_simp
                        with_reducible rfl
                      rotate_left
                      · simp only [Act.put, List.setIfInBounds_toArray, List.set_cons_zero, List.set_cons_succ, i64_w, i32_w]
                        rfl
                      refine take_ (i := 0) (N := some 53) (v := ?_) (a' := ?_) #[true, false, true, true, true, false, true, false, false, false] rfl rfl (take_ofW HT_.out HW_.out (by kernel_rfl)) (fun _ _ _ h => h) (Or.inl ⟨by rfl, ?_⟩) hHeld ?_ ?_
                      rotate_left
                      · rintro w' ⟨s0, s1, s2, s3, s4, s5, s6, s7, s8, s9, s10, s11, s12, s13, s14, s15⟩
                        go_simp
                        with_reducible rfl
                      rotate_left
                      · simp only [Act.put, List.setIfInBounds_toArray, List.set_cons_zero, List.set_cons_succ, i64_w, i32_w]
                        rfl
                      refine take_ (i := 1) (N := some 54) (v := ?_) (a' := ?_) #[true, true, true, true, true, false, true, false, false, false] rfl rfl (take_ofW HT_.out HW_.out (by kernel_rfl)) (fun _ _ _ h => h) (Or.inl ⟨by rfl, ?_⟩) hHeld ?_ ?_
                      rotate_left
                      · rintro w' ⟨s0, s1, s2, s3, s4, s5, s6, s7, s8, s9, s10, s11, s12, s13, s14, s15⟩
                        go_simp
                        with_reducible rfl
                      rotate_left
                      · simp only [Act.put, List.setIfInBounds_toArray, List.set_cons_zero, List.set_cons_succ, i64_w, i32_w]
                        rfl
                      refine take_ (i := 5) (N := some 58) (v := ?_) (a' := ?_) #[true, true, true, true, true, true, true, false, false, false] rfl rfl (take_ofW HT_.out HW_.out (by kernel_rfl)) (fun _ _ _ h => h) (Or.inl ⟨by rfl, ?_⟩) hHeld ?_ ?_
                      rotate_left
                      · rintro w' ⟨s0, s1, s2, s3, s4, s5, s6, s7, s8, s9, s10, s11, s12, s13, s14, s15⟩
                        go_simp
                        with_reducible rfl
                      rotate_left
                      · simp only [Act.put, List.setIfInBounds_toArray, List.set_cons_zero, List.set_cons_succ, i64_w, i32_w]
                        rfl
                      refine join_ (σ := Nat) 1 #[true, true, true, true, true, true, true, true, true, false] (fun s_ => [(60, .agg #[.int .i64 t302, .int .i64 t303, .bool t304]), (15, .pointer (some ⟨s_, 0, none⟩))]) (fun s_ w' => (w'.cell? ⟨gb291, 0, none⟩ = some (.int .i64 a0_0) ∧ w'.cell? ⟨gb291, 1, none⟩ = some (.int .i64 a0_1) ∧ w'.cell? ⟨gb291, 2, none⟩ = some (.int .i64 a0_2) ∧ w'.cell? ⟨gb291, 3, none⟩ = some (.int .i64 a0_3) ∧ w'.cell? ⟨gb291, 4, none⟩ = some (.int .i64 a0_4) ∧ w'.cell? ⟨gb291, 5, none⟩ = some (.int .i64 a0_5) ∧ w'.cell? ⟨gb291, 6, none⟩ = some (.int .i64 a0_6) ∧ w'.cell? ⟨gb291, 7, none⟩ = some (.int .i64 a0_7) ∧ w'.cell? ⟨gb291, 8, none⟩ = some (.int .i64 a0_8) ∧ w'.cell? ⟨gb291, 9, none⟩ = some (.int .i64 a0_9) ∧ w'.cell? ⟨gb291, 10, none⟩ = some (.int .i64 a0_10) ∧ w'.cell? ⟨gb291, 11, none⟩ = some (.int .i64 a0_11) ∧ w'.cell? ⟨gb299, 0, none⟩ = some (.int .i64 x300000_2) ∧ w'.cell? ⟨gb299, 1, none⟩ = some (.int .i64 x300001_2) ∧ w'.cell? ⟨gb299, 2, none⟩ = some (.bool x300002_2) ∧ w'.cell? (ad301.add (x14_2).toNat) = some (.int .i64 (rd l2 x14_2))) ∧ (w'.heap[gb291]? = some (.cells #[.int .i64 a0_0, .int .i64 a0_1, .int .i64 a0_2, .int .i64 a0_3, .int .i64 a0_4, .int .i64 a0_5, .int .i64 a0_6, .int .i64 a0_7, .int .i64 a0_8, .int .i64 a0_9, .int .i64 a0_10, .int .i64 a0_11] 37 (0, 0))) ∧ (w'.heap[gb292]? = some (.cells #[.int .i64 a1_0, .int .i64 a1_1, .bool a1_2] 39 (0, 0))) ∧ (w'.heap[gb299]? = some (.cells #[.int .i64 x300000_2, .int .i64 x300001_2, .bool x300002_2] 39 (0, 0))) ∧ (w'.heap[s_]? = some (.cells #[.int .i64 0, .int .i64 0, .bool false] 39 (0, 0))) ∧ (w.heap.size ≤ s_) ∧ (w.heap.size ≤ s_) ∧ (gb291 ≠ s_) ∧ (s_ ≠ gb291) ∧ (gb292 ≠ s_) ∧ (s_ ≠ gb292) ∧ (gb299 ≠ s_) ∧ (s_ ≠ gb299) ∧ (Below w.heap.size w w')) ?_ ?_
                      rotate_left
                      · intro hCont
                        refine two_ (i := 7) (j := 8) (Ni := some 60) (Nj := some 15) #[true, true, true, true, true, true, true, true, false, false] #[true, true, true, true, true, true, true, false, true, false] rfl rfl rfl rfl (two_of HT_.out (by kernel_rfl)) (by decide) (by decide) (fun K hK => ?_) (fun K hK => ?_)
                        · skip
                          refine goes_ Try.func26 (by kernel_rfl) rfl #[.agg #[.int .i64 a0_0, .int .i64 a0_1, .int .i64 a0_2, .int .i64 a0_3, .int .i64 a0_4, .int .i64 a0_5, .int .i64 a0_6, .int .i64 a0_7, .int .i64 a0_8, .int .i64 a0_9, .int .i64 a0_10, .int .i64 a0_11], .agg #[.int .i64 x300000_2, .int .i64 x300001_2, .bool x300002_2], .int .i64 (rd l2 x14_2), .int .i64 x11_35] (by rfl) rfl rfl (by (try simp only [List.map_toArray, List.map_cons, List.map_nil]); first | done | rfl | (simp only [List.length_drop, List.length_take]; rfl)) ?_
                          with_reducible refine (limit_Next.calls a0_0 a0_1 a0_2 a0_3 a0_4 a0_5 a0_6 a0_7 a0_8 a0_9 a0_10 a0_11 x300000_2 x300001_2 x300002_2 (rd l2 x14_2) x11_35 t302 t303 t304 _ A41.out).mono ?_
                          rintro e w44 ⟨rfl, hb⟩
                          refine ⟨_, rfl, ?_⟩
                          have n0_ := Aside0.mk (blk_below (g := gb291) (o := .cells #[.int .i64 a0_0, .int .i64 a0_1, .int .i64 a0_2, .int .i64 a0_3, .int .i64 a0_4, .int .i64 a0_5, .int .i64 a0_6, .int .i64 a0_7, .int .i64 a0_8, .int .i64 a0_9, .int .i64 a0_10, .int .i64 a0_11] 37 (0, 0)) (by (with_reducible repeat (first | refine blk_drewN ?_ _ | refine blk_drew ?_ | refine blk_alloc ?_ _)); exact BK291.out) hb)
                          have n1_ := Aside0.mk (blk_below (g := gb292) (o := .cells #[.int .i64 a1_0, .int .i64 a1_1, .bool a1_2] 39 (0, 0)) (by (with_reducible repeat (first | refine blk_drewN ?_ _ | refine blk_drew ?_ | refine blk_alloc ?_ _)); exact BK292.out) hb)
                          have n2_ := Aside0.mk (blk_below (g := gb299) (o := .cells #[.int .i64 x300000_2, .int .i64 x300001_2, .bool x300002_2] 39 (0, 0)) (by (with_reducible repeat (first | refine blk_drewN ?_ _ | refine blk_drew ?_ | refine blk_alloc ?_ _)); exact BK299.out) hb)
                          have n3_ := Aside0.mk (below_step (by repeat (first | (with_reducible first | exact HB.out | apply below_alloc | apply pw_below_drewN | apply below_drew1 | refine below_set ?_ GE291.out | refine below_set ?_ GE292.out | refine below_set ?_ GE299.out) | exact HB.out)) hb)
                          clear BK291
                          clear BK292
                          clear BK299
                          clear HB
                          have BK291 := n0_
                          have BK292 := n1_
                          have BK299 := n2_
                          have HB := n3_
                          clear n0_ n1_ n2_ n3_
                          (try clear hb)
                          (try clear hb2)
                          (try clear hk)
                          (try clear hi)
                          refine hK.out _ _ ⟨(blk_cell BK291.out 0).trans rfl, (blk_cell BK291.out 1).trans rfl, (blk_cell BK291.out 2).trans rfl, (blk_cell BK291.out 3).trans rfl, (blk_cell BK291.out 4).trans rfl, (blk_cell BK291.out 5).trans rfl, (blk_cell BK291.out 6).trans rfl, (blk_cell BK291.out 7).trans rfl, (blk_cell BK291.out 8).trans rfl, (blk_cell BK291.out 9).trans rfl, (blk_cell BK291.out 10).trans rfl, (blk_cell BK291.out 11).trans rfl, (blk_cell BK299.out 0).trans rfl, (blk_cell BK299.out 1).trans rfl, (blk_cell BK299.out 2).trans rfl, ((HB.out.cell (World.block_lt_of_cell? w _ hw301_0)).trans hw301_0)⟩ (fun hHeld => ?_)
                          clear hK K
                          refine norm_ (a' := ?_) ?_ ?_
                          rotate_left
                          · show Act.put _ (some 60) _ = _
                            simp only [Act.put, List.setIfInBounds_toArray, List.set_cons_zero, List.set_cons_succ, i64_w, i32_w]
                            rfl
                          refine one_ (i := 8) (N := some 15) #[true, true, true, true, true, true, true, true, true, false] rfl rfl (one_of HT_.out (by kernel_rfl)) (by decide) (fun K hK => ?_)
                          refine box_step ?hg (N := 15) ?hd (cs := #[.int .i64 0, .int .i64 0, .bool false]) (t := 39) ?hr ?_; (case hd => rfl); (case hg => rfl); (case hr => first | (go_simp; done) | (go_simp; rfl))
                          intro gb305 hg w45 hbox hb
                          have n0_ := Aside0.mk (blk_below (g := gb291) (o := .cells #[.int .i64 a0_0, .int .i64 a0_1, .int .i64 a0_2, .int .i64 a0_3, .int .i64 a0_4, .int .i64 a0_5, .int .i64 a0_6, .int .i64 a0_7, .int .i64 a0_8, .int .i64 a0_9, .int .i64 a0_10, .int .i64 a0_11] 37 (0, 0)) (by (with_reducible repeat (first | refine blk_drewN ?_ _ | refine blk_drew ?_ | refine blk_alloc ?_ _)); exact BK291.out) hb)
                          have n1_ := Aside0.mk (blk_below (g := gb292) (o := .cells #[.int .i64 a1_0, .int .i64 a1_1, .bool a1_2] 39 (0, 0)) (by (with_reducible repeat (first | refine blk_drewN ?_ _ | refine blk_drew ?_ | refine blk_alloc ?_ _)); exact BK292.out) hb)
                          have n2_ := Aside0.mk (blk_below (g := gb299) (o := .cells #[.int .i64 x300000_2, .int .i64 x300001_2, .bool x300002_2] 39 (0, 0)) (by (with_reducible repeat (first | refine blk_drewN ?_ _ | refine blk_drew ?_ | refine blk_alloc ?_ _)); exact BK299.out) hb)
                          have n3_ := Aside0.mk (below_step (by repeat (first | (with_reducible first | exact HB.out | apply below_alloc | apply pw_below_drewN | apply below_drew1 | refine below_set ?_ GE291.out | refine below_set ?_ GE292.out | refine below_set ?_ GE299.out) | exact HB.out)) hb)
                          have n4_ := Aside0.mk (hbox)
                          have n5_ := Aside0.mk ((by rw [hg]; exact (below_size (by repeat (first | (with_reducible first | exact HB.out | apply below_alloc | apply pw_below_drewN | apply below_drew1 | refine below_set ?_ GE291.out | refine below_set ?_ GE292.out | refine below_set ?_ GE299.out) | exact HB.out))) : w.heap.size ≤ gb305))
                          have n6_ := Aside0.mk ((by rw [hg]; exact (below_size (by repeat (first | (with_reducible first | exact HB.out | apply below_alloc | apply pw_below_drewN | apply below_drew1 | refine below_set ?_ GE291.out | refine below_set ?_ GE292.out | refine below_set ?_ GE299.out) | exact HB.out))) : w.heap.size ≤ gb305))
                          have n7_ := Aside0.mk ((by rw [hg]; exact Nat.ne_of_lt (blk_lt (g := gb291) (o := .cells #[.int .i64 a0_0, .int .i64 a0_1, .int .i64 a0_2, .int .i64 a0_3, .int .i64 a0_4, .int .i64 a0_5, .int .i64 a0_6, .int .i64 a0_7, .int .i64 a0_8, .int .i64 a0_9, .int .i64 a0_10, .int .i64 a0_11] 37 (0, 0)) (by (with_reducible repeat (first | refine blk_drewN ?_ _ | refine blk_drew ?_ | refine blk_alloc ?_ _)); exact BK291.out)) : gb291 ≠ gb305))
                          have n8_ := Aside0.mk ((by rw [hg]; exact Nat.ne_of_gt (blk_lt (g := gb291) (o := .cells #[.int .i64 a0_0, .int .i64 a0_1, .int .i64 a0_2, .int .i64 a0_3, .int .i64 a0_4, .int .i64 a0_5, .int .i64 a0_6, .int .i64 a0_7, .int .i64 a0_8, .int .i64 a0_9, .int .i64 a0_10, .int .i64 a0_11] 37 (0, 0)) (by (with_reducible repeat (first | refine blk_drewN ?_ _ | refine blk_drew ?_ | refine blk_alloc ?_ _)); exact BK291.out)) : gb305 ≠ gb291))
                          have n9_ := Aside0.mk ((by rw [hg]; exact Nat.ne_of_lt (blk_lt (g := gb292) (o := .cells #[.int .i64 a1_0, .int .i64 a1_1, .bool a1_2] 39 (0, 0)) (by (with_reducible repeat (first | refine blk_drewN ?_ _ | refine blk_drew ?_ | refine blk_alloc ?_ _)); exact BK292.out)) : gb292 ≠ gb305))
                          have n10_ := Aside0.mk ((by rw [hg]; exact Nat.ne_of_gt (blk_lt (g := gb292) (o := .cells #[.int .i64 a1_0, .int .i64 a1_1, .bool a1_2] 39 (0, 0)) (by (with_reducible repeat (first | refine blk_drewN ?_ _ | refine blk_drew ?_ | refine blk_alloc ?_ _)); exact BK292.out)) : gb305 ≠ gb292))
                          have n11_ := Aside0.mk ((by rw [hg]; exact Nat.ne_of_lt (blk_lt (g := gb299) (o := .cells #[.int .i64 x300000_2, .int .i64 x300001_2, .bool x300002_2] 39 (0, 0)) (by (with_reducible repeat (first | refine blk_drewN ?_ _ | refine blk_drew ?_ | refine blk_alloc ?_ _)); exact BK299.out)) : gb299 ≠ gb305))
                          have n12_ := Aside0.mk ((by rw [hg]; exact Nat.ne_of_gt (blk_lt (g := gb299) (o := .cells #[.int .i64 x300000_2, .int .i64 x300001_2, .bool x300002_2] 39 (0, 0)) (by (with_reducible repeat (first | refine blk_drewN ?_ _ | refine blk_drew ?_ | refine blk_alloc ?_ _)); exact BK299.out)) : gb305 ≠ gb299))
                          clear BK291
                          clear BK292
                          clear BK299
                          clear HB
                          have BK291 := n0_
                          have BK292 := n1_
                          have BK299 := n2_
                          have HB := n3_
                          have BK305 := n4_
                          have GW305 := n5_
                          have GE305 := n6_
                          have NB291_305 := n7_
                          have NB305_291 := n8_
                          have NB292_305 := n9_
                          have NB305_292 := n10_
                          have NB299_305 := n11_
                          have NB305_299 := n12_
                          clear n0_ n1_ n2_ n3_ n4_ n5_ n6_ n7_ n8_ n9_ n10_ n11_ n12_
                          clear hb hbox hg
                          refine hK.out _ _ ⟨(blk_cell BK291.out 0).trans rfl, (blk_cell BK291.out 1).trans rfl, (blk_cell BK291.out 2).trans rfl, (blk_cell BK291.out 3).trans rfl, (blk_cell BK291.out 4).trans rfl, (blk_cell BK291.out 5).trans rfl, (blk_cell BK291.out 6).trans rfl, (blk_cell BK291.out 7).trans rfl, (blk_cell BK291.out 8).trans rfl, (blk_cell BK291.out 9).trans rfl, (blk_cell BK291.out 10).trans rfl, (blk_cell BK291.out 11).trans rfl, (blk_cell BK299.out 0).trans rfl, (blk_cell BK299.out 1).trans rfl, (blk_cell BK299.out 2).trans rfl, ((HB.out.cell (World.block_lt_of_cell? w _ hw301_0)).trans hw301_0)⟩ (fun hHeld => ?_)
                          clear hK K
                          refine norm_ (a' := ?_) ?_ ?_
                          rotate_left
                          · show Act.put _ (some 15) _ = _
                            simp only [Act.put, List.setIfInBounds_toArray, List.set_cons_zero, List.set_cons_succ, i64_w, i32_w]
                            rfl
                          exact norm_ (by simp only [putAll, Act.put, List.setIfInBounds_toArray, List.set_cons_zero, List.set_cons_succ]) (hCont (gb305) _ ⟨hHeld, (by (with_reducible repeat (first | refine blk_drewN ?_ _ | refine blk_drew ?_ | refine blk_alloc ?_ _)); exact BK291.out), (by (with_reducible repeat (first | refine blk_drewN ?_ _ | refine blk_drew ?_ | refine blk_alloc ?_ _)); exact BK292.out), (by (with_reducible repeat (first | refine blk_drewN ?_ _ | refine blk_drew ?_ | refine blk_alloc ?_ _)); exact BK299.out), (by (with_reducible repeat (first | refine blk_drewN ?_ _ | refine blk_drew ?_ | refine blk_alloc ?_ _)); exact BK305.out), GW305.out, GE305.out, NB291_305.out, NB305_291.out, NB292_305.out, NB305_292.out, NB299_305.out, NB305_299.out, (by repeat (first | (with_reducible first | exact HB.out | apply below_alloc | apply pw_below_drewN | apply below_drew1 | refine below_set ?_ GE291.out | refine below_set ?_ GE292.out | refine below_set ?_ GE299.out | refine below_set ?_ GE305.out) | exact HB.out))⟩)
                        · skip
                          refine box_step ?hg (N := 15) ?hd (cs := #[.int .i64 0, .int .i64 0, .bool false]) (t := 39) ?hr ?_; (case hd => rfl); (case hg => rfl); (case hr => first | (go_simp; done) | (go_simp; rfl))
                          intro gb305 hg w44 hbox hb
                          have n0_ := Aside0.mk (blk_below (g := gb291) (o := .cells #[.int .i64 a0_0, .int .i64 a0_1, .int .i64 a0_2, .int .i64 a0_3, .int .i64 a0_4, .int .i64 a0_5, .int .i64 a0_6, .int .i64 a0_7, .int .i64 a0_8, .int .i64 a0_9, .int .i64 a0_10, .int .i64 a0_11] 37 (0, 0)) (by (with_reducible repeat (first | refine blk_drewN ?_ _ | refine blk_drew ?_ | refine blk_alloc ?_ _)); exact BK291.out) hb)
                          have n1_ := Aside0.mk (blk_below (g := gb292) (o := .cells #[.int .i64 a1_0, .int .i64 a1_1, .bool a1_2] 39 (0, 0)) (by (with_reducible repeat (first | refine blk_drewN ?_ _ | refine blk_drew ?_ | refine blk_alloc ?_ _)); exact BK292.out) hb)
                          have n2_ := Aside0.mk (blk_below (g := gb299) (o := .cells #[.int .i64 x300000_2, .int .i64 x300001_2, .bool x300002_2] 39 (0, 0)) (by (with_reducible repeat (first | refine blk_drewN ?_ _ | refine blk_drew ?_ | refine blk_alloc ?_ _)); exact BK299.out) hb)
                          have n3_ := Aside0.mk (below_step (by repeat (first | (with_reducible first | exact HB.out | apply below_alloc | apply pw_below_drewN | apply below_drew1 | refine below_set ?_ GE291.out | refine below_set ?_ GE292.out | refine below_set ?_ GE299.out) | exact HB.out)) hb)
                          have n4_ := Aside0.mk (hbox)
                          have n5_ := Aside0.mk ((by rw [hg]; exact (below_size (by repeat (first | (with_reducible first | exact HB.out | apply below_alloc | apply pw_below_drewN | apply below_drew1 | refine below_set ?_ GE291.out | refine below_set ?_ GE292.out | refine below_set ?_ GE299.out) | exact HB.out))) : w.heap.size ≤ gb305))
                          have n6_ := Aside0.mk ((by rw [hg]; exact (below_size (by repeat (first | (with_reducible first | exact HB.out | apply below_alloc | apply pw_below_drewN | apply below_drew1 | refine below_set ?_ GE291.out | refine below_set ?_ GE292.out | refine below_set ?_ GE299.out) | exact HB.out))) : w.heap.size ≤ gb305))
                          have n7_ := Aside0.mk ((by rw [hg]; exact Nat.ne_of_lt (blk_lt (g := gb291) (o := .cells #[.int .i64 a0_0, .int .i64 a0_1, .int .i64 a0_2, .int .i64 a0_3, .int .i64 a0_4, .int .i64 a0_5, .int .i64 a0_6, .int .i64 a0_7, .int .i64 a0_8, .int .i64 a0_9, .int .i64 a0_10, .int .i64 a0_11] 37 (0, 0)) (by (with_reducible repeat (first | refine blk_drewN ?_ _ | refine blk_drew ?_ | refine blk_alloc ?_ _)); exact BK291.out)) : gb291 ≠ gb305))
                          have n8_ := Aside0.mk ((by rw [hg]; exact Nat.ne_of_gt (blk_lt (g := gb291) (o := .cells #[.int .i64 a0_0, .int .i64 a0_1, .int .i64 a0_2, .int .i64 a0_3, .int .i64 a0_4, .int .i64 a0_5, .int .i64 a0_6, .int .i64 a0_7, .int .i64 a0_8, .int .i64 a0_9, .int .i64 a0_10, .int .i64 a0_11] 37 (0, 0)) (by (with_reducible repeat (first | refine blk_drewN ?_ _ | refine blk_drew ?_ | refine blk_alloc ?_ _)); exact BK291.out)) : gb305 ≠ gb291))
                          have n9_ := Aside0.mk ((by rw [hg]; exact Nat.ne_of_lt (blk_lt (g := gb292) (o := .cells #[.int .i64 a1_0, .int .i64 a1_1, .bool a1_2] 39 (0, 0)) (by (with_reducible repeat (first | refine blk_drewN ?_ _ | refine blk_drew ?_ | refine blk_alloc ?_ _)); exact BK292.out)) : gb292 ≠ gb305))
                          have n10_ := Aside0.mk ((by rw [hg]; exact Nat.ne_of_gt (blk_lt (g := gb292) (o := .cells #[.int .i64 a1_0, .int .i64 a1_1, .bool a1_2] 39 (0, 0)) (by (with_reducible repeat (first | refine blk_drewN ?_ _ | refine blk_drew ?_ | refine blk_alloc ?_ _)); exact BK292.out)) : gb305 ≠ gb292))
                          have n11_ := Aside0.mk ((by rw [hg]; exact Nat.ne_of_lt (blk_lt (g := gb299) (o := .cells #[.int .i64 x300000_2, .int .i64 x300001_2, .bool x300002_2] 39 (0, 0)) (by (with_reducible repeat (first | refine blk_drewN ?_ _ | refine blk_drew ?_ | refine blk_alloc ?_ _)); exact BK299.out)) : gb299 ≠ gb305))
                          have n12_ := Aside0.mk ((by rw [hg]; exact Nat.ne_of_gt (blk_lt (g := gb299) (o := .cells #[.int .i64 x300000_2, .int .i64 x300001_2, .bool x300002_2] 39 (0, 0)) (by (with_reducible repeat (first | refine blk_drewN ?_ _ | refine blk_drew ?_ | refine blk_alloc ?_ _)); exact BK299.out)) : gb305 ≠ gb299))
                          clear BK291
                          clear BK292
                          clear BK299
                          clear HB
                          have BK291 := n0_
                          have BK292 := n1_
                          have BK299 := n2_
                          have HB := n3_
                          have BK305 := n4_
                          have GW305 := n5_
                          have GE305 := n6_
                          have NB291_305 := n7_
                          have NB305_291 := n8_
                          have NB292_305 := n9_
                          have NB305_292 := n10_
                          have NB299_305 := n11_
                          have NB305_299 := n12_
                          clear n0_ n1_ n2_ n3_ n4_ n5_ n6_ n7_ n8_ n9_ n10_ n11_ n12_
                          clear hb hbox hg
                          refine hK.out _ _ ⟨(blk_cell BK291.out 0).trans rfl, (blk_cell BK291.out 1).trans rfl, (blk_cell BK291.out 2).trans rfl, (blk_cell BK291.out 3).trans rfl, (blk_cell BK291.out 4).trans rfl, (blk_cell BK291.out 5).trans rfl, (blk_cell BK291.out 6).trans rfl, (blk_cell BK291.out 7).trans rfl, (blk_cell BK291.out 8).trans rfl, (blk_cell BK291.out 9).trans rfl, (blk_cell BK291.out 10).trans rfl, (blk_cell BK291.out 11).trans rfl, (blk_cell BK299.out 0).trans rfl, (blk_cell BK299.out 1).trans rfl, (blk_cell BK299.out 2).trans rfl, ((HB.out.cell (World.block_lt_of_cell? w _ hw301_0)).trans hw301_0)⟩ (fun hHeld => ?_)
                          clear hK K
                          refine norm_ (a' := ?_) ?_ ?_
                          rotate_left
                          · show Act.put _ (some 15) _ = _
                            simp only [Act.put, List.setIfInBounds_toArray, List.set_cons_zero, List.set_cons_succ, i64_w, i32_w]
                            rfl
                          refine one_ (i := 7) (N := some 60) #[true, true, true, true, true, true, true, true, true, false] rfl rfl (one_of HT_.out (by kernel_rfl)) (by decide) (fun K hK => ?_)
                          refine goes_ Try.func26 (by kernel_rfl) rfl #[.agg #[.int .i64 a0_0, .int .i64 a0_1, .int .i64 a0_2, .int .i64 a0_3, .int .i64 a0_4, .int .i64 a0_5, .int .i64 a0_6, .int .i64 a0_7, .int .i64 a0_8, .int .i64 a0_9, .int .i64 a0_10, .int .i64 a0_11], .agg #[.int .i64 x300000_2, .int .i64 x300001_2, .bool x300002_2], .int .i64 (rd l2 x14_2), .int .i64 x11_35] (by rfl) rfl rfl (by (try simp only [List.map_toArray, List.map_cons, List.map_nil]); first | done | rfl | (simp only [List.length_drop, List.length_take]; rfl)) ?_
                          with_reducible refine (limit_Next.calls a0_0 a0_1 a0_2 a0_3 a0_4 a0_5 a0_6 a0_7 a0_8 a0_9 a0_10 a0_11 x300000_2 x300001_2 x300002_2 (rd l2 x14_2) x11_35 t302 t303 t304 _ A41.out).mono ?_
                          rintro e w45 ⟨rfl, hb⟩
                          refine ⟨_, rfl, ?_⟩
                          have n0_ := Aside0.mk (blk_below (g := gb291) (o := .cells #[.int .i64 a0_0, .int .i64 a0_1, .int .i64 a0_2, .int .i64 a0_3, .int .i64 a0_4, .int .i64 a0_5, .int .i64 a0_6, .int .i64 a0_7, .int .i64 a0_8, .int .i64 a0_9, .int .i64 a0_10, .int .i64 a0_11] 37 (0, 0)) (by (with_reducible repeat (first | refine blk_drewN ?_ _ | refine blk_drew ?_ | refine blk_alloc ?_ _)); exact BK291.out) hb)
                          have n1_ := Aside0.mk (blk_below (g := gb292) (o := .cells #[.int .i64 a1_0, .int .i64 a1_1, .bool a1_2] 39 (0, 0)) (by (with_reducible repeat (first | refine blk_drewN ?_ _ | refine blk_drew ?_ | refine blk_alloc ?_ _)); exact BK292.out) hb)
                          have n2_ := Aside0.mk (blk_below (g := gb299) (o := .cells #[.int .i64 x300000_2, .int .i64 x300001_2, .bool x300002_2] 39 (0, 0)) (by (with_reducible repeat (first | refine blk_drewN ?_ _ | refine blk_drew ?_ | refine blk_alloc ?_ _)); exact BK299.out) hb)
                          have n3_ := Aside0.mk (blk_below (g := gb305) (o := .cells #[.int .i64 0, .int .i64 0, .bool false] 39 (0, 0)) (by (with_reducible repeat (first | refine blk_drewN ?_ _ | refine blk_drew ?_ | refine blk_alloc ?_ _)); exact BK305.out) hb)
                          have n4_ := Aside0.mk (below_step (by repeat (first | (with_reducible first | exact HB.out | apply below_alloc | apply pw_below_drewN | apply below_drew1 | refine below_set ?_ GE291.out | refine below_set ?_ GE292.out | refine below_set ?_ GE299.out | refine below_set ?_ GE305.out) | exact HB.out)) hb)
                          clear BK291
                          clear BK292
                          clear BK299
                          clear BK305
                          clear HB
                          have BK291 := n0_
                          have BK292 := n1_
                          have BK299 := n2_
                          have BK305 := n3_
                          have HB := n4_
                          clear n0_ n1_ n2_ n3_ n4_
                          (try clear hb)
                          (try clear hb2)
                          (try clear hk)
                          (try clear hi)
                          refine hK.out _ _ ⟨(blk_cell BK291.out 0).trans rfl, (blk_cell BK291.out 1).trans rfl, (blk_cell BK291.out 2).trans rfl, (blk_cell BK291.out 3).trans rfl, (blk_cell BK291.out 4).trans rfl, (blk_cell BK291.out 5).trans rfl, (blk_cell BK291.out 6).trans rfl, (blk_cell BK291.out 7).trans rfl, (blk_cell BK291.out 8).trans rfl, (blk_cell BK291.out 9).trans rfl, (blk_cell BK291.out 10).trans rfl, (blk_cell BK291.out 11).trans rfl, (blk_cell BK299.out 0).trans rfl, (blk_cell BK299.out 1).trans rfl, (blk_cell BK299.out 2).trans rfl, ((HB.out.cell (World.block_lt_of_cell? w _ hw301_0)).trans hw301_0)⟩ (fun hHeld => ?_)
                          clear hK K
                          refine norm_ (a' := ?_) ?_ ?_
                          rotate_left
                          · show Act.put _ (some 60) _ = _
                            simp only [Act.put, List.setIfInBounds_toArray, List.set_cons_zero, List.set_cons_succ, i64_w, i32_w]
                            rfl
                          exact norm_ (by simp only [putAll, Act.put, List.setIfInBounds_toArray, List.set_cons_zero, List.set_cons_succ]) (hCont (gb305) _ ⟨hHeld, (by (with_reducible repeat (first | refine blk_drewN ?_ _ | refine blk_drew ?_ | refine blk_alloc ?_ _)); exact BK291.out), (by (with_reducible repeat (first | refine blk_drewN ?_ _ | refine blk_drew ?_ | refine blk_alloc ?_ _)); exact BK292.out), (by (with_reducible repeat (first | refine blk_drewN ?_ _ | refine blk_drew ?_ | refine blk_alloc ?_ _)); exact BK299.out), (by (with_reducible repeat (first | refine blk_drewN ?_ _ | refine blk_drew ?_ | refine blk_alloc ?_ _)); exact BK305.out), GW305.out, GE305.out, NB291_305.out, NB305_291.out, NB292_305.out, NB305_292.out, NB299_305.out, NB305_299.out, (by repeat (first | (with_reducible first | exact HB.out | apply below_alloc | apply pw_below_drewN | apply below_drew1 | refine below_set ?_ GE291.out | refine below_set ?_ GE292.out | refine below_set ?_ GE299.out | refine below_set ?_ GE305.out) | exact HB.out))⟩)
                      rintro gb305 w46 ⟨hS_, h0_, h1_, h2_, h3_, h4_, h5_, h6_, h7_, h8_, h9_, h10_, h11_, h12_⟩
                      have n0_ : Aside0 (w46.heap[gb291]? = some (.cells #[.int .i64 a0_0, .int .i64 a0_1, .int .i64 a0_2, .int .i64 a0_3, .int .i64 a0_4, .int .i64 a0_5, .int .i64 a0_6, .int .i64 a0_7, .int .i64 a0_8, .int .i64 a0_9, .int .i64 a0_10, .int .i64 a0_11] 37 (0, 0))) := ⟨h0_⟩
                      have n1_ : Aside0 (w46.heap[gb292]? = some (.cells #[.int .i64 a1_0, .int .i64 a1_1, .bool a1_2] 39 (0, 0))) := ⟨h1_⟩
                      have n2_ : Aside0 (w46.heap[gb299]? = some (.cells #[.int .i64 x300000_2, .int .i64 x300001_2, .bool x300002_2] 39 (0, 0))) := ⟨h2_⟩
                      have n3_ : Aside0 (w46.heap[gb305]? = some (.cells #[.int .i64 0, .int .i64 0, .bool false] 39 (0, 0))) := ⟨h3_⟩
                      have n4_ : Aside0 (w.heap.size ≤ gb305) := ⟨h4_⟩
                      have n5_ : Aside0 (w.heap.size ≤ gb305) := ⟨h5_⟩
                      have n6_ : Aside0 (gb291 ≠ gb305) := ⟨h6_⟩
                      have n7_ : Aside0 (gb305 ≠ gb291) := ⟨h7_⟩
                      have n8_ : Aside0 (gb292 ≠ gb305) := ⟨h8_⟩
                      have n9_ : Aside0 (gb305 ≠ gb292) := ⟨h9_⟩
                      have n10_ : Aside0 (gb299 ≠ gb305) := ⟨h10_⟩
                      have n11_ : Aside0 (gb305 ≠ gb299) := ⟨h11_⟩
                      have n12_ : Aside0 (Below w.heap.size w w46) := ⟨h12_⟩
                      clear BK291
                      clear BK292
                      clear BK299
                      clear HB
                      clear h0_ h1_ h2_ h3_ h4_ h5_ h6_ h7_ h8_ h9_ h10_ h11_ h12_
                      have BK291 := n0_
                      have BK292 := n1_
                      have BK299 := n2_
                      have BK305 := n3_
                      have GW305 := n4_
                      have GE305 := n5_
                      have NB291_305 := n6_
                      have NB305_291 := n7_
                      have NB292_305 := n8_
                      have NB305_292 := n9_
                      have NB299_305 := n10_
                      have NB305_299 := n11_
                      have HB := n12_
                      clear n0_ n1_ n2_ n3_ n4_ n5_ n6_ n7_ n8_ n9_ n10_ n11_ n12_
                      have hHeld : w46.cell? ⟨gb291, 0, none⟩ = some (.int .i64 a0_0) ∧ w46.cell? ⟨gb291, 1, none⟩ = some (.int .i64 a0_1) ∧ w46.cell? ⟨gb291, 2, none⟩ = some (.int .i64 a0_2) ∧ w46.cell? ⟨gb291, 3, none⟩ = some (.int .i64 a0_3) ∧ w46.cell? ⟨gb291, 4, none⟩ = some (.int .i64 a0_4) ∧ w46.cell? ⟨gb291, 5, none⟩ = some (.int .i64 a0_5) ∧ w46.cell? ⟨gb291, 6, none⟩ = some (.int .i64 a0_6) ∧ w46.cell? ⟨gb291, 7, none⟩ = some (.int .i64 a0_7) ∧ w46.cell? ⟨gb291, 8, none⟩ = some (.int .i64 a0_8) ∧ w46.cell? ⟨gb291, 9, none⟩ = some (.int .i64 a0_9) ∧ w46.cell? ⟨gb291, 10, none⟩ = some (.int .i64 a0_10) ∧ w46.cell? ⟨gb291, 11, none⟩ = some (.int .i64 a0_11) ∧ w46.cell? ⟨gb299, 0, none⟩ = some (.int .i64 x300000_2) ∧ w46.cell? ⟨gb299, 1, none⟩ = some (.int .i64 x300001_2) ∧ w46.cell? ⟨gb299, 2, none⟩ = some (.bool x300002_2) ∧ w46.cell? (ad301.add (x14_2).toNat) = some (.int .i64 (rd l2 x14_2)) := hS_
                      refine norm_ (a' := ?_) ?_ ?_
                      rotate_left
                      · simp only [putAll, Act.put, List.setIfInBounds_toArray, List.set_cons_zero, List.set_cons_succ]
                        rfl
                      refine one_ (i := 9) (N := none) #[true, true, true, true, true, true, true, true, true, true] rfl rfl (one_of HT_.out (by kernel_rfl)) (by decide) (fun K hK => ?_)
                      have hs47 : w46.cell? ⟨gb305, 0, none⟩ = some (.int .i64 0) := (blk_cell BK305.out 0).trans rfl
                      have hfs47 := blk_frozen BK305.out 0
                      have hns47_0 := NB291_305.out
                      have hns47_1 := NB292_305.out
                      have hns47_2 := NB299_305.out
                      have hms47_0 := NB305_291.out
                      have hms47_1 := NB305_292.out
                      have hms47_2 := NB305_299.out
                      have hs48 : w46.cell? ⟨gb305, 1, none⟩ = some (.int .i64 0) := (blk_cell BK305.out 1).trans rfl
                      have hfs48 := blk_frozen BK305.out 1
                      have hns48_0 := NB291_305.out
                      have hns48_1 := NB292_305.out
                      have hns48_2 := NB299_305.out
                      have hms48_0 := NB305_291.out
                      have hms48_1 := NB305_292.out
                      have hms48_2 := NB305_299.out
                      have hs49 : w46.cell? ⟨gb305, 2, none⟩ = some (.bool false) := (blk_cell BK305.out 2).trans rfl
                      have hfs49 := blk_frozen BK305.out 2
                      have hns49_0 := NB291_305.out
                      have hns49_1 := NB292_305.out
                      have hns49_2 := NB299_305.out
                      have hms49_0 := NB305_291.out
                      have hms49_1 := NB305_292.out
                      have hms49_2 := NB305_299.out
                      refine skip_ (w1 := ?_) (by rfl) rfl ?_ ?_
                      rotate_left
                      · go_simp
                        rfl
                      refine hK.out _ _ ⟨((cell_far (p := ⟨gb305, _, none⟩) NB291_305.out _).trans (((cell_far (p := ⟨gb305, _, none⟩) NB291_305.out _).trans (((cell_far (p := ⟨gb305, _, none⟩) NB291_305.out _).trans (hHeld.1)))))), ((cell_far (p := ⟨gb305, _, none⟩) NB291_305.out _).trans (((cell_far (p := ⟨gb305, _, none⟩) NB291_305.out _).trans (((cell_far (p := ⟨gb305, _, none⟩) NB291_305.out _).trans (hHeld.2.1)))))), ((cell_far (p := ⟨gb305, _, none⟩) NB291_305.out _).trans (((cell_far (p := ⟨gb305, _, none⟩) NB291_305.out _).trans (((cell_far (p := ⟨gb305, _, none⟩) NB291_305.out _).trans (hHeld.2.2.1)))))), ((cell_far (p := ⟨gb305, _, none⟩) NB291_305.out _).trans (((cell_far (p := ⟨gb305, _, none⟩) NB291_305.out _).trans (((cell_far (p := ⟨gb305, _, none⟩) NB291_305.out _).trans (hHeld.2.2.2.1)))))), ((cell_far (p := ⟨gb305, _, none⟩) NB291_305.out _).trans (((cell_far (p := ⟨gb305, _, none⟩) NB291_305.out _).trans (((cell_far (p := ⟨gb305, _, none⟩) NB291_305.out _).trans (hHeld.2.2.2.2.1)))))), ((cell_far (p := ⟨gb305, _, none⟩) NB291_305.out _).trans (((cell_far (p := ⟨gb305, _, none⟩) NB291_305.out _).trans (((cell_far (p := ⟨gb305, _, none⟩) NB291_305.out _).trans (hHeld.2.2.2.2.2.1)))))), ((cell_far (p := ⟨gb305, _, none⟩) NB291_305.out _).trans (((cell_far (p := ⟨gb305, _, none⟩) NB291_305.out _).trans (((cell_far (p := ⟨gb305, _, none⟩) NB291_305.out _).trans (hHeld.2.2.2.2.2.2.1)))))), ((cell_far (p := ⟨gb305, _, none⟩) NB291_305.out _).trans (((cell_far (p := ⟨gb305, _, none⟩) NB291_305.out _).trans (((cell_far (p := ⟨gb305, _, none⟩) NB291_305.out _).trans (hHeld.2.2.2.2.2.2.2.1)))))), ((cell_far (p := ⟨gb305, _, none⟩) NB291_305.out _).trans (((cell_far (p := ⟨gb305, _, none⟩) NB291_305.out _).trans (((cell_far (p := ⟨gb305, _, none⟩) NB291_305.out _).trans (hHeld.2.2.2.2.2.2.2.2.1)))))), ((cell_far (p := ⟨gb305, _, none⟩) NB291_305.out _).trans (((cell_far (p := ⟨gb305, _, none⟩) NB291_305.out _).trans (((cell_far (p := ⟨gb305, _, none⟩) NB291_305.out _).trans (hHeld.2.2.2.2.2.2.2.2.2.1)))))), ((cell_far (p := ⟨gb305, _, none⟩) NB291_305.out _).trans (((cell_far (p := ⟨gb305, _, none⟩) NB291_305.out _).trans (((cell_far (p := ⟨gb305, _, none⟩) NB291_305.out _).trans (hHeld.2.2.2.2.2.2.2.2.2.2.1)))))), ((cell_far (p := ⟨gb305, _, none⟩) NB291_305.out _).trans (((cell_far (p := ⟨gb305, _, none⟩) NB291_305.out _).trans (((cell_far (p := ⟨gb305, _, none⟩) NB291_305.out _).trans (hHeld.2.2.2.2.2.2.2.2.2.2.2.1)))))), ((cell_far (p := ⟨gb305, _, none⟩) NB299_305.out _).trans (((cell_far (p := ⟨gb305, _, none⟩) NB299_305.out _).trans (((cell_far (p := ⟨gb305, _, none⟩) NB299_305.out _).trans (hHeld.2.2.2.2.2.2.2.2.2.2.2.2.1)))))), ((cell_far (p := ⟨gb305, _, none⟩) NB299_305.out _).trans (((cell_far (p := ⟨gb305, _, none⟩) NB299_305.out _).trans (((cell_far (p := ⟨gb305, _, none⟩) NB299_305.out _).trans (hHeld.2.2.2.2.2.2.2.2.2.2.2.2.2.1)))))), ((cell_far (p := ⟨gb305, _, none⟩) NB299_305.out _).trans (((cell_far (p := ⟨gb305, _, none⟩) NB299_305.out _).trans (((cell_far (p := ⟨gb305, _, none⟩) NB299_305.out _).trans (hHeld.2.2.2.2.2.2.2.2.2.2.2.2.2.2.1)))))), ((cell_far (p := ⟨gb305, _, none⟩) (by first | exact Nat.ne_of_lt (Nat.lt_of_lt_of_le (by have := World.block_lt_of_cell? _ _ hw301_0; first | rwa [add_block] at this | exact this) GW305.out) | (rw [add_block]; exact Nat.ne_of_lt (Nat.lt_of_lt_of_le (by have := World.block_lt_of_cell? _ _ hw301_0; first | rwa [add_block] at this | exact this) GW305.out)) | (show (Addr.add _ _).block ≠ _; rw [add_block]; exact Nat.ne_of_lt (Nat.lt_of_lt_of_le (by have := World.block_lt_of_cell? _ _ hw301_0; first | rwa [add_block] at this | exact this) GW305.out)) | (dsimp only; exact Nat.ne_of_lt (Nat.lt_of_lt_of_le (by have := World.block_lt_of_cell? _ _ hw301_0; first | rwa [add_block] at this | exact this) GW305.out))) _).trans (((cell_far (p := ⟨gb305, _, none⟩) (by first | exact Nat.ne_of_lt (Nat.lt_of_lt_of_le (by have := World.block_lt_of_cell? _ _ hw301_0; first | rwa [add_block] at this | exact this) GW305.out) | (rw [add_block]; exact Nat.ne_of_lt (Nat.lt_of_lt_of_le (by have := World.block_lt_of_cell? _ _ hw301_0; first | rwa [add_block] at this | exact this) GW305.out)) | (show (Addr.add _ _).block ≠ _; rw [add_block]; exact Nat.ne_of_lt (Nat.lt_of_lt_of_le (by have := World.block_lt_of_cell? _ _ hw301_0; first | rwa [add_block] at this | exact this) GW305.out)) | (dsimp only; exact Nat.ne_of_lt (Nat.lt_of_lt_of_le (by have := World.block_lt_of_cell? _ _ hw301_0; first | rwa [add_block] at this | exact this) GW305.out))) _).trans (((cell_far (p := ⟨gb305, _, none⟩) (by first | exact Nat.ne_of_lt (Nat.lt_of_lt_of_le (by have := World.block_lt_of_cell? _ _ hw301_0; first | rwa [add_block] at this | exact this) GW305.out) | (rw [add_block]; exact Nat.ne_of_lt (Nat.lt_of_lt_of_le (by have := World.block_lt_of_cell? _ _ hw301_0; first | rwa [add_block] at this | exact this) GW305.out)) | (show (Addr.add _ _).block ≠ _; rw [add_block]; exact Nat.ne_of_lt (Nat.lt_of_lt_of_le (by have := World.block_lt_of_cell? _ _ hw301_0; first | rwa [add_block] at this | exact this) GW305.out)) | (dsimp only; exact Nat.ne_of_lt (Nat.lt_of_lt_of_le (by have := World.block_lt_of_cell? _ _ hw301_0; first | rwa [add_block] at this | exact this) GW305.out))) _).trans (hHeld.2.2.2.2.2.2.2.2.2.2.2.2.2.2.2))))))⟩ (fun hHeld => ?_)
                      clear hK K
                      refine done_ (done_of HT_.out (by kernel_rfl)) ?_
                      go_upto_region 15 with (fail)
                      go_cut [76] (fun v76 wc => ∃ (kq : Nat) (x76_41 : Bool), v76 = .bool x76_41 ∧ Aside0 (governorlaw15_LimitStable.j3 kq l2 l3 t293 x11_35 x12_2 x13_2 x14_2 x76_41 a0_0 a0_1 a0_2 a0_3 a0_4 a0_5 a0_6 a0_7 a0_8 a0_9 a0_10 a0_11 x300000_2 x300001_2 x300002_2 t302 t303 t304 = some r) ∧ Aside0 (kq ≤ kj35) ∧ Aside0 (wc.heap[gb291]? = some (.cells #[.int .i64 a0_0, .int .i64 a0_1, .int .i64 a0_2, .int .i64 a0_3, .int .i64 a0_4, .int .i64 a0_5, .int .i64 a0_6, .int .i64 a0_7, .int .i64 a0_8, .int .i64 a0_9, .int .i64 a0_10, .int .i64 a0_11] 37 (0, 0))) ∧ Aside0 (wc.heap[gb292]? = some (.cells #[.int .i64 a1_0, .int .i64 a1_1, .bool a1_2] 39 (0, 0))) ∧ Aside0 (wc.heap[gb299]? = some (.cells #[.int .i64 x300000_2, .int .i64 x300001_2, .bool x300002_2] 39 (0, 0))) ∧ Aside0 (wc.heap[gb305]? = some (.cells #[.int .i64 t302, .int .i64 t303, .bool t304] 39 (0, 0))) ∧ Aside0 (Below w.heap.size w wc))
                      case first =>
                        have H := HC42.out
                        clear HC42
                        by_cases c50 : t302 < x300000_2
                        · rw [if_pos c50] at H
                          have c50b0 : decide (t302 < x300000_2) = true := decide_eq_true c50
                          clear c50
                          (first | rw [c50b0] | (simp only [i64_w, i32_w]; rw [c50b0]) | skip)
                          by_cases c51 : x13_2 = true
                          · subst c51
                            have H1 : (governorlaw15_LimitStable.j3 kj35 l2 l3 t293 x11_35 x12_2 true x14_2 (decide ((wrap64 (x11_35 - x12_2)) < a0_3)) a0_0 a0_1 a0_2 a0_3 a0_4 a0_5 a0_6 a0_7 a0_8 a0_9 a0_10 a0_11 x300000_2 x300001_2 x300002_2 t302 t303 t304) = some r := by rw [if_pos rfl] at H; exact H
                            clear H
                            have H := H1
                            clear H1
                            have H' := Aside0.mk H
                            clear H
                            have hnb52 := NB305_291.out
                            have hnc52 := NB291_305.out
                            have hnb53 := NB305_292.out
                            have hnc53 := NB292_305.out
                            have hnb54 := NB305_299.out
                            have hnc54 := NB299_305.out
                            have hcz55_0 : w46.cell? ⟨gb305, 0, none⟩ = some (.int .i64 0) := (blk_cell BK305.out 0).trans rfl
                            have hcz55_1 : w46.cell? ⟨gb305, 1, none⟩ = some (.int .i64 0) := (blk_cell BK305.out 1).trans rfl
                            have hcz55_2 : w46.cell? ⟨gb305, 2, none⟩ = some (.bool false) := (blk_cell BK305.out 2).trans rfl
                            have hfz55_0 := blk_frozen BK305.out 0
                            have hfz55_1 := blk_frozen BK305.out 1
                            have hfz55_2 := blk_frozen BK305.out 2
                            have hnb56 := NB299_291.out
                            have hnc56 := NB291_299.out
                            have hnb57 := NB299_292.out
                            have hnc57 := NB292_299.out
                            have hcz58_0 : w46.cell? ⟨gb299, 0, none⟩ = some (.int .i64 x300000_2) := (blk_cell BK299.out 0).trans rfl
                            have hcz58_1 : w46.cell? ⟨gb299, 1, none⟩ = some (.int .i64 x300001_2) := (blk_cell BK299.out 1).trans rfl
                            have hcz58_2 : w46.cell? ⟨gb299, 2, none⟩ = some (.bool x300002_2) := (blk_cell BK299.out 2).trans rfl
                            have hfz58_0 := blk_frozen BK299.out 0
                            have hfz58_1 := blk_frozen BK299.out 1
                            have hfz58_2 := blk_frozen BK299.out 2
                            have hnb59 := NB291_292.out
                            have hnc59 := NB292_291.out
                            have hcz60_0 : w46.cell? ⟨gb291, 0, none⟩ = some (.int .i64 a0_0) := (blk_cell BK291.out 0).trans rfl
                            have hcz60_1 : w46.cell? ⟨gb291, 1, none⟩ = some (.int .i64 a0_1) := (blk_cell BK291.out 1).trans rfl
                            have hcz60_2 : w46.cell? ⟨gb291, 2, none⟩ = some (.int .i64 a0_2) := (blk_cell BK291.out 2).trans rfl
                            have hcz60_3 : w46.cell? ⟨gb291, 3, none⟩ = some (.int .i64 a0_3) := (blk_cell BK291.out 3).trans rfl
                            have hcz60_4 : w46.cell? ⟨gb291, 4, none⟩ = some (.int .i64 a0_4) := (blk_cell BK291.out 4).trans rfl
                            have hcz60_5 : w46.cell? ⟨gb291, 5, none⟩ = some (.int .i64 a0_5) := (blk_cell BK291.out 5).trans rfl
                            have hcz60_6 : w46.cell? ⟨gb291, 6, none⟩ = some (.int .i64 a0_6) := (blk_cell BK291.out 6).trans rfl
                            have hcz60_7 : w46.cell? ⟨gb291, 7, none⟩ = some (.int .i64 a0_7) := (blk_cell BK291.out 7).trans rfl
                            have hcz60_8 : w46.cell? ⟨gb291, 8, none⟩ = some (.int .i64 a0_8) := (blk_cell BK291.out 8).trans rfl
                            have hcz60_9 : w46.cell? ⟨gb291, 9, none⟩ = some (.int .i64 a0_9) := (blk_cell BK291.out 9).trans rfl
                            have hcz60_10 : w46.cell? ⟨gb291, 10, none⟩ = some (.int .i64 a0_10) := (blk_cell BK291.out 10).trans rfl
                            have hcz60_11 : w46.cell? ⟨gb291, 11, none⟩ = some (.int .i64 a0_11) := (blk_cell BK291.out 11).trans rfl
                            have hfz60_0 := blk_frozen BK291.out 0
                            have hfz60_1 := blk_frozen BK291.out 1
                            have hfz60_2 := blk_frozen BK291.out 2
                            have hfz60_3 := blk_frozen BK291.out 3
                            have hfz60_4 := blk_frozen BK291.out 4
                            have hfz60_5 := blk_frozen BK291.out 5
                            have hfz60_6 := blk_frozen BK291.out 6
                            have hfz60_7 := blk_frozen BK291.out 7
                            have hfz60_8 := blk_frozen BK291.out 8
                            have hfz60_9 := blk_frozen BK291.out 9
                            have hfz60_10 := blk_frozen BK291.out 10
                            have hfz60_11 := blk_frozen BK291.out 11
                            go_wp2
                            go_meet
                            case rel => exact ⟨_, (decide ((wrap64 (x11_35 - x12_2)) < a0_3)), (by first | rfl | (simp; done) | (simp [*]; done)), H', ⟨by have := HJ5.out; have := HK2.out; have := HJ35.out; first | omega | exact Nat.le_refl _⟩, ⟨by (with_reducible repeat (first | refine blk_drewN ?_ _ | refine blk_drew ?_ | refine blk_alloc ?_ _)); refine blk_far ?_ NB291_305.out _; (with_reducible repeat (first | refine blk_drewN ?_ _ | refine blk_drew ?_ | refine blk_alloc ?_ _)); refine blk_far ?_ NB291_305.out _; (with_reducible repeat (first | refine blk_drewN ?_ _ | refine blk_drew ?_ | refine blk_alloc ?_ _)); refine blk_far ?_ NB291_305.out _; (with_reducible repeat (first | refine blk_drewN ?_ _ | refine blk_drew ?_ | refine blk_alloc ?_ _)); exact BK291.out⟩, ⟨by (with_reducible repeat (first | refine blk_drewN ?_ _ | refine blk_drew ?_ | refine blk_alloc ?_ _)); refine blk_far ?_ NB292_305.out _; (with_reducible repeat (first | refine blk_drewN ?_ _ | refine blk_drew ?_ | refine blk_alloc ?_ _)); refine blk_far ?_ NB292_305.out _; (with_reducible repeat (first | refine blk_drewN ?_ _ | refine blk_drew ?_ | refine blk_alloc ?_ _)); refine blk_far ?_ NB292_305.out _; (with_reducible repeat (first | refine blk_drewN ?_ _ | refine blk_drew ?_ | refine blk_alloc ?_ _)); exact BK292.out⟩, ⟨by (with_reducible repeat (first | refine blk_drewN ?_ _ | refine blk_drew ?_ | refine blk_alloc ?_ _)); refine blk_far ?_ NB299_305.out _; (with_reducible repeat (first | refine blk_drewN ?_ _ | refine blk_drew ?_ | refine blk_alloc ?_ _)); refine blk_far ?_ NB299_305.out _; (with_reducible repeat (first | refine blk_drewN ?_ _ | refine blk_drew ?_ | refine blk_alloc ?_ _)); refine blk_far ?_ NB299_305.out _; (with_reducible repeat (first | refine blk_drewN ?_ _ | refine blk_drew ?_ | refine blk_alloc ?_ _)); exact BK299.out⟩, ⟨by (with_reducible repeat (first | refine blk_drewN ?_ _ | refine blk_drew ?_ | refine blk_alloc ?_ _)); refine blk_put (cs := #[.int .i64 t302, .int .i64 t303, .bool false]) ?_ 2 _ rfl; (with_reducible repeat (first | refine blk_drewN ?_ _ | refine blk_drew ?_ | refine blk_alloc ?_ _)); refine blk_put (cs := #[.int .i64 t302, .int .i64 0, .bool false]) ?_ 1 _ rfl; (with_reducible repeat (first | refine blk_drewN ?_ _ | refine blk_drew ?_ | refine blk_alloc ?_ _)); refine blk_put (cs := #[.int .i64 0, .int .i64 0, .bool false]) ?_ 0 _ rfl; (with_reducible repeat (first | refine blk_drewN ?_ _ | refine blk_drew ?_ | refine blk_alloc ?_ _)); exact BK305.out⟩, ⟨by repeat (first | (with_reducible first | exact HB.out | apply below_alloc | apply pw_below_drewN | apply below_drew1 | refine below_set ?_ GE291.out | refine below_set ?_ GE292.out | refine below_set ?_ GE299.out | refine below_set ?_ GE305.out) | exact HB.out)⟩⟩
                          · replace c51 := Bool.eq_false_iff.mpr c51
                            subst c51
                            have H1 : (governorlaw15_LimitStable.j3 kj35 l2 l3 t293 x11_35 x12_2 false x14_2 false a0_0 a0_1 a0_2 a0_3 a0_4 a0_5 a0_6 a0_7 a0_8 a0_9 a0_10 a0_11 x300000_2 x300001_2 x300002_2 t302 t303 t304) = some r := by rw [if_neg (show ¬ (false = true) by decide)] at H; exact H
                            clear H
                            have H := H1
                            clear H1
                            have H' := Aside0.mk H
                            clear H
                            have hnb61 := NB305_291.out
                            have hnc61 := NB291_305.out
                            have hnb62 := NB305_292.out
                            have hnc62 := NB292_305.out
                            have hnb63 := NB305_299.out
                            have hnc63 := NB299_305.out
                            have hcz64_0 : w46.cell? ⟨gb305, 0, none⟩ = some (.int .i64 0) := (blk_cell BK305.out 0).trans rfl
                            have hcz64_1 : w46.cell? ⟨gb305, 1, none⟩ = some (.int .i64 0) := (blk_cell BK305.out 1).trans rfl
                            have hcz64_2 : w46.cell? ⟨gb305, 2, none⟩ = some (.bool false) := (blk_cell BK305.out 2).trans rfl
                            have hfz64_0 := blk_frozen BK305.out 0
                            have hfz64_1 := blk_frozen BK305.out 1
                            have hfz64_2 := blk_frozen BK305.out 2
                            have hnb65 := NB299_291.out
                            have hnc65 := NB291_299.out
                            have hnb66 := NB299_292.out
                            have hnc66 := NB292_299.out
                            have hcz67_0 : w46.cell? ⟨gb299, 0, none⟩ = some (.int .i64 x300000_2) := (blk_cell BK299.out 0).trans rfl
                            have hcz67_1 : w46.cell? ⟨gb299, 1, none⟩ = some (.int .i64 x300001_2) := (blk_cell BK299.out 1).trans rfl
                            have hcz67_2 : w46.cell? ⟨gb299, 2, none⟩ = some (.bool x300002_2) := (blk_cell BK299.out 2).trans rfl
                            have hfz67_0 := blk_frozen BK299.out 0
                            have hfz67_1 := blk_frozen BK299.out 1
                            have hfz67_2 := blk_frozen BK299.out 2
                            go_wp2
                            go_meet
                            case rel => exact ⟨_, (false), (by first | rfl | (simp; done) | (simp [*]; done)), H', ⟨by have := HJ5.out; have := HK2.out; have := HJ35.out; first | omega | exact Nat.le_refl _⟩, ⟨by (with_reducible repeat (first | refine blk_drewN ?_ _ | refine blk_drew ?_ | refine blk_alloc ?_ _)); refine blk_far ?_ NB291_305.out _; (with_reducible repeat (first | refine blk_drewN ?_ _ | refine blk_drew ?_ | refine blk_alloc ?_ _)); refine blk_far ?_ NB291_305.out _; (with_reducible repeat (first | refine blk_drewN ?_ _ | refine blk_drew ?_ | refine blk_alloc ?_ _)); refine blk_far ?_ NB291_305.out _; (with_reducible repeat (first | refine blk_drewN ?_ _ | refine blk_drew ?_ | refine blk_alloc ?_ _)); exact BK291.out⟩, ⟨by (with_reducible repeat (first | refine blk_drewN ?_ _ | refine blk_drew ?_ | refine blk_alloc ?_ _)); refine blk_far ?_ NB292_305.out _; (with_reducible repeat (first | refine blk_drewN ?_ _ | refine blk_drew ?_ | refine blk_alloc ?_ _)); refine blk_far ?_ NB292_305.out _; (with_reducible repeat (first | refine blk_drewN ?_ _ | refine blk_drew ?_ | refine blk_alloc ?_ _)); refine blk_far ?_ NB292_305.out _; (with_reducible repeat (first | refine blk_drewN ?_ _ | refine blk_drew ?_ | refine blk_alloc ?_ _)); exact BK292.out⟩, ⟨by (with_reducible repeat (first | refine blk_drewN ?_ _ | refine blk_drew ?_ | refine blk_alloc ?_ _)); refine blk_far ?_ NB299_305.out _; (with_reducible repeat (first | refine blk_drewN ?_ _ | refine blk_drew ?_ | refine blk_alloc ?_ _)); refine blk_far ?_ NB299_305.out _; (with_reducible repeat (first | refine blk_drewN ?_ _ | refine blk_drew ?_ | refine blk_alloc ?_ _)); refine blk_far ?_ NB299_305.out _; (with_reducible repeat (first | refine blk_drewN ?_ _ | refine blk_drew ?_ | refine blk_alloc ?_ _)); exact BK299.out⟩, ⟨by (with_reducible repeat (first | refine blk_drewN ?_ _ | refine blk_drew ?_ | refine blk_alloc ?_ _)); refine blk_put (cs := #[.int .i64 t302, .int .i64 t303, .bool false]) ?_ 2 _ rfl; (with_reducible repeat (first | refine blk_drewN ?_ _ | refine blk_drew ?_ | refine blk_alloc ?_ _)); refine blk_put (cs := #[.int .i64 t302, .int .i64 0, .bool false]) ?_ 1 _ rfl; (with_reducible repeat (first | refine blk_drewN ?_ _ | refine blk_drew ?_ | refine blk_alloc ?_ _)); refine blk_put (cs := #[.int .i64 0, .int .i64 0, .bool false]) ?_ 0 _ rfl; (with_reducible repeat (first | refine blk_drewN ?_ _ | refine blk_drew ?_ | refine blk_alloc ?_ _)); exact BK305.out⟩, ⟨by repeat (first | (with_reducible first | exact HB.out | apply below_alloc | apply pw_below_drewN | apply below_drew1 | refine below_set ?_ GE291.out | refine below_set ?_ GE292.out | refine below_set ?_ GE299.out | refine below_set ?_ GE305.out) | exact HB.out)⟩⟩
                        · rw [if_neg c50] at H
                          have c50b0 : decide (t302 < x300000_2) = false := decide_eq_false c50
                          clear c50
                          (first | rw [c50b0] | (simp only [i64_w, i32_w]; rw [c50b0]) | skip)
                          have H' := Aside0.mk H
                          clear H
                          have hnb68 := NB305_291.out
                          have hnc68 := NB291_305.out
                          have hnb69 := NB305_292.out
                          have hnc69 := NB292_305.out
                          have hnb70 := NB305_299.out
                          have hnc70 := NB299_305.out
                          have hcz71_0 : w46.cell? ⟨gb305, 0, none⟩ = some (.int .i64 0) := (blk_cell BK305.out 0).trans rfl
                          have hcz71_1 : w46.cell? ⟨gb305, 1, none⟩ = some (.int .i64 0) := (blk_cell BK305.out 1).trans rfl
                          have hcz71_2 : w46.cell? ⟨gb305, 2, none⟩ = some (.bool false) := (blk_cell BK305.out 2).trans rfl
                          have hfz71_0 := blk_frozen BK305.out 0
                          have hfz71_1 := blk_frozen BK305.out 1
                          have hfz71_2 := blk_frozen BK305.out 2
                          have hnb72 := NB299_291.out
                          have hnc72 := NB291_299.out
                          have hnb73 := NB299_292.out
                          have hnc73 := NB292_299.out
                          have hcz74_0 : w46.cell? ⟨gb299, 0, none⟩ = some (.int .i64 x300000_2) := (blk_cell BK299.out 0).trans rfl
                          have hcz74_1 : w46.cell? ⟨gb299, 1, none⟩ = some (.int .i64 x300001_2) := (blk_cell BK299.out 1).trans rfl
                          have hcz74_2 : w46.cell? ⟨gb299, 2, none⟩ = some (.bool x300002_2) := (blk_cell BK299.out 2).trans rfl
                          have hfz74_0 := blk_frozen BK299.out 0
                          have hfz74_1 := blk_frozen BK299.out 1
                          have hfz74_2 := blk_frozen BK299.out 2
                          go_wp2
                          go_meet
                          case rel => exact ⟨_, (false), (by first | rfl | (simp; done) | (simp [*]; done)), H', ⟨by have := HJ5.out; have := HK2.out; have := HJ35.out; first | omega | exact Nat.le_refl _⟩, ⟨by (with_reducible repeat (first | refine blk_drewN ?_ _ | refine blk_drew ?_ | refine blk_alloc ?_ _)); refine blk_far ?_ NB291_305.out _; (with_reducible repeat (first | refine blk_drewN ?_ _ | refine blk_drew ?_ | refine blk_alloc ?_ _)); refine blk_far ?_ NB291_305.out _; (with_reducible repeat (first | refine blk_drewN ?_ _ | refine blk_drew ?_ | refine blk_alloc ?_ _)); refine blk_far ?_ NB291_305.out _; (with_reducible repeat (first | refine blk_drewN ?_ _ | refine blk_drew ?_ | refine blk_alloc ?_ _)); exact BK291.out⟩, ⟨by (with_reducible repeat (first | refine blk_drewN ?_ _ | refine blk_drew ?_ | refine blk_alloc ?_ _)); refine blk_far ?_ NB292_305.out _; (with_reducible repeat (first | refine blk_drewN ?_ _ | refine blk_drew ?_ | refine blk_alloc ?_ _)); refine blk_far ?_ NB292_305.out _; (with_reducible repeat (first | refine blk_drewN ?_ _ | refine blk_drew ?_ | refine blk_alloc ?_ _)); refine blk_far ?_ NB292_305.out _; (with_reducible repeat (first | refine blk_drewN ?_ _ | refine blk_drew ?_ | refine blk_alloc ?_ _)); exact BK292.out⟩, ⟨by (with_reducible repeat (first | refine blk_drewN ?_ _ | refine blk_drew ?_ | refine blk_alloc ?_ _)); refine blk_far ?_ NB299_305.out _; (with_reducible repeat (first | refine blk_drewN ?_ _ | refine blk_drew ?_ | refine blk_alloc ?_ _)); refine blk_far ?_ NB299_305.out _; (with_reducible repeat (first | refine blk_drewN ?_ _ | refine blk_drew ?_ | refine blk_alloc ?_ _)); refine blk_far ?_ NB299_305.out _; (with_reducible repeat (first | refine blk_drewN ?_ _ | refine blk_drew ?_ | refine blk_alloc ?_ _)); exact BK299.out⟩, ⟨by (with_reducible repeat (first | refine blk_drewN ?_ _ | refine blk_drew ?_ | refine blk_alloc ?_ _)); refine blk_put (cs := #[.int .i64 t302, .int .i64 t303, .bool false]) ?_ 2 _ rfl; (with_reducible repeat (first | refine blk_drewN ?_ _ | refine blk_drew ?_ | refine blk_alloc ?_ _)); refine blk_put (cs := #[.int .i64 t302, .int .i64 0, .bool false]) ?_ 1 _ rfl; (with_reducible repeat (first | refine blk_drewN ?_ _ | refine blk_drew ?_ | refine blk_alloc ?_ _)); refine blk_put (cs := #[.int .i64 0, .int .i64 0, .bool false]) ?_ 0 _ rfl; (with_reducible repeat (first | refine blk_drewN ?_ _ | refine blk_drew ?_ | refine blk_alloc ?_ _)); exact BK305.out⟩, ⟨by repeat (first | (with_reducible first | exact HB.out | apply below_alloc | apply pw_below_drewN | apply below_drew1 | refine below_set ?_ GE291.out | refine below_set ?_ GE292.out | refine below_set ?_ GE299.out | refine below_set ?_ GE305.out) | exact HB.out)⟩⟩
                      case rest =>
                        clear HC42
                        try clear c1
                        try clear c2
                        try clear p2
                        try clear c3
                        try clear p3
                        try clear q3
                        try clear hx3
                        try clear c4
                        try clear c5
                        try clear c6
                        try clear p6
                        try clear c7
                        try clear c14
                        try clear c18
                        try clear c21
                        try clear c22
                        try clear c24
                        try clear c25
                        try clear c26
                        try clear c27
                        try clear p30
                        try clear q30
                        try clear hx30
                        try clear c32
                        try clear c33
                        try clear c35
                        try clear c35b0
                        try clear c37
                        try clear c37b0
                        try clear c38
                        try clear c38b0
                        try clear c39
                        try clear c39b0
                        try clear c40
                        try clear c40b0
                        try clear c50
                        try clear c50b0
                        try clear c51
                        try clear c52
                        try clear c53
                        try clear c54
                        try clear c56
                        try clear c57
                        try clear c59
                        try clear c61
                        try clear c62
                        try clear c63
                        try clear p64
                        try clear c65
                        try clear c66
                        try clear c68
                        try clear c69
                        try clear c70
                        try clear c72
                        try clear c73
                        try clear hcz15_0
                        try clear hcz15_1
                        try clear hcz15_10
                        try clear hcz15_11
                        try clear hcz15_2
                        try clear hcz15_3
                        try clear hcz15_4
                        try clear hcz15_5
                        try clear hcz15_6
                        try clear hcz15_7
                        try clear hcz15_8
                        try clear hcz15_9
                        try clear hcz17_0
                        try clear hcz17_1
                        try clear hcz17_2
                        try clear hcz19_0
                        try clear hcz19_1
                        try clear hcz19_10
                        try clear hcz19_11
                        try clear hcz19_2
                        try clear hcz19_3
                        try clear hcz19_4
                        try clear hcz19_5
                        try clear hcz19_6
                        try clear hcz19_7
                        try clear hcz19_8
                        try clear hcz19_9
                        try clear hcz21_0
                        try clear hcz21_1
                        try clear hcz21_2
                        try clear hcz23_0
                        try clear hcz23_1
                        try clear hcz23_10
                        try clear hcz23_11
                        try clear hcz23_2
                        try clear hcz23_3
                        try clear hcz23_4
                        try clear hcz23_5
                        try clear hcz23_6
                        try clear hcz23_7
                        try clear hcz23_8
                        try clear hcz23_9
                        try clear hcz28_0
                        try clear hcz28_1
                        try clear hcz28_10
                        try clear hcz28_11
                        try clear hcz28_2
                        try clear hcz28_3
                        try clear hcz28_4
                        try clear hcz28_5
                        try clear hcz28_6
                        try clear hcz28_7
                        try clear hcz28_8
                        try clear hcz28_9
                        try clear hcz29_0
                        try clear hcz29_1
                        try clear hcz29_2
                        try clear hcz34_0
                        try clear hcz34_1
                        try clear hcz34_2
                        try clear hcz55_0
                        try clear hcz55_1
                        try clear hcz55_2
                        try clear hcz58_0
                        try clear hcz58_1
                        try clear hcz58_2
                        try clear hcz60_0
                        try clear hcz60_1
                        try clear hcz60_10
                        try clear hcz60_11
                        try clear hcz60_2
                        try clear hcz60_3
                        try clear hcz60_4
                        try clear hcz60_5
                        try clear hcz60_6
                        try clear hcz60_7
                        try clear hcz60_8
                        try clear hcz60_9
                        try clear hcz64_0
                        try clear hcz64_1
                        try clear hcz64_2
                        try clear hcz67_0
                        try clear hcz67_1
                        try clear hcz67_2
                        try clear hcz71_0
                        try clear hcz71_1
                        try clear hcz71_2
                        try clear hcz74_0
                        try clear hcz74_1
                        try clear hcz74_2
                        try clear hfz15_0
                        try clear hfz15_1
                        try clear hfz15_10
                        try clear hfz15_11
                        try clear hfz15_2
                        try clear hfz15_3
                        try clear hfz15_4
                        try clear hfz15_5
                        try clear hfz15_6
                        try clear hfz15_7
                        try clear hfz15_8
                        try clear hfz15_9
                        try clear hfz17_0
                        try clear hfz17_1
                        try clear hfz17_2
                        try clear hfz19_0
                        try clear hfz19_1
                        try clear hfz19_10
                        try clear hfz19_11
                        try clear hfz19_2
                        try clear hfz19_3
                        try clear hfz19_4
                        try clear hfz19_5
                        try clear hfz19_6
                        try clear hfz19_7
                        try clear hfz19_8
                        try clear hfz19_9
                        try clear hfz21_0
                        try clear hfz21_1
                        try clear hfz21_2
                        try clear hfz23_0
                        try clear hfz23_1
                        try clear hfz23_10
                        try clear hfz23_11
                        try clear hfz23_2
                        try clear hfz23_3
                        try clear hfz23_4
                        try clear hfz23_5
                        try clear hfz23_6
                        try clear hfz23_7
                        try clear hfz23_8
                        try clear hfz23_9
                        try clear hfz28_0
                        try clear hfz28_1
                        try clear hfz28_10
                        try clear hfz28_11
                        try clear hfz28_2
                        try clear hfz28_3
                        try clear hfz28_4
                        try clear hfz28_5
                        try clear hfz28_6
                        try clear hfz28_7
                        try clear hfz28_8
                        try clear hfz28_9
                        try clear hfz29_0
                        try clear hfz29_1
                        try clear hfz29_2
                        try clear hfz34_0
                        try clear hfz34_1
                        try clear hfz34_2
                        try clear hfz55_0
                        try clear hfz55_1
                        try clear hfz55_2
                        try clear hfz58_0
                        try clear hfz58_1
                        try clear hfz58_2
                        try clear hfz60_0
                        try clear hfz60_1
                        try clear hfz60_10
                        try clear hfz60_11
                        try clear hfz60_2
                        try clear hfz60_3
                        try clear hfz60_4
                        try clear hfz60_5
                        try clear hfz60_6
                        try clear hfz60_7
                        try clear hfz60_8
                        try clear hfz60_9
                        try clear hfz64_0
                        try clear hfz64_1
                        try clear hfz64_2
                        try clear hfz67_0
                        try clear hfz67_1
                        try clear hfz67_2
                        try clear hfz71_0
                        try clear hfz71_1
                        try clear hfz71_2
                        try clear hfz74_0
                        try clear hfz74_1
                        try clear hfz74_2
                        try clear hx300_0
                        try clear hx301_0
                        try clear p2
                        try clear p30
                        try clear p300
                        try clear p301
                        try clear q30
                        try clear q300
                        try clear q301
                        obtain ⟨kq, x76_41, rfl, HA, HJ41, BK291, BK292, BK299, BK305, HB⟩ := hcut
                        cases kq with
                        | zero => exact absurd HA.out (by simp [governorlaw15_LimitStable.j3])
                        | succ kj41 =>
                          have H := HA.out
                          clear HA
                          simp only [governorlaw15_LimitStable.j3] at H
                          by_cases c75 : x76_41 = true
                          · subst c75
                            have H1 : (some false) = some r := by rw [if_pos rfl] at H; exact H
                            clear H
                            have H := H1
                            clear H1
                            exact absurd (Option.some.inj H) (by rw [HRT.out]; decide)
                          · replace c75 := Bool.eq_false_iff.mpr c75
                            subst c75
                            have H1 : (if t302 > x300000_2 then (if (t304 != true) = true then (some false) else (if t303 = x11_35 then (governorlaw15_LimitStable.l0 kj41 l2 l3 t293 x11_35 x11_35 true (wrap64 (x14_2 + 1)) a0_0 a0_1 a0_2 a0_3 a0_4 a0_5 a0_6 a0_7 a0_8 a0_9 a0_10 a0_11 t302 t303 t304) else (some false))) else (if (t304 != x13_2) = true then (some false) else (if x13_2 = true then (if t303 = x12_2 then (governorlaw15_LimitStable.l0 kj41 l2 l3 t293 x11_35 x12_2 x13_2 (wrap64 (x14_2 + 1)) a0_0 a0_1 a0_2 a0_3 a0_4 a0_5 a0_6 a0_7 a0_8 a0_9 a0_10 a0_11 t302 t303 t304) else (some false)) else (governorlaw15_LimitStable.l0 kj41 l2 l3 t293 x11_35 x12_2 x13_2 (wrap64 (x14_2 + 1)) a0_0 a0_1 a0_2 a0_3 a0_4 a0_5 a0_6 a0_7 a0_8 a0_9 a0_10 a0_11 t302 t303 t304)))) = some r := by rw [if_neg (show ¬ (false = true) by decide)] at H; exact H
                            clear H
                            have H := H1
                            clear H1
                            by_cases c76 : t302 > x300000_2
                            · rw [if_pos c76] at H
                              have c76b0 : decide (x300000_2 < t302) = true := decide_eq_true c76
                              clear c76
                              by_cases c77 : (t304 != true) = true
                              · rw [if_pos c77] at H
                                have c77b0 : (t304 != true) = true := c77
                                (try (have c77b1 : decide (t304 = true) = false := by simpa using c77))
                                (try (have c77b2 : (t304 == true) = false := by simpa using c77))
                                (try (have c77b3 : ¬ (t304 = true) := by simpa using c77))
                                clear c77
                                exact absurd (Option.some.inj H) (by rw [HRT.out]; decide)
                              · rw [if_neg c77] at H
                                have c77b0 : (t304 != true) = false := by simpa using c77
                                (try (have c77b1 : decide (t304 = true) = true := by simpa using c77))
                                (try (have c77b2 : (t304 == true) = true := by simpa using c77))
                                clear c77
                                by_cases c78 : t303 = x11_35
                                · rw [if_pos c78] at H
                                  have c78b0 : (t303 == x11_35) = true := beq_iff_eq.mpr c78
                                  have c78b1 : (t303 != x11_35) = false := bne_eq_false_iff_eq.mpr c78
                                  clear c78
                                  have H' := Aside0.mk H
                                  clear H
                                  have hnb79 := NB305_291.out
                                  have hnc79 := NB291_305.out
                                  have hnb80 := NB305_292.out
                                  have hnc80 := NB292_305.out
                                  have hnb81 := NB305_299.out
                                  have hnc81 := NB299_305.out
                                  have hcz82_0 : wc.cell? ⟨gb305, 0, none⟩ = some (.int .i64 t302) := (blk_cell BK305.out 0).trans rfl
                                  have hcz82_1 : wc.cell? ⟨gb305, 1, none⟩ = some (.int .i64 t303) := (blk_cell BK305.out 1).trans rfl
                                  have hcz82_2 : wc.cell? ⟨gb305, 2, none⟩ = some (.bool t304) := (blk_cell BK305.out 2).trans rfl
                                  have hfz82_0 := blk_frozen BK305.out 0
                                  have hfz82_1 := blk_frozen BK305.out 1
                                  have hfz82_2 := blk_frozen BK305.out 2
                                  have hnb83 := NB299_291.out
                                  have hnc83 := NB291_299.out
                                  have hnb84 := NB299_292.out
                                  have hnc84 := NB292_299.out
                                  have hcz85_0 : wc.cell? ⟨gb299, 0, none⟩ = some (.int .i64 x300000_2) := (blk_cell BK299.out 0).trans rfl
                                  have hcz85_1 : wc.cell? ⟨gb299, 1, none⟩ = some (.int .i64 x300001_2) := (blk_cell BK299.out 1).trans rfl
                                  have hcz85_2 : wc.cell? ⟨gb299, 2, none⟩ = some (.bool x300002_2) := (blk_cell BK299.out 2).trans rfl
                                  have hfz85_0 := blk_frozen BK299.out 0
                                  have hfz85_1 := blk_frozen BK299.out 1
                                  have hfz85_2 := blk_frozen BK299.out 2
                                  go_wp2
                                  go_roundg kj41
                                  case measure => have := HJ5.out; have := HK2.out; have := HJ35.out; have := HJ41.out; omega
                                  case rel => exact ⟨(x11_35), (x11_35), (true), (wrap64 (x14_2 + 1)), (t302), (t303), (t304), (by first | rfl | (simp; done) | (simp [*]; done)), (by first | rfl | (simp; done) | (simp [*]; done)), (by first | rfl | (simp; done) | (simp [*]; done)), (by first | rfl | (simp; done) | (simp [*]; done)), H', ⟨by have := HJ5.out; have := HK2.out; have := HJ35.out; have := HJ41.out; omega⟩, ⟨by (with_reducible repeat (first | refine blk_drewN ?_ _ | refine blk_drew ?_ | refine blk_alloc ?_ _)); refine blk_far ?_ NB291_299.out _; (with_reducible repeat (first | refine blk_drewN ?_ _ | refine blk_drew ?_ | refine blk_alloc ?_ _)); refine blk_far ?_ NB291_299.out _; (with_reducible repeat (first | refine blk_drewN ?_ _ | refine blk_drew ?_ | refine blk_alloc ?_ _)); refine blk_far ?_ NB291_299.out _; (with_reducible repeat (first | refine blk_drewN ?_ _ | refine blk_drew ?_ | refine blk_alloc ?_ _)); exact BK291.out⟩, ⟨by (with_reducible repeat (first | refine blk_drewN ?_ _ | refine blk_drew ?_ | refine blk_alloc ?_ _)); refine blk_far ?_ NB292_299.out _; (with_reducible repeat (first | refine blk_drewN ?_ _ | refine blk_drew ?_ | refine blk_alloc ?_ _)); refine blk_far ?_ NB292_299.out _; (with_reducible repeat (first | refine blk_drewN ?_ _ | refine blk_drew ?_ | refine blk_alloc ?_ _)); refine blk_far ?_ NB292_299.out _; (with_reducible repeat (first | refine blk_drewN ?_ _ | refine blk_drew ?_ | refine blk_alloc ?_ _)); exact BK292.out⟩, ⟨by (with_reducible repeat (first | refine blk_drewN ?_ _ | refine blk_drew ?_ | refine blk_alloc ?_ _)); refine blk_put (cs := #[.int .i64 t302, .int .i64 t303, .bool x300002_2]) ?_ 2 _ rfl; (with_reducible repeat (first | refine blk_drewN ?_ _ | refine blk_drew ?_ | refine blk_alloc ?_ _)); refine blk_put (cs := #[.int .i64 t302, .int .i64 x300001_2, .bool x300002_2]) ?_ 1 _ rfl; (with_reducible repeat (first | refine blk_drewN ?_ _ | refine blk_drew ?_ | refine blk_alloc ?_ _)); refine blk_put (cs := #[.int .i64 x300000_2, .int .i64 x300001_2, .bool x300002_2]) ?_ 0 _ rfl; (with_reducible repeat (first | refine blk_drewN ?_ _ | refine blk_drew ?_ | refine blk_alloc ?_ _)); exact BK299.out⟩, ⟨by repeat (first | (with_reducible first | exact HB.out | apply below_alloc | apply pw_below_drewN | apply below_drew1 | refine below_set ?_ GE291.out | refine below_set ?_ GE292.out | refine below_set ?_ GE299.out | refine below_set ?_ GE305.out) | exact HB.out)⟩⟩
                                · rw [if_neg c78] at H
                                  have c78b0 : (t303 == x11_35) = false := beq_eq_false_iff_ne.mpr c78
                                  have c78b1 : (t303 != x11_35) = true := bne_iff_ne.mpr c78
                                  exact absurd (Option.some.inj H) (by rw [HRT.out]; decide)
                            · rw [if_neg c76] at H
                              have c76b0 : decide (x300000_2 < t302) = false := decide_eq_false c76
                              clear c76
                              by_cases c86 : (t304 != x13_2) = true
                              · rw [if_pos c86] at H
                                have c86b0 : (t304 != x13_2) = true := c86
                                (try (have c86b1 : decide (t304 = x13_2) = false := by simpa using c86))
                                (try (have c86b2 : (t304 == x13_2) = false := by simpa using c86))
                                (try (have c86b3 : ¬ (t304 = x13_2) := by simpa using c86))
                                clear c86
                                exact absurd (Option.some.inj H) (by rw [HRT.out]; decide)
                              · rw [if_neg c86] at H
                                have c86b0 : (t304 != x13_2) = false := by simpa using c86
                                (try (have c86b1 : decide (t304 = x13_2) = true := by simpa using c86))
                                (try (have c86b2 : (t304 == x13_2) = true := by simpa using c86))
                                clear c86
                                by_cases c87 : x13_2 = true
                                · subst c87
                                  have H1 : (if t303 = x12_2 then (governorlaw15_LimitStable.l0 kj41 l2 l3 t293 x11_35 x12_2 true (wrap64 (x14_2 + 1)) a0_0 a0_1 a0_2 a0_3 a0_4 a0_5 a0_6 a0_7 a0_8 a0_9 a0_10 a0_11 t302 t303 t304) else (some false)) = some r := by rw [if_pos rfl] at H; exact H
                                  clear H
                                  have H := H1
                                  clear H1
                                  by_cases c88 : t303 = x12_2
                                  · rw [if_pos c88] at H
                                    have c88b0 : (t303 == x12_2) = true := beq_iff_eq.mpr c88
                                    have c88b1 : (t303 != x12_2) = false := bne_eq_false_iff_eq.mpr c88
                                    clear c88
                                    have H' := Aside0.mk H
                                    clear H
                                    have hnb89 := NB305_291.out
                                    have hnc89 := NB291_305.out
                                    have hnb90 := NB305_292.out
                                    have hnc90 := NB292_305.out
                                    have hnb91 := NB305_299.out
                                    have hnc91 := NB299_305.out
                                    have hcz92_0 : wc.cell? ⟨gb305, 0, none⟩ = some (.int .i64 t302) := (blk_cell BK305.out 0).trans rfl
                                    have hcz92_1 : wc.cell? ⟨gb305, 1, none⟩ = some (.int .i64 t303) := (blk_cell BK305.out 1).trans rfl
                                    have hcz92_2 : wc.cell? ⟨gb305, 2, none⟩ = some (.bool t304) := (blk_cell BK305.out 2).trans rfl
                                    have hfz92_0 := blk_frozen BK305.out 0
                                    have hfz92_1 := blk_frozen BK305.out 1
                                    have hfz92_2 := blk_frozen BK305.out 2
                                    have hnb93 := NB299_291.out
                                    have hnc93 := NB291_299.out
                                    have hnb94 := NB299_292.out
                                    have hnc94 := NB292_299.out
                                    have hcz95_0 : wc.cell? ⟨gb299, 0, none⟩ = some (.int .i64 x300000_2) := (blk_cell BK299.out 0).trans rfl
                                    have hcz95_1 : wc.cell? ⟨gb299, 1, none⟩ = some (.int .i64 x300001_2) := (blk_cell BK299.out 1).trans rfl
                                    have hcz95_2 : wc.cell? ⟨gb299, 2, none⟩ = some (.bool x300002_2) := (blk_cell BK299.out 2).trans rfl
                                    have hfz95_0 := blk_frozen BK299.out 0
                                    have hfz95_1 := blk_frozen BK299.out 1
                                    have hfz95_2 := blk_frozen BK299.out 2
                                    go_wp2
                                    go_roundg kj41
                                    case measure => have := HJ5.out; have := HK2.out; have := HJ35.out; have := HJ41.out; omega
                                    case rel => exact ⟨(x11_35), (x12_2), (true), (wrap64 (x14_2 + 1)), (t302), (t303), (t304), (by first | rfl | (simp; done) | (simp [*]; done)), (by first | rfl | (simp; done) | (simp [*]; done)), (by first | rfl | (simp; done) | (simp [*]; done)), (by first | rfl | (simp; done) | (simp [*]; done)), H', ⟨by have := HJ5.out; have := HK2.out; have := HJ35.out; have := HJ41.out; omega⟩, ⟨by (with_reducible repeat (first | refine blk_drewN ?_ _ | refine blk_drew ?_ | refine blk_alloc ?_ _)); refine blk_far ?_ NB291_299.out _; (with_reducible repeat (first | refine blk_drewN ?_ _ | refine blk_drew ?_ | refine blk_alloc ?_ _)); refine blk_far ?_ NB291_299.out _; (with_reducible repeat (first | refine blk_drewN ?_ _ | refine blk_drew ?_ | refine blk_alloc ?_ _)); refine blk_far ?_ NB291_299.out _; (with_reducible repeat (first | refine blk_drewN ?_ _ | refine blk_drew ?_ | refine blk_alloc ?_ _)); exact BK291.out⟩, ⟨by (with_reducible repeat (first | refine blk_drewN ?_ _ | refine blk_drew ?_ | refine blk_alloc ?_ _)); refine blk_far ?_ NB292_299.out _; (with_reducible repeat (first | refine blk_drewN ?_ _ | refine blk_drew ?_ | refine blk_alloc ?_ _)); refine blk_far ?_ NB292_299.out _; (with_reducible repeat (first | refine blk_drewN ?_ _ | refine blk_drew ?_ | refine blk_alloc ?_ _)); refine blk_far ?_ NB292_299.out _; (with_reducible repeat (first | refine blk_drewN ?_ _ | refine blk_drew ?_ | refine blk_alloc ?_ _)); exact BK292.out⟩, ⟨by (with_reducible repeat (first | refine blk_drewN ?_ _ | refine blk_drew ?_ | refine blk_alloc ?_ _)); refine blk_put (cs := #[.int .i64 t302, .int .i64 t303, .bool x300002_2]) ?_ 2 _ rfl; (with_reducible repeat (first | refine blk_drewN ?_ _ | refine blk_drew ?_ | refine blk_alloc ?_ _)); refine blk_put (cs := #[.int .i64 t302, .int .i64 x300001_2, .bool x300002_2]) ?_ 1 _ rfl; (with_reducible repeat (first | refine blk_drewN ?_ _ | refine blk_drew ?_ | refine blk_alloc ?_ _)); refine blk_put (cs := #[.int .i64 x300000_2, .int .i64 x300001_2, .bool x300002_2]) ?_ 0 _ rfl; (with_reducible repeat (first | refine blk_drewN ?_ _ | refine blk_drew ?_ | refine blk_alloc ?_ _)); exact BK299.out⟩, ⟨by repeat (first | (with_reducible first | exact HB.out | apply below_alloc | apply pw_below_drewN | apply below_drew1 | refine below_set ?_ GE291.out | refine below_set ?_ GE292.out | refine below_set ?_ GE299.out | refine below_set ?_ GE305.out) | exact HB.out)⟩⟩
                                  · rw [if_neg c88] at H
                                    have c88b0 : (t303 == x12_2) = false := beq_eq_false_iff_ne.mpr c88
                                    have c88b1 : (t303 != x12_2) = true := bne_iff_ne.mpr c88
                                    exact absurd (Option.some.inj H) (by rw [HRT.out]; decide)
                                · replace c87 := Bool.eq_false_iff.mpr c87
                                  subst c87
                                  have H1 : (governorlaw15_LimitStable.l0 kj41 l2 l3 t293 x11_35 x12_2 false (wrap64 (x14_2 + 1)) a0_0 a0_1 a0_2 a0_3 a0_4 a0_5 a0_6 a0_7 a0_8 a0_9 a0_10 a0_11 t302 t303 t304) = some r := by rw [if_neg (show ¬ (false = true) by decide)] at H; exact H
                                  clear H
                                  have H := H1
                                  clear H1
                                  have H' := Aside0.mk H
                                  clear H
                                  have hnb96 := NB305_291.out
                                  have hnc96 := NB291_305.out
                                  have hnb97 := NB305_292.out
                                  have hnc97 := NB292_305.out
                                  have hnb98 := NB305_299.out
                                  have hnc98 := NB299_305.out
                                  have hcz99_0 : wc.cell? ⟨gb305, 0, none⟩ = some (.int .i64 t302) := (blk_cell BK305.out 0).trans rfl
                                  have hcz99_1 : wc.cell? ⟨gb305, 1, none⟩ = some (.int .i64 t303) := (blk_cell BK305.out 1).trans rfl
                                  have hcz99_2 : wc.cell? ⟨gb305, 2, none⟩ = some (.bool t304) := (blk_cell BK305.out 2).trans rfl
                                  have hfz99_0 := blk_frozen BK305.out 0
                                  have hfz99_1 := blk_frozen BK305.out 1
                                  have hfz99_2 := blk_frozen BK305.out 2
                                  have hnb100 := NB299_291.out
                                  have hnc100 := NB291_299.out
                                  have hnb101 := NB299_292.out
                                  have hnc101 := NB292_299.out
                                  have hcz102_0 : wc.cell? ⟨gb299, 0, none⟩ = some (.int .i64 x300000_2) := (blk_cell BK299.out 0).trans rfl
                                  have hcz102_1 : wc.cell? ⟨gb299, 1, none⟩ = some (.int .i64 x300001_2) := (blk_cell BK299.out 1).trans rfl
                                  have hcz102_2 : wc.cell? ⟨gb299, 2, none⟩ = some (.bool x300002_2) := (blk_cell BK299.out 2).trans rfl
                                  have hfz102_0 := blk_frozen BK299.out 0
                                  have hfz102_1 := blk_frozen BK299.out 1
                                  have hfz102_2 := blk_frozen BK299.out 2
                                  go_wp2
                                  go_roundg kj41
                                  case measure => have := HJ5.out; have := HK2.out; have := HJ35.out; have := HJ41.out; omega
                                  case rel => exact ⟨(x11_35), (x12_2), (false), (wrap64 (x14_2 + 1)), (t302), (t303), (t304), (by first | rfl | (simp; done) | (simp [*]; done)), (by first | rfl | (simp; done) | (simp [*]; done)), (by first | rfl | (simp; done) | (simp [*]; done)), (by first | rfl | (simp; done) | (simp [*]; done)), H', ⟨by have := HJ5.out; have := HK2.out; have := HJ35.out; have := HJ41.out; omega⟩, ⟨by (with_reducible repeat (first | refine blk_drewN ?_ _ | refine blk_drew ?_ | refine blk_alloc ?_ _)); refine blk_far ?_ NB291_299.out _; (with_reducible repeat (first | refine blk_drewN ?_ _ | refine blk_drew ?_ | refine blk_alloc ?_ _)); refine blk_far ?_ NB291_299.out _; (with_reducible repeat (first | refine blk_drewN ?_ _ | refine blk_drew ?_ | refine blk_alloc ?_ _)); refine blk_far ?_ NB291_299.out _; (with_reducible repeat (first | refine blk_drewN ?_ _ | refine blk_drew ?_ | refine blk_alloc ?_ _)); exact BK291.out⟩, ⟨by (with_reducible repeat (first | refine blk_drewN ?_ _ | refine blk_drew ?_ | refine blk_alloc ?_ _)); refine blk_far ?_ NB292_299.out _; (with_reducible repeat (first | refine blk_drewN ?_ _ | refine blk_drew ?_ | refine blk_alloc ?_ _)); refine blk_far ?_ NB292_299.out _; (with_reducible repeat (first | refine blk_drewN ?_ _ | refine blk_drew ?_ | refine blk_alloc ?_ _)); refine blk_far ?_ NB292_299.out _; (with_reducible repeat (first | refine blk_drewN ?_ _ | refine blk_drew ?_ | refine blk_alloc ?_ _)); exact BK292.out⟩, ⟨by (with_reducible repeat (first | refine blk_drewN ?_ _ | refine blk_drew ?_ | refine blk_alloc ?_ _)); refine blk_put (cs := #[.int .i64 t302, .int .i64 t303, .bool x300002_2]) ?_ 2 _ rfl; (with_reducible repeat (first | refine blk_drewN ?_ _ | refine blk_drew ?_ | refine blk_alloc ?_ _)); refine blk_put (cs := #[.int .i64 t302, .int .i64 x300001_2, .bool x300002_2]) ?_ 1 _ rfl; (with_reducible repeat (first | refine blk_drewN ?_ _ | refine blk_drew ?_ | refine blk_alloc ?_ _)); refine blk_put (cs := #[.int .i64 x300000_2, .int .i64 x300001_2, .bool x300002_2]) ?_ 0 _ rfl; (with_reducible repeat (first | refine blk_drewN ?_ _ | refine blk_drew ?_ | refine blk_alloc ?_ _)); exact BK299.out⟩, ⟨by repeat (first | (with_reducible first | exact HB.out | apply below_alloc | apply pw_below_drewN | apply below_drew1 | refine below_set ?_ GE291.out | refine below_set ?_ GE292.out | refine below_set ?_ GE299.out | refine below_set ?_ GE305.out) | exact HB.out)⟩⟩
                    · rw [if_neg c40] at H
                      exact absurd H (by simp)
                  · rw [if_neg c39] at H
                    exact absurd H (by simp)
            · rw [if_neg c35] at H
              have c35b0 : decide (x14_2 < (l2.length : Int)) = false := decide_eq_false c35
              clear c35
              obtain rfl := Option.some.inj H
              go_wp2
              go_ret
              exact ⟨by first | rfl | (simp [errW_none, errW_some] <;> rfl) | (simp [*, errW_none, errW_some] <;> rfl), by repeat (first | (with_reducible first | exact HB.out | apply below_alloc | apply pw_below_drewN | apply below_drew1 | refine below_set ?_ GE291.out | refine below_set ?_ GE292.out | refine below_set ?_ GE299.out) | exact HB.out)⟩

end Go.Proofs.Ytnipomnkjegebaa.PAll
