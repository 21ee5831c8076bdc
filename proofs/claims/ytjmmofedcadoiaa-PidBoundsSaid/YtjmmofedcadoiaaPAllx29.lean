-- laid by a program of this session (tprint.py) out of the translation and of texts typed by hand; Lean checks it
import Derived.Test.YtjmmofedcadoiaaPAllx0
import Derived.Test.YtjmmofedcadoiaaPAllx24
import Derived.Test.YtjmmofedcadoiaaPAllx25
namespace Go.Proofs.Ytjmmofedcadoiaa.PAll
open Go.RowKit Go.Proofs.YtjmmofedcadoiaaW.PrintWords Go.Proofs.YtjmmofedcadoiaaW.PrintLast Go.Proofs.YtjmmofedcadoiaaW.PrintMore
attribute [local go_sem] max2_int min2_int max_two min_two max_three min_three max_four min_four   -- for this text's walks alone
set_option linter.unusedVariables false
set_option linter.unusedSimpArgs false

/-! ### governorlaw12_PidBounds: function 10 -/
def governorlaw12_PidBounds.l0 : Nat → List Int → Bool → Int → Int → Int → List (S29) → Int → Int → Int → Int → List (S71) → Int → Int → Bool → Option (Bool)
  | 0, _, _, _, _, _, _, _, _, _, _, _, _, _, _ => none
  | k + 1, x2, x7, x8, x356000, x356001, x356002, x356003, x356004, x356005, x356006, x356007, x357000, x357001, x357002 => if x8 < (x2.length : Int) then (if 0 ≤ x8 then ((pid_Next.f k x356000 x356001 x356002 x356003 x356004 x356005 x356006 x356007 x357000 x357001 x357002 (rd x2 x8)).bind fun bt359 => (if bt359.1 > 1000000000 then (some false) else (if bt359.1 < (-1000000000) then (some false) else (if bt359.2.1 > 1000000000 then (some false) else (if bt359.2.1 < (-1000000000) then (some false) else (if bt359.2.2.1 = true then (if bt359.2.2.2 > 1000 then (some false) else (if bt359.2.2.2 < (-1000) then (some false) else (governorlaw12_PidBounds.l0 k x2 x7 (wrap64 (x8 + 1)) x356000 x356001 x356002 x356003 x356004 x356005 x356006 x356007 bt359.1 bt359.2.1 bt359.2.2.1))) else (some false))))))) else (none)) else (some x7)
def governorlaw12_PidBounds.f (k : Nat) (a0_0 : Int) (a0_1 : Int) (l0_2 : List (S29)) (a0_3 : Int) (a0_4 : Int) (a0_5 : Int) (a0_6 : Int) (l0_7 : List (S71)) (a1_0 : Int) (a1_1 : Int) (a1_2 : Bool) (l2 : List Int) : Option (Bool) := (governorlaw12_head.f k).bind fun t357 => (if (l2.length : Int) > 900 then (some t357) else (governorlaw12_PidBounds.l0 k l2 t357 0 a0_0 a0_1 l0_2 a0_3 a0_4 a0_5 a0_6 l0_7 a1_0 a1_1 a1_2))
theorem governorlaw12_PidBounds.mono_l : ∀ k, (∀ y0 y1 y2 y3 y4 y5 y6 y7 y8 y9 y10 y11 y12 y13, LeO (governorlaw12_PidBounds.l0 k y0 y1 y2 y3 y4 y5 y6 y7 y8 y9 y10 y11 y12 y13) (governorlaw12_PidBounds.l0 (k + 1) y0 y1 y2 y3 y4 y5 y6 y7 y8 y9 y10 y11 y12 y13))
  | 0 => fun _ _ _ _ _ _ _ _ _ _ _ _ _ _ r h => by simp [governorlaw12_PidBounds.l0] at h
  | k + 1 => by
    have ih0 := governorlaw12_PidBounds.mono_l k
    · intro y0 y1 y2 y3 y4 y5 y6 y7 y8 y9 y10 y11 y12 y13
      unfold governorlaw12_PidBounds.l0
      repeat' first
      | (with_reducible exact ih0 _ _ _ _ _ _ _ _ _ _ _ _ _ _)
      | (with_reducible exact governorlaw12_head.mono _)
      | (with_reducible exact pid_Next.mono _ _ _ _ _ _ _ _ _ _ _ _ _)
      | (with_reducible exact LeO.refl _)
      | (with_reducible exact LeO.none _)
      | (with_reducible refine LeO.ite ?_ ?_)
      | (with_reducible refine LeO.bind ?_ (fun _ => ?_))
      | exact ih0 _ _ _ _ _ _ _ _ _ _ _ _ _ _
      | exact governorlaw12_head.mono _
      | exact pid_Next.mono _ _ _ _ _ _ _ _ _ _ _ _ _
      | exact LeO.none _
      | refine LeO.ite ?_ ?_
      | refine LeO.bind ?_ (fun _ => ?_)
theorem governorlaw12_PidBounds.mono : ∀ a0 a1 a2 a3 a4 a5 a6 a7 a8 a9 a10 a11 k, LeO (governorlaw12_PidBounds.f k a0 a1 a2 a3 a4 a5 a6 a7 a8 a9 a10 a11) (governorlaw12_PidBounds.f (k + 1) a0 a1 a2 a3 a4 a5 a6 a7 a8 a9 a10 a11) := by
  intro a0 a1 a2 a3 a4 a5 a6 a7 a8 a9 a10 a11 k
  have ih0 := governorlaw12_PidBounds.mono_l k
  unfold governorlaw12_PidBounds.f
  repeat' first
      | (with_reducible exact ih0 _ _ _ _ _ _ _ _ _ _ _ _ _ _)
      | (with_reducible exact governorlaw12_head.mono _)
      | (with_reducible exact pid_Next.mono _ _ _ _ _ _ _ _ _ _ _ _ _)
      | (with_reducible exact LeO.refl _)
      | (with_reducible exact LeO.none _)
      | (with_reducible refine LeO.ite ?_ ?_)
      | (with_reducible refine LeO.bind ?_ (fun _ => ?_))
      | exact ih0 _ _ _ _ _ _ _ _ _ _ _ _ _ _
      | exact governorlaw12_head.mono _
      | exact pid_Next.mono _ _ _ _ _ _ _ _ _ _ _ _ _
      | exact LeO.none _
      | refine LeO.ite ?_ ?_
      | refine LeO.bind ?_ (fun _ => ?_)
def governorlaw12_PidBounds.T7 : Bool × List (List Nat × List Nat) := (true, [([], []), ([], []), ([], []), ([], []), ([2, 3], [2, 3]), ([4], [4]), ([0, 1, 5], [0, 1, 5]), ([6], [6]), ([7], [7]), ([7], [7]), ([], []), ([10, 8, 6, 0, 1, 2, 3, 4, 5, 6, 7, 8, 10], [8, 10]), ([9, 11, 0, 1, 2, 3, 4, 5, 6, 7, 8, 9, 10, 11], [9])])
def governorlaw12_PidBounds.B7 : List Nat := [0, 0, 0, 0, 12, 28, 63, 127, 255, 255, 0, 1535, 4095]
theorem governorlaw12_PidBounds.tab7 : rtab .any (opsOf Try.f10 7) = governorlaw12_PidBounds.T7 := by kernel_rfl
theorem governorlaw12_PidBounds.bits7 : waitsOk governorlaw12_PidBounds.T7.2 governorlaw12_PidBounds.B7 = true := by kernel_rfl
set_option maxHeartbeats 8000000 in
set_option maxRecDepth 100000 in
theorem governorlaw12_PidBounds.calls (k : Nat) (a0_0 : Int) (a0_1 : Int) (A0_2 : Option Addr) (c0_2 : Nat) (l0_2 : List (S29)) (a0_3 : Int) (a0_4 : Int) (a0_5 : Int) (a0_6 : Int) (A0_7 : Option Addr) (c0_7 : Nat) (l0_7 : List (S71)) (a1_0 : Int) (a1_1 : Int) (a1_2 : Bool) (A2 : Option Addr) (c2 : Nat) (l2 : List Int) (r : Bool) (w : World) (hr0_2 : Kd.C k29 w A0_2 l0_2.length l0_2) (hc0_2 : l0_2.length ≤ c0_2) (hr0_7 : Kd.C k71 w A0_7 l0_7.length l0_7) (hc0_7 : l0_7.length ≤ c0_7) (hr2 : Kd.C (Kd.int .i64) w A2 l2.length l2) (hc2 : l2.length ≤ c2) (hrT : r = true) (h : governorlaw12_PidBounds.f k a0_0 a0_1 l0_2 a0_3 a0_4 a0_5 a0_6 l0_7 a1_0 a1_1 a1_2 l2 = some r) :
    Calls Try.prog 10 #[.agg #[.int .i64 a0_0, .int .i64 a0_1, .slice A0_2 l0_2.length c0_2, .int .i64 a0_3, .int .i64 a0_4, .int .i64 a0_5, .int .i64 a0_6, .slice A0_7 l0_7.length c0_7], .agg #[.int .i64 a1_0, .int .i64 a1_1, .bool a1_2], .slice A2 l2.length c2] w fun e w' => e = .returned (.bool r) ∧ Below w.heap.size w w' := by
  have hu42 := Try.underlying42
  have hu37 := Try.underlying37
  have HR0_2 := Aside0.mk hr0_2
  have HC0_2 := Aside0.mk hc0_2
  clear hr0_2 hc0_2
  have HR0_7 := Aside0.mk hr0_7
  have HC0_7 := Aside0.mk hc0_7
  clear hr0_7 hc0_7
  have HR2 := Aside0.mk hr2
  have HC2 := Aside0.mk hc2
  clear hr2 hc2
  have HB := Aside0.mk (Below.refl w.heap.size w)
  have HRT := Aside0.mk hrT
  clear hrT
  have H : ((governorlaw12_head.f k).bind fun t357 => (if (l2.length : Int) > 900 then (some t357) else (governorlaw12_PidBounds.l0 k l2 t357 0 a0_0 a0_1 l0_2 a0_3 a0_4 a0_5 a0_6 l0_7 a1_0 a1_1 a1_2))) = some r := h
  clear h
  replace H := Option.bind_eq_some_iff.mp H
  obtain ⟨t357, A40, H⟩ := H
  replace H : (if (l2.length : Int) > 900 then (some t357) else (governorlaw12_PidBounds.l0 k l2 t357 0 a0_0 a0_1 l0_2 a0_3 a0_4 a0_5 a0_6 l0_7 a1_0 a1_1 a1_2)) = some r := H
  have A4 := Aside0.mk A40
  clear A40
  by_cases c5 : (l2.length : Int) > 900
  · rw [if_pos c5] at H
    have c5b0 : decide (900 < (l2.length : Int)) = true := decide_eq_true c5
    have c5b1 : decide (900 < l2.length) = true := decide_eq_true (by omega)
    clear c5
    obtain rfl := Option.some.inj H
    go_enter Try.func10, Try.ntmps10
    go_wp2_with (first | ((with_reducible refine gate_dst (N := 3) rfl ?_); refine box_event ?hg (N := 3) ?hd (cs := #[.int .i64 a0_0, .int .i64 a0_1, .slice A0_2 l0_2.length c0_2, .int .i64 a0_3, .int .i64 a0_4, .int .i64 a0_5, .int .i64 a0_6, .slice A0_7 l0_7.length c0_7]) (t := 42) ?hr ?_; (case hd => rfl); (case hg => rfl); (case hr => first | (go_simp; done) | (go_simp; rfl)); intro gb355 hg w6 hbox hb; have n0_ := Aside0.mk (below_step (by repeat (first | (with_reducible first | exact HB.out | apply below_alloc | apply pw_below_drewN | apply below_drew1) | exact HB.out)) hb); have n1_ := Aside0.mk (hbox); have n2_ := Aside0.mk ((by rw [hg]; exact (below_size (by repeat (first | (with_reducible first | exact HB.out | apply below_alloc | apply pw_below_drewN | apply below_drew1) | exact HB.out))) : w.heap.size ≤ gb355)); have n3_ := Aside0.mk ((by rw [hg]; exact (below_size (by repeat (first | (with_reducible first | exact HB.out | apply below_alloc | apply pw_below_drewN | apply below_drew1) | exact HB.out))) : w.heap.size ≤ gb355)); clear HB; have HB := n0_; have BK355 := n1_; have GW355 := n2_; have GE355 := n3_; clear n0_ n1_ n2_ n3_; clear hb hbox hg) | ((with_reducible refine gate_dst (N := 4) rfl ?_); refine box_event ?hg (N := 4) ?hd (cs := #[.int .i64 a1_0, .int .i64 a1_1, .bool a1_2]) (t := 37) ?hr ?_; (case hd => rfl); (case hg => rfl); (case hr => first | (go_simp; done) | (go_simp; rfl)); intro gb356 hg w7 hbox hb; have n0_ := Aside0.mk (blk_below (g := gb355) (o := .cells #[.int .i64 a0_0, .int .i64 a0_1, .slice A0_2 l0_2.length c0_2, .int .i64 a0_3, .int .i64 a0_4, .int .i64 a0_5, .int .i64 a0_6, .slice A0_7 l0_7.length c0_7] 42 (0, 0)) (by (with_reducible repeat (first | refine blk_drewN ?_ _ | refine blk_drew ?_ | refine blk_alloc ?_ _)); exact BK355.out) hb); have n1_ := Aside0.mk (below_step (by repeat (first | (with_reducible first | exact HB.out | apply below_alloc | apply pw_below_drewN | apply below_drew1 | refine below_set ?_ GE355.out) | exact HB.out)) hb); have n2_ := Aside0.mk (hbox); have n3_ := Aside0.mk ((by rw [hg]; exact (below_size (by repeat (first | (with_reducible first | exact HB.out | apply below_alloc | apply pw_below_drewN | apply below_drew1 | refine below_set ?_ GE355.out) | exact HB.out))) : w.heap.size ≤ gb356)); have n4_ := Aside0.mk ((by rw [hg]; exact (below_size (by repeat (first | (with_reducible first | exact HB.out | apply below_alloc | apply pw_below_drewN | apply below_drew1 | refine below_set ?_ GE355.out) | exact HB.out))) : w.heap.size ≤ gb356)); have n5_ := Aside0.mk ((by rw [hg]; exact Nat.ne_of_lt (blk_lt (g := gb355) (o := .cells #[.int .i64 a0_0, .int .i64 a0_1, .slice A0_2 l0_2.length c0_2, .int .i64 a0_3, .int .i64 a0_4, .int .i64 a0_5, .int .i64 a0_6, .slice A0_7 l0_7.length c0_7] 42 (0, 0)) (by (with_reducible repeat (first | refine blk_drewN ?_ _ | refine blk_drew ?_ | refine blk_alloc ?_ _)); exact BK355.out)) : gb355 ≠ gb356)); have n6_ := Aside0.mk ((by rw [hg]; exact Nat.ne_of_gt (blk_lt (g := gb355) (o := .cells #[.int .i64 a0_0, .int .i64 a0_1, .slice A0_2 l0_2.length c0_2, .int .i64 a0_3, .int .i64 a0_4, .int .i64 a0_5, .int .i64 a0_6, .slice A0_7 l0_7.length c0_7] 42 (0, 0)) (by (with_reducible repeat (first | refine blk_drewN ?_ _ | refine blk_drew ?_ | refine blk_alloc ?_ _)); exact BK355.out)) : gb356 ≠ gb355)); clear BK355; clear HB; have BK355 := n0_; have HB := n1_; have BK356 := n2_; have GW356 := n3_; have GE356 := n4_; have NB355_356 := n5_; have NB356_355 := n6_; clear n0_ n1_ n2_ n3_ n4_ n5_ n6_; clear hb hbox hg) | ((with_reducible refine gate_callee (f := 21) rfl ?_); refine goesL_ (some 11) rfl rfl Try.func21 (by kernel_rfl) rfl #[] rfl (by (try simp only [List.map_toArray, List.map_cons, List.map_nil]); first | done | rfl | (simp only [List.length_drop, List.length_take]; rfl)) ?_; (with_reducible refine (governorlaw12_head.calls k  t357 _ A4.out).mono ?_); rintro e w8 ⟨rfl, hb⟩; refine ⟨_, rfl, ?_⟩; have n0_ := Aside0.mk (blk_below (g := gb355) (o := .cells #[.int .i64 a0_0, .int .i64 a0_1, .slice A0_2 l0_2.length c0_2, .int .i64 a0_3, .int .i64 a0_4, .int .i64 a0_5, .int .i64 a0_6, .slice A0_7 l0_7.length c0_7] 42 (0, 0)) (by (with_reducible repeat (first | refine blk_drewN ?_ _ | refine blk_drew ?_ | refine blk_alloc ?_ _)); exact BK355.out) hb); have n1_ := Aside0.mk (blk_below (g := gb356) (o := .cells #[.int .i64 a1_0, .int .i64 a1_1, .bool a1_2] 37 (0, 0)) (by (with_reducible repeat (first | refine blk_drewN ?_ _ | refine blk_drew ?_ | refine blk_alloc ?_ _)); exact BK356.out) hb); have n2_ := Aside0.mk (below_step (by repeat (first | (with_reducible first | exact HB.out | apply below_alloc | apply pw_below_drewN | apply below_drew1 | refine below_set ?_ GE355.out | refine below_set ?_ GE356.out) | exact HB.out)) hb); clear BK355; clear BK356; clear HB; have BK355 := n0_; have BK356 := n1_; have HB := n2_; clear n0_ n1_ n2_; (try clear hb); (try clear hb2); (try clear hk); (try clear hi)))
    go_ret
    exact ⟨by first | rfl | (simp [errW_none, errW_some] <;> rfl) | (simp [*, errW_none, errW_some] <;> rfl), by repeat (first | (with_reducible first | exact HB.out | apply below_alloc | apply pw_below_drewN | apply below_drew1 | refine below_set ?_ GE355.out | refine below_set ?_ GE356.out) | exact HB.out)⟩
  · rw [if_neg c5] at H
    have c5b0 : decide (900 < (l2.length : Int)) = false := decide_eq_false c5
    have c5b1 : decide (900 < l2.length) = false := decide_eq_false (by omega)
    clear c5
    have H' := Aside0.mk H
    clear H
    go_enter Try.func10, Try.ntmps10
    go_wp2_with (first | ((with_reducible refine gate_dst (N := 3) rfl ?_); refine box_event ?hg (N := 3) ?hd (cs := #[.int .i64 a0_0, .int .i64 a0_1, .slice A0_2 l0_2.length c0_2, .int .i64 a0_3, .int .i64 a0_4, .int .i64 a0_5, .int .i64 a0_6, .slice A0_7 l0_7.length c0_7]) (t := 42) ?hr ?_; (case hd => rfl); (case hg => rfl); (case hr => first | (go_simp; done) | (go_simp; rfl)); intro gb355 hg w9 hbox hb; have n0_ := Aside0.mk (below_step (by repeat (first | (with_reducible first | exact HB.out | apply below_alloc | apply pw_below_drewN | apply below_drew1) | exact HB.out)) hb); have n1_ := Aside0.mk (hbox); have n2_ := Aside0.mk ((by rw [hg]; exact (below_size (by repeat (first | (with_reducible first | exact HB.out | apply below_alloc | apply pw_below_drewN | apply below_drew1) | exact HB.out))) : w.heap.size ≤ gb355)); have n3_ := Aside0.mk ((by rw [hg]; exact (below_size (by repeat (first | (with_reducible first | exact HB.out | apply below_alloc | apply pw_below_drewN | apply below_drew1) | exact HB.out))) : w.heap.size ≤ gb355)); clear HB; have HB := n0_; have BK355 := n1_; have GW355 := n2_; have GE355 := n3_; clear n0_ n1_ n2_ n3_; clear hb hbox hg) | ((with_reducible refine gate_dst (N := 4) rfl ?_); refine box_event ?hg (N := 4) ?hd (cs := #[.int .i64 a1_0, .int .i64 a1_1, .bool a1_2]) (t := 37) ?hr ?_; (case hd => rfl); (case hg => rfl); (case hr => first | (go_simp; done) | (go_simp; rfl)); intro gb356 hg w10 hbox hb; have n0_ := Aside0.mk (blk_below (g := gb355) (o := .cells #[.int .i64 a0_0, .int .i64 a0_1, .slice A0_2 l0_2.length c0_2, .int .i64 a0_3, .int .i64 a0_4, .int .i64 a0_5, .int .i64 a0_6, .slice A0_7 l0_7.length c0_7] 42 (0, 0)) (by (with_reducible repeat (first | refine blk_drewN ?_ _ | refine blk_drew ?_ | refine blk_alloc ?_ _)); exact BK355.out) hb); have n1_ := Aside0.mk (below_step (by repeat (first | (with_reducible first | exact HB.out | apply below_alloc | apply pw_below_drewN | apply below_drew1 | refine below_set ?_ GE355.out) | exact HB.out)) hb); have n2_ := Aside0.mk (hbox); have n3_ := Aside0.mk ((by rw [hg]; exact (below_size (by repeat (first | (with_reducible first | exact HB.out | apply below_alloc | apply pw_below_drewN | apply below_drew1 | refine below_set ?_ GE355.out) | exact HB.out))) : w.heap.size ≤ gb356)); have n4_ := Aside0.mk ((by rw [hg]; exact (below_size (by repeat (first | (with_reducible first | exact HB.out | apply below_alloc | apply pw_below_drewN | apply below_drew1 | refine below_set ?_ GE355.out) | exact HB.out))) : w.heap.size ≤ gb356)); have n5_ := Aside0.mk ((by rw [hg]; exact Nat.ne_of_lt (blk_lt (g := gb355) (o := .cells #[.int .i64 a0_0, .int .i64 a0_1, .slice A0_2 l0_2.length c0_2, .int .i64 a0_3, .int .i64 a0_4, .int .i64 a0_5, .int .i64 a0_6, .slice A0_7 l0_7.length c0_7] 42 (0, 0)) (by (with_reducible repeat (first | refine blk_drewN ?_ _ | refine blk_drew ?_ | refine blk_alloc ?_ _)); exact BK355.out)) : gb355 ≠ gb356)); have n6_ := Aside0.mk ((by rw [hg]; exact Nat.ne_of_gt (blk_lt (g := gb355) (o := .cells #[.int .i64 a0_0, .int .i64 a0_1, .slice A0_2 l0_2.length c0_2, .int .i64 a0_3, .int .i64 a0_4, .int .i64 a0_5, .int .i64 a0_6, .slice A0_7 l0_7.length c0_7] 42 (0, 0)) (by (with_reducible repeat (first | refine blk_drewN ?_ _ | refine blk_drew ?_ | refine blk_alloc ?_ _)); exact BK355.out)) : gb356 ≠ gb355)); clear BK355; clear HB; have BK355 := n0_; have HB := n1_; have BK356 := n2_; have GW356 := n3_; have GE356 := n4_; have NB355_356 := n5_; have NB356_355 := n6_; clear n0_ n1_ n2_ n3_ n4_ n5_ n6_; clear hb hbox hg) | ((with_reducible refine gate_callee (f := 21) rfl ?_); refine goesL_ (some 11) rfl rfl Try.func21 (by kernel_rfl) rfl #[] rfl (by (try simp only [List.map_toArray, List.map_cons, List.map_nil]); first | done | rfl | (simp only [List.length_drop, List.length_take]; rfl)) ?_; (with_reducible refine (governorlaw12_head.calls k  t357 _ A4.out).mono ?_); rintro e w11 ⟨rfl, hb⟩; refine ⟨_, rfl, ?_⟩; have n0_ := Aside0.mk (blk_below (g := gb355) (o := .cells #[.int .i64 a0_0, .int .i64 a0_1, .slice A0_2 l0_2.length c0_2, .int .i64 a0_3, .int .i64 a0_4, .int .i64 a0_5, .int .i64 a0_6, .slice A0_7 l0_7.length c0_7] 42 (0, 0)) (by (with_reducible repeat (first | refine blk_drewN ?_ _ | refine blk_drew ?_ | refine blk_alloc ?_ _)); exact BK355.out) hb); have n1_ := Aside0.mk (blk_below (g := gb356) (o := .cells #[.int .i64 a1_0, .int .i64 a1_1, .bool a1_2] 37 (0, 0)) (by (with_reducible repeat (first | refine blk_drewN ?_ _ | refine blk_drew ?_ | refine blk_alloc ?_ _)); exact BK356.out) hb); have n2_ := Aside0.mk (below_step (by repeat (first | (with_reducible first | exact HB.out | apply below_alloc | apply pw_below_drewN | apply below_drew1 | refine below_set ?_ GE355.out | refine below_set ?_ GE356.out) | exact HB.out)) hb); clear BK355; clear BK356; clear HB; have BK355 := n0_; have BK356 := n1_; have HB := n2_; clear n0_ n1_ n2_; (try clear hb); (try clear hb2); (try clear hk); (try clear hi)))
    go_loopg [8] k (fun kq v8 w' => ∃ (x8_1 : Int) (x357000_1 : Int) (x357001_1 : Int) (x357002_1 : Bool), v8 = .int .i64 x8_1 ∧ Aside0 (governorlaw12_PidBounds.l0 kq l2 t357 x8_1 a0_0 a0_1 l0_2 a0_3 a0_4 a0_5 a0_6 l0_7 x357000_1 x357001_1 x357002_1 = some r) ∧ Aside0 (kq ≤ k) ∧ Aside0 (w'.heap[gb355]? = some (.cells #[.int .i64 a0_0, .int .i64 a0_1, (.slice A0_2 l0_2.length c0_2), .int .i64 a0_3, .int .i64 a0_4, .int .i64 a0_5, .int .i64 a0_6, (.slice A0_7 l0_7.length c0_7)] 42 (0, 0))) ∧ Aside0 (w'.heap[gb356]? = some (.cells #[.int .i64 x357000_1, .int .i64 x357001_1, .bool x357002_1] 37 (0, 0))) ∧ Aside0 (Below w.heap.size w w'))
    case atStart => exact ⟨(0), (a1_0), (a1_1), (a1_2), (by first | rfl | (simp; done) | (simp [*]; done)), H', ⟨Nat.le_refl _⟩, ⟨by (with_reducible repeat (first | refine blk_drewN ?_ _ | refine blk_drew ?_ | refine blk_alloc ?_ _)); exact BK355.out⟩, ⟨by (with_reducible repeat (first | refine blk_drewN ?_ _ | refine blk_drew ?_ | refine blk_alloc ?_ _)); exact BK356.out⟩, ⟨by repeat (first | (with_reducible first | exact HB.out | apply below_alloc | apply pw_below_drewN | apply below_drew1 | refine below_set ?_ GE355.out | refine below_set ?_ GE356.out) | exact HB.out)⟩⟩
    case round =>
      clear H'
      try clear c1
      try clear c2
      try clear p2
      try clear c5
      try clear c5b0
      try clear c5b1
      try clear c10
      obtain ⟨x8_1, x357000_1, x357001_1, x357002_1, rfl, HA, HK1, BK355, BK356, HB⟩ := hrel
      cases gk with
      | zero => exact absurd HA.out (by simp [governorlaw12_PidBounds.l0])
      | succ k1 =>
        have H := HA.out
        clear HA
        simp only [governorlaw12_PidBounds.l0] at H
        by_cases c12 : x8_1 < (l2.length : Int)
        · rw [if_pos c12] at H
          have c12b0 : decide (x8_1 < (l2.length : Int)) = true := decide_eq_true c12
          clear c12
          by_cases c13 : 0 ≤ x8_1
          · rw [if_pos c13] at H
            have c13b0 : decide (0 ≤ x8_1) = true := decide_eq_true c13
            clear c13
            replace H := Option.bind_eq_some_iff.mp H
            obtain ⟨⟨t359, t360, t361, t362⟩, A140, H⟩ := H
            replace H : (if t359 > 1000000000 then (some false) else (if t359 < (-1000000000) then (some false) else (if t360 > 1000000000 then (some false) else (if t360 < (-1000000000) then (some false) else (if t361 = true then (if t362 > 1000 then (some false) else (if t362 < (-1000) then (some false) else (governorlaw12_PidBounds.l0 k1 l2 t357 (wrap64 (x8_1 + 1)) a0_0 a0_1 l0_2 a0_3 a0_4 a0_5 a0_6 l0_7 t359 t360 t361))) else (some false)))))) = some r := H
            have A14 := Aside0.mk A140
            clear A140
            by_cases c15 : t359 > 1000000000
            · rw [if_pos c15] at H
              have c15b0 : decide (1000000000 < t359) = true := decide_eq_true c15
              clear c15
              exact absurd (Option.some.inj H) (by rw [HRT.out]; decide)
            · rw [if_neg c15] at H
              have c15b0 : decide (1000000000 < t359) = false := decide_eq_false c15
              clear c15
              by_cases c16 : t359 < (-1000000000)
              · rw [if_pos c16] at H
                have c16b0 : decide (t359 < (-1000000000)) = true := decide_eq_true c16
                clear c16
                exact absurd (Option.some.inj H) (by rw [HRT.out]; decide)
              · rw [if_neg c16] at H
                have c16b0 : decide (t359 < (-1000000000)) = false := decide_eq_false c16
                clear c16
                by_cases c17 : t360 > 1000000000
                · rw [if_pos c17] at H
                  have c17b0 : decide (1000000000 < t360) = true := decide_eq_true c17
                  clear c17
                  exact absurd (Option.some.inj H) (by rw [HRT.out]; decide)
                · rw [if_neg c17] at H
                  have c17b0 : decide (1000000000 < t360) = false := decide_eq_false c17
                  clear c17
                  by_cases c18 : t360 < (-1000000000)
                  · rw [if_pos c18] at H
                    have c18b0 : decide (t360 < (-1000000000)) = true := decide_eq_true c18
                    clear c18
                    exact absurd (Option.some.inj H) (by rw [HRT.out]; decide)
                  · rw [if_neg c18] at H
                    have c18b0 : decide (t360 < (-1000000000)) = false := decide_eq_false c18
                    clear c18
                    by_cases c19 : t361 = true
                    · subst c19
                      have H1 : (if t362 > 1000 then (some false) else (if t362 < (-1000) then (some false) else (governorlaw12_PidBounds.l0 k1 l2 t357 (wrap64 (x8_1 + 1)) a0_0 a0_1 l0_2 a0_3 a0_4 a0_5 a0_6 l0_7 t359 t360 true))) = some r := by rw [if_pos rfl] at H; exact H
                      clear H
                      have H := H1
                      clear H1
                      by_cases c20 : t362 > 1000
                      · rw [if_pos c20] at H
                        have c20b0 : decide (1000 < t362) = true := decide_eq_true c20
                        clear c20
                        exact absurd (Option.some.inj H) (by rw [HRT.out]; decide)
                      · rw [if_neg c20] at H
                        have c20b0 : decide (1000 < t362) = false := decide_eq_false c20
                        clear c20
                        by_cases c21 : t362 < (-1000)
                        · rw [if_pos c21] at H
                          have c21b0 : decide (t362 < (-1000)) = true := decide_eq_true c21
                          clear c21
                          exact absurd (Option.some.inj H) (by rw [HRT.out]; decide)
                        · rw [if_neg c21] at H
                          have c21b0 : decide (t362 < (-1000)) = false := decide_eq_false c21
                          clear c21
                          have H' := Aside0.mk H
                          clear H
                          try go_wp2
                          have n0_ := Aside0.mk (blk_drew BK355.out)
                          have n1_ := Aside0.mk (blk_drew BK356.out)
                          have n2_ := Aside0.mk (below_drew1 HB.out)
                          clear BK355
                          clear BK356
                          clear HB
                          have BK355 := n0_
                          have BK356 := n1_
                          have HB := n2_
                          clear n0_ n1_ n2_
                          have p358 : 0 ≤ (x8_1 : Int) := of_decide_eq_true (by first | (with_reducible assumption) | assumption)
                          have q358 : x8_1 < (l2.length : Int) := of_decide_eq_true (by first | (with_reducible assumption) | assumption)
                          obtain ⟨ad358, e358, hx358_0⟩ := Kd.at_int HR2.out x8_1 p358 q358
                          have hw358_0 := hx358_0
                          cases e358
                          replace hx358_0 := (HB.out.cell (World.block_lt_of_cell? w _ hx358_0)).trans hx358_0
                          replace p358 := eq_true p358
                          replace q358 := eq_true q358
                          refine start_ (n := 13) (S := fun w' => w'.cell? ⟨gb355, 0, none⟩ = some (.int .i64 a0_0) ∧ w'.cell? ⟨gb355, 1, none⟩ = some (.int .i64 a0_1) ∧ w'.cell? ⟨gb355, 2, none⟩ = some (.slice A0_2 l0_2.length c0_2) ∧ w'.cell? ⟨gb355, 3, none⟩ = some (.int .i64 a0_3) ∧ w'.cell? ⟨gb355, 4, none⟩ = some (.int .i64 a0_4) ∧ w'.cell? ⟨gb355, 5, none⟩ = some (.int .i64 a0_5) ∧ w'.cell? ⟨gb355, 6, none⟩ = some (.int .i64 a0_6) ∧ w'.cell? ⟨gb355, 7, none⟩ = some (.slice A0_7 l0_7.length c0_7) ∧ w'.cell? ⟨gb356, 0, none⟩ = some (.int .i64 x357000_1) ∧ w'.cell? ⟨gb356, 1, none⟩ = some (.int .i64 x357001_1) ∧ w'.cell? ⟨gb356, 2, none⟩ = some (.bool x357002_1) ∧ w'.cell? (ad358.add (x8_1).toNat) = some (.int .i64 (rd l2 x8_1))) (ds := []) #[false, false, false, false, false, false, false, false, false, false, false, false, false] (by kernel_rfl) rfl rfl ⟨(blk_cell BK355.out 0).trans rfl, (blk_cell BK355.out 1).trans rfl, (blk_cell BK355.out 2).trans rfl, (blk_cell BK355.out 3).trans rfl, (blk_cell BK355.out 4).trans rfl, (blk_cell BK355.out 5).trans rfl, (blk_cell BK355.out 6).trans rfl, (blk_cell BK355.out 7).trans rfl, (blk_cell BK356.out 0).trans rfl, (blk_cell BK356.out 1).trans rfl, (blk_cell BK356.out 2).trans rfl, ((HB.out.cell (World.block_lt_of_cell? w _ hw358_0)).trans hw358_0)⟩ (fun hHeld => ?_); refine with_tabW governorlaw12_PidBounds.tab7 governorlaw12_PidBounds.bits7 (fun HT_ HW_ => ?_)
                          generalize wr.drew = w22 at BK355 BK356 HB hx358_0 hHeld ⊢
                          refine pure_ (i := 2) (N := some 25) (v := ?_) (a' := ?_) #[false, false, true, false, false, false, false, false, false, false, false, false, false] rfl rfl (any_of HT_.out (by kernel_rfl)) (fun _ _ _ h => h) (Or.inl ⟨by rfl, ?_⟩) ?_ ?_
                          rotate_left
                          · intro w'
                            go_simp
                            with_reducible rfl
                          rotate_left
                          · simp only [Act.put, List.setIfInBounds_toArray, List.set_cons_zero, List.set_cons_succ, i64_w, i32_w]
                            rfl
                          refine pure_ (i := 3) (N := some 26) (v := ?_) (a' := ?_) #[false, false, true, true, false, false, false, false, false, false, false, false, false] rfl rfl (any_of HT_.out (by kernel_rfl)) (fun _ _ _ h => h) (Or.inl ⟨by rfl, ?_⟩) ?_ ?_
                          rotate_left
                          · intro w'
                            go_simp
                            with_reducible rfl
                          rotate_left
                          · simp only [Act.put, List.setIfInBounds_toArray, List.set_cons_zero, List.set_cons_succ, i64_w, i32_w]
                            rfl
                          refine pure_ (i := 4) (N := some 27) (v := ?_) (a' := ?_) #[false, false, true, true, true, false, false, false, false, false, false, false, false] rfl rfl (any_of HT_.out (by kernel_rfl)) (fun _ _ _ h => h) (Or.inl ⟨by rfl, ?_⟩) ?_ ?_
                          rotate_left
                          · intro w'
                            go_simp
                            with_reducible rfl
                          rotate_left
                          · simp only [Act.put, List.setIfInBounds_toArray, List.set_cons_zero, List.set_cons_succ, i64_w, i32_w]
                            rfl
                          refine take_ (i := 0) (N := some 23) (v := ?_) (a' := ?_) #[true, false, true, true, true, false, false, false, false, false, false, false, false] rfl rfl (take_ofW HT_.out HW_.out (by kernel_rfl)) (fun _ _ _ h => h) (Or.inl ⟨by rfl, ?_⟩) hHeld ?_ ?_
                          rotate_left
                          · rintro w' ⟨s0, s1, s2, s3, s4, s5, s6, s7, s8, s9, s10, s11⟩
                            go_simp
                            with_reducible rfl
                          rotate_left
                          · simp only [Act.put, List.setIfInBounds_toArray, List.set_cons_zero, List.set_cons_succ, i64_w, i32_w]
                            rfl
                          refine take_ (i := 1) (N := some 24) (v := ?_) (a' := ?_) #[true, true, true, true, true, false, false, false, false, false, false, false, false] rfl rfl (take_ofW HT_.out HW_.out (by kernel_rfl)) (fun _ _ _ h => h) (Or.inl ⟨by rfl, ?_⟩) hHeld ?_ ?_
                          rotate_left
                          · rintro w' ⟨s0, s1, s2, s3, s4, s5, s6, s7, s8, s9, s10, s11⟩
                            go_simp
                            with_reducible rfl
                          rotate_left
                          · simp only [Act.put, List.setIfInBounds_toArray, List.set_cons_zero, List.set_cons_succ, i64_w, i32_w]
                            rfl
                          refine take_ (i := 5) (N := some 28) (v := ?_) (a' := ?_) #[true, true, true, true, true, true, false, false, false, false, false, false, false] rfl rfl (take_ofW HT_.out HW_.out (by kernel_rfl)) (fun _ _ _ h => h) (Or.inl ⟨by rfl, ?_⟩) hHeld ?_ ?_
                          rotate_left
                          · rintro w' ⟨s0, s1, s2, s3, s4, s5, s6, s7, s8, s9, s10, s11⟩
                            go_simp
                            with_reducible rfl
                          rotate_left
                          · simp only [Act.put, List.setIfInBounds_toArray, List.set_cons_zero, List.set_cons_succ, i64_w, i32_w]
                            rfl
                          refine join_ (σ := Nat) 2 #[true, true, true, true, true, true, true, true, true, true, true, false, false] (fun s_ => [(29, .tuple #[.agg #[.int .i64 t359, .int .i64 t360, .bool true], .int .i64 t362]), (9, .pointer (some ⟨s_, 0, none⟩)), (22, .tuple #[.agg #[.int .i64 t359, .int .i64 t360, .bool true], .int .i64 t362]), (30, .agg #[.int .i64 t359, .int .i64 t360, .bool true]), (31, .int .i64 t362)]) (fun s_ w' => (w'.cell? ⟨gb355, 0, none⟩ = some (.int .i64 a0_0) ∧ w'.cell? ⟨gb355, 1, none⟩ = some (.int .i64 a0_1) ∧ w'.cell? ⟨gb355, 2, none⟩ = some (.slice A0_2 l0_2.length c0_2) ∧ w'.cell? ⟨gb355, 3, none⟩ = some (.int .i64 a0_3) ∧ w'.cell? ⟨gb355, 4, none⟩ = some (.int .i64 a0_4) ∧ w'.cell? ⟨gb355, 5, none⟩ = some (.int .i64 a0_5) ∧ w'.cell? ⟨gb355, 6, none⟩ = some (.int .i64 a0_6) ∧ w'.cell? ⟨gb355, 7, none⟩ = some (.slice A0_7 l0_7.length c0_7) ∧ w'.cell? ⟨gb356, 0, none⟩ = some (.int .i64 x357000_1) ∧ w'.cell? ⟨gb356, 1, none⟩ = some (.int .i64 x357001_1) ∧ w'.cell? ⟨gb356, 2, none⟩ = some (.bool x357002_1) ∧ w'.cell? (ad358.add (x8_1).toNat) = some (.int .i64 (rd l2 x8_1))) ∧ (w'.heap[gb355]? = some (.cells #[.int .i64 a0_0, .int .i64 a0_1, .slice A0_2 l0_2.length c0_2, .int .i64 a0_3, .int .i64 a0_4, .int .i64 a0_5, .int .i64 a0_6, .slice A0_7 l0_7.length c0_7] 42 (0, 0))) ∧ (w'.heap[gb356]? = some (.cells #[.int .i64 x357000_1, .int .i64 x357001_1, .bool x357002_1] 37 (0, 0))) ∧ (w'.heap[s_]? = some (.cells #[.int .i64 0, .int .i64 0, .bool false] 37 (0, 0))) ∧ (w.heap.size ≤ s_) ∧ (w.heap.size ≤ s_) ∧ (gb355 ≠ s_) ∧ (s_ ≠ gb355) ∧ (gb356 ≠ s_) ∧ (s_ ≠ gb356) ∧ (Below w.heap.size w w')) ?_ ?_
                          rotate_left
                          · intro hCont
                            refine two_ (i := 6) (j := 10) (Ni := some 29) (Nj := some 9) #[true, true, true, true, true, true, true, false, false, false, false, false, false] #[true, true, true, true, true, true, false, false, false, false, true, false, false] rfl rfl rfl rfl (two_of HT_.out (by kernel_rfl)) (by decide) (by decide) (fun K hK => ?_) (fun K hK => ?_)
                            · skip
                              refine goes_ Try.func22 (by kernel_rfl) rfl #[.agg #[.int .i64 a0_0, .int .i64 a0_1, .slice A0_2 l0_2.length c0_2, .int .i64 a0_3, .int .i64 a0_4, .int .i64 a0_5, .int .i64 a0_6, .slice A0_7 l0_7.length c0_7], .agg #[.int .i64 x357000_1, .int .i64 x357001_1, .bool x357002_1], .int .i64 (rd l2 x8_1)] (by rfl) rfl rfl (by (try simp only [List.map_toArray, List.map_cons, List.map_nil]); first | done | rfl | (simp only [List.length_drop, List.length_take]; rfl)) ?_
                              with_reducible refine (pid_Next.calls k1 a0_0 a0_1 _ _ l0_2 a0_3 a0_4 a0_5 a0_6 _ _ l0_7 x357000_1 x357001_1 x357002_1 (rd l2 x8_1) t359 t360 true t362 _ ?side1 ?side2 ?side3 ?side4 A14.out).mono ?_
                              (case side1 => repeat (first | exact (Kd.C_below HR0_2.out HB.out) | (with_reducible refine Kd.C_alloc ?_ _) | (with_reducible refine Kd.C_drewN ?_ _) | (with_reducible refine Kd.C_drew ?_)))
                              (case side2 => exact HC0_2.out)
                              (case side3 => repeat (first | exact (Kd.C_below HR0_7.out HB.out) | (with_reducible refine Kd.C_alloc ?_ _) | (with_reducible refine Kd.C_drewN ?_ _) | (with_reducible refine Kd.C_drew ?_)))
                              (case side4 => exact HC0_7.out)
                              rintro e w23 ⟨rfl, hb⟩
                              refine ⟨_, rfl, ?_⟩
                              have n0_ := Aside0.mk (blk_below (g := gb355) (o := .cells #[.int .i64 a0_0, .int .i64 a0_1, .slice A0_2 l0_2.length c0_2, .int .i64 a0_3, .int .i64 a0_4, .int .i64 a0_5, .int .i64 a0_6, .slice A0_7 l0_7.length c0_7] 42 (0, 0)) (by (with_reducible repeat (first | refine blk_drewN ?_ _ | refine blk_drew ?_ | refine blk_alloc ?_ _)); exact BK355.out) hb)
                              have n1_ := Aside0.mk (blk_below (g := gb356) (o := .cells #[.int .i64 x357000_1, .int .i64 x357001_1, .bool x357002_1] 37 (0, 0)) (by (with_reducible repeat (first | refine blk_drewN ?_ _ | refine blk_drew ?_ | refine blk_alloc ?_ _)); exact BK356.out) hb)
                              have n2_ := Aside0.mk (below_step (by repeat (first | (with_reducible first | exact HB.out | apply below_alloc | apply pw_below_drewN | apply below_drew1 | refine below_set ?_ GE355.out | refine below_set ?_ GE356.out) | exact HB.out)) hb)
                              clear BK355
                              clear BK356
                              clear HB
                              have BK355 := n0_
                              have BK356 := n1_
                              have HB := n2_
                              clear n0_ n1_ n2_
                              (try clear hb)
                              (try clear hb2)
                              (try clear hk)
                              (try clear hi)
                              refine hK.out _ _ ⟨(blk_cell BK355.out 0).trans rfl, (blk_cell BK355.out 1).trans rfl, (blk_cell BK355.out 2).trans rfl, (blk_cell BK355.out 3).trans rfl, (blk_cell BK355.out 4).trans rfl, (blk_cell BK355.out 5).trans rfl, (blk_cell BK355.out 6).trans rfl, (blk_cell BK355.out 7).trans rfl, (blk_cell BK356.out 0).trans rfl, (blk_cell BK356.out 1).trans rfl, (blk_cell BK356.out 2).trans rfl, ((HB.out.cell (World.block_lt_of_cell? w _ hw358_0)).trans hw358_0)⟩ (fun hHeld => ?_)
                              clear hK K
                              refine norm_ (a' := ?_) ?_ ?_
                              rotate_left
                              · show Act.put _ (some 29) _ = _
                                simp only [Act.put, List.setIfInBounds_toArray, List.set_cons_zero, List.set_cons_succ, i64_w, i32_w]
                                rfl
                              refine pure_ (i := 7) (N := some 22) (v := ?_) (a' := ?_) #[true, true, true, true, true, true, true, true, false, false, false, false, false] rfl rfl (any_of HT_.out (by kernel_rfl)) (fun _ _ _ h => h) (Or.inl ⟨by rfl, ?_⟩) ?_ ?_
                              rotate_left
                              · intro w'
                                go_simp
                                with_reducible rfl
                              rotate_left
                              · simp only [Act.put, List.setIfInBounds_toArray, List.set_cons_zero, List.set_cons_succ, i64_w, i32_w]
                                rfl
                              refine pure_ (i := 8) (N := some 30) (v := ?_) (a' := ?_) #[true, true, true, true, true, true, true, true, true, false, false, false, false] rfl rfl (any_of HT_.out (by kernel_rfl)) (fun _ _ _ h => h) (Or.inl ⟨by rfl, ?_⟩) ?_ ?_
                              rotate_left
                              · intro w'
                                go_simp
                                with_reducible rfl
                              rotate_left
                              · simp only [Act.put, List.setIfInBounds_toArray, List.set_cons_zero, List.set_cons_succ, i64_w, i32_w]
                                rfl
                              refine pure_ (i := 9) (N := some 31) (v := ?_) (a' := ?_) #[true, true, true, true, true, true, true, true, true, true, false, false, false] rfl rfl (any_of HT_.out (by kernel_rfl)) (fun _ _ _ h => h) (Or.inl ⟨by rfl, ?_⟩) ?_ ?_
                              rotate_left
                              · intro w'
                                go_simp
                                with_reducible rfl
                              rotate_left
                              · simp only [Act.put, List.setIfInBounds_toArray, List.set_cons_zero, List.set_cons_succ, i64_w, i32_w]
                                rfl
                              refine one_ (i := 10) (N := some 9) #[true, true, true, true, true, true, true, true, true, true, true, false, false] rfl rfl (one_of HT_.out (by kernel_rfl)) (by decide) (fun K hK => ?_)
                              refine box_step ?hg (N := 9) ?hd (cs := #[.int .i64 0, .int .i64 0, .bool false]) (t := 37) ?hr ?_; (case hd => rfl); (case hg => rfl); (case hr => first | (go_simp; done) | (go_simp; rfl))
                              intro gb363 hg w24 hbox hb
                              have n0_ := Aside0.mk (blk_below (g := gb355) (o := .cells #[.int .i64 a0_0, .int .i64 a0_1, .slice A0_2 l0_2.length c0_2, .int .i64 a0_3, .int .i64 a0_4, .int .i64 a0_5, .int .i64 a0_6, .slice A0_7 l0_7.length c0_7] 42 (0, 0)) (by (with_reducible repeat (first | refine blk_drewN ?_ _ | refine blk_drew ?_ | refine blk_alloc ?_ _)); exact BK355.out) hb)
                              have n1_ := Aside0.mk (blk_below (g := gb356) (o := .cells #[.int .i64 x357000_1, .int .i64 x357001_1, .bool x357002_1] 37 (0, 0)) (by (with_reducible repeat (first | refine blk_drewN ?_ _ | refine blk_drew ?_ | refine blk_alloc ?_ _)); exact BK356.out) hb)
                              have n2_ := Aside0.mk (below_step (by repeat (first | (with_reducible first | exact HB.out | apply below_alloc | apply pw_below_drewN | apply below_drew1 | refine below_set ?_ GE355.out | refine below_set ?_ GE356.out) | exact HB.out)) hb)
                              have n3_ := Aside0.mk (hbox)
                              have n4_ := Aside0.mk ((by rw [hg]; exact (below_size (by repeat (first | (with_reducible first | exact HB.out | apply below_alloc | apply pw_below_drewN | apply below_drew1 | refine below_set ?_ GE355.out | refine below_set ?_ GE356.out) | exact HB.out))) : w.heap.size ≤ gb363))
                              have n5_ := Aside0.mk ((by rw [hg]; exact (below_size (by repeat (first | (with_reducible first | exact HB.out | apply below_alloc | apply pw_below_drewN | apply below_drew1 | refine below_set ?_ GE355.out | refine below_set ?_ GE356.out) | exact HB.out))) : w.heap.size ≤ gb363))
                              have n6_ := Aside0.mk ((by rw [hg]; exact Nat.ne_of_lt (blk_lt (g := gb355) (o := .cells #[.int .i64 a0_0, .int .i64 a0_1, .slice A0_2 l0_2.length c0_2, .int .i64 a0_3, .int .i64 a0_4, .int .i64 a0_5, .int .i64 a0_6, .slice A0_7 l0_7.length c0_7] 42 (0, 0)) (by (with_reducible repeat (first | refine blk_drewN ?_ _ | refine blk_drew ?_ | refine blk_alloc ?_ _)); exact BK355.out)) : gb355 ≠ gb363))
                              have n7_ := Aside0.mk ((by rw [hg]; exact Nat.ne_of_gt (blk_lt (g := gb355) (o := .cells #[.int .i64 a0_0, .int .i64 a0_1, .slice A0_2 l0_2.length c0_2, .int .i64 a0_3, .int .i64 a0_4, .int .i64 a0_5, .int .i64 a0_6, .slice A0_7 l0_7.length c0_7] 42 (0, 0)) (by (with_reducible repeat (first | refine blk_drewN ?_ _ | refine blk_drew ?_ | refine blk_alloc ?_ _)); exact BK355.out)) : gb363 ≠ gb355))
                              have n8_ := Aside0.mk ((by rw [hg]; exact Nat.ne_of_lt (blk_lt (g := gb356) (o := .cells #[.int .i64 x357000_1, .int .i64 x357001_1, .bool x357002_1] 37 (0, 0)) (by (with_reducible repeat (first | refine blk_drewN ?_ _ | refine blk_drew ?_ | refine blk_alloc ?_ _)); exact BK356.out)) : gb356 ≠ gb363))
                              have n9_ := Aside0.mk ((by rw [hg]; exact Nat.ne_of_gt (blk_lt (g := gb356) (o := .cells #[.int .i64 x357000_1, .int .i64 x357001_1, .bool x357002_1] 37 (0, 0)) (by (with_reducible repeat (first | refine blk_drewN ?_ _ | refine blk_drew ?_ | refine blk_alloc ?_ _)); exact BK356.out)) : gb363 ≠ gb356))
                              clear BK355
                              clear BK356
                              clear HB
                              have BK355 := n0_
                              have BK356 := n1_
                              have HB := n2_
                              have BK363 := n3_
                              have GW363 := n4_
                              have GE363 := n5_
                              have NB355_363 := n6_
                              have NB363_355 := n7_
                              have NB356_363 := n8_
                              have NB363_356 := n9_
                              clear n0_ n1_ n2_ n3_ n4_ n5_ n6_ n7_ n8_ n9_
                              clear hb hbox hg
                              refine hK.out _ _ ⟨(blk_cell BK355.out 0).trans rfl, (blk_cell BK355.out 1).trans rfl, (blk_cell BK355.out 2).trans rfl, (blk_cell BK355.out 3).trans rfl, (blk_cell BK355.out 4).trans rfl, (blk_cell BK355.out 5).trans rfl, (blk_cell BK355.out 6).trans rfl, (blk_cell BK355.out 7).trans rfl, (blk_cell BK356.out 0).trans rfl, (blk_cell BK356.out 1).trans rfl, (blk_cell BK356.out 2).trans rfl, ((HB.out.cell (World.block_lt_of_cell? w _ hw358_0)).trans hw358_0)⟩ (fun hHeld => ?_)
                              clear hK K
                              refine norm_ (a' := ?_) ?_ ?_
                              rotate_left
                              · show Act.put _ (some 9) _ = _
                                simp only [Act.put, List.setIfInBounds_toArray, List.set_cons_zero, List.set_cons_succ, i64_w, i32_w]
                                rfl
                              exact norm_ (by simp only [putAll, Act.put, List.setIfInBounds_toArray, List.set_cons_zero, List.set_cons_succ]) (hCont (gb363) _ ⟨hHeld, (by (with_reducible repeat (first | refine blk_drewN ?_ _ | refine blk_drew ?_ | refine blk_alloc ?_ _)); exact BK355.out), (by (with_reducible repeat (first | refine blk_drewN ?_ _ | refine blk_drew ?_ | refine blk_alloc ?_ _)); exact BK356.out), (by (with_reducible repeat (first | refine blk_drewN ?_ _ | refine blk_drew ?_ | refine blk_alloc ?_ _)); exact BK363.out), GW363.out, GE363.out, NB355_363.out, NB363_355.out, NB356_363.out, NB363_356.out, (by repeat (first | (with_reducible first | exact HB.out | apply below_alloc | apply pw_below_drewN | apply below_drew1 | refine below_set ?_ GE355.out | refine below_set ?_ GE356.out | refine below_set ?_ GE363.out) | exact HB.out))⟩)
                            · skip
                              refine box_step ?hg (N := 9) ?hd (cs := #[.int .i64 0, .int .i64 0, .bool false]) (t := 37) ?hr ?_; (case hd => rfl); (case hg => rfl); (case hr => first | (go_simp; done) | (go_simp; rfl))
                              intro gb363 hg w23 hbox hb
                              have n0_ := Aside0.mk (blk_below (g := gb355) (o := .cells #[.int .i64 a0_0, .int .i64 a0_1, .slice A0_2 l0_2.length c0_2, .int .i64 a0_3, .int .i64 a0_4, .int .i64 a0_5, .int .i64 a0_6, .slice A0_7 l0_7.length c0_7] 42 (0, 0)) (by (with_reducible repeat (first | refine blk_drewN ?_ _ | refine blk_drew ?_ | refine blk_alloc ?_ _)); exact BK355.out) hb)
                              have n1_ := Aside0.mk (blk_below (g := gb356) (o := .cells #[.int .i64 x357000_1, .int .i64 x357001_1, .bool x357002_1] 37 (0, 0)) (by (with_reducible repeat (first | refine blk_drewN ?_ _ | refine blk_drew ?_ | refine blk_alloc ?_ _)); exact BK356.out) hb)
                              have n2_ := Aside0.mk (below_step (by repeat (first | (with_reducible first | exact HB.out | apply below_alloc | apply pw_below_drewN | apply below_drew1 | refine below_set ?_ GE355.out | refine below_set ?_ GE356.out) | exact HB.out)) hb)
                              have n3_ := Aside0.mk (hbox)
                              have n4_ := Aside0.mk ((by rw [hg]; exact (below_size (by repeat (first | (with_reducible first | exact HB.out | apply below_alloc | apply pw_below_drewN | apply below_drew1 | refine below_set ?_ GE355.out | refine below_set ?_ GE356.out) | exact HB.out))) : w.heap.size ≤ gb363))
                              have n5_ := Aside0.mk ((by rw [hg]; exact (below_size (by repeat (first | (with_reducible first | exact HB.out | apply below_alloc | apply pw_below_drewN | apply below_drew1 | refine below_set ?_ GE355.out | refine below_set ?_ GE356.out) | exact HB.out))) : w.heap.size ≤ gb363))
                              have n6_ := Aside0.mk ((by rw [hg]; exact Nat.ne_of_lt (blk_lt (g := gb355) (o := .cells #[.int .i64 a0_0, .int .i64 a0_1, .slice A0_2 l0_2.length c0_2, .int .i64 a0_3, .int .i64 a0_4, .int .i64 a0_5, .int .i64 a0_6, .slice A0_7 l0_7.length c0_7] 42 (0, 0)) (by (with_reducible repeat (first | refine blk_drewN ?_ _ | refine blk_drew ?_ | refine blk_alloc ?_ _)); exact BK355.out)) : gb355 ≠ gb363))
                              have n7_ := Aside0.mk ((by rw [hg]; exact Nat.ne_of_gt (blk_lt (g := gb355) (o := .cells #[.int .i64 a0_0, .int .i64 a0_1, .slice A0_2 l0_2.length c0_2, .int .i64 a0_3, .int .i64 a0_4, .int .i64 a0_5, .int .i64 a0_6, .slice A0_7 l0_7.length c0_7] 42 (0, 0)) (by (with_reducible repeat (first | refine blk_drewN ?_ _ | refine blk_drew ?_ | refine blk_alloc ?_ _)); exact BK355.out)) : gb363 ≠ gb355))
                              have n8_ := Aside0.mk ((by rw [hg]; exact Nat.ne_of_lt (blk_lt (g := gb356) (o := .cells #[.int .i64 x357000_1, .int .i64 x357001_1, .bool x357002_1] 37 (0, 0)) (by (with_reducible repeat (first | refine blk_drewN ?_ _ | refine blk_drew ?_ | refine blk_alloc ?_ _)); exact BK356.out)) : gb356 ≠ gb363))
                              have n9_ := Aside0.mk ((by rw [hg]; exact Nat.ne_of_gt (blk_lt (g := gb356) (o := .cells #[.int .i64 x357000_1, .int .i64 x357001_1, .bool x357002_1] 37 (0, 0)) (by (with_reducible repeat (first | refine blk_drewN ?_ _ | refine blk_drew ?_ | refine blk_alloc ?_ _)); exact BK356.out)) : gb363 ≠ gb356))
                              clear BK355
                              clear BK356
                              clear HB
                              have BK355 := n0_
                              have BK356 := n1_
                              have HB := n2_
                              have BK363 := n3_
                              have GW363 := n4_
                              have GE363 := n5_
                              have NB355_363 := n6_
                              have NB363_355 := n7_
                              have NB356_363 := n8_
                              have NB363_356 := n9_
                              clear n0_ n1_ n2_ n3_ n4_ n5_ n6_ n7_ n8_ n9_
                              clear hb hbox hg
                              refine hK.out _ _ ⟨(blk_cell BK355.out 0).trans rfl, (blk_cell BK355.out 1).trans rfl, (blk_cell BK355.out 2).trans rfl, (blk_cell BK355.out 3).trans rfl, (blk_cell BK355.out 4).trans rfl, (blk_cell BK355.out 5).trans rfl, (blk_cell BK355.out 6).trans rfl, (blk_cell BK355.out 7).trans rfl, (blk_cell BK356.out 0).trans rfl, (blk_cell BK356.out 1).trans rfl, (blk_cell BK356.out 2).trans rfl, ((HB.out.cell (World.block_lt_of_cell? w _ hw358_0)).trans hw358_0)⟩ (fun hHeld => ?_)
                              clear hK K
                              refine norm_ (a' := ?_) ?_ ?_
                              rotate_left
                              · show Act.put _ (some 9) _ = _
                                simp only [Act.put, List.setIfInBounds_toArray, List.set_cons_zero, List.set_cons_succ, i64_w, i32_w]
                                rfl
                              refine one_ (i := 6) (N := some 29) #[true, true, true, true, true, true, true, false, false, false, true, false, false] rfl rfl (one_of HT_.out (by kernel_rfl)) (by decide) (fun K hK => ?_)
                              refine goes_ Try.func22 (by kernel_rfl) rfl #[.agg #[.int .i64 a0_0, .int .i64 a0_1, .slice A0_2 l0_2.length c0_2, .int .i64 a0_3, .int .i64 a0_4, .int .i64 a0_5, .int .i64 a0_6, .slice A0_7 l0_7.length c0_7], .agg #[.int .i64 x357000_1, .int .i64 x357001_1, .bool x357002_1], .int .i64 (rd l2 x8_1)] (by rfl) rfl rfl (by (try simp only [List.map_toArray, List.map_cons, List.map_nil]); first | done | rfl | (simp only [List.length_drop, List.length_take]; rfl)) ?_
                              with_reducible refine (pid_Next.calls k1 a0_0 a0_1 _ _ l0_2 a0_3 a0_4 a0_5 a0_6 _ _ l0_7 x357000_1 x357001_1 x357002_1 (rd l2 x8_1) t359 t360 true t362 _ ?side1 ?side2 ?side3 ?side4 A14.out).mono ?_
                              (case side1 => repeat (first | exact (Kd.C_below HR0_2.out HB.out) | (with_reducible refine Kd.C_alloc ?_ _) | (with_reducible refine Kd.C_drewN ?_ _) | (with_reducible refine Kd.C_drew ?_)))
                              (case side2 => exact HC0_2.out)
                              (case side3 => repeat (first | exact (Kd.C_below HR0_7.out HB.out) | (with_reducible refine Kd.C_alloc ?_ _) | (with_reducible refine Kd.C_drewN ?_ _) | (with_reducible refine Kd.C_drew ?_)))
                              (case side4 => exact HC0_7.out)
                              rintro e w24 ⟨rfl, hb⟩
                              refine ⟨_, rfl, ?_⟩
                              have n0_ := Aside0.mk (blk_below (g := gb355) (o := .cells #[.int .i64 a0_0, .int .i64 a0_1, .slice A0_2 l0_2.length c0_2, .int .i64 a0_3, .int .i64 a0_4, .int .i64 a0_5, .int .i64 a0_6, .slice A0_7 l0_7.length c0_7] 42 (0, 0)) (by (with_reducible repeat (first | refine blk_drewN ?_ _ | refine blk_drew ?_ | refine blk_alloc ?_ _)); exact BK355.out) hb)
                              have n1_ := Aside0.mk (blk_below (g := gb356) (o := .cells #[.int .i64 x357000_1, .int .i64 x357001_1, .bool x357002_1] 37 (0, 0)) (by (with_reducible repeat (first | refine blk_drewN ?_ _ | refine blk_drew ?_ | refine blk_alloc ?_ _)); exact BK356.out) hb)
                              have n2_ := Aside0.mk (blk_below (g := gb363) (o := .cells #[.int .i64 0, .int .i64 0, .bool false] 37 (0, 0)) (by (with_reducible repeat (first | refine blk_drewN ?_ _ | refine blk_drew ?_ | refine blk_alloc ?_ _)); exact BK363.out) hb)
                              have n3_ := Aside0.mk (below_step (by repeat (first | (with_reducible first | exact HB.out | apply below_alloc | apply pw_below_drewN | apply below_drew1 | refine below_set ?_ GE355.out | refine below_set ?_ GE356.out | refine below_set ?_ GE363.out) | exact HB.out)) hb)
                              clear BK355
                              clear BK356
                              clear BK363
                              clear HB
                              have BK355 := n0_
                              have BK356 := n1_
                              have BK363 := n2_
                              have HB := n3_
                              clear n0_ n1_ n2_ n3_
                              (try clear hb)
                              (try clear hb2)
                              (try clear hk)
                              (try clear hi)
                              refine hK.out _ _ ⟨(blk_cell BK355.out 0).trans rfl, (blk_cell BK355.out 1).trans rfl, (blk_cell BK355.out 2).trans rfl, (blk_cell BK355.out 3).trans rfl, (blk_cell BK355.out 4).trans rfl, (blk_cell BK355.out 5).trans rfl, (blk_cell BK355.out 6).trans rfl, (blk_cell BK355.out 7).trans rfl, (blk_cell BK356.out 0).trans rfl, (blk_cell BK356.out 1).trans rfl, (blk_cell BK356.out 2).trans rfl, ((HB.out.cell (World.block_lt_of_cell? w _ hw358_0)).trans hw358_0)⟩ (fun hHeld => ?_)
                              clear hK K
                              refine norm_ (a' := ?_) ?_ ?_
                              rotate_left
                              · show Act.put _ (some 29) _ = _
                                simp only [Act.put, List.setIfInBounds_toArray, List.set_cons_zero, List.set_cons_succ, i64_w, i32_w]
                                rfl
                              refine pure_ (i := 7) (N := some 22) (v := ?_) (a' := ?_) #[true, true, true, true, true, true, true, true, false, false, true, false, false] rfl rfl (any_of HT_.out (by kernel_rfl)) (fun _ _ _ h => h) (Or.inl ⟨by rfl, ?_⟩) ?_ ?_
                              rotate_left
                              · intro w'
                                go_simp
                                with_reducible rfl
                              rotate_left
                              · simp only [Act.put, List.setIfInBounds_toArray, List.set_cons_zero, List.set_cons_succ, i64_w, i32_w]
                                rfl
                              refine pure_ (i := 8) (N := some 30) (v := ?_) (a' := ?_) #[true, true, true, true, true, true, true, true, true, false, true, false, false] rfl rfl (any_of HT_.out (by kernel_rfl)) (fun _ _ _ h => h) (Or.inl ⟨by rfl, ?_⟩) ?_ ?_
                              rotate_left
                              · intro w'
                                go_simp
                                with_reducible rfl
                              rotate_left
                              · simp only [Act.put, List.setIfInBounds_toArray, List.set_cons_zero, List.set_cons_succ, i64_w, i32_w]
                                rfl
                              refine pure_ (i := 9) (N := some 31) (v := ?_) (a' := ?_) #[true, true, true, true, true, true, true, true, true, true, true, false, false] rfl rfl (any_of HT_.out (by kernel_rfl)) (fun _ _ _ h => h) (Or.inl ⟨by rfl, ?_⟩) ?_ ?_
                              rotate_left
                              · intro w'
                                go_simp
                                with_reducible rfl
                              rotate_left
                              · simp only [Act.put, List.setIfInBounds_toArray, List.set_cons_zero, List.set_cons_succ, i64_w, i32_w]
                                rfl
                              exact norm_ (by simp only [putAll, Act.put, List.setIfInBounds_toArray, List.set_cons_zero, List.set_cons_succ]) (hCont (gb363) _ ⟨hHeld, (by (with_reducible repeat (first | refine blk_drewN ?_ _ | refine blk_drew ?_ | refine blk_alloc ?_ _)); exact BK355.out), (by (with_reducible repeat (first | refine blk_drewN ?_ _ | refine blk_drew ?_ | refine blk_alloc ?_ _)); exact BK356.out), (by (with_reducible repeat (first | refine blk_drewN ?_ _ | refine blk_drew ?_ | refine blk_alloc ?_ _)); exact BK363.out), GW363.out, GE363.out, NB355_363.out, NB363_355.out, NB356_363.out, NB363_356.out, (by repeat (first | (with_reducible first | exact HB.out | apply below_alloc | apply pw_below_drewN | apply below_drew1 | refine below_set ?_ GE355.out | refine below_set ?_ GE356.out | refine below_set ?_ GE363.out) | exact HB.out))⟩)
                          rintro gb363 w25 ⟨hS_, h0_, h1_, h2_, h3_, h4_, h5_, h6_, h7_, h8_, h9_⟩
                          have n0_ : Aside0 (w25.heap[gb355]? = some (.cells #[.int .i64 a0_0, .int .i64 a0_1, .slice A0_2 l0_2.length c0_2, .int .i64 a0_3, .int .i64 a0_4, .int .i64 a0_5, .int .i64 a0_6, .slice A0_7 l0_7.length c0_7] 42 (0, 0))) := ⟨h0_⟩
                          have n1_ : Aside0 (w25.heap[gb356]? = some (.cells #[.int .i64 x357000_1, .int .i64 x357001_1, .bool x357002_1] 37 (0, 0))) := ⟨h1_⟩
                          have n2_ : Aside0 (w25.heap[gb363]? = some (.cells #[.int .i64 0, .int .i64 0, .bool false] 37 (0, 0))) := ⟨h2_⟩
                          have n3_ : Aside0 (w.heap.size ≤ gb363) := ⟨h3_⟩
                          have n4_ : Aside0 (w.heap.size ≤ gb363) := ⟨h4_⟩
                          have n5_ : Aside0 (gb355 ≠ gb363) := ⟨h5_⟩
                          have n6_ : Aside0 (gb363 ≠ gb355) := ⟨h6_⟩
                          have n7_ : Aside0 (gb356 ≠ gb363) := ⟨h7_⟩
                          have n8_ : Aside0 (gb363 ≠ gb356) := ⟨h8_⟩
                          have n9_ : Aside0 (Below w.heap.size w w25) := ⟨h9_⟩
                          clear BK355
                          clear BK356
                          clear HB
                          clear h0_ h1_ h2_ h3_ h4_ h5_ h6_ h7_ h8_ h9_
                          have BK355 := n0_
                          have BK356 := n1_
                          have BK363 := n2_
                          have GW363 := n3_
                          have GE363 := n4_
                          have NB355_363 := n5_
                          have NB363_355 := n6_
                          have NB356_363 := n7_
                          have NB363_356 := n8_
                          have HB := n9_
                          clear n0_ n1_ n2_ n3_ n4_ n5_ n6_ n7_ n8_ n9_
                          have hHeld : w25.cell? ⟨gb355, 0, none⟩ = some (.int .i64 a0_0) ∧ w25.cell? ⟨gb355, 1, none⟩ = some (.int .i64 a0_1) ∧ w25.cell? ⟨gb355, 2, none⟩ = some (.slice A0_2 l0_2.length c0_2) ∧ w25.cell? ⟨gb355, 3, none⟩ = some (.int .i64 a0_3) ∧ w25.cell? ⟨gb355, 4, none⟩ = some (.int .i64 a0_4) ∧ w25.cell? ⟨gb355, 5, none⟩ = some (.int .i64 a0_5) ∧ w25.cell? ⟨gb355, 6, none⟩ = some (.int .i64 a0_6) ∧ w25.cell? ⟨gb355, 7, none⟩ = some (.slice A0_7 l0_7.length c0_7) ∧ w25.cell? ⟨gb356, 0, none⟩ = some (.int .i64 x357000_1) ∧ w25.cell? ⟨gb356, 1, none⟩ = some (.int .i64 x357001_1) ∧ w25.cell? ⟨gb356, 2, none⟩ = some (.bool x357002_1) ∧ w25.cell? (ad358.add (x8_1).toNat) = some (.int .i64 (rd l2 x8_1)) := hS_
                          refine norm_ (a' := ?_) ?_ ?_
                          rotate_left
                          · simp only [putAll, Act.put, List.setIfInBounds_toArray, List.set_cons_zero, List.set_cons_succ]
                            rfl
                          refine one_ (i := 11) (N := none) #[true, true, true, true, true, true, true, true, true, true, true, true, false] rfl rfl (one_of HT_.out (by kernel_rfl)) (by decide) (fun K hK => ?_)
                          have hs26 : w25.cell? ⟨gb363, 0, none⟩ = some (.int .i64 0) := (blk_cell BK363.out 0).trans rfl
                          have hfs26 := blk_frozen BK363.out 0
                          have hns26_0 := NB355_363.out
                          have hns26_1 := NB356_363.out
                          have hms26_0 := NB363_355.out
                          have hms26_1 := NB363_356.out
                          have hs27 : w25.cell? ⟨gb363, 1, none⟩ = some (.int .i64 0) := (blk_cell BK363.out 1).trans rfl
                          have hfs27 := blk_frozen BK363.out 1
                          have hns27_0 := NB355_363.out
                          have hns27_1 := NB356_363.out
                          have hms27_0 := NB363_355.out
                          have hms27_1 := NB363_356.out
                          have hs28 : w25.cell? ⟨gb363, 2, none⟩ = some (.bool false) := (blk_cell BK363.out 2).trans rfl
                          have hfs28 := blk_frozen BK363.out 2
                          have hns28_0 := NB355_363.out
                          have hns28_1 := NB356_363.out
                          have hms28_0 := NB363_355.out
                          have hms28_1 := NB363_356.out
                          refine skip_ (w1 := ?_) (by rfl) rfl ?_ ?_
                          rotate_left
                          · go_simp
                            rfl
                          refine hK.out _ _ ⟨((cell_far (p := ⟨gb363, _, none⟩) NB355_363.out _).trans (((cell_far (p := ⟨gb363, _, none⟩) NB355_363.out _).trans (((cell_far (p := ⟨gb363, _, none⟩) NB355_363.out _).trans (hHeld.1)))))), ((cell_far (p := ⟨gb363, _, none⟩) NB355_363.out _).trans (((cell_far (p := ⟨gb363, _, none⟩) NB355_363.out _).trans (((cell_far (p := ⟨gb363, _, none⟩) NB355_363.out _).trans (hHeld.2.1)))))), ((cell_far (p := ⟨gb363, _, none⟩) NB355_363.out _).trans (((cell_far (p := ⟨gb363, _, none⟩) NB355_363.out _).trans (((cell_far (p := ⟨gb363, _, none⟩) NB355_363.out _).trans (hHeld.2.2.1)))))), ((cell_far (p := ⟨gb363, _, none⟩) NB355_363.out _).trans (((cell_far (p := ⟨gb363, _, none⟩) NB355_363.out _).trans (((cell_far (p := ⟨gb363, _, none⟩) NB355_363.out _).trans (hHeld.2.2.2.1)))))), ((cell_far (p := ⟨gb363, _, none⟩) NB355_363.out _).trans (((cell_far (p := ⟨gb363, _, none⟩) NB355_363.out _).trans (((cell_far (p := ⟨gb363, _, none⟩) NB355_363.out _).trans (hHeld.2.2.2.2.1)))))), ((cell_far (p := ⟨gb363, _, none⟩) NB355_363.out _).trans (((cell_far (p := ⟨gb363, _, none⟩) NB355_363.out _).trans (((cell_far (p := ⟨gb363, _, none⟩) NB355_363.out _).trans (hHeld.2.2.2.2.2.1)))))), ((cell_far (p := ⟨gb363, _, none⟩) NB355_363.out _).trans (((cell_far (p := ⟨gb363, _, none⟩) NB355_363.out _).trans (((cell_far (p := ⟨gb363, _, none⟩) NB355_363.out _).trans (hHeld.2.2.2.2.2.2.1)))))), ((cell_far (p := ⟨gb363, _, none⟩) NB355_363.out _).trans (((cell_far (p := ⟨gb363, _, none⟩) NB355_363.out _).trans (((cell_far (p := ⟨gb363, _, none⟩) NB355_363.out _).trans (hHeld.2.2.2.2.2.2.2.1)))))), ((cell_far (p := ⟨gb363, _, none⟩) NB356_363.out _).trans (((cell_far (p := ⟨gb363, _, none⟩) NB356_363.out _).trans (((cell_far (p := ⟨gb363, _, none⟩) NB356_363.out _).trans (hHeld.2.2.2.2.2.2.2.2.1)))))), ((cell_far (p := ⟨gb363, _, none⟩) NB356_363.out _).trans (((cell_far (p := ⟨gb363, _, none⟩) NB356_363.out _).trans (((cell_far (p := ⟨gb363, _, none⟩) NB356_363.out _).trans (hHeld.2.2.2.2.2.2.2.2.2.1)))))), ((cell_far (p := ⟨gb363, _, none⟩) NB356_363.out _).trans (((cell_far (p := ⟨gb363, _, none⟩) NB356_363.out _).trans (((cell_far (p := ⟨gb363, _, none⟩) NB356_363.out _).trans (hHeld.2.2.2.2.2.2.2.2.2.2.1)))))), ((cell_far (p := ⟨gb363, _, none⟩) (by first | exact Nat.ne_of_lt (Nat.lt_of_lt_of_le (by have := World.block_lt_of_cell? _ _ hw358_0; first | rwa [add_block] at this | exact this) GW363.out) | (rw [add_block]; exact Nat.ne_of_lt (Nat.lt_of_lt_of_le (by have := World.block_lt_of_cell? _ _ hw358_0; first | rwa [add_block] at this | exact this) GW363.out)) | (show (Addr.add _ _).block ≠ _; rw [add_block]; exact Nat.ne_of_lt (Nat.lt_of_lt_of_le (by have := World.block_lt_of_cell? _ _ hw358_0; first | rwa [add_block] at this | exact this) GW363.out)) | (dsimp only; exact Nat.ne_of_lt (Nat.lt_of_lt_of_le (by have := World.block_lt_of_cell? _ _ hw358_0; first | rwa [add_block] at this | exact this) GW363.out))) _).trans (((cell_far (p := ⟨gb363, _, none⟩) (by first | exact Nat.ne_of_lt (Nat.lt_of_lt_of_le (by have := World.block_lt_of_cell? _ _ hw358_0; first | rwa [add_block] at this | exact this) GW363.out) | (rw [add_block]; exact Nat.ne_of_lt (Nat.lt_of_lt_of_le (by have := World.block_lt_of_cell? _ _ hw358_0; first | rwa [add_block] at this | exact this) GW363.out)) | (show (Addr.add _ _).block ≠ _; rw [add_block]; exact Nat.ne_of_lt (Nat.lt_of_lt_of_le (by have := World.block_lt_of_cell? _ _ hw358_0; first | rwa [add_block] at this | exact this) GW363.out)) | (dsimp only; exact Nat.ne_of_lt (Nat.lt_of_lt_of_le (by have := World.block_lt_of_cell? _ _ hw358_0; first | rwa [add_block] at this | exact this) GW363.out))) _).trans (((cell_far (p := ⟨gb363, _, none⟩) (by first | exact Nat.ne_of_lt (Nat.lt_of_lt_of_le (by have := World.block_lt_of_cell? _ _ hw358_0; first | rwa [add_block] at this | exact this) GW363.out) | (rw [add_block]; exact Nat.ne_of_lt (Nat.lt_of_lt_of_le (by have := World.block_lt_of_cell? _ _ hw358_0; first | rwa [add_block] at this | exact this) GW363.out)) | (show (Addr.add _ _).block ≠ _; rw [add_block]; exact Nat.ne_of_lt (Nat.lt_of_lt_of_le (by have := World.block_lt_of_cell? _ _ hw358_0; first | rwa [add_block] at this | exact this) GW363.out)) | (dsimp only; exact Nat.ne_of_lt (Nat.lt_of_lt_of_le (by have := World.block_lt_of_cell? _ _ hw358_0; first | rwa [add_block] at this | exact this) GW363.out))) _).trans (hHeld.2.2.2.2.2.2.2.2.2.2.2))))))⟩ (fun hHeld => ?_)
                          clear hK K
                          refine pure_ (i := 12) (N := some 10) (v := ?_) (a' := ?_) #[true, true, true, true, true, true, true, true, true, true, true, true, true] rfl rfl (any_of HT_.out (by kernel_rfl)) (fun _ _ _ h => h) (Or.inl ⟨by rfl, ?_⟩) ?_ ?_
                          rotate_left
                          · intro w'
                            go_simp
                            with_reducible rfl
                          rotate_left
                          · simp only [Act.put, List.setIfInBounds_toArray, List.set_cons_zero, List.set_cons_succ, i64_w, i32_w]
                            rfl
                          refine done_ (done_of HT_.out (by kernel_rfl)) ?_
                          have hnb29 := NB363_355.out
                          have hnc29 := NB355_363.out
                          have hnb30 := NB363_356.out
                          have hnc30 := NB356_363.out
                          have hcz31_0 : w25.cell? ⟨gb363, 0, none⟩ = some (.int .i64 0) := (blk_cell BK363.out 0).trans rfl
                          have hcz31_1 : w25.cell? ⟨gb363, 1, none⟩ = some (.int .i64 0) := (blk_cell BK363.out 1).trans rfl
                          have hcz31_2 : w25.cell? ⟨gb363, 2, none⟩ = some (.bool false) := (blk_cell BK363.out 2).trans rfl
                          have hfz31_0 := blk_frozen BK363.out 0
                          have hfz31_1 := blk_frozen BK363.out 1
                          have hfz31_2 := blk_frozen BK363.out 2
                          have hnb32 := NB356_355.out
                          have hnc32 := NB355_356.out
                          have hcz33_0 : w25.cell? ⟨gb356, 0, none⟩ = some (.int .i64 x357000_1) := (blk_cell BK356.out 0).trans rfl
                          have hcz33_1 : w25.cell? ⟨gb356, 1, none⟩ = some (.int .i64 x357001_1) := (blk_cell BK356.out 1).trans rfl
                          have hcz33_2 : w25.cell? ⟨gb356, 2, none⟩ = some (.bool x357002_1) := (blk_cell BK356.out 2).trans rfl
                          have hfz33_0 := blk_frozen BK356.out 0
                          have hfz33_1 := blk_frozen BK356.out 1
                          have hfz33_2 := blk_frozen BK356.out 2
                          try go_wp2
                          go_roundg k1
                          case measure => have := HK1.out; omega
                          case rel => exact ⟨(wrap64 (x8_1 + 1)), (t359), (t360), (true), (by first | rfl | (simp; done) | (simp [*]; done)), H', ⟨by have := HK1.out; omega⟩, ⟨by (with_reducible repeat (first | refine blk_drewN ?_ _ | refine blk_drew ?_ | refine blk_alloc ?_ _)); refine blk_far ?_ NB355_356.out _; (with_reducible repeat (first | refine blk_drewN ?_ _ | refine blk_drew ?_ | refine blk_alloc ?_ _)); refine blk_far ?_ NB355_356.out _; (with_reducible repeat (first | refine blk_drewN ?_ _ | refine blk_drew ?_ | refine blk_alloc ?_ _)); refine blk_far ?_ NB355_356.out _; (with_reducible repeat (first | refine blk_drewN ?_ _ | refine blk_drew ?_ | refine blk_alloc ?_ _)); refine blk_far ?_ NB355_363.out _; (with_reducible repeat (first | refine blk_drewN ?_ _ | refine blk_drew ?_ | refine blk_alloc ?_ _)); refine blk_far ?_ NB355_363.out _; (with_reducible repeat (first | refine blk_drewN ?_ _ | refine blk_drew ?_ | refine blk_alloc ?_ _)); refine blk_far ?_ NB355_363.out _; (with_reducible repeat (first | refine blk_drewN ?_ _ | refine blk_drew ?_ | refine blk_alloc ?_ _)); exact BK355.out⟩, ⟨by (with_reducible repeat (first | refine blk_drewN ?_ _ | refine blk_drew ?_ | refine blk_alloc ?_ _)); refine blk_put (cs := #[.int .i64 t359, .int .i64 t360, .bool x357002_1]) ?_ 2 _ rfl; (with_reducible repeat (first | refine blk_drewN ?_ _ | refine blk_drew ?_ | refine blk_alloc ?_ _)); refine blk_put (cs := #[.int .i64 t359, .int .i64 x357001_1, .bool x357002_1]) ?_ 1 _ rfl; (with_reducible repeat (first | refine blk_drewN ?_ _ | refine blk_drew ?_ | refine blk_alloc ?_ _)); refine blk_put (cs := #[.int .i64 x357000_1, .int .i64 x357001_1, .bool x357002_1]) ?_ 0 _ rfl; (with_reducible repeat (first | refine blk_drewN ?_ _ | refine blk_drew ?_ | refine blk_alloc ?_ _)); refine blk_far ?_ NB356_363.out _; (with_reducible repeat (first | refine blk_drewN ?_ _ | refine blk_drew ?_ | refine blk_alloc ?_ _)); refine blk_far ?_ NB356_363.out _; (with_reducible repeat (first | refine blk_drewN ?_ _ | refine blk_drew ?_ | refine blk_alloc ?_ _)); refine blk_far ?_ NB356_363.out _; (with_reducible repeat (first | refine blk_drewN ?_ _ | refine blk_drew ?_ | refine blk_alloc ?_ _)); exact BK356.out⟩, ⟨by repeat (first | (with_reducible first | exact HB.out | apply below_alloc | apply pw_below_drewN | apply below_drew1 | refine below_set ?_ GE355.out | refine below_set ?_ GE356.out | refine below_set ?_ GE363.out) | exact HB.out)⟩⟩
                    · replace c19 := Bool.eq_false_iff.mpr c19
                      subst c19
                      have H1 : (some false) = some r := by rw [if_neg (show ¬ (false = true) by decide)] at H; exact H
                      clear H
                      have H := H1
                      clear H1
                      exact absurd (Option.some.inj H) (by rw [HRT.out]; decide)
          · rw [if_neg c13] at H
            exact absurd H (by simp)
        · rw [if_neg c12] at H
          have c12b0 : decide (x8_1 < (l2.length : Int)) = false := decide_eq_false c12
          clear c12
          obtain rfl := Option.some.inj H
          go_wp2
          go_ret
          exact ⟨by first | rfl | (simp [errW_none, errW_some] <;> rfl) | (simp [*, errW_none, errW_some] <;> rfl), by repeat (first | (with_reducible first | exact HB.out | apply below_alloc | apply pw_below_drewN | apply below_drew1 | refine below_set ?_ GE355.out | refine below_set ?_ GE356.out) | exact HB.out)⟩

end Go.Proofs.Ytjmmofedcadoiaa.PAll
