-- laid by a program of this session (tprint.py) out of the translation and of texts typed by hand; Lean checks it
import Derived.Test.YtgeldfjpafimpaaPAllx0
import Derived.Test.YtgeldfjpafimpaaPAllx18
import Derived.Test.YtgeldfjpafimpaaPAllx19
namespace Go.Proofs.Ytgeldfjpafimpaa.PAll
open Go.RowKit Go.Proofs.YtgeldfjpafimpaaW.PrintWords Go.Proofs.YtgeldfjpafimpaaW.PrintLast Go.Proofs.YtgeldfjpafimpaaW.PrintMore
attribute [local go_sem] max2_int min2_int max_two min_two max_three min_three max_four min_four   -- for this text's walks alone
set_option linter.unusedVariables false
set_option linter.unusedSimpArgs false

/-! ### governorref16_Step: function 19 -/
mutual
def governorref16_Step.j0 : Nat → Int → Int → Int → Int → Int → Int → Int → Int → Int → Int → Int → Int → Int → Int → Int → List Int → Int → Int → Option (Int × List Int × Int × Int × Int × Bool)
  | 0, _, _, _, _, _, _, _, _, _, _, _, _, _, _, _, _, _, _ => none
  | k + 1, x2, x3, x215000, x215001, x215002, x215003, x215004, x215005, x215006, x215007, x215008, x215009, x215010, x215011, x225000, x225001, x225002, x225003 => (governorref16_sized.f k x215005 x225000 x225001 x225002 x225003 (mn (mx x2 0) 1000)).bind fun bt229 => ((governorref08_Add.f bt229.2.2.1 (mn (mx x3 0) 1000000)).bind fun t235 => ((governorref08_Div.f k t235 (mn (wrap64 (bt229.1 * x215004)) 1000000000)).bind fun t236 => (governorref16_Step.l0 k x215000 x215001 x215002 x215003 x215004 x215005 x215006 x215007 x215008 x215009 x215010 x215011 bt229.1 bt229.2.1 (mx (wrap64 (t235 - (mn (wrap64 (bt229.1 * x215004)) 1000000000))) 0) t236)))
def governorref16_Step.l0 : Nat → Int → Int → Int → Int → Int → Int → Int → Int → Int → Int → Int → Int → Int → List Int → Int → Int → Option (Int × List Int × Int × Int × Int × Bool)
  | 0, _, _, _, _, _, _, _, _, _, _, _, _, _, _, _, _ => none
  | k + 1, x215000, x215001, x215002, x215003, x215004, x215005, x215006, x215007, x215008, x215009, x215010, x215011, x225000, x225001, x225002, x225003 => if (x225001.length : Int) > 0 then (if 0 ≤ (wrap64 ((x225001.length : Int) - 1)) then (if (wrap64 ((x225001.length : Int) - 1)) < (x225001.length : Int) then (if (rd x225001 (wrap64 ((x225001.length : Int) - 1))) = 0 then (if (wrap64 ((x225001.length : Int) - 1)) ≤ (x225001.length : Int) then (governorref16_Step.l0 k x215000 x215001 x215002 x215003 x215004 x215005 x215006 x215007 x215008 x215009 x215010 x215011 x225000 (x225001.take ((wrap64 ((x225001.length : Int) - 1)) : Int).toNat) x225002 x225003) else (none)) else ((governorref16_All.f k x225000 x225001 x225002 x225003).bind fun t241 => (some (x225000, x225001, x225002, x225003, t241, decide (x225002 > x215006))))) else (none)) else (none)) else ((governorref16_All.f k x225000 x225001 x225002 x225003).bind fun t242 => (some (x225000, x225001, x225002, x225003, t242, decide (x225002 > x215006))))
end
def governorref16_Step.f (k : Nat) (a0_0 : Int) (a0_1 : Int) (a0_2 : Int) (a0_3 : Int) (a0_4 : Int) (a0_5 : Int) (a0_6 : Int) (a0_7 : Int) (a0_8 : Int) (a0_9 : Int) (a0_10 : Int) (a0_11 : Int) (a1_0 : Int) (l1_1 : List Int) (a1_2 : Int) (a1_3 : Int) (a2 : Int) (a3 : Int) : Option (Int × List Int × Int × Int × Int × Bool) := (some (([] : List Int) : List Int)).bind fun y218 => (if y218.length + l1_1.length < 17592186044416 then ((some (y218 ++ l1_1 : List Int)).bind fun y221 => (if (y221.length : Int) > 0 then (if 0 < (y221.length : Int) then (if 1 ≤ (y221.length : Int) then (governorref16_Step.j0 k a2 a3 a0_0 a0_1 a0_2 a0_3 a0_4 a0_5 a0_6 a0_7 a0_8 a0_9 a0_10 a0_11 (wrap64 (a1_0 + (rd y221 0))) (y221.drop (1 : Int).toNat) a1_2 0) else (none)) else (none)) else (governorref16_Step.j0 k a2 a3 a0_0 a0_1 a0_2 a0_3 a0_4 a0_5 a0_6 a0_7 a0_8 a0_9 a0_10 a0_11 a1_0 y221 a1_2 0))) else (none))
theorem governorref16_Step.mono_l : ∀ k, (∀ y0 y1 y2 y3 y4 y5 y6 y7 y8 y9 y10 y11 y12 y13 y14 y15 y16 y17, LeO (governorref16_Step.j0 k y0 y1 y2 y3 y4 y5 y6 y7 y8 y9 y10 y11 y12 y13 y14 y15 y16 y17) (governorref16_Step.j0 (k + 1) y0 y1 y2 y3 y4 y5 y6 y7 y8 y9 y10 y11 y12 y13 y14 y15 y16 y17)) ∧ (∀ y0 y1 y2 y3 y4 y5 y6 y7 y8 y9 y10 y11 y12 y13 y14 y15, LeO (governorref16_Step.l0 k y0 y1 y2 y3 y4 y5 y6 y7 y8 y9 y10 y11 y12 y13 y14 y15) (governorref16_Step.l0 (k + 1) y0 y1 y2 y3 y4 y5 y6 y7 y8 y9 y10 y11 y12 y13 y14 y15))
  | 0 => ⟨fun _ _ _ _ _ _ _ _ _ _ _ _ _ _ _ _ _ _ r h => by simp [governorref16_Step.j0] at h, fun _ _ _ _ _ _ _ _ _ _ _ _ _ _ _ _ r h => by simp [governorref16_Step.l0] at h⟩
  | k + 1 => by
    obtain ⟨ih0, ih1⟩ := governorref16_Step.mono_l k
    refine ⟨?_, ?_⟩
    · intro y0 y1 y2 y3 y4 y5 y6 y7 y8 y9 y10 y11 y12 y13 y14 y15 y16 y17
      unfold governorref16_Step.j0
      repeat' first
      | (with_reducible exact ih0 _ _ _ _ _ _ _ _ _ _ _ _ _ _ _ _ _ _)
      | (with_reducible exact ih1 _ _ _ _ _ _ _ _ _ _ _ _ _ _ _ _)
      | (with_reducible exact governorref08_Div.mono _ _ _)
      | (with_reducible exact governorref16_All.mono _ _ _ _ _)
      | (with_reducible exact governorref16_sized.mono _ _ _ _ _ _ _)
      | (with_reducible exact LeO.refl _)
      | (with_reducible exact LeO.none _)
      | (with_reducible refine LeO.ite ?_ ?_)
      | (with_reducible refine LeO.bind ?_ (fun _ => ?_))
      | exact ih0 _ _ _ _ _ _ _ _ _ _ _ _ _ _ _ _ _ _
      | exact ih1 _ _ _ _ _ _ _ _ _ _ _ _ _ _ _ _
      | exact governorref08_Div.mono _ _ _
      | exact governorref16_All.mono _ _ _ _ _
      | exact governorref16_sized.mono _ _ _ _ _ _ _
      | exact LeO.none _
      | refine LeO.ite ?_ ?_
      | refine LeO.bind ?_ (fun _ => ?_)
    · intro y0 y1 y2 y3 y4 y5 y6 y7 y8 y9 y10 y11 y12 y13 y14 y15
      unfold governorref16_Step.l0
      repeat' first
      | (with_reducible exact ih0 _ _ _ _ _ _ _ _ _ _ _ _ _ _ _ _ _ _)
      | (with_reducible exact ih1 _ _ _ _ _ _ _ _ _ _ _ _ _ _ _ _)
      | (with_reducible exact governorref08_Div.mono _ _ _)
      | (with_reducible exact governorref16_All.mono _ _ _ _ _)
      | (with_reducible exact governorref16_sized.mono _ _ _ _ _ _ _)
      | (with_reducible exact LeO.refl _)
      | (with_reducible exact LeO.none _)
      | (with_reducible refine LeO.ite ?_ ?_)
      | (with_reducible refine LeO.bind ?_ (fun _ => ?_))
      | exact ih0 _ _ _ _ _ _ _ _ _ _ _ _ _ _ _ _ _ _
      | exact ih1 _ _ _ _ _ _ _ _ _ _ _ _ _ _ _ _
      | exact governorref08_Div.mono _ _ _
      | exact governorref16_All.mono _ _ _ _ _
      | exact governorref16_sized.mono _ _ _ _ _ _ _
      | exact LeO.none _
      | refine LeO.ite ?_ ?_
      | refine LeO.bind ?_ (fun _ => ?_)
theorem governorref16_Step.mono : ∀ a0 a1 a2 a3 a4 a5 a6 a7 a8 a9 a10 a11 a12 a13 a14 a15 a16 a17 k, LeO (governorref16_Step.f k a0 a1 a2 a3 a4 a5 a6 a7 a8 a9 a10 a11 a12 a13 a14 a15 a16 a17) (governorref16_Step.f (k + 1) a0 a1 a2 a3 a4 a5 a6 a7 a8 a9 a10 a11 a12 a13 a14 a15 a16 a17) := by
  intro a0 a1 a2 a3 a4 a5 a6 a7 a8 a9 a10 a11 a12 a13 a14 a15 a16 a17 k
  obtain ⟨ih0, ih1⟩ := governorref16_Step.mono_l k
  unfold governorref16_Step.f
  repeat' first
      | (with_reducible exact ih0 _ _ _ _ _ _ _ _ _ _ _ _ _ _ _ _ _ _)
      | (with_reducible exact ih1 _ _ _ _ _ _ _ _ _ _ _ _ _ _ _ _)
      | (with_reducible exact governorref08_Div.mono _ _ _)
      | (with_reducible exact governorref16_All.mono _ _ _ _ _)
      | (with_reducible exact governorref16_sized.mono _ _ _ _ _ _ _)
      | (with_reducible exact LeO.refl _)
      | (with_reducible exact LeO.none _)
      | (with_reducible refine LeO.ite ?_ ?_)
      | (with_reducible refine LeO.bind ?_ (fun _ => ?_))
      | exact ih0 _ _ _ _ _ _ _ _ _ _ _ _ _ _ _ _ _ _
      | exact ih1 _ _ _ _ _ _ _ _ _ _ _ _ _ _ _ _
      | exact governorref08_Div.mono _ _ _
      | exact governorref16_All.mono _ _ _ _ _
      | exact governorref16_sized.mono _ _ _ _ _ _ _
      | exact LeO.none _
      | refine LeO.ite ?_ ?_
      | refine LeO.bind ?_ (fun _ => ?_)
def governorref16_Step.T1 : Bool × List (List Nat × List Nat) := (true, [([], []), ([0], [0]), ([], []), ([], []), ([3], [3]), ([2, 4], [2, 4]), ([], []), ([6], [6]), ([1, 5, 7], [1, 5, 7]), ([], []), ([9, 8, 5, 0, 1, 2, 3, 4, 5, 6, 7, 8, 9], [8, 9])])
def governorref16_Step.B1 : List Nat := [0, 1, 0, 0, 8, 28, 0, 64, 255, 0, 1023]
theorem governorref16_Step.tab1 : rtab .any (opsOf Try.f19 1) = governorref16_Step.T1 := by kernel_rfl
theorem governorref16_Step.bits1 : waitsOk governorref16_Step.T1.2 governorref16_Step.B1 = true := by kernel_rfl
def governorref16_Step.T3 : Bool × List (List Nat × List Nat) := (true, [([], []), ([0], [0]), ([], []), ([2], [2]), ([3], [3]), ([4], [4]), ([1, 5], [1, 5]), ([0, 1, 2, 3, 4, 5, 6], []), ([7, 6, 0, 1, 2, 3, 4, 5, 6], [6, 7])])
def governorref16_Step.B3 : List Nat := [0, 1, 0, 4, 12, 28, 63, 127, 255]
theorem governorref16_Step.tab3 : rtab .any (opsOf Try.f19 3) = governorref16_Step.T3 := by kernel_rfl
theorem governorref16_Step.bits3 : waitsOk governorref16_Step.T3.2 governorref16_Step.B3 = true := by kernel_rfl
def governorref16_Step.T12 : Bool × List (List Nat × List Nat) := (true, [([], []), ([], []), ([1], [1]), ([], []), ([3], [3]), ([], []), ([5], [5]), ([4, 6], [4, 6]), ([2, 7], [2, 7]), ([0, 2, 0], [0]), ([8, 9, 0, 1, 2, 3, 4, 5, 6, 7, 8, 9], [8])])
def governorref16_Step.B12 : List Nat := [0, 0, 2, 0, 8, 0, 32, 120, 254, 7, 1023]
theorem governorref16_Step.tab12 : rtab .any (opsOf Try.f19 12) = governorref16_Step.T12 := by kernel_rfl
theorem governorref16_Step.bits12 : waitsOk governorref16_Step.T12.2 governorref16_Step.B12 = true := by kernel_rfl
set_option maxHeartbeats 8000000 in
set_option maxRecDepth 100000 in
theorem governorref16_Step.calls (k : Nat) (a0_0 : Int) (a0_1 : Int) (a0_2 : Int) (a0_3 : Int) (a0_4 : Int) (a0_5 : Int) (a0_6 : Int) (a0_7 : Int) (a0_8 : Int) (a0_9 : Int) (a0_10 : Int) (a0_11 : Int) (a1_0 : Int) (A1_1 : Option Addr) (c1_1 : Nat) (l1_1 : List Int) (a1_2 : Int) (a1_3 : Int) (a2 : Int) (a3 : Int) (r1 : Int) (r2 : List Int) (r3 : Int) (r4 : Int) (r5 : Int) (r6 : Bool) (w : World) (hr1_1 : Kd.C (Kd.int .i64) w A1_1 l1_1.length l1_1) (hc1_1 : l1_1.length ≤ c1_1) (h : governorref16_Step.f k a0_0 a0_1 a0_2 a0_3 a0_4 a0_5 a0_6 a0_7 a0_8 a0_9 a0_10 a0_11 a1_0 l1_1 a1_2 a1_3 a2 a3 = some (r1, r2, r3, r4, r5, r6)) :
    Calls Try.prog 19 #[.agg #[.int .i64 a0_0, .int .i64 a0_1, .int .i64 a0_2, .int .i64 a0_3, .int .i64 a0_4, .int .i64 a0_5, .int .i64 a0_6, .int .i64 a0_7, .int .i64 a0_8, .int .i64 a0_9, .int .i64 a0_10, .int .i64 a0_11], .agg #[.int .i64 a1_0, .slice A1_1 l1_1.length c1_1, .int .i64 a1_2, .int .i64 a1_3], .int .i64 a2, .int .i64 a3] w fun e w' => ∃ v1_ : Value, e = .returned (.tuple #[.agg #[.int .i64 r1, v1_, .int .i64 r3, .int .i64 r4], .agg #[.int .i64 r5, .bool r6]]) ∧ Kd.Q (Kd.int .i64) 3 w' w.heap.size (fun _ => True) v1_ r2 ∧ Below w.heap.size w w' := by
  have hu23 := Try.underlying23
  have hu26 := Try.underlying26
  have hu31 := Try.underlying31
  have HR1_1 := Aside0.mk hr1_1
  have HC1_1 := Aside0.mk hc1_1
  clear hr1_1 hc1_1
  have HB := Aside0.mk (Below.refl w.heap.size w)
  have H : ((some (([] : List Int) : List Int)).bind fun y218 => (if y218.length + l1_1.length < 17592186044416 then ((some (y218 ++ l1_1 : List Int)).bind fun y221 => (if (y221.length : Int) > 0 then (if 0 < (y221.length : Int) then (if 1 ≤ (y221.length : Int) then (governorref16_Step.j0 k a2 a3 a0_0 a0_1 a0_2 a0_3 a0_4 a0_5 a0_6 a0_7 a0_8 a0_9 a0_10 a0_11 (wrap64 (a1_0 + (rd y221 0))) (y221.drop (1 : Int).toNat) a1_2 0) else (none)) else (none)) else (governorref16_Step.j0 k a2 a3 a0_0 a0_1 a0_2 a0_3 a0_4 a0_5 a0_6 a0_7 a0_8 a0_9 a0_10 a0_11 a1_0 y221 a1_2 0))) else (none))) = some (r1, r2, r3, r4, r5, r6) := h
  clear h
  obtain ⟨y218, hy218⟩ : ∃ y_ : List Int, y_ = (([] : List Int)) := ⟨_, rfl⟩
  replace H : (if y218.length + l1_1.length < 17592186044416 then ((some (y218 ++ l1_1 : List Int)).bind fun y221 => (if (y221.length : Int) > 0 then (if 0 < (y221.length : Int) then (if 1 ≤ (y221.length : Int) then (governorref16_Step.j0 k a2 a3 a0_0 a0_1 a0_2 a0_3 a0_4 a0_5 a0_6 a0_7 a0_8 a0_9 a0_10 a0_11 (wrap64 (a1_0 + (rd y221 0))) (y221.drop (1 : Int).toNat) a1_2 0) else (none)) else (none)) else (governorref16_Step.j0 k a2 a3 a0_0 a0_1 a0_2 a0_3 a0_4 a0_5 a0_6 a0_7 a0_8 a0_9 a0_10 a0_11 a1_0 y221 a1_2 0))) else (none)) = some (r1, r2, r3, r4, r5, r6) := by first | (rw [hy218]; with_reducible exact H) | (have H2_ := (Option.bind_some _ _).symm.trans H; rw [hy218]; with_reducible exact H2_) | (have H2_ := (Option.bind_some _ _).symm.trans H; with_reducible exact H2_) | with_reducible exact H | (rw [hy218]; exact H) | exact H
  have Ny218 := Aside0.mk hy218
  clear hy218
  by_cases c5 : y218.length + l1_1.length < 17592186044416
  · rw [if_pos c5] at H
    have LMc5 := Aside0.mk c5
    clear c5
    obtain ⟨y221, hy221⟩ : ∃ y_ : List Int, y_ = (y218 ++ l1_1) := ⟨_, rfl⟩
    replace H : (if (y221.length : Int) > 0 then (if 0 < (y221.length : Int) then (if 1 ≤ (y221.length : Int) then (governorref16_Step.j0 k a2 a3 a0_0 a0_1 a0_2 a0_3 a0_4 a0_5 a0_6 a0_7 a0_8 a0_9 a0_10 a0_11 (wrap64 (a1_0 + (rd y221 0))) (y221.drop (1 : Int).toNat) a1_2 0) else (none)) else (none)) else (governorref16_Step.j0 k a2 a3 a0_0 a0_1 a0_2 a0_3 a0_4 a0_5 a0_6 a0_7 a0_8 a0_9 a0_10 a0_11 a1_0 y221 a1_2 0)) = some (r1, r2, r3, r4, r5, r6) := by first | (rw [hy221]; with_reducible exact H) | (have H2_ := (Option.bind_some _ _).symm.trans H; rw [hy221]; with_reducible exact H2_) | (have H2_ := (Option.bind_some _ _).symm.trans H; with_reducible exact H2_) | with_reducible exact H | (rw [hy221]; exact H) | exact H
    have Ny221 := Aside0.mk hy221
    clear hy221
    have HC6 := Aside0.mk H
    clear H
    go_enter Try.func19, Try.ntmps19
    try go_wp2_with (first | ((with_reducible refine gate_dst (N := 4) rfl ?_); (try (refine gate_guard (by rfl) ?_; dsimp only)); refine box_event ?hg (N := 4) ?hd (cs := #[.int .i64 a0_0, .int .i64 a0_1, .int .i64 a0_2, .int .i64 a0_3, .int .i64 a0_4, .int .i64 a0_5, .int .i64 a0_6, .int .i64 a0_7, .int .i64 a0_8, .int .i64 a0_9, .int .i64 a0_10, .int .i64 a0_11]) (t := 23) ?hr ?_; (case hd => rfl); (case hg => rfl); (case hr => first | (go_simp; done) | (go_simp; rfl)); intro gb214 hg w7 hbox hb; have n0_ := Aside0.mk (below_step (by repeat (first | (with_reducible first | exact HB.out | apply below_alloc | apply pw_below_drewN | apply below_drew1) | exact HB.out)) hb); have n1_ := Aside0.mk (hbox); have n2_ := Aside0.mk ((by rw [hg]; exact (below_size (by repeat (first | (with_reducible first | exact HB.out | apply below_alloc | apply pw_below_drewN | apply below_drew1) | exact HB.out))) : w.heap.size ≤ gb214)); have n3_ := Aside0.mk ((by rw [hg]; exact (below_size (by repeat (first | (with_reducible first | exact HB.out | apply below_alloc | apply pw_below_drewN | apply below_drew1) | exact HB.out))) : w.heap.size ≤ gb214)); clear HB; have HB := n0_; have BK214 := n1_; have GW214 := n2_; have GE214 := n3_; clear n0_ n1_ n2_ n3_; clear hb hbox hg) | ((with_reducible refine gate_dst (N := 5) rfl ?_); (try (refine gate_guard (by rfl) ?_; dsimp only)); refine box_event ?hg (N := 5) ?hd (cs := #[.int .i64 a1_0, .slice A1_1 l1_1.length c1_1, .int .i64 a1_2, .int .i64 a1_3]) (t := 26) ?hr ?_; (case hd => rfl); (case hg => rfl); (case hr => first | (go_simp; done) | (go_simp; rfl)); intro gb215 hg w8 hbox hb; have n0_ := Aside0.mk (blk_below (g := gb214) (o := .cells #[.int .i64 a0_0, .int .i64 a0_1, .int .i64 a0_2, .int .i64 a0_3, .int .i64 a0_4, .int .i64 a0_5, .int .i64 a0_6, .int .i64 a0_7, .int .i64 a0_8, .int .i64 a0_9, .int .i64 a0_10, .int .i64 a0_11] 23 (0, 0)) (by (with_reducible repeat (first | refine blk_drewN ?_ _ | refine blk_drew ?_ | refine blk_alloc ?_ _)); exact BK214.out) hb); have n1_ := Aside0.mk (below_step (by repeat (first | (with_reducible first | exact HB.out | apply below_alloc | apply pw_below_drewN | apply below_drew1 | refine below_set ?_ GE214.out) | exact HB.out)) hb); have n2_ := Aside0.mk (hbox); have n3_ := Aside0.mk ((by rw [hg]; exact (below_size (by repeat (first | (with_reducible first | exact HB.out | apply below_alloc | apply pw_below_drewN | apply below_drew1 | refine below_set ?_ GE214.out) | exact HB.out))) : w.heap.size ≤ gb215)); have n4_ := Aside0.mk ((by rw [hg]; exact (below_size (by repeat (first | (with_reducible first | exact HB.out | apply below_alloc | apply pw_below_drewN | apply below_drew1 | refine below_set ?_ GE214.out) | exact HB.out))) : w.heap.size ≤ gb215)); have n5_ := Aside0.mk ((by rw [hg]; exact Nat.ne_of_lt (blk_lt (g := gb214) (o := .cells #[.int .i64 a0_0, .int .i64 a0_1, .int .i64 a0_2, .int .i64 a0_3, .int .i64 a0_4, .int .i64 a0_5, .int .i64 a0_6, .int .i64 a0_7, .int .i64 a0_8, .int .i64 a0_9, .int .i64 a0_10, .int .i64 a0_11] 23 (0, 0)) (by (with_reducible repeat (first | refine blk_drewN ?_ _ | refine blk_drew ?_ | refine blk_alloc ?_ _)); exact BK214.out)) : gb214 ≠ gb215)); have n6_ := Aside0.mk ((by rw [hg]; exact Nat.ne_of_gt (blk_lt (g := gb214) (o := .cells #[.int .i64 a0_0, .int .i64 a0_1, .int .i64 a0_2, .int .i64 a0_3, .int .i64 a0_4, .int .i64 a0_5, .int .i64 a0_6, .int .i64 a0_7, .int .i64 a0_8, .int .i64 a0_9, .int .i64 a0_10, .int .i64 a0_11] 23 (0, 0)) (by (with_reducible repeat (first | refine blk_drewN ?_ _ | refine blk_drew ?_ | refine blk_alloc ?_ _)); exact BK214.out)) : gb215 ≠ gb214)); clear BK214; clear HB; have BK214 := n0_; have HB := n1_; have BK215 := n2_; have GW215 := n3_; have GE215 := n4_; have NB214_215 := n5_; have NB215_214 := n6_; clear n0_ n1_ n2_ n3_ n4_ n5_ n6_; clear hb hbox hg) | ((with_reducible refine gate_dst (N := 8) rfl ?_); (try (refine gate_guard (by rfl) ?_; dsimp only)); refine box_event ?hg (N := 8) ?hd (cs := #[.int .i64 0, .slice none 0 0, .int .i64 0, .int .i64 0]) (t := 26) ?hr ?_; (case hd => rfl); (case hg => rfl); (case hr => first | (go_simp; done) | (go_simp; rfl)); intro gb216 hg w9 hbox hb; have n0_ := Aside0.mk (blk_below (g := gb214) (o := .cells #[.int .i64 a0_0, .int .i64 a0_1, .int .i64 a0_2, .int .i64 a0_3, .int .i64 a0_4, .int .i64 a0_5, .int .i64 a0_6, .int .i64 a0_7, .int .i64 a0_8, .int .i64 a0_9, .int .i64 a0_10, .int .i64 a0_11] 23 (0, 0)) (by (with_reducible repeat (first | refine blk_drewN ?_ _ | refine blk_drew ?_ | refine blk_alloc ?_ _)); exact BK214.out) hb); have n1_ := Aside0.mk (blk_below (g := gb215) (o := .cells #[.int .i64 a1_0, .slice A1_1 l1_1.length c1_1, .int .i64 a1_2, .int .i64 a1_3] 26 (0, 0)) (by (with_reducible repeat (first | refine blk_drewN ?_ _ | refine blk_drew ?_ | refine blk_alloc ?_ _)); exact BK215.out) hb); have n2_ := Aside0.mk (below_step (by repeat (first | (with_reducible first | exact HB.out | apply below_alloc | apply pw_below_drewN | apply below_drew1 | refine below_set ?_ GE214.out | refine below_set ?_ GE215.out) | exact HB.out)) hb); have n3_ := Aside0.mk (hbox); have n4_ := Aside0.mk ((by rw [hg]; exact (below_size (by repeat (first | (with_reducible first | exact HB.out | apply below_alloc | apply pw_below_drewN | apply below_drew1 | refine below_set ?_ GE214.out | refine below_set ?_ GE215.out) | exact HB.out))) : w.heap.size ≤ gb216)); have n5_ := Aside0.mk ((by rw [hg]; exact (below_size (by repeat (first | (with_reducible first | exact HB.out | apply below_alloc | apply pw_below_drewN | apply below_drew1 | refine below_set ?_ GE214.out | refine below_set ?_ GE215.out) | exact HB.out))) : w.heap.size ≤ gb216)); have n6_ := Aside0.mk ((by rw [hg]; exact Nat.ne_of_lt (blk_lt (g := gb214) (o := .cells #[.int .i64 a0_0, .int .i64 a0_1, .int .i64 a0_2, .int .i64 a0_3, .int .i64 a0_4, .int .i64 a0_5, .int .i64 a0_6, .int .i64 a0_7, .int .i64 a0_8, .int .i64 a0_9, .int .i64 a0_10, .int .i64 a0_11] 23 (0, 0)) (by (with_reducible repeat (first | refine blk_drewN ?_ _ | refine blk_drew ?_ | refine blk_alloc ?_ _)); exact BK214.out)) : gb214 ≠ gb216)); have n7_ := Aside0.mk ((by rw [hg]; exact Nat.ne_of_gt (blk_lt (g := gb214) (o := .cells #[.int .i64 a0_0, .int .i64 a0_1, .int .i64 a0_2, .int .i64 a0_3, .int .i64 a0_4, .int .i64 a0_5, .int .i64 a0_6, .int .i64 a0_7, .int .i64 a0_8, .int .i64 a0_9, .int .i64 a0_10, .int .i64 a0_11] 23 (0, 0)) (by (with_reducible repeat (first | refine blk_drewN ?_ _ | refine blk_drew ?_ | refine blk_alloc ?_ _)); exact BK214.out)) : gb216 ≠ gb214)); have n8_ := Aside0.mk ((by rw [hg]; exact Nat.ne_of_lt (blk_lt (g := gb215) (o := .cells #[.int .i64 a1_0, .slice A1_1 l1_1.length c1_1, .int .i64 a1_2, .int .i64 a1_3] 26 (0, 0)) (by (with_reducible repeat (first | refine blk_drewN ?_ _ | refine blk_drew ?_ | refine blk_alloc ?_ _)); exact BK215.out)) : gb215 ≠ gb216)); have n9_ := Aside0.mk ((by rw [hg]; exact Nat.ne_of_gt (blk_lt (g := gb215) (o := .cells #[.int .i64 a1_0, .slice A1_1 l1_1.length c1_1, .int .i64 a1_2, .int .i64 a1_3] 26 (0, 0)) (by (with_reducible repeat (first | refine blk_drewN ?_ _ | refine blk_drew ?_ | refine blk_alloc ?_ _)); exact BK215.out)) : gb216 ≠ gb215)); clear BK214; clear BK215; clear HB; have BK214 := n0_; have BK215 := n1_; have HB := n2_; have BK216 := n3_; have GW216 := n4_; have GE216 := n5_; have NB214_216 := n6_; have NB216_214 := n7_; have NB215_216 := n8_; have NB216_215 := n9_; clear n0_ n1_ n2_ n3_ n4_ n5_ n6_ n7_ n8_ n9_; clear hb hbox hg) | ((with_reducible refine gate_dst (N := 9) rfl ?_); (try (refine gate_guard (by rfl) ?_; dsimp only)); refine box_event ?hg (N := 9) ?hd (cs := #[.int .i64 0, .bool false]) (t := 31) ?hr ?_; (case hd => rfl); (case hg => rfl); (case hr => first | (go_simp; done) | (go_simp; rfl)); intro gb217 hg w10 hbox hb; have n0_ := Aside0.mk (blk_below (g := gb214) (o := .cells #[.int .i64 a0_0, .int .i64 a0_1, .int .i64 a0_2, .int .i64 a0_3, .int .i64 a0_4, .int .i64 a0_5, .int .i64 a0_6, .int .i64 a0_7, .int .i64 a0_8, .int .i64 a0_9, .int .i64 a0_10, .int .i64 a0_11] 23 (0, 0)) (by (with_reducible repeat (first | refine blk_drewN ?_ _ | refine blk_drew ?_ | refine blk_alloc ?_ _)); exact BK214.out) hb); have n1_ := Aside0.mk (blk_below (g := gb215) (o := .cells #[.int .i64 a1_0, .slice A1_1 l1_1.length c1_1, .int .i64 a1_2, .int .i64 a1_3] 26 (0, 0)) (by (with_reducible repeat (first | refine blk_drewN ?_ _ | refine blk_drew ?_ | refine blk_alloc ?_ _)); exact BK215.out) hb); have n2_ := Aside0.mk (blk_below (g := gb216) (o := .cells #[.int .i64 0, .slice none 0 0, .int .i64 0, .int .i64 0] 26 (0, 0)) (by (with_reducible repeat (first | refine blk_drewN ?_ _ | refine blk_drew ?_ | refine blk_alloc ?_ _)); exact BK216.out) hb); have n3_ := Aside0.mk (below_step (by repeat (first | (with_reducible first | exact HB.out | apply below_alloc | apply pw_below_drewN | apply below_drew1 | refine below_set ?_ GE214.out | refine below_set ?_ GE215.out | refine below_set ?_ GE216.out) | exact HB.out)) hb); have n4_ := Aside0.mk (hbox); have n5_ := Aside0.mk ((by rw [hg]; exact (below_size (by repeat (first | (with_reducible first | exact HB.out | apply below_alloc | apply pw_below_drewN | apply below_drew1 | refine below_set ?_ GE214.out | refine below_set ?_ GE215.out | refine below_set ?_ GE216.out) | exact HB.out))) : w.heap.size ≤ gb217)); have n6_ := Aside0.mk ((by rw [hg]; exact (below_size (by repeat (first | (with_reducible first | exact HB.out | apply below_alloc | apply pw_below_drewN | apply below_drew1 | refine below_set ?_ GE214.out | refine below_set ?_ GE215.out | refine below_set ?_ GE216.out) | exact HB.out))) : w.heap.size ≤ gb217)); have n7_ := Aside0.mk ((by rw [hg]; exact Nat.ne_of_lt (blk_lt (g := gb214) (o := .cells #[.int .i64 a0_0, .int .i64 a0_1, .int .i64 a0_2, .int .i64 a0_3, .int .i64 a0_4, .int .i64 a0_5, .int .i64 a0_6, .int .i64 a0_7, .int .i64 a0_8, .int .i64 a0_9, .int .i64 a0_10, .int .i64 a0_11] 23 (0, 0)) (by (with_reducible repeat (first | refine blk_drewN ?_ _ | refine blk_drew ?_ | refine blk_alloc ?_ _)); exact BK214.out)) : gb214 ≠ gb217)); have n8_ := Aside0.mk ((by rw [hg]; exact Nat.ne_of_gt (blk_lt (g := gb214) (o := .cells #[.int .i64 a0_0, .int .i64 a0_1, .int .i64 a0_2, .int .i64 a0_3, .int .i64 a0_4, .int .i64 a0_5, .int .i64 a0_6, .int .i64 a0_7, .int .i64 a0_8, .int .i64 a0_9, .int .i64 a0_10, .int .i64 a0_11] 23 (0, 0)) (by (with_reducible repeat (first | refine blk_drewN ?_ _ | refine blk_drew ?_ | refine blk_alloc ?_ _)); exact BK214.out)) : gb217 ≠ gb214)); have n9_ := Aside0.mk ((by rw [hg]; exact Nat.ne_of_lt (blk_lt (g := gb215) (o := .cells #[.int .i64 a1_0, .slice A1_1 l1_1.length c1_1, .int .i64 a1_2, .int .i64 a1_3] 26 (0, 0)) (by (with_reducible repeat (first | refine blk_drewN ?_ _ | refine blk_drew ?_ | refine blk_alloc ?_ _)); exact BK215.out)) : gb215 ≠ gb217)); have n10_ := Aside0.mk ((by rw [hg]; exact Nat.ne_of_gt (blk_lt (g := gb215) (o := .cells #[.int .i64 a1_0, .slice A1_1 l1_1.length c1_1, .int .i64 a1_2, .int .i64 a1_3] 26 (0, 0)) (by (with_reducible repeat (first | refine blk_drewN ?_ _ | refine blk_drew ?_ | refine blk_alloc ?_ _)); exact BK215.out)) : gb217 ≠ gb215)); have n11_ := Aside0.mk ((by rw [hg]; exact Nat.ne_of_lt (blk_lt (g := gb216) (o := .cells #[.int .i64 0, .slice none 0 0, .int .i64 0, .int .i64 0] 26 (0, 0)) (by (with_reducible repeat (first | refine blk_drewN ?_ _ | refine blk_drew ?_ | refine blk_alloc ?_ _)); exact BK216.out)) : gb216 ≠ gb217)); have n12_ := Aside0.mk ((by rw [hg]; exact Nat.ne_of_gt (blk_lt (g := gb216) (o := .cells #[.int .i64 0, .slice none 0 0, .int .i64 0, .int .i64 0] 26 (0, 0)) (by (with_reducible repeat (first | refine blk_drewN ?_ _ | refine blk_drew ?_ | refine blk_alloc ?_ _)); exact BK216.out)) : gb217 ≠ gb216)); clear BK214; clear BK215; clear BK216; clear HB; have BK214 := n0_; have BK215 := n1_; have BK216 := n2_; have HB := n3_; have BK217 := n4_; have GW217 := n5_; have GE217 := n6_; have NB214_217 := n7_; have NB217_214 := n8_; have NB215_217 := n9_; have NB217_215 := n10_; have NB216_217 := n11_; have NB217_216 := n12_; clear n0_ n1_ n2_ n3_ n4_ n5_ n6_ n7_ n8_ n9_ n10_ n11_ n12_; clear hb hbox hg))
    have n0_ := Aside0.mk (blk_drew BK214.out)
    have n1_ := Aside0.mk (blk_drew BK215.out)
    have n2_ := Aside0.mk (blk_drew BK216.out)
    have n3_ := Aside0.mk (blk_drew BK217.out)
    have n4_ := Aside0.mk (below_drew1 HB.out)
    clear BK214
    clear BK215
    clear BK216
    clear BK217
    clear HB
    have BK214 := n0_
    have BK215 := n1_
    have BK216 := n2_
    have BK217 := n3_
    have HB := n4_
    clear n0_ n1_ n2_ n3_ n4_
    refine start_ (n := 11) (S := fun w' => w'.cell? ⟨gb215, 0, none⟩ = some (.int .i64 a1_0) ∧ w'.cell? ⟨gb215, 1, none⟩ = some (.slice A1_1 l1_1.length c1_1) ∧ w'.cell? ⟨gb215, 2, none⟩ = some (.int .i64 a1_2) ∧ w'.cell? ⟨gb215, 3, none⟩ = some (.int .i64 a1_3)) (ds := []) #[false, false, false, false, false, false, false, false, false, false, false] (by kernel_rfl) rfl rfl ⟨(blk_cell BK215.out 0).trans rfl, (blk_cell BK215.out 1).trans rfl, (blk_cell BK215.out 2).trans rfl, (blk_cell BK215.out 3).trans rfl⟩ (fun hHeld => ?_); refine with_tabW governorref16_Step.tab1 governorref16_Step.bits1 (fun HT_ HW_ => ?_)
    generalize w10.drew = w11 at BK214 BK215 BK216 BK217 HB hHeld ⊢
    refine pure_ (i := 0) (N := some 13) (v := ?_) (a' := ?_) #[true, false, false, false, false, false, false, false, false, false, false] rfl rfl (any_of HT_.out (by kernel_rfl)) (fun _ _ _ h => h) (Or.inl ⟨by rfl, ?_⟩) ?_ ?_
    rotate_left
    · intro w'
      go_simp
      with_reducible rfl
    rotate_left
    · simp only [Act.put, List.setIfInBounds_toArray, List.set_cons_zero, List.set_cons_succ, i64_w, i32_w]
      rfl
    refine pure_ (i := 3) (N := some 16) (v := ?_) (a' := ?_) #[true, false, false, true, false, false, false, false, false, false, false] rfl rfl (any_of HT_.out (by kernel_rfl)) (fun _ _ _ h => h) (Or.inl ⟨by rfl, ?_⟩) ?_ ?_
    rotate_left
    · intro w'
      go_simp
      with_reducible rfl
    rotate_left
    · simp only [Act.put, List.setIfInBounds_toArray, List.set_cons_zero, List.set_cons_succ, i64_w, i32_w]
      rfl
    refine pure_ (i := 6) (N := some 19) (v := ?_) (a' := ?_) #[true, false, false, true, false, false, true, false, false, false, false] rfl rfl (any_of HT_.out (by kernel_rfl)) (fun _ _ _ h => h) (Or.inl ⟨by rfl, ?_⟩) ?_ ?_
    rotate_left
    · intro w'
      go_simp
      with_reducible rfl
    rotate_left
    · simp only [Act.put, List.setIfInBounds_toArray, List.set_cons_zero, List.set_cons_succ, i64_w, i32_w]
      rfl
    refine take_ (i := 1) (N := some 14) (v := ?_) (a' := ?_) #[true, true, false, true, false, false, true, false, false, false, false] rfl rfl (take_ofW HT_.out HW_.out (by kernel_rfl)) (fun _ _ _ h => h) (Or.inl ⟨by rfl, ?_⟩) hHeld ?_ ?_
    rotate_left
    · rintro w' ⟨s0, s1, s2, s3⟩
      go_simp
      with_reducible rfl
    rotate_left
    · simp only [Act.put, List.setIfInBounds_toArray, List.set_cons_zero, List.set_cons_succ, i64_w, i32_w]
      rfl
    refine take_ (i := 4) (N := some 17) (v := ?_) (a' := ?_) #[true, true, false, true, true, false, true, false, false, false, false] rfl rfl (take_ofW HT_.out HW_.out (by kernel_rfl)) (fun _ _ _ h => h) (Or.inl ⟨by rfl, ?_⟩) hHeld ?_ ?_
    rotate_left
    · rintro w' ⟨s0, s1, s2, s3⟩
      go_simp
      with_reducible rfl
    rotate_left
    · simp only [Act.put, List.setIfInBounds_toArray, List.set_cons_zero, List.set_cons_succ, i64_w, i32_w]
      rfl
    refine take_ (i := 7) (N := some 20) (v := ?_) (a' := ?_) #[true, true, false, true, true, false, true, true, false, false, false] rfl rfl (take_ofW HT_.out HW_.out (by kernel_rfl)) (fun _ _ _ h => h) (Or.inl ⟨by rfl, ?_⟩) hHeld ?_ ?_
    rotate_left
    · rintro w' ⟨s0, s1, s2, s3⟩
      go_simp
      with_reducible rfl
    rotate_left
    · simp only [Act.put, List.setIfInBounds_toArray, List.set_cons_zero, List.set_cons_succ, i64_w, i32_w]
      rfl
    refine join_ (σ := Value × Value × Nat) 1 #[true, true, true, true, true, true, true, true, true, true, false] (fun s_ => [(15, s_.1), (18, s_.2.1), (10, .pointer (some ⟨s_.2.2, 0, none⟩)), (21, .agg #[.int .i64 a1_0, s_.2.1, .int .i64 a1_2, .int .i64 0])]) (fun s_ w' => (w'.cell? ⟨gb215, 0, none⟩ = some (.int .i64 a1_0) ∧ w'.cell? ⟨gb215, 1, none⟩ = some (.slice A1_1 l1_1.length c1_1) ∧ w'.cell? ⟨gb215, 2, none⟩ = some (.int .i64 a1_2) ∧ w'.cell? ⟨gb215, 3, none⟩ = some (.int .i64 a1_3)) ∧ (Kd.R (Kd.int .i64) 3 w' w.heap.size (fun _ => True) s_.2.1 y221) ∧ (w'.heap[gb214]? = some (.cells #[.int .i64 a0_0, .int .i64 a0_1, .int .i64 a0_2, .int .i64 a0_3, .int .i64 a0_4, .int .i64 a0_5, .int .i64 a0_6, .int .i64 a0_7, .int .i64 a0_8, .int .i64 a0_9, .int .i64 a0_10, .int .i64 a0_11] 23 (0, 0))) ∧ (w'.heap[gb215]? = some (.cells #[.int .i64 a1_0, .slice A1_1 l1_1.length c1_1, .int .i64 a1_2, .int .i64 a1_3] 26 (0, 0))) ∧ (w'.heap[gb216]? = some (.cells #[.int .i64 0, .slice none 0 0, .int .i64 0, .int .i64 0] 26 (0, 0))) ∧ (w'.heap[gb217]? = some (.cells #[.int .i64 0, .bool false] 31 (0, 0))) ∧ (w'.heap[s_.2.2]? = some (.cells #[.int .i64 0, .slice none 0 0, .int .i64 0, .int .i64 0] 26 (0, 0))) ∧ (w.heap.size ≤ s_.2.2) ∧ (w.heap.size ≤ s_.2.2) ∧ (gb214 ≠ s_.2.2) ∧ (s_.2.2 ≠ gb214) ∧ (gb215 ≠ s_.2.2) ∧ (s_.2.2 ≠ gb215) ∧ (gb216 ≠ s_.2.2) ∧ (s_.2.2 ≠ gb216) ∧ (gb217 ≠ s_.2.2) ∧ (s_.2.2 ≠ gb217) ∧ (Below w.heap.size w w')) ?_ ?_
    rotate_left
    · intro hCont
      refine two_ (i := 2) (j := 9) (Ni := some 15) (Nj := some 10) #[true, true, true, true, true, false, true, true, false, false, false] #[true, true, false, true, true, false, true, true, false, true, false] rfl rfl rfl rfl (two_of HT_.out (by kernel_rfl)) (by decide) (by decide) (fun K hK => ?_) (fun K hK => ?_)
      · skip
        refine Kd.R_lit_step (Kd.int .i64) _ 3 ?hg (N := 15) ?hd (xs := ([] : List Int)) (inner := []) (ok := fun _ => True) (okp := fun _ => True) ?hr ?hp (fun _ hk => hk) trivial (Below.refl _ _) (Nat.le_refl _) (by simp) ?_; (case hd => rfl); (case hg => rfl); (case hr => first | (go_simp; done) | (go_simp; rfl)); (case hp => exact (Reps.none _ _))
        intro v219 w12 ho13 hb hg_ hnew_
        clear hg_ hnew_
        (first | rw [← Ny218.out] at ho13 | (simp only [Int.reduceToNat] at ho13; rw [← Ny218.out] at ho13))
        have n0_ := Aside0.mk (Kd.R_lower ho13 (below_size (by repeat (first | (with_reducible first | exact HB.out | apply below_alloc | apply pw_below_drewN | apply below_drew1 | refine below_set ?_ GE214.out | refine below_set ?_ GE215.out | refine below_set ?_ GE216.out | refine below_set ?_ GE217.out) | exact HB.out))))
        have n1_ := Aside0.mk (blk_below (g := gb214) (o := .cells #[.int .i64 a0_0, .int .i64 a0_1, .int .i64 a0_2, .int .i64 a0_3, .int .i64 a0_4, .int .i64 a0_5, .int .i64 a0_6, .int .i64 a0_7, .int .i64 a0_8, .int .i64 a0_9, .int .i64 a0_10, .int .i64 a0_11] 23 (0, 0)) (by (with_reducible repeat (first | refine blk_drewN ?_ _ | refine blk_drew ?_ | refine blk_alloc ?_ _)); exact BK214.out) hb)
        have n2_ := Aside0.mk (blk_below (g := gb215) (o := .cells #[.int .i64 a1_0, .slice A1_1 l1_1.length c1_1, .int .i64 a1_2, .int .i64 a1_3] 26 (0, 0)) (by (with_reducible repeat (first | refine blk_drewN ?_ _ | refine blk_drew ?_ | refine blk_alloc ?_ _)); exact BK215.out) hb)
        have n3_ := Aside0.mk (blk_below (g := gb216) (o := .cells #[.int .i64 0, .slice none 0 0, .int .i64 0, .int .i64 0] 26 (0, 0)) (by (with_reducible repeat (first | refine blk_drewN ?_ _ | refine blk_drew ?_ | refine blk_alloc ?_ _)); exact BK216.out) hb)
        have n4_ := Aside0.mk (blk_below (g := gb217) (o := .cells #[.int .i64 0, .bool false] 31 (0, 0)) (by (with_reducible repeat (first | refine blk_drewN ?_ _ | refine blk_drew ?_ | refine blk_alloc ?_ _)); exact BK217.out) hb)
        have n5_ := Aside0.mk (below_step (by repeat (first | (with_reducible first | exact HB.out | apply below_alloc | apply pw_below_drewN | apply below_drew1 | refine below_set ?_ GE214.out | refine below_set ?_ GE215.out | refine below_set ?_ GE216.out | refine below_set ?_ GE217.out) | exact HB.out)) hb)
        clear BK214
        clear BK215
        clear BK216
        clear BK217
        clear HB
        have HO220 := n0_
        have BK214 := n1_
        have BK215 := n2_
        have BK216 := n3_
        have BK217 := n4_
        have HB := n5_
        clear n0_ n1_ n2_ n3_ n4_ n5_
        clear hb ho13
        refine hK.out _ _ ⟨(blk_cell BK215.out 0).trans rfl, (blk_cell BK215.out 1).trans rfl, (blk_cell BK215.out 2).trans rfl, (blk_cell BK215.out 3).trans rfl⟩ (fun hHeld => ?_)
        clear hK K
        refine norm_ (a' := ?_) ?_ ?_
        rotate_left
        · show Act.put _ (some 15) _ = _
          simp only [Act.put, List.setIfInBounds_toArray, List.set_cons_zero, List.set_cons_succ, i64_w, i32_w]
          rfl
        refine two_ (i := 5) (j := 9) (Ni := some 18) (Nj := some 10) #[true, true, true, true, true, true, true, true, false, false, false] #[true, true, true, true, true, false, true, true, false, true, false] rfl rfl rfl rfl (two_of HT_.out (by kernel_rfl)) (by decide) (by decide) (fun K hK => ?_) (fun K hK => ?_)
        · skip
          refine Kd.R_append_rows_step (Kd.int .i64) (w0 := w) w.heap.size (by rfl) (.tmp 15) (.tmp 17) 24 3 (.int .i64 0) 8 rfl Try.underlying24 info3 rfl (by decide) (by omega) v219 y218 l1_1 _ _ _ (fun _ => True) (fun _ => False) rfl rfl ?aO ?aR (fun _ _ h => h) (fun _ h => h.elim) ?aF ?aB ?aS ?aL ?_
          (case aR => repeat (first | exact (Kd.C_below HR1_1.out HB.out) | (with_reducible refine Kd.C_alloc ?_ _) | (with_reducible refine Kd.C_drewN ?_ _) | (with_reducible refine Kd.C_drew ?_)))
          (case aB => exact (by repeat (first | (with_reducible first | exact HB.out | apply below_alloc | apply pw_below_drewN | apply below_drew1 | refine below_set ?_ GE214.out | refine below_set ?_ GE215.out | refine below_set ?_ GE216.out | refine below_set ?_ GE217.out) | exact HB.out)))
          (case aF => exact (fun _ _ => trivial))
          (case aO => exact (by (with_reducible repeat (first | apply Kd.R_alloc | apply Kd.R_drewN | apply Kd.R_drew)); exact HO220.out))
          (case aS => exact (below_size (by repeat (first | (with_reducible first | exact HB.out | apply below_alloc | apply pw_below_drewN | apply below_drew1 | refine below_set ?_ GE214.out | refine below_set ?_ GE215.out | refine below_set ?_ GE216.out | refine below_set ?_ GE217.out) | exact HB.out))))
          (case aL => have := LMc5.out; omega)
          intro v222 w14 ho hb hg hat
          rw [← Ny221.out] at ho
          have n0_ := Aside0.mk (blk_grown (g := gb214) (o := .cells #[.int .i64 a0_0, .int .i64 a0_1, .int .i64 a0_2, .int .i64 a0_3, .int .i64 a0_4, .int .i64 a0_5, .int .i64 a0_6, .int .i64 a0_7, .int .i64 a0_8, .int .i64 a0_9, .int .i64 a0_10, .int .i64 a0_11] 23 (0, 0)) (by (with_reducible repeat (first | refine blk_drewN ?_ _ | refine blk_drew ?_ | refine blk_alloc ?_ _)); exact BK214.out) hg (Kd.R_ne HO220.out BK214.out (by decide)))
          have n1_ := Aside0.mk (blk_grown (g := gb215) (o := .cells #[.int .i64 a1_0, .slice A1_1 l1_1.length c1_1, .int .i64 a1_2, .int .i64 a1_3] 26 (0, 0)) (by (with_reducible repeat (first | refine blk_drewN ?_ _ | refine blk_drew ?_ | refine blk_alloc ?_ _)); exact BK215.out) hg (Kd.R_ne HO220.out BK215.out (by decide)))
          have n2_ := Aside0.mk (blk_grown (g := gb216) (o := .cells #[.int .i64 0, .slice none 0 0, .int .i64 0, .int .i64 0] 26 (0, 0)) (by (with_reducible repeat (first | refine blk_drewN ?_ _ | refine blk_drew ?_ | refine blk_alloc ?_ _)); exact BK216.out) hg (Kd.R_ne HO220.out BK216.out (by decide)))
          have n3_ := Aside0.mk (blk_grown (g := gb217) (o := .cells #[.int .i64 0, .bool false] 31 (0, 0)) (by (with_reducible repeat (first | refine blk_drewN ?_ _ | refine blk_drew ?_ | refine blk_alloc ?_ _)); exact BK217.out) hg (Kd.R_ne HO220.out BK217.out (by decide)))
          have n4_ := Aside0.mk (hb)
          have n5_ := Aside0.mk (ho)
          clear BK214
          clear BK215
          clear BK216
          clear BK217
          clear HB
          clear HO220
          have BK214 := n0_
          have BK215 := n1_
          have BK216 := n2_
          have BK217 := n3_
          have HB := n4_
          have HO223 := n5_
          clear n0_ n1_ n2_ n3_ n4_ n5_
          clear ho hb hg hat
          obtain ⟨Ao15, co15, eo15⟩ := Kd.R_slice HO223.out
          (first | subst eo15 | (injection eo15 with f1_ f2_ f3_; have f4_ := f1_.symm; have f5_ := f3_.symm; clear f1_ f2_ f3_; subst f4_; subst f5_))
          refine hK.out _ _ ⟨(blk_cell BK215.out 0).trans rfl, (blk_cell BK215.out 1).trans rfl, (blk_cell BK215.out 2).trans rfl, (blk_cell BK215.out 3).trans rfl⟩ (fun hHeld => ?_)
          clear hK K
          refine norm_ (a' := ?_) ?_ ?_
          rotate_left
          · show Act.put _ (some 18) _ = _
            simp only [Act.put, List.setIfInBounds_toArray, List.set_cons_zero, List.set_cons_succ, i64_w, i32_w]
            rfl
          refine pure_ (i := 8) (N := some 21) (v := ?_) (a' := ?_) #[true, true, true, true, true, true, true, true, true, false, false] rfl rfl (any_of HT_.out (by kernel_rfl)) (fun _ _ _ h => h) (Or.inl ⟨by rfl, ?_⟩) ?_ ?_
          rotate_left
          · intro w'
            go_simp
            with_reducible rfl
          rotate_left
          · simp only [Act.put, List.setIfInBounds_toArray, List.set_cons_zero, List.set_cons_succ, i64_w, i32_w]
            rfl
          refine one_ (i := 9) (N := some 10) #[true, true, true, true, true, true, true, true, true, true, false] rfl rfl (one_of HT_.out (by kernel_rfl)) (by decide) (fun K hK => ?_)
          refine box_step ?hg (N := 10) ?hd (cs := #[.int .i64 0, .slice none 0 0, .int .i64 0, .int .i64 0]) (t := 26) ?hr ?_; (case hd => rfl); (case hg => rfl); (case hr => first | (go_simp; done) | (go_simp; rfl))
          intro gb224 hg w16 hbox hb
          have n0_ := Aside0.mk (Kd.R_below (by (with_reducible repeat (first | apply Kd.R_alloc | apply Kd.R_drewN | apply Kd.R_drew)); exact HO223.out) hb)
          have n1_ := Aside0.mk (blk_below (g := gb214) (o := .cells #[.int .i64 a0_0, .int .i64 a0_1, .int .i64 a0_2, .int .i64 a0_3, .int .i64 a0_4, .int .i64 a0_5, .int .i64 a0_6, .int .i64 a0_7, .int .i64 a0_8, .int .i64 a0_9, .int .i64 a0_10, .int .i64 a0_11] 23 (0, 0)) (by (with_reducible repeat (first | refine blk_drewN ?_ _ | refine blk_drew ?_ | refine blk_alloc ?_ _)); exact BK214.out) hb)
          have n2_ := Aside0.mk (blk_below (g := gb215) (o := .cells #[.int .i64 a1_0, .slice A1_1 l1_1.length c1_1, .int .i64 a1_2, .int .i64 a1_3] 26 (0, 0)) (by (with_reducible repeat (first | refine blk_drewN ?_ _ | refine blk_drew ?_ | refine blk_alloc ?_ _)); exact BK215.out) hb)
          have n3_ := Aside0.mk (blk_below (g := gb216) (o := .cells #[.int .i64 0, .slice none 0 0, .int .i64 0, .int .i64 0] 26 (0, 0)) (by (with_reducible repeat (first | refine blk_drewN ?_ _ | refine blk_drew ?_ | refine blk_alloc ?_ _)); exact BK216.out) hb)
          have n4_ := Aside0.mk (blk_below (g := gb217) (o := .cells #[.int .i64 0, .bool false] 31 (0, 0)) (by (with_reducible repeat (first | refine blk_drewN ?_ _ | refine blk_drew ?_ | refine blk_alloc ?_ _)); exact BK217.out) hb)
          have n5_ := Aside0.mk (below_step (by repeat (first | (with_reducible first | exact HB.out | apply below_alloc | apply pw_below_drewN | apply below_drew1 | refine below_set ?_ GE214.out | refine below_set ?_ GE215.out | refine below_set ?_ GE216.out | refine below_set ?_ GE217.out) | exact HB.out)) hb)
          have n6_ := Aside0.mk (hbox)
          have n7_ := Aside0.mk ((by rw [hg]; exact (below_size (by repeat (first | (with_reducible first | exact HB.out | apply below_alloc | apply pw_below_drewN | apply below_drew1 | refine below_set ?_ GE214.out | refine below_set ?_ GE215.out | refine below_set ?_ GE216.out | refine below_set ?_ GE217.out) | exact HB.out))) : w.heap.size ≤ gb224))
          have n8_ := Aside0.mk ((by rw [hg]; exact (below_size (by repeat (first | (with_reducible first | exact HB.out | apply below_alloc | apply pw_below_drewN | apply below_drew1 | refine below_set ?_ GE214.out | refine below_set ?_ GE215.out | refine below_set ?_ GE216.out | refine below_set ?_ GE217.out) | exact HB.out))) : w.heap.size ≤ gb224))
          have n9_ := Aside0.mk ((by rw [hg]; exact Nat.ne_of_lt (blk_lt (g := gb214) (o := .cells #[.int .i64 a0_0, .int .i64 a0_1, .int .i64 a0_2, .int .i64 a0_3, .int .i64 a0_4, .int .i64 a0_5, .int .i64 a0_6, .int .i64 a0_7, .int .i64 a0_8, .int .i64 a0_9, .int .i64 a0_10, .int .i64 a0_11] 23 (0, 0)) (by (with_reducible repeat (first | refine blk_drewN ?_ _ | refine blk_drew ?_ | refine blk_alloc ?_ _)); exact BK214.out)) : gb214 ≠ gb224))
          have n10_ := Aside0.mk ((by rw [hg]; exact Nat.ne_of_gt (blk_lt (g := gb214) (o := .cells #[.int .i64 a0_0, .int .i64 a0_1, .int .i64 a0_2, .int .i64 a0_3, .int .i64 a0_4, .int .i64 a0_5, .int .i64 a0_6, .int .i64 a0_7, .int .i64 a0_8, .int .i64 a0_9, .int .i64 a0_10, .int .i64 a0_11] 23 (0, 0)) (by (with_reducible repeat (first | refine blk_drewN ?_ _ | refine blk_drew ?_ | refine blk_alloc ?_ _)); exact BK214.out)) : gb224 ≠ gb214))
          have n11_ := Aside0.mk ((by rw [hg]; exact Nat.ne_of_lt (blk_lt (g := gb215) (o := .cells #[.int .i64 a1_0, .slice A1_1 l1_1.length c1_1, .int .i64 a1_2, .int .i64 a1_3] 26 (0, 0)) (by (with_reducible repeat (first | refine blk_drewN ?_ _ | refine blk_drew ?_ | refine blk_alloc ?_ _)); exact BK215.out)) : gb215 ≠ gb224))
          have n12_ := Aside0.mk ((by rw [hg]; exact Nat.ne_of_gt (blk_lt (g := gb215) (o := .cells #[.int .i64 a1_0, .slice A1_1 l1_1.length c1_1, .int .i64 a1_2, .int .i64 a1_3] 26 (0, 0)) (by (with_reducible repeat (first | refine blk_drewN ?_ _ | refine blk_drew ?_ | refine blk_alloc ?_ _)); exact BK215.out)) : gb224 ≠ gb215))
          have n13_ := Aside0.mk ((by rw [hg]; exact Nat.ne_of_lt (blk_lt (g := gb216) (o := .cells #[.int .i64 0, .slice none 0 0, .int .i64 0, .int .i64 0] 26 (0, 0)) (by (with_reducible repeat (first | refine blk_drewN ?_ _ | refine blk_drew ?_ | refine blk_alloc ?_ _)); exact BK216.out)) : gb216 ≠ gb224))
          have n14_ := Aside0.mk ((by rw [hg]; exact Nat.ne_of_gt (blk_lt (g := gb216) (o := .cells #[.int .i64 0, .slice none 0 0, .int .i64 0, .int .i64 0] 26 (0, 0)) (by (with_reducible repeat (first | refine blk_drewN ?_ _ | refine blk_drew ?_ | refine blk_alloc ?_ _)); exact BK216.out)) : gb224 ≠ gb216))
          have n15_ := Aside0.mk ((by rw [hg]; exact Nat.ne_of_lt (blk_lt (g := gb217) (o := .cells #[.int .i64 0, .bool false] 31 (0, 0)) (by (with_reducible repeat (first | refine blk_drewN ?_ _ | refine blk_drew ?_ | refine blk_alloc ?_ _)); exact BK217.out)) : gb217 ≠ gb224))
          have n16_ := Aside0.mk ((by rw [hg]; exact Nat.ne_of_gt (blk_lt (g := gb217) (o := .cells #[.int .i64 0, .bool false] 31 (0, 0)) (by (with_reducible repeat (first | refine blk_drewN ?_ _ | refine blk_drew ?_ | refine blk_alloc ?_ _)); exact BK217.out)) : gb224 ≠ gb217))
          clear HO223
          clear BK214
          clear BK215
          clear BK216
          clear BK217
          clear HB
          have HO223 := n0_
          have BK214 := n1_
          have BK215 := n2_
          have BK216 := n3_
          have BK217 := n4_
          have HB := n5_
          have BK224 := n6_
          have GW224 := n7_
          have GE224 := n8_
          have NB214_224 := n9_
          have NB224_214 := n10_
          have NB215_224 := n11_
          have NB224_215 := n12_
          have NB216_224 := n13_
          have NB224_216 := n14_
          have NB217_224 := n15_
          have NB224_217 := n16_
          clear n0_ n1_ n2_ n3_ n4_ n5_ n6_ n7_ n8_ n9_ n10_ n11_ n12_ n13_ n14_ n15_ n16_
          clear hb hbox hg
          refine hK.out _ _ ⟨(blk_cell BK215.out 0).trans rfl, (blk_cell BK215.out 1).trans rfl, (blk_cell BK215.out 2).trans rfl, (blk_cell BK215.out 3).trans rfl⟩ (fun hHeld => ?_)
          clear hK K
          refine norm_ (a' := ?_) ?_ ?_
          rotate_left
          · show Act.put _ (some 10) _ = _
            simp only [Act.put, List.setIfInBounds_toArray, List.set_cons_zero, List.set_cons_succ, i64_w, i32_w]
            rfl
          exact norm_ (by simp only [putAll, Act.put, List.setIfInBounds_toArray, List.set_cons_zero, List.set_cons_succ]) (hCont (v219, .slice Ao15 y221.length co15, gb224) _ ⟨hHeld, (by (with_reducible repeat (first | apply Kd.R_alloc | apply Kd.R_drewN | apply Kd.R_drew)); exact HO223.out), (by (with_reducible repeat (first | refine blk_drewN ?_ _ | refine blk_drew ?_ | refine blk_alloc ?_ _)); exact BK214.out), (by (with_reducible repeat (first | refine blk_drewN ?_ _ | refine blk_drew ?_ | refine blk_alloc ?_ _)); exact BK215.out), (by (with_reducible repeat (first | refine blk_drewN ?_ _ | refine blk_drew ?_ | refine blk_alloc ?_ _)); exact BK216.out), (by (with_reducible repeat (first | refine blk_drewN ?_ _ | refine blk_drew ?_ | refine blk_alloc ?_ _)); exact BK217.out), (by (with_reducible repeat (first | refine blk_drewN ?_ _ | refine blk_drew ?_ | refine blk_alloc ?_ _)); exact BK224.out), GW224.out, GE224.out, NB214_224.out, NB224_214.out, NB215_224.out, NB224_215.out, NB216_224.out, NB224_216.out, NB217_224.out, NB224_217.out, (by repeat (first | (with_reducible first | exact HB.out | apply below_alloc | apply pw_below_drewN | apply below_drew1 | refine below_set ?_ GE214.out | refine below_set ?_ GE215.out | refine below_set ?_ GE216.out | refine below_set ?_ GE217.out | refine below_set ?_ GE224.out) | exact HB.out))⟩)
        · skip
          refine box_step ?hg (N := 10) ?hd (cs := #[.int .i64 0, .slice none 0 0, .int .i64 0, .int .i64 0]) (t := 26) ?hr ?_; (case hd => rfl); (case hg => rfl); (case hr => first | (go_simp; done) | (go_simp; rfl))
          intro gb224 hg w14 hbox hb
          have n0_ := Aside0.mk (Kd.R_below (by (with_reducible repeat (first | apply Kd.R_alloc | apply Kd.R_drewN | apply Kd.R_drew)); exact HO220.out) hb)
          have n1_ := Aside0.mk (blk_below (g := gb214) (o := .cells #[.int .i64 a0_0, .int .i64 a0_1, .int .i64 a0_2, .int .i64 a0_3, .int .i64 a0_4, .int .i64 a0_5, .int .i64 a0_6, .int .i64 a0_7, .int .i64 a0_8, .int .i64 a0_9, .int .i64 a0_10, .int .i64 a0_11] 23 (0, 0)) (by (with_reducible repeat (first | refine blk_drewN ?_ _ | refine blk_drew ?_ | refine blk_alloc ?_ _)); exact BK214.out) hb)
          have n2_ := Aside0.mk (blk_below (g := gb215) (o := .cells #[.int .i64 a1_0, .slice A1_1 l1_1.length c1_1, .int .i64 a1_2, .int .i64 a1_3] 26 (0, 0)) (by (with_reducible repeat (first | refine blk_drewN ?_ _ | refine blk_drew ?_ | refine blk_alloc ?_ _)); exact BK215.out) hb)
          have n3_ := Aside0.mk (blk_below (g := gb216) (o := .cells #[.int .i64 0, .slice none 0 0, .int .i64 0, .int .i64 0] 26 (0, 0)) (by (with_reducible repeat (first | refine blk_drewN ?_ _ | refine blk_drew ?_ | refine blk_alloc ?_ _)); exact BK216.out) hb)
          have n4_ := Aside0.mk (blk_below (g := gb217) (o := .cells #[.int .i64 0, .bool false] 31 (0, 0)) (by (with_reducible repeat (first | refine blk_drewN ?_ _ | refine blk_drew ?_ | refine blk_alloc ?_ _)); exact BK217.out) hb)
          have n5_ := Aside0.mk (below_step (by repeat (first | (with_reducible first | exact HB.out | apply below_alloc | apply pw_below_drewN | apply below_drew1 | refine below_set ?_ GE214.out | refine below_set ?_ GE215.out | refine below_set ?_ GE216.out | refine below_set ?_ GE217.out) | exact HB.out)) hb)
          have n6_ := Aside0.mk (hbox)
          have n7_ := Aside0.mk ((by rw [hg]; exact (below_size (by repeat (first | (with_reducible first | exact HB.out | apply below_alloc | apply pw_below_drewN | apply below_drew1 | refine below_set ?_ GE214.out | refine below_set ?_ GE215.out | refine below_set ?_ GE216.out | refine below_set ?_ GE217.out) | exact HB.out))) : w.heap.size ≤ gb224))
          have n8_ := Aside0.mk ((by rw [hg]; exact (below_size (by repeat (first | (with_reducible first | exact HB.out | apply below_alloc | apply pw_below_drewN | apply below_drew1 | refine below_set ?_ GE214.out | refine below_set ?_ GE215.out | refine below_set ?_ GE216.out | refine below_set ?_ GE217.out) | exact HB.out))) : w.heap.size ≤ gb224))
          have n9_ := Aside0.mk ((by rw [hg]; exact Nat.ne_of_lt (blk_lt (g := gb214) (o := .cells #[.int .i64 a0_0, .int .i64 a0_1, .int .i64 a0_2, .int .i64 a0_3, .int .i64 a0_4, .int .i64 a0_5, .int .i64 a0_6, .int .i64 a0_7, .int .i64 a0_8, .int .i64 a0_9, .int .i64 a0_10, .int .i64 a0_11] 23 (0, 0)) (by (with_reducible repeat (first | refine blk_drewN ?_ _ | refine blk_drew ?_ | refine blk_alloc ?_ _)); exact BK214.out)) : gb214 ≠ gb224))
          have n10_ := Aside0.mk ((by rw [hg]; exact Nat.ne_of_gt (blk_lt (g := gb214) (o := .cells #[.int .i64 a0_0, .int .i64 a0_1, .int .i64 a0_2, .int .i64 a0_3, .int .i64 a0_4, .int .i64 a0_5, .int .i64 a0_6, .int .i64 a0_7, .int .i64 a0_8, .int .i64 a0_9, .int .i64 a0_10, .int .i64 a0_11] 23 (0, 0)) (by (with_reducible repeat (first | refine blk_drewN ?_ _ | refine blk_drew ?_ | refine blk_alloc ?_ _)); exact BK214.out)) : gb224 ≠ gb214))
          have n11_ := Aside0.mk ((by rw [hg]; exact Nat.ne_of_lt (blk_lt (g := gb215) (o := .cells #[.int .i64 a1_0, .slice A1_1 l1_1.length c1_1, .int .i64 a1_2, .int .i64 a1_3] 26 (0, 0)) (by (with_reducible repeat (first | refine blk_drewN ?_ _ | refine blk_drew ?_ | refine blk_alloc ?_ _)); exact BK215.out)) : gb215 ≠ gb224))
          have n12_ := Aside0.mk ((by rw [hg]; exact Nat.ne_of_gt (blk_lt (g := gb215) (o := .cells #[.int .i64 a1_0, .slice A1_1 l1_1.length c1_1, .int .i64 a1_2, .int .i64 a1_3] 26 (0, 0)) (by (with_reducible repeat (first | refine blk_drewN ?_ _ | refine blk_drew ?_ | refine blk_alloc ?_ _)); exact BK215.out)) : gb224 ≠ gb215))
          have n13_ := Aside0.mk ((by rw [hg]; exact Nat.ne_of_lt (blk_lt (g := gb216) (o := .cells #[.int .i64 0, .slice none 0 0, .int .i64 0, .int .i64 0] 26 (0, 0)) (by (with_reducible repeat (first | refine blk_drewN ?_ _ | refine blk_drew ?_ | refine blk_alloc ?_ _)); exact BK216.out)) : gb216 ≠ gb224))
          have n14_ := Aside0.mk ((by rw [hg]; exact Nat.ne_of_gt (blk_lt (g := gb216) (o := .cells #[.int .i64 0, .slice none 0 0, .int .i64 0, .int .i64 0] 26 (0, 0)) (by (with_reducible repeat (first | refine blk_drewN ?_ _ | refine blk_drew ?_ | refine blk_alloc ?_ _)); exact BK216.out)) : gb224 ≠ gb216))
          have n15_ := Aside0.mk ((by rw [hg]; exact Nat.ne_of_lt (blk_lt (g := gb217) (o := .cells #[.int .i64 0, .bool false] 31 (0, 0)) (by (with_reducible repeat (first | refine blk_drewN ?_ _ | refine blk_drew ?_ | refine blk_alloc ?_ _)); exact BK217.out)) : gb217 ≠ gb224))
          have n16_ := Aside0.mk ((by rw [hg]; exact Nat.ne_of_gt (blk_lt (g := gb217) (o := .cells #[.int .i64 0, .bool false] 31 (0, 0)) (by (with_reducible repeat (first | refine blk_drewN ?_ _ | refine blk_drew ?_ | refine blk_alloc ?_ _)); exact BK217.out)) : gb224 ≠ gb217))
          clear HO220
          clear BK214
          clear BK215
          clear BK216
          clear BK217
          clear HB
          have HO220 := n0_
          have BK214 := n1_
          have BK215 := n2_
          have BK216 := n3_
          have BK217 := n4_
          have HB := n5_
          have BK224 := n6_
          have GW224 := n7_
          have GE224 := n8_
          have NB214_224 := n9_
          have NB224_214 := n10_
          have NB215_224 := n11_
          have NB224_215 := n12_
          have NB216_224 := n13_
          have NB224_216 := n14_
          have NB217_224 := n15_
          have NB224_217 := n16_
          clear n0_ n1_ n2_ n3_ n4_ n5_ n6_ n7_ n8_ n9_ n10_ n11_ n12_ n13_ n14_ n15_ n16_
          clear hb hbox hg
          refine hK.out _ _ ⟨(blk_cell BK215.out 0).trans rfl, (blk_cell BK215.out 1).trans rfl, (blk_cell BK215.out 2).trans rfl, (blk_cell BK215.out 3).trans rfl⟩ (fun hHeld => ?_)
          clear hK K
          refine norm_ (a' := ?_) ?_ ?_
          rotate_left
          · show Act.put _ (some 10) _ = _
            simp only [Act.put, List.setIfInBounds_toArray, List.set_cons_zero, List.set_cons_succ, i64_w, i32_w]
            rfl
          refine one_ (i := 5) (N := some 18) #[true, true, true, true, true, true, true, true, false, true, false] rfl rfl (one_of HT_.out (by kernel_rfl)) (by decide) (fun K hK => ?_)
          refine Kd.R_append_rows_step (Kd.int .i64) (w0 := w) w.heap.size (by rfl) (.tmp 15) (.tmp 17) 24 3 (.int .i64 0) 8 rfl Try.underlying24 info3 rfl (by decide) (by omega) v219 y218 l1_1 _ _ _ (fun _ => True) (fun _ => False) rfl rfl ?aO ?aR (fun _ _ h => h) (fun _ h => h.elim) ?aF ?aB ?aS ?aL ?_
          (case aR => repeat (first | exact (Kd.C_below HR1_1.out HB.out) | (with_reducible refine Kd.C_alloc ?_ _) | (with_reducible refine Kd.C_drewN ?_ _) | (with_reducible refine Kd.C_drew ?_)))
          (case aB => exact (by repeat (first | (with_reducible first | exact HB.out | apply below_alloc | apply pw_below_drewN | apply below_drew1 | refine below_set ?_ GE214.out | refine below_set ?_ GE215.out | refine below_set ?_ GE216.out | refine below_set ?_ GE217.out | refine below_set ?_ GE224.out) | exact HB.out)))
          (case aF => exact (fun _ _ => trivial))
          (case aO => exact (by (with_reducible repeat (first | apply Kd.R_alloc | apply Kd.R_drewN | apply Kd.R_drew)); exact HO220.out))
          (case aS => exact (below_size (by repeat (first | (with_reducible first | exact HB.out | apply below_alloc | apply pw_below_drewN | apply below_drew1 | refine below_set ?_ GE214.out | refine below_set ?_ GE215.out | refine below_set ?_ GE216.out | refine below_set ?_ GE217.out | refine below_set ?_ GE224.out) | exact HB.out))))
          (case aL => have := LMc5.out; omega)
          intro v222 w15 ho hb hg hat
          rw [← Ny221.out] at ho
          have n0_ := Aside0.mk (blk_grown (g := gb214) (o := .cells #[.int .i64 a0_0, .int .i64 a0_1, .int .i64 a0_2, .int .i64 a0_3, .int .i64 a0_4, .int .i64 a0_5, .int .i64 a0_6, .int .i64 a0_7, .int .i64 a0_8, .int .i64 a0_9, .int .i64 a0_10, .int .i64 a0_11] 23 (0, 0)) (by (with_reducible repeat (first | refine blk_drewN ?_ _ | refine blk_drew ?_ | refine blk_alloc ?_ _)); exact BK214.out) hg (Kd.R_ne HO220.out BK214.out (by decide)))
          have n1_ := Aside0.mk (blk_grown (g := gb215) (o := .cells #[.int .i64 a1_0, .slice A1_1 l1_1.length c1_1, .int .i64 a1_2, .int .i64 a1_3] 26 (0, 0)) (by (with_reducible repeat (first | refine blk_drewN ?_ _ | refine blk_drew ?_ | refine blk_alloc ?_ _)); exact BK215.out) hg (Kd.R_ne HO220.out BK215.out (by decide)))
          have n2_ := Aside0.mk (blk_grown (g := gb216) (o := .cells #[.int .i64 0, .slice none 0 0, .int .i64 0, .int .i64 0] 26 (0, 0)) (by (with_reducible repeat (first | refine blk_drewN ?_ _ | refine blk_drew ?_ | refine blk_alloc ?_ _)); exact BK216.out) hg (Kd.R_ne HO220.out BK216.out (by decide)))
          have n3_ := Aside0.mk (blk_grown (g := gb217) (o := .cells #[.int .i64 0, .bool false] 31 (0, 0)) (by (with_reducible repeat (first | refine blk_drewN ?_ _ | refine blk_drew ?_ | refine blk_alloc ?_ _)); exact BK217.out) hg (Kd.R_ne HO220.out BK217.out (by decide)))
          have n4_ := Aside0.mk (blk_grown (g := gb224) (o := .cells #[.int .i64 0, .slice none 0 0, .int .i64 0, .int .i64 0] 26 (0, 0)) (by (with_reducible repeat (first | refine blk_drewN ?_ _ | refine blk_drew ?_ | refine blk_alloc ?_ _)); exact BK224.out) hg (Kd.R_ne HO220.out BK224.out (by decide)))
          have n5_ := Aside0.mk (hb)
          have n6_ := Aside0.mk (ho)
          clear BK214
          clear BK215
          clear BK216
          clear BK217
          clear BK224
          clear HB
          clear HO220
          have BK214 := n0_
          have BK215 := n1_
          have BK216 := n2_
          have BK217 := n3_
          have BK224 := n4_
          have HB := n5_
          have HO223 := n6_
          clear n0_ n1_ n2_ n3_ n4_ n5_ n6_
          clear ho hb hg hat
          obtain ⟨Ao16, co16, eo16⟩ := Kd.R_slice HO223.out
          (first | subst eo16 | (injection eo16 with f1_ f2_ f3_; have f4_ := f1_.symm; have f5_ := f3_.symm; clear f1_ f2_ f3_; subst f4_; subst f5_))
          refine hK.out _ _ ⟨(blk_cell BK215.out 0).trans rfl, (blk_cell BK215.out 1).trans rfl, (blk_cell BK215.out 2).trans rfl, (blk_cell BK215.out 3).trans rfl⟩ (fun hHeld => ?_)
          clear hK K
          refine norm_ (a' := ?_) ?_ ?_
          rotate_left
          · show Act.put _ (some 18) _ = _
            simp only [Act.put, List.setIfInBounds_toArray, List.set_cons_zero, List.set_cons_succ, i64_w, i32_w]
            rfl
          refine pure_ (i := 8) (N := some 21) (v := ?_) (a' := ?_) #[true, true, true, true, true, true, true, true, true, true, false] rfl rfl (any_of HT_.out (by kernel_rfl)) (fun _ _ _ h => h) (Or.inl ⟨by rfl, ?_⟩) ?_ ?_
          rotate_left
          · intro w'
            go_simp
            with_reducible rfl
          rotate_left
          · simp only [Act.put, List.setIfInBounds_toArray, List.set_cons_zero, List.set_cons_succ, i64_w, i32_w]
            rfl
          exact norm_ (by simp only [putAll, Act.put, List.setIfInBounds_toArray, List.set_cons_zero, List.set_cons_succ]) (hCont (v219, .slice Ao16 y221.length co16, gb224) _ ⟨hHeld, (by (with_reducible repeat (first | apply Kd.R_alloc | apply Kd.R_drewN | apply Kd.R_drew)); exact HO223.out), (by (with_reducible repeat (first | refine blk_drewN ?_ _ | refine blk_drew ?_ | refine blk_alloc ?_ _)); exact BK214.out), (by (with_reducible repeat (first | refine blk_drewN ?_ _ | refine blk_drew ?_ | refine blk_alloc ?_ _)); exact BK215.out), (by (with_reducible repeat (first | refine blk_drewN ?_ _ | refine blk_drew ?_ | refine blk_alloc ?_ _)); exact BK216.out), (by (with_reducible repeat (first | refine blk_drewN ?_ _ | refine blk_drew ?_ | refine blk_alloc ?_ _)); exact BK217.out), (by (with_reducible repeat (first | refine blk_drewN ?_ _ | refine blk_drew ?_ | refine blk_alloc ?_ _)); exact BK224.out), GW224.out, GE224.out, NB214_224.out, NB224_214.out, NB215_224.out, NB224_215.out, NB216_224.out, NB224_216.out, NB217_224.out, NB224_217.out, (by repeat (first | (with_reducible first | exact HB.out | apply below_alloc | apply pw_below_drewN | apply below_drew1 | refine below_set ?_ GE214.out | refine below_set ?_ GE215.out | refine below_set ?_ GE216.out | refine below_set ?_ GE217.out | refine below_set ?_ GE224.out) | exact HB.out))⟩)
      · skip
        refine box_step ?hg (N := 10) ?hd (cs := #[.int .i64 0, .slice none 0 0, .int .i64 0, .int .i64 0]) (t := 26) ?hr ?_; (case hd => rfl); (case hg => rfl); (case hr => first | (go_simp; done) | (go_simp; rfl))
        intro gb224 hg w12 hbox hb
        have n0_ := Aside0.mk (blk_below (g := gb214) (o := .cells #[.int .i64 a0_0, .int .i64 a0_1, .int .i64 a0_2, .int .i64 a0_3, .int .i64 a0_4, .int .i64 a0_5, .int .i64 a0_6, .int .i64 a0_7, .int .i64 a0_8, .int .i64 a0_9, .int .i64 a0_10, .int .i64 a0_11] 23 (0, 0)) (by (with_reducible repeat (first | refine blk_drewN ?_ _ | refine blk_drew ?_ | refine blk_alloc ?_ _)); exact BK214.out) hb)
        have n1_ := Aside0.mk (blk_below (g := gb215) (o := .cells #[.int .i64 a1_0, .slice A1_1 l1_1.length c1_1, .int .i64 a1_2, .int .i64 a1_3] 26 (0, 0)) (by (with_reducible repeat (first | refine blk_drewN ?_ _ | refine blk_drew ?_ | refine blk_alloc ?_ _)); exact BK215.out) hb)
        have n2_ := Aside0.mk (blk_below (g := gb216) (o := .cells #[.int .i64 0, .slice none 0 0, .int .i64 0, .int .i64 0] 26 (0, 0)) (by (with_reducible repeat (first | refine blk_drewN ?_ _ | refine blk_drew ?_ | refine blk_alloc ?_ _)); exact BK216.out) hb)
        have n3_ := Aside0.mk (blk_below (g := gb217) (o := .cells #[.int .i64 0, .bool false] 31 (0, 0)) (by (with_reducible repeat (first | refine blk_drewN ?_ _ | refine blk_drew ?_ | refine blk_alloc ?_ _)); exact BK217.out) hb)
        have n4_ := Aside0.mk (below_step (by repeat (first | (with_reducible first | exact HB.out | apply below_alloc | apply pw_below_drewN | apply below_drew1 | refine below_set ?_ GE214.out | refine below_set ?_ GE215.out | refine below_set ?_ GE216.out | refine below_set ?_ GE217.out) | exact HB.out)) hb)
        have n5_ := Aside0.mk (hbox)
        have n6_ := Aside0.mk ((by rw [hg]; exact (below_size (by repeat (first | (with_reducible first | exact HB.out | apply below_alloc | apply pw_below_drewN | apply below_drew1 | refine below_set ?_ GE214.out | refine below_set ?_ GE215.out | refine below_set ?_ GE216.out | refine below_set ?_ GE217.out) | exact HB.out))) : w.heap.size ≤ gb224))
        have n7_ := Aside0.mk ((by rw [hg]; exact (below_size (by repeat (first | (with_reducible first | exact HB.out | apply below_alloc | apply pw_below_drewN | apply below_drew1 | refine below_set ?_ GE214.out | refine below_set ?_ GE215.out | refine below_set ?_ GE216.out | refine below_set ?_ GE217.out) | exact HB.out))) : w.heap.size ≤ gb224))
        have n8_ := Aside0.mk ((by rw [hg]; exact Nat.ne_of_lt (blk_lt (g := gb214) (o := .cells #[.int .i64 a0_0, .int .i64 a0_1, .int .i64 a0_2, .int .i64 a0_3, .int .i64 a0_4, .int .i64 a0_5, .int .i64 a0_6, .int .i64 a0_7, .int .i64 a0_8, .int .i64 a0_9, .int .i64 a0_10, .int .i64 a0_11] 23 (0, 0)) (by (with_reducible repeat (first | refine blk_drewN ?_ _ | refine blk_drew ?_ | refine blk_alloc ?_ _)); exact BK214.out)) : gb214 ≠ gb224))
        have n9_ := Aside0.mk ((by rw [hg]; exact Nat.ne_of_gt (blk_lt (g := gb214) (o := .cells #[.int .i64 a0_0, .int .i64 a0_1, .int .i64 a0_2, .int .i64 a0_3, .int .i64 a0_4, .int .i64 a0_5, .int .i64 a0_6, .int .i64 a0_7, .int .i64 a0_8, .int .i64 a0_9, .int .i64 a0_10, .int .i64 a0_11] 23 (0, 0)) (by (with_reducible repeat (first | refine blk_drewN ?_ _ | refine blk_drew ?_ | refine blk_alloc ?_ _)); exact BK214.out)) : gb224 ≠ gb214))
        have n10_ := Aside0.mk ((by rw [hg]; exact Nat.ne_of_lt (blk_lt (g := gb215) (o := .cells #[.int .i64 a1_0, .slice A1_1 l1_1.length c1_1, .int .i64 a1_2, .int .i64 a1_3] 26 (0, 0)) (by (with_reducible repeat (first | refine blk_drewN ?_ _ | refine blk_drew ?_ | refine blk_alloc ?_ _)); exact BK215.out)) : gb215 ≠ gb224))
        have n11_ := Aside0.mk ((by rw [hg]; exact Nat.ne_of_gt (blk_lt (g := gb215) (o := .cells #[.int .i64 a1_0, .slice A1_1 l1_1.length c1_1, .int .i64 a1_2, .int .i64 a1_3] 26 (0, 0)) (by (with_reducible repeat (first | refine blk_drewN ?_ _ | refine blk_drew ?_ | refine blk_alloc ?_ _)); exact BK215.out)) : gb224 ≠ gb215))
        have n12_ := Aside0.mk ((by rw [hg]; exact Nat.ne_of_lt (blk_lt (g := gb216) (o := .cells #[.int .i64 0, .slice none 0 0, .int .i64 0, .int .i64 0] 26 (0, 0)) (by (with_reducible repeat (first | refine blk_drewN ?_ _ | refine blk_drew ?_ | refine blk_alloc ?_ _)); exact BK216.out)) : gb216 ≠ gb224))
        have n13_ := Aside0.mk ((by rw [hg]; exact Nat.ne_of_gt (blk_lt (g := gb216) (o := .cells #[.int .i64 0, .slice none 0 0, .int .i64 0, .int .i64 0] 26 (0, 0)) (by (with_reducible repeat (first | refine blk_drewN ?_ _ | refine blk_drew ?_ | refine blk_alloc ?_ _)); exact BK216.out)) : gb224 ≠ gb216))
        have n14_ := Aside0.mk ((by rw [hg]; exact Nat.ne_of_lt (blk_lt (g := gb217) (o := .cells #[.int .i64 0, .bool false] 31 (0, 0)) (by (with_reducible repeat (first | refine blk_drewN ?_ _ | refine blk_drew ?_ | refine blk_alloc ?_ _)); exact BK217.out)) : gb217 ≠ gb224))
        have n15_ := Aside0.mk ((by rw [hg]; exact Nat.ne_of_gt (blk_lt (g := gb217) (o := .cells #[.int .i64 0, .bool false] 31 (0, 0)) (by (with_reducible repeat (first | refine blk_drewN ?_ _ | refine blk_drew ?_ | refine blk_alloc ?_ _)); exact BK217.out)) : gb224 ≠ gb217))
        clear BK214
        clear BK215
        clear BK216
        clear BK217
        clear HB
        have BK214 := n0_
        have BK215 := n1_
        have BK216 := n2_
        have BK217 := n3_
        have HB := n4_
        have BK224 := n5_
        have GW224 := n6_
        have GE224 := n7_
        have NB214_224 := n8_
        have NB224_214 := n9_
        have NB215_224 := n10_
        have NB224_215 := n11_
        have NB216_224 := n12_
        have NB224_216 := n13_
        have NB217_224 := n14_
        have NB224_217 := n15_
        clear n0_ n1_ n2_ n3_ n4_ n5_ n6_ n7_ n8_ n9_ n10_ n11_ n12_ n13_ n14_ n15_
        clear hb hbox hg
        refine hK.out _ _ ⟨(blk_cell BK215.out 0).trans rfl, (blk_cell BK215.out 1).trans rfl, (blk_cell BK215.out 2).trans rfl, (blk_cell BK215.out 3).trans rfl⟩ (fun hHeld => ?_)
        clear hK K
        refine norm_ (a' := ?_) ?_ ?_
        rotate_left
        · show Act.put _ (some 10) _ = _
          simp only [Act.put, List.setIfInBounds_toArray, List.set_cons_zero, List.set_cons_succ, i64_w, i32_w]
          rfl
        refine one_ (i := 2) (N := some 15) #[true, true, true, true, true, false, true, true, false, true, false] rfl rfl (one_of HT_.out (by kernel_rfl)) (by decide) (fun K hK => ?_)
        refine Kd.R_lit_step (Kd.int .i64) _ 3 ?hg (N := 15) ?hd (xs := ([] : List Int)) (inner := []) (ok := fun _ => True) (okp := fun _ => True) ?hr ?hp (fun _ hk => hk) trivial (Below.refl _ _) (Nat.le_refl _) (by simp) ?_; (case hd => rfl); (case hg => rfl); (case hr => first | (go_simp; done) | (go_simp; rfl)); (case hp => exact (Reps.none _ _))
        intro v219 w13 ho14 hb hg_ hnew_
        clear hg_ hnew_
        (first | rw [← Ny218.out] at ho14 | (simp only [Int.reduceToNat] at ho14; rw [← Ny218.out] at ho14))
        have n0_ := Aside0.mk (Kd.R_lower ho14 (below_size (by repeat (first | (with_reducible first | exact HB.out | apply below_alloc | apply pw_below_drewN | apply below_drew1 | refine below_set ?_ GE214.out | refine below_set ?_ GE215.out | refine below_set ?_ GE216.out | refine below_set ?_ GE217.out | refine below_set ?_ GE224.out) | exact HB.out))))
        have n1_ := Aside0.mk (blk_below (g := gb214) (o := .cells #[.int .i64 a0_0, .int .i64 a0_1, .int .i64 a0_2, .int .i64 a0_3, .int .i64 a0_4, .int .i64 a0_5, .int .i64 a0_6, .int .i64 a0_7, .int .i64 a0_8, .int .i64 a0_9, .int .i64 a0_10, .int .i64 a0_11] 23 (0, 0)) (by (with_reducible repeat (first | refine blk_drewN ?_ _ | refine blk_drew ?_ | refine blk_alloc ?_ _)); exact BK214.out) hb)
        have n2_ := Aside0.mk (blk_below (g := gb215) (o := .cells #[.int .i64 a1_0, .slice A1_1 l1_1.length c1_1, .int .i64 a1_2, .int .i64 a1_3] 26 (0, 0)) (by (with_reducible repeat (first | refine blk_drewN ?_ _ | refine blk_drew ?_ | refine blk_alloc ?_ _)); exact BK215.out) hb)
        have n3_ := Aside0.mk (blk_below (g := gb216) (o := .cells #[.int .i64 0, .slice none 0 0, .int .i64 0, .int .i64 0] 26 (0, 0)) (by (with_reducible repeat (first | refine blk_drewN ?_ _ | refine blk_drew ?_ | refine blk_alloc ?_ _)); exact BK216.out) hb)
        have n4_ := Aside0.mk (blk_below (g := gb217) (o := .cells #[.int .i64 0, .bool false] 31 (0, 0)) (by (with_reducible repeat (first | refine blk_drewN ?_ _ | refine blk_drew ?_ | refine blk_alloc ?_ _)); exact BK217.out) hb)
        have n5_ := Aside0.mk (blk_below (g := gb224) (o := .cells #[.int .i64 0, .slice none 0 0, .int .i64 0, .int .i64 0] 26 (0, 0)) (by (with_reducible repeat (first | refine blk_drewN ?_ _ | refine blk_drew ?_ | refine blk_alloc ?_ _)); exact BK224.out) hb)
        have n6_ := Aside0.mk (below_step (by repeat (first | (with_reducible first | exact HB.out | apply below_alloc | apply pw_below_drewN | apply below_drew1 | refine below_set ?_ GE214.out | refine below_set ?_ GE215.out | refine below_set ?_ GE216.out | refine below_set ?_ GE217.out | refine below_set ?_ GE224.out) | exact HB.out)) hb)
        clear BK214
        clear BK215
        clear BK216
        clear BK217
        clear BK224
        clear HB
        have HO220 := n0_
        have BK214 := n1_
        have BK215 := n2_
        have BK216 := n3_
        have BK217 := n4_
        have BK224 := n5_
        have HB := n6_
        clear n0_ n1_ n2_ n3_ n4_ n5_ n6_
        clear hb ho14
        refine hK.out _ _ ⟨(blk_cell BK215.out 0).trans rfl, (blk_cell BK215.out 1).trans rfl, (blk_cell BK215.out 2).trans rfl, (blk_cell BK215.out 3).trans rfl⟩ (fun hHeld => ?_)
        clear hK K
        refine norm_ (a' := ?_) ?_ ?_
        rotate_left
        · show Act.put _ (some 15) _ = _
          simp only [Act.put, List.setIfInBounds_toArray, List.set_cons_zero, List.set_cons_succ, i64_w, i32_w]
          rfl
        refine one_ (i := 5) (N := some 18) #[true, true, true, true, true, true, true, true, false, true, false] rfl rfl (one_of HT_.out (by kernel_rfl)) (by decide) (fun K hK => ?_)
        refine Kd.R_append_rows_step (Kd.int .i64) (w0 := w) w.heap.size (by rfl) (.tmp 15) (.tmp 17) 24 3 (.int .i64 0) 8 rfl Try.underlying24 info3 rfl (by decide) (by omega) v219 y218 l1_1 _ _ _ (fun _ => True) (fun _ => False) rfl rfl ?aO ?aR (fun _ _ h => h) (fun _ h => h.elim) ?aF ?aB ?aS ?aL ?_
        (case aR => repeat (first | exact (Kd.C_below HR1_1.out HB.out) | (with_reducible refine Kd.C_alloc ?_ _) | (with_reducible refine Kd.C_drewN ?_ _) | (with_reducible refine Kd.C_drew ?_)))
        (case aB => exact (by repeat (first | (with_reducible first | exact HB.out | apply below_alloc | apply pw_below_drewN | apply below_drew1 | refine below_set ?_ GE214.out | refine below_set ?_ GE215.out | refine below_set ?_ GE216.out | refine below_set ?_ GE217.out | refine below_set ?_ GE224.out) | exact HB.out)))
        (case aF => exact (fun _ _ => trivial))
        (case aO => exact (by (with_reducible repeat (first | apply Kd.R_alloc | apply Kd.R_drewN | apply Kd.R_drew)); exact HO220.out))
        (case aS => exact (below_size (by repeat (first | (with_reducible first | exact HB.out | apply below_alloc | apply pw_below_drewN | apply below_drew1 | refine below_set ?_ GE214.out | refine below_set ?_ GE215.out | refine below_set ?_ GE216.out | refine below_set ?_ GE217.out | refine below_set ?_ GE224.out) | exact HB.out))))
        (case aL => have := LMc5.out; omega)
        intro v222 w15 ho hb hg hat
        rw [← Ny221.out] at ho
        have n0_ := Aside0.mk (blk_grown (g := gb214) (o := .cells #[.int .i64 a0_0, .int .i64 a0_1, .int .i64 a0_2, .int .i64 a0_3, .int .i64 a0_4, .int .i64 a0_5, .int .i64 a0_6, .int .i64 a0_7, .int .i64 a0_8, .int .i64 a0_9, .int .i64 a0_10, .int .i64 a0_11] 23 (0, 0)) (by (with_reducible repeat (first | refine blk_drewN ?_ _ | refine blk_drew ?_ | refine blk_alloc ?_ _)); exact BK214.out) hg (Kd.R_ne HO220.out BK214.out (by decide)))
        have n1_ := Aside0.mk (blk_grown (g := gb215) (o := .cells #[.int .i64 a1_0, .slice A1_1 l1_1.length c1_1, .int .i64 a1_2, .int .i64 a1_3] 26 (0, 0)) (by (with_reducible repeat (first | refine blk_drewN ?_ _ | refine blk_drew ?_ | refine blk_alloc ?_ _)); exact BK215.out) hg (Kd.R_ne HO220.out BK215.out (by decide)))
        have n2_ := Aside0.mk (blk_grown (g := gb216) (o := .cells #[.int .i64 0, .slice none 0 0, .int .i64 0, .int .i64 0] 26 (0, 0)) (by (with_reducible repeat (first | refine blk_drewN ?_ _ | refine blk_drew ?_ | refine blk_alloc ?_ _)); exact BK216.out) hg (Kd.R_ne HO220.out BK216.out (by decide)))
        have n3_ := Aside0.mk (blk_grown (g := gb217) (o := .cells #[.int .i64 0, .bool false] 31 (0, 0)) (by (with_reducible repeat (first | refine blk_drewN ?_ _ | refine blk_drew ?_ | refine blk_alloc ?_ _)); exact BK217.out) hg (Kd.R_ne HO220.out BK217.out (by decide)))
        have n4_ := Aside0.mk (blk_grown (g := gb224) (o := .cells #[.int .i64 0, .slice none 0 0, .int .i64 0, .int .i64 0] 26 (0, 0)) (by (with_reducible repeat (first | refine blk_drewN ?_ _ | refine blk_drew ?_ | refine blk_alloc ?_ _)); exact BK224.out) hg (Kd.R_ne HO220.out BK224.out (by decide)))
        have n5_ := Aside0.mk (hb)
        have n6_ := Aside0.mk (ho)
        clear BK214
        clear BK215
        clear BK216
        clear BK217
        clear BK224
        clear HB
        clear HO220
        have BK214 := n0_
        have BK215 := n1_
        have BK216 := n2_
        have BK217 := n3_
        have BK224 := n4_
        have HB := n5_
        have HO223 := n6_
        clear n0_ n1_ n2_ n3_ n4_ n5_ n6_
        clear ho hb hg hat
        obtain ⟨Ao16, co16, eo16⟩ := Kd.R_slice HO223.out
        (first | subst eo16 | (injection eo16 with f1_ f2_ f3_; have f4_ := f1_.symm; have f5_ := f3_.symm; clear f1_ f2_ f3_; subst f4_; subst f5_))
        refine hK.out _ _ ⟨(blk_cell BK215.out 0).trans rfl, (blk_cell BK215.out 1).trans rfl, (blk_cell BK215.out 2).trans rfl, (blk_cell BK215.out 3).trans rfl⟩ (fun hHeld => ?_)
        clear hK K
        refine norm_ (a' := ?_) ?_ ?_
        rotate_left
        · show Act.put _ (some 18) _ = _
          simp only [Act.put, List.setIfInBounds_toArray, List.set_cons_zero, List.set_cons_succ, i64_w, i32_w]
          rfl
        refine pure_ (i := 8) (N := some 21) (v := ?_) (a' := ?_) #[true, true, true, true, true, true, true, true, true, true, false] rfl rfl (any_of HT_.out (by kernel_rfl)) (fun _ _ _ h => h) (Or.inl ⟨by rfl, ?_⟩) ?_ ?_
        rotate_left
        · intro w'
          go_simp
          with_reducible rfl
        rotate_left
        · simp only [Act.put, List.setIfInBounds_toArray, List.set_cons_zero, List.set_cons_succ, i64_w, i32_w]
          rfl
        exact norm_ (by simp only [putAll, Act.put, List.setIfInBounds_toArray, List.set_cons_zero, List.set_cons_succ]) (hCont (v219, .slice Ao16 y221.length co16, gb224) _ ⟨hHeld, (by (with_reducible repeat (first | apply Kd.R_alloc | apply Kd.R_drewN | apply Kd.R_drew)); exact HO223.out), (by (with_reducible repeat (first | refine blk_drewN ?_ _ | refine blk_drew ?_ | refine blk_alloc ?_ _)); exact BK214.out), (by (with_reducible repeat (first | refine blk_drewN ?_ _ | refine blk_drew ?_ | refine blk_alloc ?_ _)); exact BK215.out), (by (with_reducible repeat (first | refine blk_drewN ?_ _ | refine blk_drew ?_ | refine blk_alloc ?_ _)); exact BK216.out), (by (with_reducible repeat (first | refine blk_drewN ?_ _ | refine blk_drew ?_ | refine blk_alloc ?_ _)); exact BK217.out), (by (with_reducible repeat (first | refine blk_drewN ?_ _ | refine blk_drew ?_ | refine blk_alloc ?_ _)); exact BK224.out), GW224.out, GE224.out, NB214_224.out, NB224_214.out, NB215_224.out, NB224_215.out, NB216_224.out, NB224_216.out, NB217_224.out, NB224_217.out, (by repeat (first | (with_reducible first | exact HB.out | apply below_alloc | apply pw_below_drewN | apply below_drew1 | refine below_set ?_ GE214.out | refine below_set ?_ GE215.out | refine below_set ?_ GE216.out | refine below_set ?_ GE217.out | refine below_set ?_ GE224.out) | exact HB.out))⟩)
    rintro ⟨v219, v222, gb224⟩ w17 ⟨hS_, h0_, h1_, h2_, h3_, h4_, h5_, h6_, h7_, h8_, h9_, h10_, h11_, h12_, h13_, h14_, h15_, h16_⟩
    have n0_ : Aside0 (Kd.R (Kd.int .i64) 3 w17 w.heap.size (fun _ => True) v222 y221) := ⟨h0_⟩
    have n1_ : Aside0 (w17.heap[gb214]? = some (.cells #[.int .i64 a0_0, .int .i64 a0_1, .int .i64 a0_2, .int .i64 a0_3, .int .i64 a0_4, .int .i64 a0_5, .int .i64 a0_6, .int .i64 a0_7, .int .i64 a0_8, .int .i64 a0_9, .int .i64 a0_10, .int .i64 a0_11] 23 (0, 0))) := ⟨h1_⟩
    have n2_ : Aside0 (w17.heap[gb215]? = some (.cells #[.int .i64 a1_0, .slice A1_1 l1_1.length c1_1, .int .i64 a1_2, .int .i64 a1_3] 26 (0, 0))) := ⟨h2_⟩
    have n3_ : Aside0 (w17.heap[gb216]? = some (.cells #[.int .i64 0, .slice none 0 0, .int .i64 0, .int .i64 0] 26 (0, 0))) := ⟨h3_⟩
    have n4_ : Aside0 (w17.heap[gb217]? = some (.cells #[.int .i64 0, .bool false] 31 (0, 0))) := ⟨h4_⟩
    have n5_ : Aside0 (w17.heap[gb224]? = some (.cells #[.int .i64 0, .slice none 0 0, .int .i64 0, .int .i64 0] 26 (0, 0))) := ⟨h5_⟩
    have n6_ : Aside0 (w.heap.size ≤ gb224) := ⟨h6_⟩
    have n7_ : Aside0 (w.heap.size ≤ gb224) := ⟨h7_⟩
    have n8_ : Aside0 (gb214 ≠ gb224) := ⟨h8_⟩
    have n9_ : Aside0 (gb224 ≠ gb214) := ⟨h9_⟩
    have n10_ : Aside0 (gb215 ≠ gb224) := ⟨h10_⟩
    have n11_ : Aside0 (gb224 ≠ gb215) := ⟨h11_⟩
    have n12_ : Aside0 (gb216 ≠ gb224) := ⟨h12_⟩
    have n13_ : Aside0 (gb224 ≠ gb216) := ⟨h13_⟩
    have n14_ : Aside0 (gb217 ≠ gb224) := ⟨h14_⟩
    have n15_ : Aside0 (gb224 ≠ gb217) := ⟨h15_⟩
    have n16_ : Aside0 (Below w.heap.size w w17) := ⟨h16_⟩
    clear BK214
    clear BK215
    clear BK216
    clear BK217
    clear HB
    clear h0_ h1_ h2_ h3_ h4_ h5_ h6_ h7_ h8_ h9_ h10_ h11_ h12_ h13_ h14_ h15_ h16_
    have HO223 := n0_
    have BK214 := n1_
    have BK215 := n2_
    have BK216 := n3_
    have BK217 := n4_
    have BK224 := n5_
    have GW224 := n6_
    have GE224 := n7_
    have NB214_224 := n8_
    have NB224_214 := n9_
    have NB215_224 := n10_
    have NB224_215 := n11_
    have NB216_224 := n12_
    have NB224_216 := n13_
    have NB217_224 := n14_
    have NB224_217 := n15_
    have HB := n16_
    clear n0_ n1_ n2_ n3_ n4_ n5_ n6_ n7_ n8_ n9_ n10_ n11_ n12_ n13_ n14_ n15_ n16_
    have hHeld : w17.cell? ⟨gb215, 0, none⟩ = some (.int .i64 a1_0) ∧ w17.cell? ⟨gb215, 1, none⟩ = some (.slice A1_1 l1_1.length c1_1) ∧ w17.cell? ⟨gb215, 2, none⟩ = some (.int .i64 a1_2) ∧ w17.cell? ⟨gb215, 3, none⟩ = some (.int .i64 a1_3) := hS_
    obtain ⟨Ao18, co18, eo18⟩ := Kd.R_slice HO223.out
    (first | subst eo18 | (injection eo18 with f1_ f2_ f3_; have f4_ := f1_.symm; have f5_ := f3_.symm; clear f1_ f2_ f3_; subst f4_; subst f5_))
    refine norm_ (a' := ?_) ?_ ?_
    rotate_left
    · simp only [putAll, Act.put, List.setIfInBounds_toArray, List.set_cons_zero, List.set_cons_succ]
      rfl
    refine one_ (i := 10) (N := none) #[true, true, true, true, true, true, true, true, true, true, true] rfl rfl (one_of HT_.out (by kernel_rfl)) (by decide) (fun K hK => ?_)
    have hs19 : w17.cell? ⟨gb224, 0, none⟩ = some (.int .i64 0) := (blk_cell BK224.out 0).trans rfl
    have hfs19 := blk_frozen BK224.out 0
    have hns19_0 := NB214_224.out
    have hns19_1 := NB215_224.out
    have hns19_2 := NB216_224.out
    have hns19_3 := NB217_224.out
    have hms19_0 := NB224_214.out
    have hms19_1 := NB224_215.out
    have hms19_2 := NB224_216.out
    have hms19_3 := NB224_217.out
    have hs20 : w17.cell? ⟨gb224, 1, none⟩ = some (.slice none 0 0) := (blk_cell BK224.out 1).trans rfl
    have hfs20 := blk_frozen BK224.out 1
    have hns20_0 := NB214_224.out
    have hns20_1 := NB215_224.out
    have hns20_2 := NB216_224.out
    have hns20_3 := NB217_224.out
    have hms20_0 := NB224_214.out
    have hms20_1 := NB224_215.out
    have hms20_2 := NB224_216.out
    have hms20_3 := NB224_217.out
    have hs21 : w17.cell? ⟨gb224, 2, none⟩ = some (.int .i64 0) := (blk_cell BK224.out 2).trans rfl
    have hfs21 := blk_frozen BK224.out 2
    have hns21_0 := NB214_224.out
    have hns21_1 := NB215_224.out
    have hns21_2 := NB216_224.out
    have hns21_3 := NB217_224.out
    have hms21_0 := NB224_214.out
    have hms21_1 := NB224_215.out
    have hms21_2 := NB224_216.out
    have hms21_3 := NB224_217.out
    have hs22 : w17.cell? ⟨gb224, 3, none⟩ = some (.int .i64 0) := (blk_cell BK224.out 3).trans rfl
    have hfs22 := blk_frozen BK224.out 3
    have hns22_0 := NB214_224.out
    have hns22_1 := NB215_224.out
    have hns22_2 := NB216_224.out
    have hns22_3 := NB217_224.out
    have hms22_0 := NB224_214.out
    have hms22_1 := NB224_215.out
    have hms22_2 := NB224_216.out
    have hms22_3 := NB224_217.out
    refine skip_ (w1 := ?_) (by rfl) rfl ?_ ?_
    rotate_left
    · go_simp
      rfl
    refine hK.out _ _ ⟨((cell_far (p := ⟨gb224, _, none⟩) NB215_224.out _).trans (((cell_far (p := ⟨gb224, _, none⟩) NB215_224.out _).trans (((cell_far (p := ⟨gb224, _, none⟩) NB215_224.out _).trans (((cell_far (p := ⟨gb224, _, none⟩) NB215_224.out _).trans (hHeld.1)))))))), ((cell_far (p := ⟨gb224, _, none⟩) NB215_224.out _).trans (((cell_far (p := ⟨gb224, _, none⟩) NB215_224.out _).trans (((cell_far (p := ⟨gb224, _, none⟩) NB215_224.out _).trans (((cell_far (p := ⟨gb224, _, none⟩) NB215_224.out _).trans (hHeld.2.1)))))))), ((cell_far (p := ⟨gb224, _, none⟩) NB215_224.out _).trans (((cell_far (p := ⟨gb224, _, none⟩) NB215_224.out _).trans (((cell_far (p := ⟨gb224, _, none⟩) NB215_224.out _).trans (((cell_far (p := ⟨gb224, _, none⟩) NB215_224.out _).trans (hHeld.2.2.1)))))))), ((cell_far (p := ⟨gb224, _, none⟩) NB215_224.out _).trans (((cell_far (p := ⟨gb224, _, none⟩) NB215_224.out _).trans (((cell_far (p := ⟨gb224, _, none⟩) NB215_224.out _).trans (((cell_far (p := ⟨gb224, _, none⟩) NB215_224.out _).trans (hHeld.2.2.2))))))))⟩ (fun hHeld => ?_)
    clear hK K
    refine done_ (done_of HT_.out (by kernel_rfl)) ?_
    have hnb23 := NB224_214.out
    have hnc23 := NB214_224.out
    have hnb24 := NB224_215.out
    have hnc24 := NB215_224.out
    have hnb25 := NB224_216.out
    have hnc25 := NB216_224.out
    have hnb26 := NB224_217.out
    have hnc26 := NB217_224.out
    have hcz27_0 : w17.cell? ⟨gb224, 0, none⟩ = some (.int .i64 0) := (blk_cell BK224.out 0).trans rfl
    have hcz27_1 : w17.cell? ⟨gb224, 1, none⟩ = some (.slice none 0 0) := (blk_cell BK224.out 1).trans rfl
    have hcz27_2 : w17.cell? ⟨gb224, 2, none⟩ = some (.int .i64 0) := (blk_cell BK224.out 2).trans rfl
    have hcz27_3 : w17.cell? ⟨gb224, 3, none⟩ = some (.int .i64 0) := (blk_cell BK224.out 3).trans rfl
    have hfz27_0 := blk_frozen BK224.out 0
    have hfz27_1 := blk_frozen BK224.out 1
    have hfz27_2 := blk_frozen BK224.out 2
    have hfz27_3 := blk_frozen BK224.out 3
    go_upto_if 25 with (fail)
    go_cut [] (fun wc => ∃ (kq : Nat) (x225000_5 : Int) (x225001_5 : List Int) (u225001 : Value), Aside0 (governorref16_Step.j0 kq a2 a3 a0_0 a0_1 a0_2 a0_3 a0_4 a0_5 a0_6 a0_7 a0_8 a0_9 a0_10 a0_11 x225000_5 x225001_5 a1_2 0 = some (r1, r2, r3, r4, r5, r6)) ∧ Aside0 (kq ≤ k) ∧ Aside0 (Kd.Q (Kd.int .i64) 3 wc w.heap.size (fun _ => True) u225001 x225001_5) ∧ Aside0 (wc.heap[gb214]? = some (.cells #[.int .i64 a0_0, .int .i64 a0_1, .int .i64 a0_2, .int .i64 a0_3, .int .i64 a0_4, .int .i64 a0_5, .int .i64 a0_6, .int .i64 a0_7, .int .i64 a0_8, .int .i64 a0_9, .int .i64 a0_10, .int .i64 a0_11] 23 (0, 0))) ∧ Aside0 (wc.heap[gb215]? = some (.cells #[.int .i64 a1_0, (.slice A1_1 l1_1.length c1_1), .int .i64 a1_2, .int .i64 a1_3] 26 (0, 0))) ∧ Aside0 (wc.heap[gb216]? = some (.cells #[.int .i64 0, (.slice none 0 0), .int .i64 0, .int .i64 0] 26 (0, 0))) ∧ Aside0 (wc.heap[gb217]? = some (.cells #[.int .i64 0, .bool false] 31 (0, 0))) ∧ Aside0 (wc.heap[gb224]? = some (.cells #[.int .i64 x225000_5, u225001, .int .i64 a1_2, .int .i64 0] 26 (0, 0))) ∧ Aside0 (Below w.heap.size w wc))
    case first =>
      have H := HC6.out
      clear HC6
      by_cases c28 : (y221.length : Int) > 0
      · rw [if_pos c28] at H
        have c28b0 : decide (0 < (y221.length : Int)) = true := decide_eq_true c28
        have c28b1 : decide (0 < y221.length) = true := decide_eq_true (by omega)
        clear c28
        (first | rw [c28b0] | rw [c28b1] | (simp only [i64_w, i32_w]; rw [c28b0]) | skip)
        by_cases c29 : 0 < (y221.length : Int)
        · rw [if_pos c29] at H
          have c29b0 : decide (0 < (y221.length : Int)) = true := decide_eq_true c29
          have c29b1 : decide (0 < y221.length) = true := decide_eq_true (by omega)
          clear c29
          by_cases c30 : 1 ≤ (y221.length : Int)
          · rw [if_pos c30] at H
            have c30b0 := eq_true c30
            have c30b1 : decide (1 ≤ (y221.length : Int)) = true := decide_eq_true c30
            clear c30
            obtain ⟨y226, hy226⟩ : ∃ y_ : List Int, y_ = (y221.drop (1 : Int).toNat) := ⟨_, rfl⟩
            replace H : (governorref16_Step.j0 k a2 a3 a0_0 a0_1 a0_2 a0_3 a0_4 a0_5 a0_6 a0_7 a0_8 a0_9 a0_10 a0_11 (wrap64 (a1_0 + (rd y221 0))) y226 a1_2 0) = some (r1, r2, r3, r4, r5, r6) := by first | (rw [hy226]; with_reducible exact H) | (have H2_ := (Option.bind_some _ _).symm.trans H; rw [hy226]; with_reducible exact H2_) | (have H2_ := (Option.bind_some _ _).symm.trans H; with_reducible exact H2_) | with_reducible exact H | (rw [hy226]; exact H) | exact H
            have Ny226 := Aside0.mk hy226
            clear hy226
            have H' := Aside0.mk H
            clear H
            try go_wp2
            have n0_ : Aside0 (Kd.R (Kd.int .i64) 3 ((((w17.setCell ⟨gb224, 0, none⟩ (.int .i64 a1_0)).setCell ⟨gb224, 1, none⟩ (.slice Ao18 y221.length co18)).setCell ⟨gb224, 2, none⟩ (.int .i64 a1_2)).setCell ⟨gb224, 3, none⟩ (.int .i64 0)) w.heap.size (fun _ => True) (.slice Ao18 y221.length co18) y221) := ⟨by (with_reducible repeat (first | apply Kd.R_alloc | apply Kd.R_drewN | apply Kd.R_drew)); exact Kd.R_mono (Kd.R_far (p := ⟨gb224, 3, none⟩) (Kd.R_far (p := ⟨gb224, 2, none⟩) (Kd.R_far (p := ⟨gb224, 1, none⟩) (Kd.R_far (p := ⟨gb224, 0, none⟩) (Kd.R_types HO223.out BK224.out (by decide)) (fun _ hk => hk.2) (.int .i64 a1_0)) (fun _ hk => hk.2) (.slice Ao18 y221.length co18)) (fun _ hk => hk.2) (.int .i64 a1_2)) (fun _ hk => hk.2) (.int .i64 0)) (fun _ hk => trivial)⟩
            have n1_ : Aside0 (((((w17.setCell ⟨gb224, 0, none⟩ (.int .i64 a1_0)).setCell ⟨gb224, 1, none⟩ (.slice Ao18 y221.length co18)).setCell ⟨gb224, 2, none⟩ (.int .i64 a1_2)).setCell ⟨gb224, 3, none⟩ (.int .i64 0)).heap[gb214]? = some (.cells #[.int .i64 a0_0, .int .i64 a0_1, .int .i64 a0_2, .int .i64 a0_3, .int .i64 a0_4, .int .i64 a0_5, .int .i64 a0_6, .int .i64 a0_7, .int .i64 a0_8, .int .i64 a0_9, .int .i64 a0_10, .int .i64 a0_11] 23 (0, 0))) := ⟨by (with_reducible repeat (first | refine blk_drewN ?_ _ | refine blk_drew ?_ | refine blk_alloc ?_ _)); refine blk_far ?_ NB214_224.out _; (with_reducible repeat (first | refine blk_drewN ?_ _ | refine blk_drew ?_ | refine blk_alloc ?_ _)); refine blk_far ?_ NB214_224.out _; (with_reducible repeat (first | refine blk_drewN ?_ _ | refine blk_drew ?_ | refine blk_alloc ?_ _)); refine blk_far ?_ NB214_224.out _; (with_reducible repeat (first | refine blk_drewN ?_ _ | refine blk_drew ?_ | refine blk_alloc ?_ _)); refine blk_far ?_ NB214_224.out _; (with_reducible repeat (first | refine blk_drewN ?_ _ | refine blk_drew ?_ | refine blk_alloc ?_ _)); exact BK214.out⟩
            have n2_ : Aside0 (((((w17.setCell ⟨gb224, 0, none⟩ (.int .i64 a1_0)).setCell ⟨gb224, 1, none⟩ (.slice Ao18 y221.length co18)).setCell ⟨gb224, 2, none⟩ (.int .i64 a1_2)).setCell ⟨gb224, 3, none⟩ (.int .i64 0)).heap[gb215]? = some (.cells #[.int .i64 a1_0, .slice A1_1 l1_1.length c1_1, .int .i64 a1_2, .int .i64 a1_3] 26 (0, 0))) := ⟨by (with_reducible repeat (first | refine blk_drewN ?_ _ | refine blk_drew ?_ | refine blk_alloc ?_ _)); refine blk_far ?_ NB215_224.out _; (with_reducible repeat (first | refine blk_drewN ?_ _ | refine blk_drew ?_ | refine blk_alloc ?_ _)); refine blk_far ?_ NB215_224.out _; (with_reducible repeat (first | refine blk_drewN ?_ _ | refine blk_drew ?_ | refine blk_alloc ?_ _)); refine blk_far ?_ NB215_224.out _; (with_reducible repeat (first | refine blk_drewN ?_ _ | refine blk_drew ?_ | refine blk_alloc ?_ _)); refine blk_far ?_ NB215_224.out _; (with_reducible repeat (first | refine blk_drewN ?_ _ | refine blk_drew ?_ | refine blk_alloc ?_ _)); exact BK215.out⟩
            have n3_ : Aside0 (((((w17.setCell ⟨gb224, 0, none⟩ (.int .i64 a1_0)).setCell ⟨gb224, 1, none⟩ (.slice Ao18 y221.length co18)).setCell ⟨gb224, 2, none⟩ (.int .i64 a1_2)).setCell ⟨gb224, 3, none⟩ (.int .i64 0)).heap[gb216]? = some (.cells #[.int .i64 0, .slice none 0 0, .int .i64 0, .int .i64 0] 26 (0, 0))) := ⟨by (with_reducible repeat (first | refine blk_drewN ?_ _ | refine blk_drew ?_ | refine blk_alloc ?_ _)); refine blk_far ?_ NB216_224.out _; (with_reducible repeat (first | refine blk_drewN ?_ _ | refine blk_drew ?_ | refine blk_alloc ?_ _)); refine blk_far ?_ NB216_224.out _; (with_reducible repeat (first | refine blk_drewN ?_ _ | refine blk_drew ?_ | refine blk_alloc ?_ _)); refine blk_far ?_ NB216_224.out _; (with_reducible repeat (first | refine blk_drewN ?_ _ | refine blk_drew ?_ | refine blk_alloc ?_ _)); refine blk_far ?_ NB216_224.out _; (with_reducible repeat (first | refine blk_drewN ?_ _ | refine blk_drew ?_ | refine blk_alloc ?_ _)); exact BK216.out⟩
            have n4_ : Aside0 (((((w17.setCell ⟨gb224, 0, none⟩ (.int .i64 a1_0)).setCell ⟨gb224, 1, none⟩ (.slice Ao18 y221.length co18)).setCell ⟨gb224, 2, none⟩ (.int .i64 a1_2)).setCell ⟨gb224, 3, none⟩ (.int .i64 0)).heap[gb217]? = some (.cells #[.int .i64 0, .bool false] 31 (0, 0))) := ⟨by (with_reducible repeat (first | refine blk_drewN ?_ _ | refine blk_drew ?_ | refine blk_alloc ?_ _)); refine blk_far ?_ NB217_224.out _; (with_reducible repeat (first | refine blk_drewN ?_ _ | refine blk_drew ?_ | refine blk_alloc ?_ _)); refine blk_far ?_ NB217_224.out _; (with_reducible repeat (first | refine blk_drewN ?_ _ | refine blk_drew ?_ | refine blk_alloc ?_ _)); refine blk_far ?_ NB217_224.out _; (with_reducible repeat (first | refine blk_drewN ?_ _ | refine blk_drew ?_ | refine blk_alloc ?_ _)); refine blk_far ?_ NB217_224.out _; (with_reducible repeat (first | refine blk_drewN ?_ _ | refine blk_drew ?_ | refine blk_alloc ?_ _)); exact BK217.out⟩
            have n5_ : Aside0 (((((w17.setCell ⟨gb224, 0, none⟩ (.int .i64 a1_0)).setCell ⟨gb224, 1, none⟩ (.slice Ao18 y221.length co18)).setCell ⟨gb224, 2, none⟩ (.int .i64 a1_2)).setCell ⟨gb224, 3, none⟩ (.int .i64 0)).heap[gb224]? = some (.cells #[.int .i64 a1_0, .slice Ao18 y221.length co18, .int .i64 a1_2, .int .i64 0] 26 (0, 0))) := ⟨by (with_reducible repeat (first | refine blk_drewN ?_ _ | refine blk_drew ?_ | refine blk_alloc ?_ _)); refine blk_put (cs := #[.int .i64 a1_0, .slice Ao18 y221.length co18, .int .i64 a1_2, .int .i64 0]) ?_ 3 _ rfl; (with_reducible repeat (first | refine blk_drewN ?_ _ | refine blk_drew ?_ | refine blk_alloc ?_ _)); refine blk_put (cs := #[.int .i64 a1_0, .slice Ao18 y221.length co18, .int .i64 0, .int .i64 0]) ?_ 2 _ rfl; (with_reducible repeat (first | refine blk_drewN ?_ _ | refine blk_drew ?_ | refine blk_alloc ?_ _)); refine blk_put (cs := #[.int .i64 a1_0, .slice none 0 0, .int .i64 0, .int .i64 0]) ?_ 1 _ rfl; (with_reducible repeat (first | refine blk_drewN ?_ _ | refine blk_drew ?_ | refine blk_alloc ?_ _)); refine blk_put (cs := #[.int .i64 0, .slice none 0 0, .int .i64 0, .int .i64 0]) ?_ 0 _ rfl; (with_reducible repeat (first | refine blk_drewN ?_ _ | refine blk_drew ?_ | refine blk_alloc ?_ _)); exact BK224.out⟩
            have n6_ : Aside0 (Below w.heap.size w ((((w17.setCell ⟨gb224, 0, none⟩ (.int .i64 a1_0)).setCell ⟨gb224, 1, none⟩ (.slice Ao18 y221.length co18)).setCell ⟨gb224, 2, none⟩ (.int .i64 a1_2)).setCell ⟨gb224, 3, none⟩ (.int .i64 0))) := ⟨by repeat (first | (with_reducible first | exact HB.out | apply below_alloc | apply pw_below_drewN | apply below_drew1 | refine below_set ?_ GE214.out | refine below_set ?_ GE215.out | refine below_set ?_ GE216.out | refine below_set ?_ GE217.out | refine below_set ?_ GE224.out) | exact HB.out)⟩
            (try clear HO223)
            (try clear BK214)
            (try clear BK215)
            (try clear BK216)
            (try clear BK217)
            (try clear BK224)
            (try clear HB)
            generalize ((((w17.setCell ⟨gb224, 0, none⟩ (.int .i64 a1_0)).setCell ⟨gb224, 1, none⟩ (.slice Ao18 y221.length co18)).setCell ⟨gb224, 2, none⟩ (.int .i64 a1_2)).setCell ⟨gb224, 3, none⟩ (.int .i64 0)) = w31 at n0_ n1_ n2_ n3_ n4_ n5_ n6_ ⊢
            have HO223 := n0_
            have BK214 := n1_
            have BK215 := n2_
            have BK216 := n3_
            have BK217 := n4_
            have BK224 := n5_
            have HB := n6_
            clear n0_ n1_ n2_ n3_ n4_ n5_ n6_
            have n0_ := Aside0.mk (Kd.R_drew HO223.out)
            have n1_ := Aside0.mk (blk_drew BK214.out)
            have n2_ := Aside0.mk (blk_drew BK215.out)
            have n3_ := Aside0.mk (blk_drew BK216.out)
            have n4_ := Aside0.mk (blk_drew BK217.out)
            have n5_ := Aside0.mk (blk_drew BK224.out)
            have n6_ := Aside0.mk (below_drew1 HB.out)
            clear HO223
            clear BK214
            clear BK215
            clear BK216
            clear BK217
            clear BK224
            clear HB
            have HO223 := n0_
            have BK214 := n1_
            have BK215 := n2_
            have BK216 := n3_
            have BK217 := n4_
            have BK224 := n5_
            have HB := n6_
            clear n0_ n1_ n2_ n3_ n4_ n5_ n6_
            have p225 : 0 ≤ (0 : Int) := (by omega)
            have q225 : 0 < (y221.length : Int) := of_decide_eq_true (by first | (with_reducible assumption) | assumption)
            obtain ⟨ad225, e225, hx225_0⟩ := Kd.at_int (Kd.R_reads' HO223.out).2.2 0 p225 q225
            cases e225
            have qi225 : (0 < y221.length) = True := eq_true (by omega)
            (try rw [show ((0 : Int)).toNat = 0 from rfl] at hx225_0)
            (try rw [Addr.add_zero'] at hx225_0)
            replace p225 := eq_true p225
            replace q225 := eq_true q225
            refine start_ (n := 9) (S := fun w' => w'.cell? ⟨gb224, 0, none⟩ = some (.int .i64 a1_0) ∧ w'.cell? ⟨gb224, 1, none⟩ = some (.slice (some ad225) y221.length co18) ∧ w'.cell? ⟨gb224, 2, none⟩ = some (.int .i64 a1_2) ∧ w'.cell? ⟨gb224, 3, none⟩ = some (.int .i64 0) ∧ w'.cell? ad225 = some (.int .i64 (rd y221 0))) (ds := [8]) #[false, false, false, false, false, false, false, false, false] (by kernel_rfl) rfl rfl ⟨(blk_cell BK224.out 0).trans rfl, (blk_cell BK224.out 1).trans rfl, (blk_cell BK224.out 2).trans rfl, (blk_cell BK224.out 3).trans rfl, hx225_0⟩ (fun hHeld => ?_); refine with_tabW governorref16_Step.tab3 governorref16_Step.bits3 (fun HT_ HW_ => ?_)
            generalize w31.drew = w32 at HO223 BK214 BK215 BK216 BK217 BK224 HB hx225_0 hHeld ⊢
            refine pure_ (i := 0) (N := some 26) (v := ?_) (a' := ?_) #[true, false, false, false, false, false, false, false, false] rfl rfl (any_of HT_.out (by kernel_rfl)) (fun _ _ _ h => h) (Or.inl ⟨by rfl, ?_⟩) ?_ ?_
            rotate_left
            · intro w'
              go_simp
              with_reducible rfl
            rotate_left
            · simp only [Act.put, List.setIfInBounds_toArray, List.set_cons_zero, List.set_cons_succ, i64_w, i32_w]
              rfl
            refine pure_ (i := 2) (N := some 28) (v := ?_) (a' := ?_) #[true, false, true, false, false, false, false, false, false] rfl rfl (any_of HT_.out (by kernel_rfl)) (fun _ _ _ h => h) (Or.inl ⟨by rfl, ?_⟩) ?_ ?_
            rotate_left
            · intro w'
              go_simp
              with_reducible rfl
            rotate_left
            · simp only [Act.put, List.setIfInBounds_toArray, List.set_cons_zero, List.set_cons_succ, i64_w, i32_w]
              rfl
            refine take_ (i := 1) (N := some 27) (v := ?_) (a' := ?_) #[true, true, true, false, false, false, false, false, false] rfl rfl (take_ofW HT_.out HW_.out (by kernel_rfl)) (fun _ _ _ h => h) (Or.inl ⟨by rfl, ?_⟩) hHeld ?_ ?_
            rotate_left
            · rintro w' ⟨s0, s1, s2, s3, s4⟩
              go_simp
              with_reducible rfl
            rotate_left
            · simp only [Act.put, List.setIfInBounds_toArray, List.set_cons_zero, List.set_cons_succ, i64_w, i32_w]
              rfl
            refine take_ (i := 3) (N := some 29) (v := ?_) (a' := ?_) #[true, true, true, true, false, false, false, false, false] rfl rfl (take_ofW HT_.out HW_.out (by kernel_rfl)) (fun _ _ _ h => h) (Or.inl ⟨by rfl, ?_⟩) hHeld ?_ ?_
            rotate_left
            · rintro w' ⟨s0, s1, s2, s3, s4⟩
              go_simp
              with_reducible rfl
            rotate_left
            · simp only [Act.put, List.setIfInBounds_toArray, List.set_cons_zero, List.set_cons_succ, i64_w, i32_w]
              rfl
            refine pure_ (i := 4) (N := some 30) (v := ?_) (a' := ?_) #[true, true, true, true, true, false, false, false, false] rfl rfl (any_of HT_.out (by kernel_rfl)) (fun _ _ _ h => h) (Or.inl ⟨by rfl, ?_⟩) ?_ ?_
            rotate_left
            · intro w'
              go_simp
              with_reducible rfl
            rotate_left
            · simp only [Act.put, List.setIfInBounds_toArray, List.set_cons_zero, List.set_cons_succ, i64_w, i32_w]
              rfl
            refine take_ (i := 5) (N := some 31) (v := ?_) (a' := ?_) #[true, true, true, true, true, true, false, false, false] rfl rfl (take_ofW HT_.out HW_.out (by kernel_rfl)) (fun _ _ _ h => h) (Or.inl ⟨by rfl, ?_⟩) hHeld ?_ ?_
            rotate_left
            · rintro w' ⟨s0, s1, s2, s3, s4⟩
              go_simp
              with_reducible rfl
            rotate_left
            · simp only [Act.put, List.setIfInBounds_toArray, List.set_cons_zero, List.set_cons_succ, i64_w, i32_w]
              rfl
            refine pure_ (i := 6) (N := some 32) (v := ?_) (a' := ?_) #[true, true, true, true, true, true, true, false, false] rfl rfl (any_of HT_.out (by kernel_rfl)) (fun _ _ _ h => h) (Or.inl ⟨by rfl, ?_⟩) ?_ ?_
            rotate_left
            · intro w'
              go_simp
              with_reducible rfl
            rotate_left
            · simp only [Act.put, List.setIfInBounds_toArray, List.set_cons_zero, List.set_cons_succ, i64_w, i32_w]
              rfl
            refine pure_ (i := 7) (N := some 33) (v := ?_) (a' := ?_) #[true, true, true, true, true, true, true, true, false] rfl rfl (any_of HT_.out (by kernel_rfl)) (fun _ _ _ h => h) (Or.inl ⟨by rfl, ?_⟩) ?_ ?_
            rotate_left
            · intro w'
              go_simp
              with_reducible rfl
            rotate_left
            · simp only [Act.put, List.setIfInBounds_toArray, List.set_cons_zero, List.set_cons_succ, i64_w, i32_w]
              rfl
            refine last_ (i := 8) (N := none) #[true, true, true, true, true, true, true, true, true] rfl rfl (one_of HT_.out (by kernel_rfl)) (by decide) (fun K hK => ?_)
            have hs33 : w32.cell? ⟨gb224, 0, none⟩ = some (.int .i64 a1_0) := (blk_cell BK224.out 0).trans rfl
            have hfs33 := blk_frozen BK224.out 0
            have hns33_0 := NB214_224.out
            have hns33_1 := NB215_224.out
            have hns33_2 := NB216_224.out
            have hns33_3 := NB217_224.out
            have hms33_0 := NB224_214.out
            have hms33_1 := NB224_215.out
            have hms33_2 := NB224_216.out
            have hms33_3 := NB224_217.out
            refine skip_ (w1 := ?_) (by rfl) rfl ?_ ?_
            rotate_left
            · go_simp
              rfl
            refine hK.out _ _ ?_
            clear hK K
            refine done_ (done_of HT_.out (by kernel_rfl)) ?_
            have n0_ : Aside0 (Kd.R (Kd.int .i64) 3 (w32.setCell ⟨gb224, 0, none⟩ (.int .i64 (wrap64 (a1_0 + (rd y221 0))))) w.heap.size (fun _ => True) (.slice (some ad225) y221.length co18) y221) := ⟨by (with_reducible repeat (first | apply Kd.R_alloc | apply Kd.R_drewN | apply Kd.R_drew)); exact Kd.R_mono (Kd.R_far (p := ⟨gb224, 0, none⟩) (Kd.R_types HO223.out BK224.out (by decide)) (fun _ hk => hk.2) (.int .i64 (wrap64 (a1_0 + (rd y221 0))))) (fun _ hk => trivial)⟩
            have n1_ : Aside0 ((w32.setCell ⟨gb224, 0, none⟩ (.int .i64 (wrap64 (a1_0 + (rd y221 0))))).heap[gb214]? = some (.cells #[.int .i64 a0_0, .int .i64 a0_1, .int .i64 a0_2, .int .i64 a0_3, .int .i64 a0_4, .int .i64 a0_5, .int .i64 a0_6, .int .i64 a0_7, .int .i64 a0_8, .int .i64 a0_9, .int .i64 a0_10, .int .i64 a0_11] 23 (0, 0))) := ⟨by (with_reducible repeat (first | refine blk_drewN ?_ _ | refine blk_drew ?_ | refine blk_alloc ?_ _)); refine blk_far ?_ NB214_224.out _; (with_reducible repeat (first | refine blk_drewN ?_ _ | refine blk_drew ?_ | refine blk_alloc ?_ _)); exact BK214.out⟩
            have n2_ : Aside0 ((w32.setCell ⟨gb224, 0, none⟩ (.int .i64 (wrap64 (a1_0 + (rd y221 0))))).heap[gb215]? = some (.cells #[.int .i64 a1_0, .slice A1_1 l1_1.length c1_1, .int .i64 a1_2, .int .i64 a1_3] 26 (0, 0))) := ⟨by (with_reducible repeat (first | refine blk_drewN ?_ _ | refine blk_drew ?_ | refine blk_alloc ?_ _)); refine blk_far ?_ NB215_224.out _; (with_reducible repeat (first | refine blk_drewN ?_ _ | refine blk_drew ?_ | refine blk_alloc ?_ _)); exact BK215.out⟩
            have n3_ : Aside0 ((w32.setCell ⟨gb224, 0, none⟩ (.int .i64 (wrap64 (a1_0 + (rd y221 0))))).heap[gb216]? = some (.cells #[.int .i64 0, .slice none 0 0, .int .i64 0, .int .i64 0] 26 (0, 0))) := ⟨by (with_reducible repeat (first | refine blk_drewN ?_ _ | refine blk_drew ?_ | refine blk_alloc ?_ _)); refine blk_far ?_ NB216_224.out _; (with_reducible repeat (first | refine blk_drewN ?_ _ | refine blk_drew ?_ | refine blk_alloc ?_ _)); exact BK216.out⟩
            have n4_ : Aside0 ((w32.setCell ⟨gb224, 0, none⟩ (.int .i64 (wrap64 (a1_0 + (rd y221 0))))).heap[gb217]? = some (.cells #[.int .i64 0, .bool false] 31 (0, 0))) := ⟨by (with_reducible repeat (first | refine blk_drewN ?_ _ | refine blk_drew ?_ | refine blk_alloc ?_ _)); refine blk_far ?_ NB217_224.out _; (with_reducible repeat (first | refine blk_drewN ?_ _ | refine blk_drew ?_ | refine blk_alloc ?_ _)); exact BK217.out⟩
            have n5_ : Aside0 ((w32.setCell ⟨gb224, 0, none⟩ (.int .i64 (wrap64 (a1_0 + (rd y221 0))))).heap[gb224]? = some (.cells #[.int .i64 (wrap64 (a1_0 + (rd y221 0))), .slice (some ad225) y221.length co18, .int .i64 a1_2, .int .i64 0] 26 (0, 0))) := ⟨by (with_reducible repeat (first | refine blk_drewN ?_ _ | refine blk_drew ?_ | refine blk_alloc ?_ _)); refine blk_put (cs := #[.int .i64 a1_0, .slice (some ad225) y221.length co18, .int .i64 a1_2, .int .i64 0]) ?_ 0 _ rfl; (with_reducible repeat (first | refine blk_drewN ?_ _ | refine blk_drew ?_ | refine blk_alloc ?_ _)); exact BK224.out⟩
            have n6_ : Aside0 (Below w.heap.size w (w32.setCell ⟨gb224, 0, none⟩ (.int .i64 (wrap64 (a1_0 + (rd y221 0)))))) := ⟨by repeat (first | (with_reducible first | exact HB.out | apply below_alloc | apply pw_below_drewN | apply below_drew1 | refine below_set ?_ GE214.out | refine below_set ?_ GE215.out | refine below_set ?_ GE216.out | refine below_set ?_ GE217.out | refine below_set ?_ GE224.out) | exact HB.out)⟩
            (try clear HO223)
            (try clear BK214)
            (try clear BK215)
            (try clear BK216)
            (try clear BK217)
            (try clear BK224)
            (try clear HB)
            generalize (w32.setCell ⟨gb224, 0, none⟩ (.int .i64 (wrap64 (a1_0 + (rd y221 0))))) = w34 at n0_ n1_ n2_ n3_ n4_ n5_ n6_ ⊢
            have HO223 := n0_
            have BK214 := n1_
            have BK215 := n2_
            have BK216 := n3_
            have BK217 := n4_
            have BK224 := n5_
            have HB := n6_
            clear n0_ n1_ n2_ n3_ n4_ n5_ n6_
            have hnb35 := NB224_214.out
            have hnc35 := NB214_224.out
            have hnb36 := NB224_215.out
            have hnc36 := NB215_224.out
            have hnb37 := NB224_216.out
            have hnc37 := NB216_224.out
            have hnb38 := NB224_217.out
            have hnc38 := NB217_224.out
            have hcz39_0 : w34.cell? ⟨gb224, 0, none⟩ = some (.int .i64 (wrap64 (a1_0 + (rd y221 0)))) := (blk_cell BK224.out 0).trans rfl
            have hcz39_1 : w34.cell? ⟨gb224, 1, none⟩ = some (.slice (some ad225) y221.length co18) := (blk_cell BK224.out 1).trans rfl
            have hcz39_2 : w34.cell? ⟨gb224, 2, none⟩ = some (.int .i64 a1_2) := (blk_cell BK224.out 2).trans rfl
            have hcz39_3 : w34.cell? ⟨gb224, 3, none⟩ = some (.int .i64 0) := (blk_cell BK224.out 3).trans rfl
            have hfz39_0 := blk_frozen BK224.out 0
            have hfz39_1 := blk_frozen BK224.out 1
            have hfz39_2 := blk_frozen BK224.out 2
            have hfz39_3 := blk_frozen BK224.out 3
            have q40 : (1 : Int) ≤ ((y221.length : Int) : Int) := of_decide_eq_true (by first | (with_reducible assumption) | assumption)
            obtain ⟨i040, hi040, _, hsz40, _⟩ := info_parts info3
            have hcut40 := cut_from (P := Try.prog) 24 3 .i64 Try.underlying24 hi040 1 hsz40 (some ad225) y221.length co18 1 (by omega) q40
            have hr40 := Kd.Q_drop (k := (1 : Int).toNat) (Kd.Q_of_R HO223.out) (by omega)
            obtain ⟨A40, hA40⟩ : ∃ A1, A1 = (if co18 = (1 : Int).toNat then (some ad225) else ((some ad225) : Option Addr).map (·.add ((1 : Int).toNat * 1))) := ⟨_, rfl⟩
            obtain ⟨c40, hc40⟩ : ∃ c1, c1 = co18 - (1 : Int).toNat := ⟨_, rfl⟩
            have hy40 : y226.length = y221.length - (1 : Int).toNat := (by rw [Ny226.out, List.length_drop])
            rw [← Ny226.out] at hr40
            rw [← hy40, ← hA40, ← hc40] at hcut40
            replace hr40 : Kd.Q (Kd.int .i64) 3 w34 w.heap.size (fun _ => True) (.slice A40 y226.length c40) y226 := (by rw [hA40, hc40, hy40]; exact hr40)
            have HE40 : Aside0 ((Value.slice A40 y226.length c40).ownBlock = (.slice (some ad225) y221.length co18 : Value).ownBlock) := ⟨by rw [hA40]; split <;> (cases ((some ad225) : Option Addr) <;> rfl)⟩
            clear hy40 hi040 hsz40 HO223 hA40 hc40
            have HO228 := Aside0.mk hr40
            clear hr40
            replace q40 := eq_true q40
            try go_wp2
            go_meet
            case rel => exact ⟨_, (wrap64 (a1_0 + (rd y221 0))), (y226), (.slice A40 y226.length c40), H', ⟨by first | omega | exact Nat.le_refl _⟩, ⟨by (with_reducible repeat (first | apply Kd.Q_alloc | apply Kd.Q_drewN | apply Kd.Q_drew)); exact Kd.Q_mono (Kd.Q_far (p := ⟨gb224, 1, none⟩) (Kd.Q_types HO228.out BK224.out (by decide)) (fun _ hk => hk.2) (.slice A40 y226.length c40)) (fun _ hk => trivial)⟩, ⟨by (with_reducible repeat (first | refine blk_drewN ?_ _ | refine blk_drew ?_ | refine blk_alloc ?_ _)); refine blk_far ?_ NB214_224.out _; (with_reducible repeat (first | refine blk_drewN ?_ _ | refine blk_drew ?_ | refine blk_alloc ?_ _)); exact BK214.out⟩, ⟨by (with_reducible repeat (first | refine blk_drewN ?_ _ | refine blk_drew ?_ | refine blk_alloc ?_ _)); refine blk_far ?_ NB215_224.out _; (with_reducible repeat (first | refine blk_drewN ?_ _ | refine blk_drew ?_ | refine blk_alloc ?_ _)); exact BK215.out⟩, ⟨by (with_reducible repeat (first | refine blk_drewN ?_ _ | refine blk_drew ?_ | refine blk_alloc ?_ _)); refine blk_far ?_ NB216_224.out _; (with_reducible repeat (first | refine blk_drewN ?_ _ | refine blk_drew ?_ | refine blk_alloc ?_ _)); exact BK216.out⟩, ⟨by (with_reducible repeat (first | refine blk_drewN ?_ _ | refine blk_drew ?_ | refine blk_alloc ?_ _)); refine blk_far ?_ NB217_224.out _; (with_reducible repeat (first | refine blk_drewN ?_ _ | refine blk_drew ?_ | refine blk_alloc ?_ _)); exact BK217.out⟩, ⟨by (with_reducible repeat (first | refine blk_drewN ?_ _ | refine blk_drew ?_ | refine blk_alloc ?_ _)); refine blk_put (cs := #[.int .i64 (wrap64 (a1_0 + (rd y221 0))), .slice (some ad225) y221.length co18, .int .i64 a1_2, .int .i64 0]) ?_ 1 _ rfl; (with_reducible repeat (first | refine blk_drewN ?_ _ | refine blk_drew ?_ | refine blk_alloc ?_ _)); exact BK224.out⟩, ⟨by repeat (first | (with_reducible first | exact HB.out | apply below_alloc | apply pw_below_drewN | apply below_drew1 | refine below_set ?_ GE214.out | refine below_set ?_ GE215.out | refine below_set ?_ GE216.out | refine below_set ?_ GE217.out | refine below_set ?_ GE224.out) | exact HB.out)⟩⟩
          · rw [if_neg c30] at H
            exact absurd H (by simp)
        · rw [if_neg c29] at H
          exact absurd H (by simp)
      · rw [if_neg c28] at H
        have c28b0 : decide (0 < (y221.length : Int)) = false := decide_eq_false c28
        have c28b1 : decide (0 < y221.length) = false := decide_eq_false (by omega)
        clear c28
        (first | rw [c28b0] | rw [c28b1] | (simp only [i64_w, i32_w]; rw [c28b0]) | skip)
        have H' := Aside0.mk H
        clear H
        go_wp2
        go_meet
        case rel => exact ⟨_, (a1_0), (y221), (.slice Ao18 y221.length co18), H', ⟨by first | omega | exact Nat.le_refl _⟩, ⟨Kd.Q_of_R (by (with_reducible repeat (first | apply Kd.R_alloc | apply Kd.R_drewN | apply Kd.R_drew)); exact Kd.R_mono (Kd.R_far (p := ⟨gb224, 3, none⟩) (Kd.R_far (p := ⟨gb224, 2, none⟩) (Kd.R_far (p := ⟨gb224, 1, none⟩) (Kd.R_far (p := ⟨gb224, 0, none⟩) (Kd.R_types HO223.out BK224.out (by decide)) (fun _ hk => hk.2) (.int .i64 a1_0)) (fun _ hk => hk.2) (.slice Ao18 y221.length co18)) (fun _ hk => hk.2) (.int .i64 a1_2)) (fun _ hk => hk.2) (.int .i64 0)) (fun _ hk => trivial))⟩, ⟨by (with_reducible repeat (first | refine blk_drewN ?_ _ | refine blk_drew ?_ | refine blk_alloc ?_ _)); refine blk_far ?_ NB214_224.out _; (with_reducible repeat (first | refine blk_drewN ?_ _ | refine blk_drew ?_ | refine blk_alloc ?_ _)); refine blk_far ?_ NB214_224.out _; (with_reducible repeat (first | refine blk_drewN ?_ _ | refine blk_drew ?_ | refine blk_alloc ?_ _)); refine blk_far ?_ NB214_224.out _; (with_reducible repeat (first | refine blk_drewN ?_ _ | refine blk_drew ?_ | refine blk_alloc ?_ _)); refine blk_far ?_ NB214_224.out _; (with_reducible repeat (first | refine blk_drewN ?_ _ | refine blk_drew ?_ | refine blk_alloc ?_ _)); exact BK214.out⟩, ⟨by (with_reducible repeat (first | refine blk_drewN ?_ _ | refine blk_drew ?_ | refine blk_alloc ?_ _)); refine blk_far ?_ NB215_224.out _; (with_reducible repeat (first | refine blk_drewN ?_ _ | refine blk_drew ?_ | refine blk_alloc ?_ _)); refine blk_far ?_ NB215_224.out _; (with_reducible repeat (first | refine blk_drewN ?_ _ | refine blk_drew ?_ | refine blk_alloc ?_ _)); refine blk_far ?_ NB215_224.out _; (with_reducible repeat (first | refine blk_drewN ?_ _ | refine blk_drew ?_ | refine blk_alloc ?_ _)); refine blk_far ?_ NB215_224.out _; (with_reducible repeat (first | refine blk_drewN ?_ _ | refine blk_drew ?_ | refine blk_alloc ?_ _)); exact BK215.out⟩, ⟨by (with_reducible repeat (first | refine blk_drewN ?_ _ | refine blk_drew ?_ | refine blk_alloc ?_ _)); refine blk_far ?_ NB216_224.out _; (with_reducible repeat (first | refine blk_drewN ?_ _ | refine blk_drew ?_ | refine blk_alloc ?_ _)); refine blk_far ?_ NB216_224.out _; (with_reducible repeat (first | refine blk_drewN ?_ _ | refine blk_drew ?_ | refine blk_alloc ?_ _)); refine blk_far ?_ NB216_224.out _; (with_reducible repeat (first | refine blk_drewN ?_ _ | refine blk_drew ?_ | refine blk_alloc ?_ _)); refine blk_far ?_ NB216_224.out _; (with_reducible repeat (first | refine blk_drewN ?_ _ | refine blk_drew ?_ | refine blk_alloc ?_ _)); exact BK216.out⟩, ⟨by (with_reducible repeat (first | refine blk_drewN ?_ _ | refine blk_drew ?_ | refine blk_alloc ?_ _)); refine blk_far ?_ NB217_224.out _; (with_reducible repeat (first | refine blk_drewN ?_ _ | refine blk_drew ?_ | refine blk_alloc ?_ _)); refine blk_far ?_ NB217_224.out _; (with_reducible repeat (first | refine blk_drewN ?_ _ | refine blk_drew ?_ | refine blk_alloc ?_ _)); refine blk_far ?_ NB217_224.out _; (with_reducible repeat (first | refine blk_drewN ?_ _ | refine blk_drew ?_ | refine blk_alloc ?_ _)); refine blk_far ?_ NB217_224.out _; (with_reducible repeat (first | refine blk_drewN ?_ _ | refine blk_drew ?_ | refine blk_alloc ?_ _)); exact BK217.out⟩, ⟨by (with_reducible repeat (first | refine blk_drewN ?_ _ | refine blk_drew ?_ | refine blk_alloc ?_ _)); refine blk_put (cs := #[.int .i64 a1_0, .slice Ao18 y221.length co18, .int .i64 a1_2, .int .i64 0]) ?_ 3 _ rfl; (with_reducible repeat (first | refine blk_drewN ?_ _ | refine blk_drew ?_ | refine blk_alloc ?_ _)); refine blk_put (cs := #[.int .i64 a1_0, .slice Ao18 y221.length co18, .int .i64 0, .int .i64 0]) ?_ 2 _ rfl; (with_reducible repeat (first | refine blk_drewN ?_ _ | refine blk_drew ?_ | refine blk_alloc ?_ _)); refine blk_put (cs := #[.int .i64 a1_0, .slice none 0 0, .int .i64 0, .int .i64 0]) ?_ 1 _ rfl; (with_reducible repeat (first | refine blk_drewN ?_ _ | refine blk_drew ?_ | refine blk_alloc ?_ _)); refine blk_put (cs := #[.int .i64 0, .slice none 0 0, .int .i64 0, .int .i64 0]) ?_ 0 _ rfl; (with_reducible repeat (first | refine blk_drewN ?_ _ | refine blk_drew ?_ | refine blk_alloc ?_ _)); exact BK224.out⟩, ⟨by repeat (first | (with_reducible first | exact HB.out | apply below_alloc | apply pw_below_drewN | apply below_drew1 | refine below_set ?_ GE214.out | refine below_set ?_ GE215.out | refine below_set ?_ GE216.out | refine below_set ?_ GE217.out | refine below_set ?_ GE224.out) | exact HB.out)⟩⟩
    case rest =>
      clear HC6
      try clear c1
      try clear c2
      try clear p2
      try clear q2
      try clear hx2
      try clear qi2
      try clear c3
      try clear c4
      try clear q4
      try clear c5
      try clear p6
      try clear p22
      try clear q22
      try clear hx22
      try clear qi22
      try clear c23
      try clear c24
      try clear c25
      try clear c26
      try clear c28
      try clear c28b0
      try clear c28b1
      try clear c29
      try clear c29b0
      try clear c29b1
      try clear c30
      try clear c30b0
      try clear c30b1
      try clear c35
      try clear c36
      try clear c37
      try clear c38
      try clear c40
      try clear q40
      try clear hcz27_0
      try clear hcz27_1
      try clear hcz27_2
      try clear hcz27_3
      try clear hcz39_0
      try clear hcz39_1
      try clear hcz39_2
      try clear hcz39_3
      try clear hfz27_0
      try clear hfz27_1
      try clear hfz27_2
      try clear hfz27_3
      try clear hfz39_0
      try clear hfz39_1
      try clear hfz39_2
      try clear hfz39_3
      try clear hx225_0
      try clear p225
      try clear q225
      try clear q40
      obtain ⟨kq, x225000_5, x225001_5, u225001, HA, HJ5, HO_225001, BK214, BK215, BK216, BK217, BK224, HB⟩ := hcut
      cases kq with
      | zero => exact absurd HA.out (by simp [governorref16_Step.j0])
      | succ kj5 =>
        have H := HA.out
        clear HA
        simp only [governorref16_Step.j0] at H
        obtain ⟨ji41, hji41⟩ : ∃ j_ : Int, (mx a2 0) = j_ := ⟨_, rfl⟩
        replace H : ((governorref16_sized.f kj5 a0_5 x225000_5 x225001_5 a1_2 0 (mn (ji41) 1000)).bind fun bt229 => ((governorref08_Add.f bt229.2.2.1 (mn (mx a3 0) 1000000)).bind fun t235 => ((governorref08_Div.f kj5 t235 (mn (wrap64 (bt229.1 * a0_4)) 1000000000)).bind fun t236 => (governorref16_Step.l0 kj5 a0_0 a0_1 a0_2 a0_3 a0_4 a0_5 a0_6 a0_7 a0_8 a0_9 a0_10 a0_11 bt229.1 bt229.2.1 (mx (wrap64 (t235 - (mn (wrap64 (bt229.1 * a0_4)) 1000000000))) 0) t236)))) = some (r1, r2, r3, r4, r5, r6) := by first | (rw [hji41] at H; exact H) | (simp only [hji41] at H ⊢; exact H)
        have hji41_ : (if a2 < 0 then 0 else a2) = ji41 := hji41
        obtain ⟨ji42, hji42⟩ : ∃ j_ : Int, (mn (ji41) 1000) = j_ := ⟨_, rfl⟩
        replace H : ((governorref16_sized.f kj5 a0_5 x225000_5 x225001_5 a1_2 0 (ji42)).bind fun bt229 => ((governorref08_Add.f bt229.2.2.1 (mn (mx a3 0) 1000000)).bind fun t235 => ((governorref08_Div.f kj5 t235 (mn (wrap64 (bt229.1 * a0_4)) 1000000000)).bind fun t236 => (governorref16_Step.l0 kj5 a0_0 a0_1 a0_2 a0_3 a0_4 a0_5 a0_6 a0_7 a0_8 a0_9 a0_10 a0_11 bt229.1 bt229.2.1 (mx (wrap64 (t235 - (mn (wrap64 (bt229.1 * a0_4)) 1000000000))) 0) t236)))) = some (r1, r2, r3, r4, r5, r6) := by first | (rw [hji42] at H; exact H) | (simp only [hji42] at H ⊢; exact H)
        have hji42_ : (if 1000 < (ji41) then 1000 else (ji41)) = ji42 := hji42
        replace H := Option.bind_eq_some_iff.mp H
        obtain ⟨⟨t229, t230, t233, t234⟩, A430, H⟩ := H
        replace H : ((governorref08_Add.f t233 (mn (mx a3 0) 1000000)).bind fun t235 => ((governorref08_Div.f kj5 t235 (mn (wrap64 (t229 * a0_4)) 1000000000)).bind fun t236 => (governorref16_Step.l0 kj5 a0_0 a0_1 a0_2 a0_3 a0_4 a0_5 a0_6 a0_7 a0_8 a0_9 a0_10 a0_11 t229 t230 (mx (wrap64 (t235 - (mn (wrap64 (t229 * a0_4)) 1000000000))) 0) t236))) = some (r1, r2, r3, r4, r5, r6) := H
        have A43 := Aside0.mk A430
        clear A430
        obtain ⟨ji44, hji44⟩ : ∃ j_ : Int, (mx a3 0) = j_ := ⟨_, rfl⟩
        replace H : ((governorref08_Add.f t233 (mn (ji44) 1000000)).bind fun t235 => ((governorref08_Div.f kj5 t235 (mn (wrap64 (t229 * a0_4)) 1000000000)).bind fun t236 => (governorref16_Step.l0 kj5 a0_0 a0_1 a0_2 a0_3 a0_4 a0_5 a0_6 a0_7 a0_8 a0_9 a0_10 a0_11 t229 t230 (mx (wrap64 (t235 - (mn (wrap64 (t229 * a0_4)) 1000000000))) 0) t236))) = some (r1, r2, r3, r4, r5, r6) := by first | (rw [hji44] at H; exact H) | (simp only [hji44] at H ⊢; exact H)
        (try rw [hji44] at A43)
        have hji44_ : (if a3 < 0 then 0 else a3) = ji44 := hji44
        obtain ⟨ji45, hji45⟩ : ∃ j_ : Int, (mn (ji44) 1000000) = j_ := ⟨_, rfl⟩
        replace H : ((governorref08_Add.f t233 (ji45)).bind fun t235 => ((governorref08_Div.f kj5 t235 (mn (wrap64 (t229 * a0_4)) 1000000000)).bind fun t236 => (governorref16_Step.l0 kj5 a0_0 a0_1 a0_2 a0_3 a0_4 a0_5 a0_6 a0_7 a0_8 a0_9 a0_10 a0_11 t229 t230 (mx (wrap64 (t235 - (mn (wrap64 (t229 * a0_4)) 1000000000))) 0) t236))) = some (r1, r2, r3, r4, r5, r6) := by first | (rw [hji45] at H; exact H) | (simp only [hji45] at H ⊢; exact H)
        (try rw [hji45] at A43)
        have hji45_ : (if 1000000 < (ji44) then 1000000 else (ji44)) = ji45 := hji45
        replace H := Option.bind_eq_some_iff.mp H
        obtain ⟨t235, A460, H⟩ := H
        replace H : ((governorref08_Div.f kj5 t235 (mn (wrap64 (t229 * a0_4)) 1000000000)).bind fun t236 => (governorref16_Step.l0 kj5 a0_0 a0_1 a0_2 a0_3 a0_4 a0_5 a0_6 a0_7 a0_8 a0_9 a0_10 a0_11 t229 t230 (mx (wrap64 (t235 - (mn (wrap64 (t229 * a0_4)) 1000000000))) 0) t236)) = some (r1, r2, r3, r4, r5, r6) := H
        have A46 := Aside0.mk A460
        clear A460
        obtain ⟨ji47, hji47⟩ : ∃ j_ : Int, (mn (wrap64 (t229 * a0_4)) 1000000000) = j_ := ⟨_, rfl⟩
        replace H : ((governorref08_Div.f kj5 t235 (ji47)).bind fun t236 => (governorref16_Step.l0 kj5 a0_0 a0_1 a0_2 a0_3 a0_4 a0_5 a0_6 a0_7 a0_8 a0_9 a0_10 a0_11 t229 t230 (mx (wrap64 (t235 - (ji47))) 0) t236)) = some (r1, r2, r3, r4, r5, r6) := by first | (rw [hji47] at H; exact H) | (simp only [hji47] at H ⊢; exact H)
        (try rw [hji47] at A43)
        (try rw [hji47] at A46)
        have hji47_ : (if 1000000000 < (wrap64 (t229 * a0_4)) then 1000000000 else (wrap64 (t229 * a0_4))) = ji47 := hji47
        obtain ⟨ji48, hji48⟩ : ∃ j_ : Int, (mx (wrap64 (t235 - (ji47))) 0) = j_ := ⟨_, rfl⟩
        replace H : ((governorref08_Div.f kj5 t235 (ji47)).bind fun t236 => (governorref16_Step.l0 kj5 a0_0 a0_1 a0_2 a0_3 a0_4 a0_5 a0_6 a0_7 a0_8 a0_9 a0_10 a0_11 t229 t230 ji48 t236)) = some (r1, r2, r3, r4, r5, r6) := by first | (rw [hji48] at H; exact H) | (simp only [hji48] at H ⊢; exact H)
        (try rw [hji48] at A43)
        (try rw [hji48] at A46)
        have hji48_ : (if (wrap64 (t235 - (ji47))) < 0 then 0 else (wrap64 (t235 - (ji47)))) = ji48 := hji48
        replace H := Option.bind_eq_some_iff.mp H
        obtain ⟨t236, A490, H⟩ := H
        replace H : (governorref16_Step.l0 kj5 a0_0 a0_1 a0_2 a0_3 a0_4 a0_5 a0_6 a0_7 a0_8 a0_9 a0_10 a0_11 t229 t230 ji48 t236) = some (r1, r2, r3, r4, r5, r6) := H
        have A49 := Aside0.mk A490
        clear A490
        have H' := Aside0.mk H
        clear H
        have hnb50 := NB214_215.out
        have hnc50 := NB215_214.out
        have hnb51 := NB214_216.out
        have hnc51 := NB216_214.out
        have hnb52 := NB214_217.out
        have hnc52 := NB217_214.out
        have hnb53 := NB214_224.out
        have hnc53 := NB224_214.out
        have hcz54_0 : wc.cell? ⟨gb214, 0, none⟩ = some (.int .i64 a0_0) := (blk_cell BK214.out 0).trans rfl
        have hcz54_1 : wc.cell? ⟨gb214, 1, none⟩ = some (.int .i64 a0_1) := (blk_cell BK214.out 1).trans rfl
        have hcz54_2 : wc.cell? ⟨gb214, 2, none⟩ = some (.int .i64 a0_2) := (blk_cell BK214.out 2).trans rfl
        have hcz54_3 : wc.cell? ⟨gb214, 3, none⟩ = some (.int .i64 a0_3) := (blk_cell BK214.out 3).trans rfl
        have hcz54_4 : wc.cell? ⟨gb214, 4, none⟩ = some (.int .i64 a0_4) := (blk_cell BK214.out 4).trans rfl
        have hcz54_5 : wc.cell? ⟨gb214, 5, none⟩ = some (.int .i64 a0_5) := (blk_cell BK214.out 5).trans rfl
        have hcz54_6 : wc.cell? ⟨gb214, 6, none⟩ = some (.int .i64 a0_6) := (blk_cell BK214.out 6).trans rfl
        have hcz54_7 : wc.cell? ⟨gb214, 7, none⟩ = some (.int .i64 a0_7) := (blk_cell BK214.out 7).trans rfl
        have hcz54_8 : wc.cell? ⟨gb214, 8, none⟩ = some (.int .i64 a0_8) := (blk_cell BK214.out 8).trans rfl
        have hcz54_9 : wc.cell? ⟨gb214, 9, none⟩ = some (.int .i64 a0_9) := (blk_cell BK214.out 9).trans rfl
        have hcz54_10 : wc.cell? ⟨gb214, 10, none⟩ = some (.int .i64 a0_10) := (blk_cell BK214.out 10).trans rfl
        have hcz54_11 : wc.cell? ⟨gb214, 11, none⟩ = some (.int .i64 a0_11) := (blk_cell BK214.out 11).trans rfl
        have hfz54_0 := blk_frozen BK214.out 0
        have hfz54_1 := blk_frozen BK214.out 1
        have hfz54_2 := blk_frozen BK214.out 2
        have hfz54_3 := blk_frozen BK214.out 3
        have hfz54_4 := blk_frozen BK214.out 4
        have hfz54_5 := blk_frozen BK214.out 5
        have hfz54_6 := blk_frozen BK214.out 6
        have hfz54_7 := blk_frozen BK214.out 7
        have hfz54_8 := blk_frozen BK214.out 8
        have hfz54_9 := blk_frozen BK214.out 9
        have hfz54_10 := blk_frozen BK214.out 10
        have hfz54_11 := blk_frozen BK214.out 11
        have hnb55 := NB224_215.out
        have hnc55 := NB215_224.out
        have hnb56 := NB224_216.out
        have hnc56 := NB216_224.out
        have hnb57 := NB224_217.out
        have hnc57 := NB217_224.out
        have hcz58_0 : wc.cell? ⟨gb224, 0, none⟩ = some (.int .i64 x225000_5) := (blk_cell BK224.out 0).trans rfl
        have hcz58_1 : wc.cell? ⟨gb224, 1, none⟩ = some (u225001) := (blk_cell BK224.out 1).trans rfl
        have hcz58_2 : wc.cell? ⟨gb224, 2, none⟩ = some (.int .i64 a1_2) := (blk_cell BK224.out 2).trans rfl
        have hcz58_3 : wc.cell? ⟨gb224, 3, none⟩ = some (.int .i64 0) := (blk_cell BK224.out 3).trans rfl
        have hfz58_0 := blk_frozen BK224.out 0
        have hfz58_1 := blk_frozen BK224.out 1
        have hfz58_2 := blk_frozen BK224.out 2
        have hfz58_3 := blk_frozen BK224.out 3
        obtain ⟨Ao59, co59, eo59, _⟩ := Kd.Q_slice HO_225001.out
        subst eo59
        go_wp2_with (first | ((with_reducible refine gate_callee (f := 43) rfl ?_); refine goesL_ (some 44) rfl rfl Try.func43 (by kernel_rfl) rfl #[.int .i64 a0_5, .agg #[.int .i64 x225000_5, .slice Ao59 x225001_5.length co59, .int .i64 a1_2, .int .i64 0], .int .i64 ji42] rfl (by (try simp only [List.map_toArray, List.map_cons, List.map_nil]); first | done | (simp only [hji42]; rfl) | rfl | (simp only [List.length_drop, List.length_take]; rfl)) ?_; (with_reducible refine (governorref16_sized.calls kj5 a0_5 x225000_5 _ _ x225001_5 a1_2 0 ji42 t229 t230 t233 t234 _ ?side1 ?side2 A43.out).mono ?_); (case side1 => repeat (first | exact (Kd.Q_reads' HO_225001.out).2.2 | (with_reducible refine Kd.C_alloc ?_ _) | (with_reducible refine Kd.C_drewN ?_ _) | (with_reducible refine Kd.C_drew ?_))); (case side2 => exact (Kd.Q_reads' HO_225001.out).2.1); rintro e w60 ⟨v231, rfl, ho0, hb⟩; refine ⟨_, rfl, ?_⟩; have n0_ := Aside0.mk (Kd.Q_elder' (by (with_reducible repeat (first | apply Kd.Q_alloc | apply Kd.Q_drewN | apply Kd.Q_drew)); exact HO_225001.out) (Kd.R_base ho0) hb); have n1_ := Aside0.mk (Kd.R_lower (Kd.R_new' ho0 (Kd.Q_lt (by (with_reducible repeat (first | apply Kd.Q_alloc | apply Kd.Q_drewN | apply Kd.Q_drew)); exact HO_225001.out))) (below_size (by repeat (first | (with_reducible first | exact HB.out | apply below_alloc | apply pw_below_drewN | apply below_drew1 | refine below_set ?_ GE214.out | refine below_set ?_ GE215.out | refine below_set ?_ GE216.out | refine below_set ?_ GE217.out | refine below_set ?_ GE224.out) | exact HB.out)))); have n2_ := Aside0.mk (blk_below (g := gb214) (o := .cells #[.int .i64 a0_0, .int .i64 a0_1, .int .i64 a0_2, .int .i64 a0_3, .int .i64 a0_4, .int .i64 a0_5, .int .i64 a0_6, .int .i64 a0_7, .int .i64 a0_8, .int .i64 a0_9, .int .i64 a0_10, .int .i64 a0_11] 23 (0, 0)) (by (with_reducible repeat (first | refine blk_drewN ?_ _ | refine blk_drew ?_ | refine blk_alloc ?_ _)); exact BK214.out) hb); have n3_ := Aside0.mk (blk_below (g := gb215) (o := .cells #[.int .i64 a1_0, .slice A1_1 l1_1.length c1_1, .int .i64 a1_2, .int .i64 a1_3] 26 (0, 0)) (by (with_reducible repeat (first | refine blk_drewN ?_ _ | refine blk_drew ?_ | refine blk_alloc ?_ _)); exact BK215.out) hb); have n4_ := Aside0.mk (blk_below (g := gb216) (o := .cells #[.int .i64 0, .slice none 0 0, .int .i64 0, .int .i64 0] 26 (0, 0)) (by (with_reducible repeat (first | refine blk_drewN ?_ _ | refine blk_drew ?_ | refine blk_alloc ?_ _)); exact BK216.out) hb); have n5_ := Aside0.mk (blk_below (g := gb217) (o := .cells #[.int .i64 0, .bool false] 31 (0, 0)) (by (with_reducible repeat (first | refine blk_drewN ?_ _ | refine blk_drew ?_ | refine blk_alloc ?_ _)); exact BK217.out) hb); have n6_ := Aside0.mk (blk_below (g := gb224) (o := .cells #[.int .i64 x225000_5, .slice Ao59 x225001_5.length co59, .int .i64 a1_2, .int .i64 0] 26 (0, 0)) (by (with_reducible repeat (first | refine blk_drewN ?_ _ | refine blk_drew ?_ | refine blk_alloc ?_ _)); exact BK224.out) hb); have n7_ := Aside0.mk (below_step (by repeat (first | (with_reducible first | exact HB.out | apply below_alloc | apply pw_below_drewN | apply below_drew1 | refine below_set ?_ GE214.out | refine below_set ?_ GE215.out | refine below_set ?_ GE216.out | refine below_set ?_ GE217.out | refine below_set ?_ GE224.out) | exact HB.out)) hb); clear HO_225001; clear BK214; clear BK215; clear BK216; clear BK217; clear BK224; clear HB; have HO_225001 := n0_; have HO232 := n1_; have BK214 := n2_; have BK215 := n3_; have BK216 := n4_; have BK217 := n5_; have BK224 := n6_; have HB := n7_; clear n0_ n1_ n2_ n3_ n4_ n5_ n6_ n7_; (try clear hb); (try clear hb2); (try clear hk); (try clear hi); (try clear ho0); have hcz61_0 : w60.cell? ⟨gb224, 0, none⟩ = some (.int .i64 x225000_5) := (blk_cell BK224.out 0).trans rfl; have hcz61_1 : w60.cell? ⟨gb224, 1, none⟩ = some (.slice Ao59 x225001_5.length co59) := (blk_cell BK224.out 1).trans rfl; have hcz61_2 : w60.cell? ⟨gb224, 2, none⟩ = some (.int .i64 a1_2) := (blk_cell BK224.out 2).trans rfl; have hcz61_3 : w60.cell? ⟨gb224, 3, none⟩ = some (.int .i64 0) := (blk_cell BK224.out 3).trans rfl; have hfz61_0 := blk_frozen BK224.out 0; have hfz61_1 := blk_frozen BK224.out 1; have hfz61_2 := blk_frozen BK224.out 2; have hfz61_3 := blk_frozen BK224.out 3; obtain ⟨Ao62, co62, eo62⟩ := Kd.R_slice HO232.out; subst eo62) | ((with_reducible refine gate_callee (f := 44) rfl ?_); refine goesL_ (some 50) rfl rfl Try.func44 (by kernel_rfl) rfl #[.int .i64 t233, .int .i64 ji45] rfl (by (try simp only [List.map_toArray, List.map_cons, List.map_nil]); first | done | (simp only [hji45]; rfl) | rfl | (simp only [List.length_drop, List.length_take]; rfl)) ?_; (with_reducible refine (governorref08_Add.calls t233 ji45 t235 _ A46.out).mono ?_); rintro e w' ⟨rfl, ⟨nd, rfl⟩⟩; refine ⟨_, rfl, ?_⟩; have hcz63_0 : w60.cell? ⟨gb214, 0, none⟩ = some (.int .i64 a0_0) := (blk_cell BK214.out 0).trans rfl; have hcz63_1 : w60.cell? ⟨gb214, 1, none⟩ = some (.int .i64 a0_1) := (blk_cell BK214.out 1).trans rfl; have hcz63_2 : w60.cell? ⟨gb214, 2, none⟩ = some (.int .i64 a0_2) := (blk_cell BK214.out 2).trans rfl; have hcz63_3 : w60.cell? ⟨gb214, 3, none⟩ = some (.int .i64 a0_3) := (blk_cell BK214.out 3).trans rfl; have hcz63_4 : w60.cell? ⟨gb214, 4, none⟩ = some (.int .i64 a0_4) := (blk_cell BK214.out 4).trans rfl; have hcz63_5 : w60.cell? ⟨gb214, 5, none⟩ = some (.int .i64 a0_5) := (blk_cell BK214.out 5).trans rfl; have hcz63_6 : w60.cell? ⟨gb214, 6, none⟩ = some (.int .i64 a0_6) := (blk_cell BK214.out 6).trans rfl; have hcz63_7 : w60.cell? ⟨gb214, 7, none⟩ = some (.int .i64 a0_7) := (blk_cell BK214.out 7).trans rfl; have hcz63_8 : w60.cell? ⟨gb214, 8, none⟩ = some (.int .i64 a0_8) := (blk_cell BK214.out 8).trans rfl; have hcz63_9 : w60.cell? ⟨gb214, 9, none⟩ = some (.int .i64 a0_9) := (blk_cell BK214.out 9).trans rfl; have hcz63_10 : w60.cell? ⟨gb214, 10, none⟩ = some (.int .i64 a0_10) := (blk_cell BK214.out 10).trans rfl; have hcz63_11 : w60.cell? ⟨gb214, 11, none⟩ = some (.int .i64 a0_11) := (blk_cell BK214.out 11).trans rfl; have hfz63_0 := blk_frozen BK214.out 0; have hfz63_1 := blk_frozen BK214.out 1; have hfz63_2 := blk_frozen BK214.out 2; have hfz63_3 := blk_frozen BK214.out 3; have hfz63_4 := blk_frozen BK214.out 4; have hfz63_5 := blk_frozen BK214.out 5; have hfz63_6 := blk_frozen BK214.out 6; have hfz63_7 := blk_frozen BK214.out 7; have hfz63_8 := blk_frozen BK214.out 8; have hfz63_9 := blk_frozen BK214.out 9; have hfz63_10 := blk_frozen BK214.out 10; have hfz63_11 := blk_frozen BK214.out 11) | ((with_reducible refine gate_callee (f := 45) rfl ?_); refine goesL_ (some 64) rfl rfl Try.func45 (by kernel_rfl) rfl #[.int .i64 t235, .int .i64 ji47] rfl (by (try simp only [List.map_toArray, List.map_cons, List.map_nil]); first | done | (simp only [hji47]; rfl) | rfl | (simp only [List.length_drop, List.length_take]; rfl)) ?_; (with_reducible refine (governorref08_Div.calls kj5 t235 ji47 t236 _ A49.out).mono ?_); rintro e w' ⟨rfl, ⟨nd, rfl⟩⟩; refine ⟨_, rfl, ?_⟩))
        go_loopg [] kj5 (fun kq w' => ∃ (x225001_2 : List Int) (u225001 : Value), Aside0 (governorref16_Step.l0 kq a0_0 a0_1 a0_2 a0_3 a0_4 a0_5 a0_6 a0_7 a0_8 a0_9 a0_10 a0_11 t229 x225001_2 ji48 t236 = some (r1, r2, r3, r4, r5, r6)) ∧ Aside0 (kq ≤ kj5) ∧ Aside0 (Kd.Q (Kd.int .i64) 3 w' w.heap.size (fun _ => True) u225001 x225001_2) ∧ Aside0 (w'.heap[gb214]? = some (.cells #[.int .i64 a0_0, .int .i64 a0_1, .int .i64 a0_2, .int .i64 a0_3, .int .i64 a0_4, .int .i64 a0_5, .int .i64 a0_6, .int .i64 a0_7, .int .i64 a0_8, .int .i64 a0_9, .int .i64 a0_10, .int .i64 a0_11] 23 (0, 0))) ∧ Aside0 (w'.heap[gb215]? = some (.cells #[.int .i64 a1_0, (.slice A1_1 l1_1.length c1_1), .int .i64 a1_2, .int .i64 a1_3] 26 (0, 0))) ∧ Aside0 (w'.heap[gb216]? = some (.cells #[.int .i64 0, (.slice none 0 0), .int .i64 0, .int .i64 0] 26 (0, 0))) ∧ Aside0 (w'.heap[gb217]? = some (.cells #[.int .i64 0, .bool false] 31 (0, 0))) ∧ Aside0 (w'.heap[gb224]? = some (.cells #[.int .i64 t229, u225001, .int .i64 ji48, .int .i64 t236] 26 (0, 0))) ∧ Aside0 (Below w.heap.size w w'))
        case atStart => exact ⟨(t230), (.slice Ao62 t230.length co62), H', ⟨Nat.le_refl _⟩, ⟨Kd.Q_of_R (by (with_reducible repeat (first | apply Kd.R_alloc | apply Kd.R_drewN | apply Kd.R_drew)); exact Kd.R_mono (Kd.R_far (p := ⟨gb224, 3, none⟩) (Kd.R_far (p := ⟨gb224, 2, none⟩) (Kd.R_far (p := ⟨gb224, 3, none⟩) (Kd.R_far (p := ⟨gb224, 2, none⟩) (Kd.R_far (p := ⟨gb224, 1, none⟩) (Kd.R_far (p := ⟨gb224, 0, none⟩) (Kd.R_types HO232.out BK224.out (by decide)) (fun _ hk => hk.2) (.int .i64 t229)) (fun _ hk => hk.2) (.slice Ao62 t230.length co62)) (fun _ hk => hk.2) (.int .i64 t233)) (fun _ hk => hk.2) (.int .i64 t234)) (fun _ hk => hk.2) (.int .i64 ji48)) (fun _ hk => hk.2) (.int .i64 t236)) (fun _ hk => trivial))⟩, ⟨by (with_reducible repeat (first | refine blk_drewN ?_ _ | refine blk_drew ?_ | refine blk_alloc ?_ _)); refine blk_far ?_ NB214_224.out _; (with_reducible repeat (first | refine blk_drewN ?_ _ | refine blk_drew ?_ | refine blk_alloc ?_ _)); refine blk_far ?_ NB214_224.out _; (with_reducible repeat (first | refine blk_drewN ?_ _ | refine blk_drew ?_ | refine blk_alloc ?_ _)); refine blk_far ?_ NB214_224.out _; (with_reducible repeat (first | refine blk_drewN ?_ _ | refine blk_drew ?_ | refine blk_alloc ?_ _)); refine blk_far ?_ NB214_224.out _; (with_reducible repeat (first | refine blk_drewN ?_ _ | refine blk_drew ?_ | refine blk_alloc ?_ _)); refine blk_far ?_ NB214_224.out _; (with_reducible repeat (first | refine blk_drewN ?_ _ | refine blk_drew ?_ | refine blk_alloc ?_ _)); refine blk_far ?_ NB214_224.out _; (with_reducible repeat (first | refine blk_drewN ?_ _ | refine blk_drew ?_ | refine blk_alloc ?_ _)); exact BK214.out⟩, ⟨by (with_reducible repeat (first | refine blk_drewN ?_ _ | refine blk_drew ?_ | refine blk_alloc ?_ _)); refine blk_far ?_ NB215_224.out _; (with_reducible repeat (first | refine blk_drewN ?_ _ | refine blk_drew ?_ | refine blk_alloc ?_ _)); refine blk_far ?_ NB215_224.out _; (with_reducible repeat (first | refine blk_drewN ?_ _ | refine blk_drew ?_ | refine blk_alloc ?_ _)); refine blk_far ?_ NB215_224.out _; (with_reducible repeat (first | refine blk_drewN ?_ _ | refine blk_drew ?_ | refine blk_alloc ?_ _)); refine blk_far ?_ NB215_224.out _; (with_reducible repeat (first | refine blk_drewN ?_ _ | refine blk_drew ?_ | refine blk_alloc ?_ _)); refine blk_far ?_ NB215_224.out _; (with_reducible repeat (first | refine blk_drewN ?_ _ | refine blk_drew ?_ | refine blk_alloc ?_ _)); refine blk_far ?_ NB215_224.out _; (with_reducible repeat (first | refine blk_drewN ?_ _ | refine blk_drew ?_ | refine blk_alloc ?_ _)); exact BK215.out⟩, ⟨by (with_reducible repeat (first | refine blk_drewN ?_ _ | refine blk_drew ?_ | refine blk_alloc ?_ _)); refine blk_far ?_ NB216_224.out _; (with_reducible repeat (first | refine blk_drewN ?_ _ | refine blk_drew ?_ | refine blk_alloc ?_ _)); refine blk_far ?_ NB216_224.out _; (with_reducible repeat (first | refine blk_drewN ?_ _ | refine blk_drew ?_ | refine blk_alloc ?_ _)); refine blk_far ?_ NB216_224.out _; (with_reducible repeat (first | refine blk_drewN ?_ _ | refine blk_drew ?_ | refine blk_alloc ?_ _)); refine blk_far ?_ NB216_224.out _; (with_reducible repeat (first | refine blk_drewN ?_ _ | refine blk_drew ?_ | refine blk_alloc ?_ _)); refine blk_far ?_ NB216_224.out _; (with_reducible repeat (first | refine blk_drewN ?_ _ | refine blk_drew ?_ | refine blk_alloc ?_ _)); refine blk_far ?_ NB216_224.out _; (with_reducible repeat (first | refine blk_drewN ?_ _ | refine blk_drew ?_ | refine blk_alloc ?_ _)); exact BK216.out⟩, ⟨by (with_reducible repeat (first | refine blk_drewN ?_ _ | refine blk_drew ?_ | refine blk_alloc ?_ _)); refine blk_far ?_ NB217_224.out _; (with_reducible repeat (first | refine blk_drewN ?_ _ | refine blk_drew ?_ | refine blk_alloc ?_ _)); refine blk_far ?_ NB217_224.out _; (with_reducible repeat (first | refine blk_drewN ?_ _ | refine blk_drew ?_ | refine blk_alloc ?_ _)); refine blk_far ?_ NB217_224.out _; (with_reducible repeat (first | refine blk_drewN ?_ _ | refine blk_drew ?_ | refine blk_alloc ?_ _)); refine blk_far ?_ NB217_224.out _; (with_reducible repeat (first | refine blk_drewN ?_ _ | refine blk_drew ?_ | refine blk_alloc ?_ _)); refine blk_far ?_ NB217_224.out _; (with_reducible repeat (first | refine blk_drewN ?_ _ | refine blk_drew ?_ | refine blk_alloc ?_ _)); refine blk_far ?_ NB217_224.out _; (with_reducible repeat (first | refine blk_drewN ?_ _ | refine blk_drew ?_ | refine blk_alloc ?_ _)); exact BK217.out⟩, ⟨by (with_reducible repeat (first | refine blk_drewN ?_ _ | refine blk_drew ?_ | refine blk_alloc ?_ _)); refine blk_put (cs := #[.int .i64 t229, .slice Ao62 t230.length co62, .int .i64 ji48, .int .i64 t234]) ?_ 3 _ rfl; (with_reducible repeat (first | refine blk_drewN ?_ _ | refine blk_drew ?_ | refine blk_alloc ?_ _)); refine blk_put (cs := #[.int .i64 t229, .slice Ao62 t230.length co62, .int .i64 t233, .int .i64 t234]) ?_ 2 _ rfl; (with_reducible repeat (first | refine blk_drewN ?_ _ | refine blk_drew ?_ | refine blk_alloc ?_ _)); refine blk_put (cs := #[.int .i64 t229, .slice Ao62 t230.length co62, .int .i64 t233, .int .i64 0]) ?_ 3 _ rfl; (with_reducible repeat (first | refine blk_drewN ?_ _ | refine blk_drew ?_ | refine blk_alloc ?_ _)); refine blk_put (cs := #[.int .i64 t229, .slice Ao62 t230.length co62, .int .i64 a1_2, .int .i64 0]) ?_ 2 _ rfl; (with_reducible repeat (first | refine blk_drewN ?_ _ | refine blk_drew ?_ | refine blk_alloc ?_ _)); refine blk_put (cs := #[.int .i64 t229, .slice Ao59 x225001_5.length co59, .int .i64 a1_2, .int .i64 0]) ?_ 1 _ rfl; (with_reducible repeat (first | refine blk_drewN ?_ _ | refine blk_drew ?_ | refine blk_alloc ?_ _)); refine blk_put (cs := #[.int .i64 x225000_5, .slice Ao59 x225001_5.length co59, .int .i64 a1_2, .int .i64 0]) ?_ 0 _ rfl; (with_reducible repeat (first | refine blk_drewN ?_ _ | refine blk_drew ?_ | refine blk_alloc ?_ _)); exact BK224.out⟩, ⟨by repeat (first | (with_reducible first | exact HB.out | apply below_alloc | apply pw_below_drewN | apply below_drew1 | refine below_set ?_ GE214.out | refine below_set ?_ GE215.out | refine below_set ?_ GE216.out | refine below_set ?_ GE217.out | refine below_set ?_ GE224.out) | exact HB.out)⟩⟩
        case round =>
          clear H'
          try clear c1
          try clear c2
          try clear p2
          try clear q2
          try clear hx2
          try clear qi2
          try clear c3
          try clear c4
          try clear q4
          try clear c5
          try clear p6
          try clear p22
          try clear q22
          try clear hx22
          try clear qi22
          try clear c23
          try clear c24
          try clear c25
          try clear c26
          try clear c28
          try clear c28b0
          try clear c28b1
          try clear c29
          try clear c29b0
          try clear c29b1
          try clear c30
          try clear c30b0
          try clear c30b1
          try clear c35
          try clear c36
          try clear c37
          try clear c38
          try clear c40
          try clear q40
          try clear c43
          try clear c44
          try clear c45
          try clear c50
          try clear c51
          try clear c52
          try clear c53
          try clear c55
          try clear c56
          try clear c57
          try clear hcz27_0
          try clear hcz27_1
          try clear hcz27_2
          try clear hcz27_3
          try clear hcz39_0
          try clear hcz39_1
          try clear hcz39_2
          try clear hcz39_3
          try clear hcz54_0
          try clear hcz54_1
          try clear hcz54_10
          try clear hcz54_11
          try clear hcz54_2
          try clear hcz54_3
          try clear hcz54_4
          try clear hcz54_5
          try clear hcz54_6
          try clear hcz54_7
          try clear hcz54_8
          try clear hcz54_9
          try clear hcz58_0
          try clear hcz58_1
          try clear hcz58_2
          try clear hcz58_3
          try clear hcz61_0
          try clear hcz61_1
          try clear hcz61_2
          try clear hcz61_3
          try clear hcz63_0
          try clear hcz63_1
          try clear hcz63_10
          try clear hcz63_11
          try clear hcz63_2
          try clear hcz63_3
          try clear hcz63_4
          try clear hcz63_5
          try clear hcz63_6
          try clear hcz63_7
          try clear hcz63_8
          try clear hcz63_9
          try clear hfz27_0
          try clear hfz27_1
          try clear hfz27_2
          try clear hfz27_3
          try clear hfz39_0
          try clear hfz39_1
          try clear hfz39_2
          try clear hfz39_3
          try clear hfz54_0
          try clear hfz54_1
          try clear hfz54_10
          try clear hfz54_11
          try clear hfz54_2
          try clear hfz54_3
          try clear hfz54_4
          try clear hfz54_5
          try clear hfz54_6
          try clear hfz54_7
          try clear hfz54_8
          try clear hfz54_9
          try clear hfz58_0
          try clear hfz58_1
          try clear hfz58_2
          try clear hfz58_3
          try clear hfz61_0
          try clear hfz61_1
          try clear hfz61_2
          try clear hfz61_3
          try clear hfz63_0
          try clear hfz63_1
          try clear hfz63_10
          try clear hfz63_11
          try clear hfz63_2
          try clear hfz63_3
          try clear hfz63_4
          try clear hfz63_5
          try clear hfz63_6
          try clear hfz63_7
          try clear hfz63_8
          try clear hfz63_9
          try clear hx225_0
          try clear p2
          try clear p22
          try clear p225
          try clear p6
          try clear q2
          try clear q22
          try clear q225
          try clear q4
          try clear q40
          obtain ⟨x225001_2, u225001, HA, HK2, HO_225001, BK214, BK215, BK216, BK217, BK224, HB⟩ := hrel
          cases gk with
          | zero => exact absurd HA.out (by simp [governorref16_Step.l0])
          | succ k2 =>
            have H := HA.out
            clear HA
            simp only [governorref16_Step.l0] at H
            by_cases c64 : (x225001_2.length : Int) > 0
            · rw [if_pos c64] at H
              have c64b0 : decide (0 < (x225001_2.length : Int)) = true := decide_eq_true c64
              have c64b1 : decide (0 < x225001_2.length) = true := decide_eq_true (by omega)
              clear c64
              obtain ⟨ji65, hji65⟩ : ∃ j_ : Int, (wrap64 ((x225001_2.length : Int) - 1)) = j_ := ⟨_, rfl⟩
              replace H : (if 0 ≤ (ji65) then (if (ji65) < (x225001_2.length : Int) then (if (rd x225001_2 (ji65)) = 0 then (if (ji65) ≤ (x225001_2.length : Int) then (governorref16_Step.l0 k2 a0_0 a0_1 a0_2 a0_3 a0_4 a0_5 a0_6 a0_7 a0_8 a0_9 a0_10 a0_11 t229 (x225001_2.take ((ji65) : Int).toNat) ji48 t236) else (none)) else ((governorref16_All.f k2 t229 x225001_2 ji48 t236).bind fun t241 => (some (t229, x225001_2, ji48, t236, t241, decide (ji48 > a0_6))))) else (none)) else (none)) = some (r1, r2, r3, r4, r5, r6) := by first | (rw [hji65] at H; exact H) | (simp only [hji65] at H ⊢; exact H)
              have hji65w : (IntKind.i64.wrap ((x225001_2.length : Int) - 1)) = ji65 := (i64_w _).trans hji65
              by_cases c66 : 0 ≤ (ji65)
              · rw [if_pos c66] at H
                have c66b0 : decide (0 ≤ (ji65)) = true := decide_eq_true c66
                clear c66
                by_cases c67 : (ji65) < (x225001_2.length : Int)
                · rw [if_pos c67] at H
                  have c67b0 : decide ((ji65) < (x225001_2.length : Int)) = true := decide_eq_true c67
                  clear c67
                  by_cases c68 : (rd x225001_2 (ji65)) = 0
                  · rw [if_pos c68] at H
                    have c68b0 : ((rd x225001_2 (ji65)) == 0) = true := beq_iff_eq.mpr c68
                    have c68b1 : ((rd x225001_2 (ji65)) != 0) = false := bne_eq_false_iff_eq.mpr c68
                    clear c68
                    by_cases c69 : (ji65) ≤ (x225001_2.length : Int)
                    · rw [if_pos c69] at H
                      have c69b0 := eq_true c69
                      have c69b1 : decide ((ji65) ≤ (x225001_2.length : Int)) = true := decide_eq_true c69
                      clear c69
                      obtain ⟨y238, hy238⟩ : ∃ y_ : List Int, y_ = (x225001_2.take ((ji65) : Int).toNat) := ⟨_, rfl⟩
                      replace H : (governorref16_Step.l0 k2 a0_0 a0_1 a0_2 a0_3 a0_4 a0_5 a0_6 a0_7 a0_8 a0_9 a0_10 a0_11 t229 y238 ji48 t236) = some (r1, r2, r3, r4, r5, r6) := by first | (rw [hy238]; with_reducible exact H) | (have H2_ := (Option.bind_some _ _).symm.trans H; rw [hy238]; with_reducible exact H2_) | (have H2_ := (Option.bind_some _ _).symm.trans H; with_reducible exact H2_) | with_reducible exact H | (rw [hy238]; exact H) | exact H
                      have Ny238 := Aside0.mk hy238
                      clear hy238
                      have H' := Aside0.mk H
                      clear H
                      have hnb70 := NB224_214.out
                      have hnc70 := NB214_224.out
                      have hnb71 := NB224_215.out
                      have hnc71 := NB215_224.out
                      have hnb72 := NB224_216.out
                      have hnc72 := NB216_224.out
                      have hnb73 := NB224_217.out
                      have hnc73 := NB217_224.out
                      have hcz74_0 : wr.cell? ⟨gb224, 0, none⟩ = some (.int .i64 t229) := (blk_cell BK224.out 0).trans rfl
                      have hcz74_1 : wr.cell? ⟨gb224, 1, none⟩ = some (u225001) := (blk_cell BK224.out 1).trans rfl
                      have hcz74_2 : wr.cell? ⟨gb224, 2, none⟩ = some (.int .i64 ji48) := (blk_cell BK224.out 2).trans rfl
                      have hcz74_3 : wr.cell? ⟨gb224, 3, none⟩ = some (.int .i64 t236) := (blk_cell BK224.out 3).trans rfl
                      have hfz74_0 := blk_frozen BK224.out 0
                      have hfz74_1 := blk_frozen BK224.out 1
                      have hfz74_2 := blk_frozen BK224.out 2
                      have hfz74_3 := blk_frozen BK224.out 3
                      obtain ⟨Ao75, co75, eo75, _⟩ := Kd.Q_slice HO_225001.out
                      subst eo75
                      have p237 : 0 ≤ ((ji65) : Int) := of_decide_eq_true (by first | (with_reducible assumption) | assumption)
                      have q237 : (ji65) < (x225001_2.length : Int) := of_decide_eq_true (by first | (with_reducible assumption) | assumption)
                      obtain ⟨ad237, e237, hx237_0⟩ := Kd.at_int (Kd.Q_reads' HO_225001.out).2.2 (ji65) p237 q237
                      cases e237
                      replace p237 := eq_true p237
                      replace q237 := eq_true q237
                      have q76 : ((ji65) : Int) ≤ ((x225001_2.length : Int) : Int) := of_decide_eq_true (by first | (with_reducible assumption) | assumption)
                      obtain ⟨i076, hi076, _, hsz76, _⟩ := info_parts info3
                      have hcut76 := cut_to (P := Try.prog) 24 3 .i64 Try.underlying24 hi076 (some ad237) x225001_2.length co75 (ji65) (of_decide_eq_true (by first | (with_reducible assumption) | assumption)) q76 (Kd.Q_reads' HO_225001.out).2.1
                      have hr76 := Kd.Q_take (m := ((ji65) : Int).toNat) HO_225001.out (by omega)
                      have hy76 : y238.length = ((ji65) : Int).toNat := (by rw [Ny238.out, List.length_take]; omega)
                      rw [← Ny238.out] at hr76
                      rw [← hy76] at hr76 hcut76
                      clear hy76 hi076 hsz76 HO_225001
                      have HO240 := Aside0.mk hr76
                      clear hr76
                      replace q76 := eq_true q76
                      go_wp2
                      go_roundg k2
                      case measure => have := HJ5.out; have := HK2.out; omega
                      case rel => exact ⟨(y238), (.slice (some ad237) y238.length co75), H', ⟨by have := HJ5.out; have := HK2.out; omega⟩, ⟨by (with_reducible repeat (first | apply Kd.Q_alloc | apply Kd.Q_drewN | apply Kd.Q_drew)); exact Kd.Q_mono (Kd.Q_far (p := ⟨gb224, 1, none⟩) (Kd.Q_types HO240.out BK224.out (by decide)) (fun _ hk => hk.2) (.slice (some ad237) y238.length co75)) (fun _ hk => trivial)⟩, ⟨by (with_reducible repeat (first | refine blk_drewN ?_ _ | refine blk_drew ?_ | refine blk_alloc ?_ _)); refine blk_far ?_ NB214_224.out _; (with_reducible repeat (first | refine blk_drewN ?_ _ | refine blk_drew ?_ | refine blk_alloc ?_ _)); exact BK214.out⟩, ⟨by (with_reducible repeat (first | refine blk_drewN ?_ _ | refine blk_drew ?_ | refine blk_alloc ?_ _)); refine blk_far ?_ NB215_224.out _; (with_reducible repeat (first | refine blk_drewN ?_ _ | refine blk_drew ?_ | refine blk_alloc ?_ _)); exact BK215.out⟩, ⟨by (with_reducible repeat (first | refine blk_drewN ?_ _ | refine blk_drew ?_ | refine blk_alloc ?_ _)); refine blk_far ?_ NB216_224.out _; (with_reducible repeat (first | refine blk_drewN ?_ _ | refine blk_drew ?_ | refine blk_alloc ?_ _)); exact BK216.out⟩, ⟨by (with_reducible repeat (first | refine blk_drewN ?_ _ | refine blk_drew ?_ | refine blk_alloc ?_ _)); refine blk_far ?_ NB217_224.out _; (with_reducible repeat (first | refine blk_drewN ?_ _ | refine blk_drew ?_ | refine blk_alloc ?_ _)); exact BK217.out⟩, ⟨by (with_reducible repeat (first | refine blk_drewN ?_ _ | refine blk_drew ?_ | refine blk_alloc ?_ _)); refine blk_put (cs := #[.int .i64 t229, .slice (some ad237) x225001_2.length co75, .int .i64 ji48, .int .i64 t236]) ?_ 1 _ rfl; (with_reducible repeat (first | refine blk_drewN ?_ _ | refine blk_drew ?_ | refine blk_alloc ?_ _)); exact BK224.out⟩, ⟨by repeat (first | (with_reducible first | exact HB.out | apply below_alloc | apply pw_below_drewN | apply below_drew1 | refine below_set ?_ GE214.out | refine below_set ?_ GE215.out | refine below_set ?_ GE216.out | refine below_set ?_ GE217.out | refine below_set ?_ GE224.out) | exact HB.out)⟩⟩
                    · rw [if_neg c69] at H
                      exact absurd H (by simp)
                  · rw [if_neg c68] at H
                    have c68b0 : ((rd x225001_2 (ji65)) == 0) = false := beq_eq_false_iff_ne.mpr c68
                    have c68b1 : ((rd x225001_2 (ji65)) != 0) = true := bne_iff_ne.mpr c68
                    replace H := Option.bind_eq_some_iff.mp H
                    obtain ⟨t241, A770, H⟩ := H
                    replace H : (some (t229, x225001_2, ji48, t236, t241, decide (ji48 > a0_6))) = some (r1, r2, r3, r4, r5, r6) := H
                    have A77 := Aside0.mk A770
                    clear A770
                    simp only [Option.some.injEq, Prod.mk.injEq] at H
                    obtain ⟨rfl, rfl, rfl, rfl, rfl, rfl⟩ := H
                    have hnb78 := NB224_214.out
                    have hnc78 := NB214_224.out
                    have hnb79 := NB224_215.out
                    have hnc79 := NB215_224.out
                    have hnb80 := NB224_216.out
                    have hnc80 := NB216_224.out
                    have hnb81 := NB224_217.out
                    have hnc81 := NB217_224.out
                    have hcz82_0 : wr.cell? ⟨gb224, 0, none⟩ = some (.int .i64 t229) := (blk_cell BK224.out 0).trans rfl
                    have hcz82_1 : wr.cell? ⟨gb224, 1, none⟩ = some (u225001) := (blk_cell BK224.out 1).trans rfl
                    have hcz82_2 : wr.cell? ⟨gb224, 2, none⟩ = some (.int .i64 ji48) := (blk_cell BK224.out 2).trans rfl
                    have hcz82_3 : wr.cell? ⟨gb224, 3, none⟩ = some (.int .i64 t236) := (blk_cell BK224.out 3).trans rfl
                    have hfz82_0 := blk_frozen BK224.out 0
                    have hfz82_1 := blk_frozen BK224.out 1
                    have hfz82_2 := blk_frozen BK224.out 2
                    have hfz82_3 := blk_frozen BK224.out 3
                    obtain ⟨Ao83, co83, eo83, _⟩ := Kd.Q_slice HO_225001.out
                    subst eo83
                    have p237 : 0 ≤ ((ji65) : Int) := of_decide_eq_true (by first | (with_reducible assumption) | assumption)
                    have q237 : (ji65) < (x225001_2.length : Int) := of_decide_eq_true (by first | (with_reducible assumption) | assumption)
                    obtain ⟨ad237, e237, hx237_0⟩ := Kd.at_int (Kd.Q_reads' HO_225001.out).2.2 (ji65) p237 q237
                    cases e237
                    replace p237 := eq_true p237
                    replace q237 := eq_true q237
                    try go_wp2
                    have n0_ := Aside0.mk (Kd.Q_drew HO_225001.out)
                    have n1_ := Aside0.mk (blk_drew BK214.out)
                    have n2_ := Aside0.mk (blk_drew BK215.out)
                    have n3_ := Aside0.mk (blk_drew BK216.out)
                    have n4_ := Aside0.mk (blk_drew BK217.out)
                    have n5_ := Aside0.mk (blk_drew BK224.out)
                    have n6_ := Aside0.mk (below_drew1 HB.out)
                    clear HO_225001
                    clear BK214
                    clear BK215
                    clear BK216
                    clear BK217
                    clear BK224
                    clear HB
                    have HO_225001 := n0_
                    have BK214 := n1_
                    have BK215 := n2_
                    have BK216 := n3_
                    have BK217 := n4_
                    have BK224 := n5_
                    have HB := n6_
                    clear n0_ n1_ n2_ n3_ n4_ n5_ n6_
                    refine start_ (n := 11) (S := fun w' => w'.cell? ⟨gb224, 0, none⟩ = some (.int .i64 t229) ∧ w'.cell? ⟨gb224, 1, none⟩ = some (.slice (some ad237) x225001_2.length co83) ∧ w'.cell? ⟨gb224, 2, none⟩ = some (.int .i64 ji48) ∧ w'.cell? ⟨gb224, 3, none⟩ = some (.int .i64 t236) ∧ w'.cell? ⟨gb214, 0, none⟩ = some (.int .i64 a0_0) ∧ w'.cell? ⟨gb214, 1, none⟩ = some (.int .i64 a0_1) ∧ w'.cell? ⟨gb214, 2, none⟩ = some (.int .i64 a0_2) ∧ w'.cell? ⟨gb214, 3, none⟩ = some (.int .i64 a0_3) ∧ w'.cell? ⟨gb214, 4, none⟩ = some (.int .i64 a0_4) ∧ w'.cell? ⟨gb214, 5, none⟩ = some (.int .i64 a0_5) ∧ w'.cell? ⟨gb214, 6, none⟩ = some (.int .i64 a0_6) ∧ w'.cell? ⟨gb214, 7, none⟩ = some (.int .i64 a0_7) ∧ w'.cell? ⟨gb214, 8, none⟩ = some (.int .i64 a0_8) ∧ w'.cell? ⟨gb214, 9, none⟩ = some (.int .i64 a0_9) ∧ w'.cell? ⟨gb214, 10, none⟩ = some (.int .i64 a0_10) ∧ w'.cell? ⟨gb214, 11, none⟩ = some (.int .i64 a0_11)) (ds := []) #[false, false, false, false, false, false, false, false, false, false, false] (by kernel_rfl) rfl rfl ⟨(blk_cell BK224.out 0).trans rfl, (blk_cell BK224.out 1).trans rfl, (blk_cell BK224.out 2).trans rfl, (blk_cell BK224.out 3).trans rfl, (blk_cell BK214.out 0).trans rfl, (blk_cell BK214.out 1).trans rfl, (blk_cell BK214.out 2).trans rfl, (blk_cell BK214.out 3).trans rfl, (blk_cell BK214.out 4).trans rfl, (blk_cell BK214.out 5).trans rfl, (blk_cell BK214.out 6).trans rfl, (blk_cell BK214.out 7).trans rfl, (blk_cell BK214.out 8).trans rfl, (blk_cell BK214.out 9).trans rfl, (blk_cell BK214.out 10).trans rfl, (blk_cell BK214.out 11).trans rfl⟩ (fun hHeld => ?_); refine with_tabW governorref16_Step.tab12 governorref16_Step.bits12 (fun HT_ HW_ => ?_)
                    generalize wr.drew = w84 at HO_225001 BK214 BK215 BK216 BK217 BK224 HB hHeld ⊢
                    refine pure_ (i := 3) (N := some 92) (v := ?_) (a' := ?_) #[false, false, false, true, false, false, false, false, false, false, false] rfl rfl (any_of HT_.out (by kernel_rfl)) (fun _ _ _ h => h) (Or.inl ⟨by rfl, ?_⟩) ?_ ?_
                    rotate_left
                    · intro w'
                      go_simp
                      with_reducible rfl
                    rotate_left
                    · simp only [Act.put, List.setIfInBounds_toArray, List.set_cons_zero, List.set_cons_succ, i64_w, i32_w]
                      rfl
                    refine pure_ (i := 5) (N := some 94) (v := ?_) (a' := ?_) #[false, false, false, true, false, true, false, false, false, false, false] rfl rfl (any_of HT_.out (by kernel_rfl)) (fun _ _ _ h => h) (Or.inl ⟨by rfl, ?_⟩) ?_ ?_
                    rotate_left
                    · intro w'
                      go_simp
                      with_reducible rfl
                    rotate_left
                    · simp only [Act.put, List.setIfInBounds_toArray, List.set_cons_zero, List.set_cons_succ, i64_w, i32_w]
                      rfl
                    refine take_ (i := 0) (N := some 89) (v := ?_) (a' := ?_) #[true, false, false, true, false, true, false, false, false, false, false] rfl rfl (take_ofW HT_.out HW_.out (by kernel_rfl)) (fun _ _ _ h => h) (Or.inl ⟨by rfl, ?_⟩) hHeld ?_ ?_
                    rotate_left
                    · rintro w' ⟨s0, s1, s2, s3, s4, s5, s6, s7, s8, s9, s10, s11, s12, s13, s14, s15⟩
                      go_simp
                      with_reducible rfl
                    rotate_left
                    · simp only [Act.put, List.setIfInBounds_toArray, List.set_cons_zero, List.set_cons_succ, i64_w, i32_w]
                      rfl
                    refine take_ (i := 1) (N := some 90) (v := ?_) (a' := ?_) #[true, true, false, true, false, true, false, false, false, false, false] rfl rfl (take_ofW HT_.out HW_.out (by kernel_rfl)) (fun _ _ _ h => h) (Or.inl ⟨by rfl, ?_⟩) hHeld ?_ ?_
                    rotate_left
                    · rintro w' ⟨s0, s1, s2, s3, s4, s5, s6, s7, s8, s9, s10, s11, s12, s13, s14, s15⟩
                      go_simp
                      with_reducible rfl
                    rotate_left
                    · simp only [Act.put, List.setIfInBounds_toArray, List.set_cons_zero, List.set_cons_succ, i64_w, i32_w]
                      rfl
                    refine take_ (i := 4) (N := some 93) (v := ?_) (a' := ?_) #[true, true, false, true, true, true, false, false, false, false, false] rfl rfl (take_ofW HT_.out HW_.out (by kernel_rfl)) (fun _ _ _ h => h) (Or.inl ⟨by rfl, ?_⟩) hHeld ?_ ?_
                    rotate_left
                    · rintro w' ⟨s0, s1, s2, s3, s4, s5, s6, s7, s8, s9, s10, s11, s12, s13, s14, s15⟩
                      go_simp
                      with_reducible rfl
                    rotate_left
                    · simp only [Act.put, List.setIfInBounds_toArray, List.set_cons_zero, List.set_cons_succ, i64_w, i32_w]
                      rfl
                    refine take_ (i := 6) (N := some 95) (v := ?_) (a' := ?_) #[true, true, false, true, true, true, true, false, false, false, false] rfl rfl (take_ofW HT_.out HW_.out (by kernel_rfl)) (fun _ _ _ h => h) (Or.inl ⟨by rfl, ?_⟩) hHeld ?_ ?_
                    rotate_left
                    · rintro w' ⟨s0, s1, s2, s3, s4, s5, s6, s7, s8, s9, s10, s11, s12, s13, s14, s15⟩
                      go_simp
                      with_reducible rfl
                    rotate_left
                    · simp only [Act.put, List.setIfInBounds_toArray, List.set_cons_zero, List.set_cons_succ, i64_w, i32_w]
                      rfl
                    refine pure_ (i := 7) (N := some 96) (v := ?_) (a' := ?_) #[true, true, false, true, true, true, true, true, false, false, false] rfl rfl (any_of HT_.out (by kernel_rfl)) (fun _ _ _ h => h) (Or.inl ⟨by rfl, ?_⟩) ?_ ?_
                    rotate_left
                    · intro w'
                      go_simp
                      with_reducible rfl
                    rotate_left
                    · simp only [Act.put, List.setIfInBounds_toArray, List.set_cons_zero, List.set_cons_succ, i64_w, i32_w]
                      rfl
                    refine one_ (i := 2) (N := some 91) #[true, true, true, true, true, true, true, true, false, false, false] rfl rfl (one_of HT_.out (by kernel_rfl)) (by decide) (fun K hK => ?_)
                    refine goes_ Try.func22 (by kernel_rfl) rfl #[.agg #[.int .i64 t229, .slice (some ad237) x225001_2.length co83, .int .i64 ji48, .int .i64 t236]] (by rfl) rfl rfl (by (try simp only [List.map_toArray, List.map_cons, List.map_nil]); first | done | (simp only [hji48]; rfl) | rfl | (simp only [List.length_drop, List.length_take]; rfl)) ?_
                    with_reducible refine (governorref16_All.calls k2 t229 _ _ x225001_2 ji48 t236 t241 _ ?side1 ?side2 A77.out).mono ?_
                    (case side1 => repeat (first | exact (Kd.Q_reads' HO_225001.out).2.2 | (with_reducible refine Kd.C_alloc ?_ _) | (with_reducible refine Kd.C_drewN ?_ _) | (with_reducible refine Kd.C_drew ?_)))
                    (case side2 => exact (Kd.Q_reads' HO_225001.out).2.1)
                    rintro e w85 ⟨rfl, hb⟩
                    refine ⟨_, rfl, ?_⟩
                    have n0_ := Aside0.mk (Kd.Q_below (by (with_reducible repeat (first | apply Kd.Q_alloc | apply Kd.Q_drewN | apply Kd.Q_drew)); exact HO_225001.out) hb)
                    have n1_ := Aside0.mk (blk_below (g := gb214) (o := .cells #[.int .i64 a0_0, .int .i64 a0_1, .int .i64 a0_2, .int .i64 a0_3, .int .i64 a0_4, .int .i64 a0_5, .int .i64 a0_6, .int .i64 a0_7, .int .i64 a0_8, .int .i64 a0_9, .int .i64 a0_10, .int .i64 a0_11] 23 (0, 0)) (by (with_reducible repeat (first | refine blk_drewN ?_ _ | refine blk_drew ?_ | refine blk_alloc ?_ _)); exact BK214.out) hb)
                    have n2_ := Aside0.mk (blk_below (g := gb215) (o := .cells #[.int .i64 a1_0, .slice A1_1 l1_1.length c1_1, .int .i64 a1_2, .int .i64 a1_3] 26 (0, 0)) (by (with_reducible repeat (first | refine blk_drewN ?_ _ | refine blk_drew ?_ | refine blk_alloc ?_ _)); exact BK215.out) hb)
                    have n3_ := Aside0.mk (blk_below (g := gb216) (o := .cells #[.int .i64 0, .slice none 0 0, .int .i64 0, .int .i64 0] 26 (0, 0)) (by (with_reducible repeat (first | refine blk_drewN ?_ _ | refine blk_drew ?_ | refine blk_alloc ?_ _)); exact BK216.out) hb)
                    have n4_ := Aside0.mk (blk_below (g := gb217) (o := .cells #[.int .i64 0, .bool false] 31 (0, 0)) (by (with_reducible repeat (first | refine blk_drewN ?_ _ | refine blk_drew ?_ | refine blk_alloc ?_ _)); exact BK217.out) hb)
                    have n5_ := Aside0.mk (blk_below (g := gb224) (o := .cells #[.int .i64 t229, .slice (some ad237) x225001_2.length co83, .int .i64 ji48, .int .i64 t236] 26 (0, 0)) (by (with_reducible repeat (first | refine blk_drewN ?_ _ | refine blk_drew ?_ | refine blk_alloc ?_ _)); exact BK224.out) hb)
                    have n6_ := Aside0.mk (below_step (by repeat (first | (with_reducible first | exact HB.out | apply below_alloc | apply pw_below_drewN | apply below_drew1 | refine below_set ?_ GE214.out | refine below_set ?_ GE215.out | refine below_set ?_ GE216.out | refine below_set ?_ GE217.out | refine below_set ?_ GE224.out) | exact HB.out)) hb)
                    clear HO_225001
                    clear BK214
                    clear BK215
                    clear BK216
                    clear BK217
                    clear BK224
                    clear HB
                    have HO_225001 := n0_
                    have BK214 := n1_
                    have BK215 := n2_
                    have BK216 := n3_
                    have BK217 := n4_
                    have BK224 := n5_
                    have HB := n6_
                    clear n0_ n1_ n2_ n3_ n4_ n5_ n6_
                    (try clear hb)
                    (try clear hb2)
                    (try clear hk)
                    (try clear hi)
                    refine hK.out _ _ ⟨(blk_cell BK224.out 0).trans rfl, (blk_cell BK224.out 1).trans rfl, (blk_cell BK224.out 2).trans rfl, (blk_cell BK224.out 3).trans rfl, (blk_cell BK214.out 0).trans rfl, (blk_cell BK214.out 1).trans rfl, (blk_cell BK214.out 2).trans rfl, (blk_cell BK214.out 3).trans rfl, (blk_cell BK214.out 4).trans rfl, (blk_cell BK214.out 5).trans rfl, (blk_cell BK214.out 6).trans rfl, (blk_cell BK214.out 7).trans rfl, (blk_cell BK214.out 8).trans rfl, (blk_cell BK214.out 9).trans rfl, (blk_cell BK214.out 10).trans rfl, (blk_cell BK214.out 11).trans rfl⟩ (fun hHeld => ?_)
                    clear hK K
                    refine norm_ (a' := ?_) ?_ ?_
                    rotate_left
                    · show Act.put _ (some 91) _ = _
                      simp only [Act.put, List.setIfInBounds_toArray, List.set_cons_zero, List.set_cons_succ, i64_w, i32_w]
                      rfl
                    refine pure_ (i := 8) (N := some 97) (v := ?_) (a' := ?_) #[true, true, true, true, true, true, true, true, true, false, false] rfl rfl (any_of HT_.out (by kernel_rfl)) (fun _ _ _ h => h) (Or.inl ⟨by rfl, ?_⟩) ?_ ?_
                    rotate_left
                    · intro w'
                      go_simp
                      with_reducible rfl
                    rotate_left
                    · simp only [Act.put, List.setIfInBounds_toArray, List.set_cons_zero, List.set_cons_succ, i64_w, i32_w]
                      rfl
                    refine one_ (i := 9) (N := none) #[true, true, true, true, true, true, true, true, true, true, false] rfl rfl (one_of HT_.out (by kernel_rfl)) (by decide) (fun K hK => ?_)
                    have hs86 : w85.cell? ⟨gb216, 0, none⟩ = some (.int .i64 0) := (blk_cell BK216.out 0).trans rfl
                    have hfs86 := blk_frozen BK216.out 0
                    have hns86_0 := NB214_216.out
                    have hns86_1 := NB215_216.out
                    have hns86_3 := NB217_216.out
                    have hns86_4 := NB224_216.out
                    have hms86_0 := NB216_214.out
                    have hms86_1 := NB216_215.out
                    have hms86_3 := NB216_217.out
                    have hms86_4 := NB216_224.out
                    have hs87 : w85.cell? ⟨gb216, 1, none⟩ = some (.slice none 0 0) := (blk_cell BK216.out 1).trans rfl
                    have hfs87 := blk_frozen BK216.out 1
                    have hns87_0 := NB214_216.out
                    have hns87_1 := NB215_216.out
                    have hns87_3 := NB217_216.out
                    have hns87_4 := NB224_216.out
                    have hms87_0 := NB216_214.out
                    have hms87_1 := NB216_215.out
                    have hms87_3 := NB216_217.out
                    have hms87_4 := NB216_224.out
                    have hs88 : w85.cell? ⟨gb216, 2, none⟩ = some (.int .i64 0) := (blk_cell BK216.out 2).trans rfl
                    have hfs88 := blk_frozen BK216.out 2
                    have hns88_0 := NB214_216.out
                    have hns88_1 := NB215_216.out
                    have hns88_3 := NB217_216.out
                    have hns88_4 := NB224_216.out
                    have hms88_0 := NB216_214.out
                    have hms88_1 := NB216_215.out
                    have hms88_3 := NB216_217.out
                    have hms88_4 := NB216_224.out
                    have hs89 : w85.cell? ⟨gb216, 3, none⟩ = some (.int .i64 0) := (blk_cell BK216.out 3).trans rfl
                    have hfs89 := blk_frozen BK216.out 3
                    have hns89_0 := NB214_216.out
                    have hns89_1 := NB215_216.out
                    have hns89_3 := NB217_216.out
                    have hns89_4 := NB224_216.out
                    have hms89_0 := NB216_214.out
                    have hms89_1 := NB216_215.out
                    have hms89_3 := NB216_217.out
                    have hms89_4 := NB216_224.out
                    refine skip_ (w1 := ?_) (by rfl) rfl ?_ ?_
                    rotate_left
                    · go_simp
                      rfl
                    refine hK.out _ _ ⟨((cell_far (p := ⟨gb216, _, none⟩) NB224_216.out _).trans (((cell_far (p := ⟨gb216, _, none⟩) NB224_216.out _).trans (((cell_far (p := ⟨gb216, _, none⟩) NB224_216.out _).trans (((cell_far (p := ⟨gb216, _, none⟩) NB224_216.out _).trans (hHeld.1)))))))), ((cell_far (p := ⟨gb216, _, none⟩) NB224_216.out _).trans (((cell_far (p := ⟨gb216, _, none⟩) NB224_216.out _).trans (((cell_far (p := ⟨gb216, _, none⟩) NB224_216.out _).trans (((cell_far (p := ⟨gb216, _, none⟩) NB224_216.out _).trans (hHeld.2.1)))))))), ((cell_far (p := ⟨gb216, _, none⟩) NB224_216.out _).trans (((cell_far (p := ⟨gb216, _, none⟩) NB224_216.out _).trans (((cell_far (p := ⟨gb216, _, none⟩) NB224_216.out _).trans (((cell_far (p := ⟨gb216, _, none⟩) NB224_216.out _).trans (hHeld.2.2.1)))))))), ((cell_far (p := ⟨gb216, _, none⟩) NB224_216.out _).trans (((cell_far (p := ⟨gb216, _, none⟩) NB224_216.out _).trans (((cell_far (p := ⟨gb216, _, none⟩) NB224_216.out _).trans (((cell_far (p := ⟨gb216, _, none⟩) NB224_216.out _).trans (hHeld.2.2.2.1)))))))), ((cell_far (p := ⟨gb216, _, none⟩) NB214_216.out _).trans (((cell_far (p := ⟨gb216, _, none⟩) NB214_216.out _).trans (((cell_far (p := ⟨gb216, _, none⟩) NB214_216.out _).trans (((cell_far (p := ⟨gb216, _, none⟩) NB214_216.out _).trans (hHeld.2.2.2.2.1)))))))), ((cell_far (p := ⟨gb216, _, none⟩) NB214_216.out _).trans (((cell_far (p := ⟨gb216, _, none⟩) NB214_216.out _).trans (((cell_far (p := ⟨gb216, _, none⟩) NB214_216.out _).trans (((cell_far (p := ⟨gb216, _, none⟩) NB214_216.out _).trans (hHeld.2.2.2.2.2.1)))))))), ((cell_far (p := ⟨gb216, _, none⟩) NB214_216.out _).trans (((cell_far (p := ⟨gb216, _, none⟩) NB214_216.out _).trans (((cell_far (p := ⟨gb216, _, none⟩) NB214_216.out _).trans (((cell_far (p := ⟨gb216, _, none⟩) NB214_216.out _).trans (hHeld.2.2.2.2.2.2.1)))))))), ((cell_far (p := ⟨gb216, _, none⟩) NB214_216.out _).trans (((cell_far (p := ⟨gb216, _, none⟩) NB214_216.out _).trans (((cell_far (p := ⟨gb216, _, none⟩) NB214_216.out _).trans (((cell_far (p := ⟨gb216, _, none⟩) NB214_216.out _).trans (hHeld.2.2.2.2.2.2.2.1)))))))), ((cell_far (p := ⟨gb216, _, none⟩) NB214_216.out _).trans (((cell_far (p := ⟨gb216, _, none⟩) NB214_216.out _).trans (((cell_far (p := ⟨gb216, _, none⟩) NB214_216.out _).trans (((cell_far (p := ⟨gb216, _, none⟩) NB214_216.out _).trans (hHeld.2.2.2.2.2.2.2.2.1)))))))), ((cell_far (p := ⟨gb216, _, none⟩) NB214_216.out _).trans (((cell_far (p := ⟨gb216, _, none⟩) NB214_216.out _).trans (((cell_far (p := ⟨gb216, _, none⟩) NB214_216.out _).trans (((cell_far (p := ⟨gb216, _, none⟩) NB214_216.out _).trans (hHeld.2.2.2.2.2.2.2.2.2.1)))))))), ((cell_far (p := ⟨gb216, _, none⟩) NB214_216.out _).trans (((cell_far (p := ⟨gb216, _, none⟩) NB214_216.out _).trans (((cell_far (p := ⟨gb216, _, none⟩) NB214_216.out _).trans (((cell_far (p := ⟨gb216, _, none⟩) NB214_216.out _).trans (hHeld.2.2.2.2.2.2.2.2.2.2.1)))))))), ((cell_far (p := ⟨gb216, _, none⟩) NB214_216.out _).trans (((cell_far (p := ⟨gb216, _, none⟩) NB214_216.out _).trans (((cell_far (p := ⟨gb216, _, none⟩) NB214_216.out _).trans (((cell_far (p := ⟨gb216, _, none⟩) NB214_216.out _).trans (hHeld.2.2.2.2.2.2.2.2.2.2.2.1)))))))), ((cell_far (p := ⟨gb216, _, none⟩) NB214_216.out _).trans (((cell_far (p := ⟨gb216, _, none⟩) NB214_216.out _).trans (((cell_far (p := ⟨gb216, _, none⟩) NB214_216.out _).trans (((cell_far (p := ⟨gb216, _, none⟩) NB214_216.out _).trans (hHeld.2.2.2.2.2.2.2.2.2.2.2.2.1)))))))), ((cell_far (p := ⟨gb216, _, none⟩) NB214_216.out _).trans (((cell_far (p := ⟨gb216, _, none⟩) NB214_216.out _).trans (((cell_far (p := ⟨gb216, _, none⟩) NB214_216.out _).trans (((cell_far (p := ⟨gb216, _, none⟩) NB214_216.out _).trans (hHeld.2.2.2.2.2.2.2.2.2.2.2.2.2.1)))))))), ((cell_far (p := ⟨gb216, _, none⟩) NB214_216.out _).trans (((cell_far (p := ⟨gb216, _, none⟩) NB214_216.out _).trans (((cell_far (p := ⟨gb216, _, none⟩) NB214_216.out _).trans (((cell_far (p := ⟨gb216, _, none⟩) NB214_216.out _).trans (hHeld.2.2.2.2.2.2.2.2.2.2.2.2.2.2.1)))))))), ((cell_far (p := ⟨gb216, _, none⟩) NB214_216.out _).trans (((cell_far (p := ⟨gb216, _, none⟩) NB214_216.out _).trans (((cell_far (p := ⟨gb216, _, none⟩) NB214_216.out _).trans (((cell_far (p := ⟨gb216, _, none⟩) NB214_216.out _).trans (hHeld.2.2.2.2.2.2.2.2.2.2.2.2.2.2.2))))))))⟩ (fun hHeld => ?_)
                    clear hK K
                    refine one_ (i := 10) (N := none) #[true, true, true, true, true, true, true, true, true, true, true] rfl rfl (one_of HT_.out (by kernel_rfl)) (by decide) (fun K hK => ?_)
                    have hs90 : w85.cell? ⟨gb217, 0, none⟩ = some (.int .i64 0) := (blk_cell BK217.out 0).trans rfl
                    have hfs90 := blk_frozen BK217.out 0
                    have hns90_0 := NB214_217.out
                    have hns90_1 := NB215_217.out
                    have hns90_2 := NB216_217.out
                    have hns90_4 := NB224_217.out
                    have hms90_0 := NB217_214.out
                    have hms90_1 := NB217_215.out
                    have hms90_2 := NB217_216.out
                    have hms90_4 := NB217_224.out
                    have hs91 : w85.cell? ⟨gb217, 1, none⟩ = some (.bool false) := (blk_cell BK217.out 1).trans rfl
                    have hfs91 := blk_frozen BK217.out 1
                    have hns91_0 := NB214_217.out
                    have hns91_1 := NB215_217.out
                    have hns91_2 := NB216_217.out
                    have hns91_4 := NB224_217.out
                    have hms91_0 := NB217_214.out
                    have hms91_1 := NB217_215.out
                    have hms91_2 := NB217_216.out
                    have hms91_4 := NB217_224.out
                    refine skip_ (w1 := ?_) (by rfl) rfl ?_ ?_
                    rotate_left
                    · go_simp
                      rfl
                    refine hK.out _ _ ⟨((cell_far (p := ⟨gb217, _, none⟩) NB224_217.out _).trans (((cell_far (p := ⟨gb217, _, none⟩) NB224_217.out _).trans (hHeld.1)))), ((cell_far (p := ⟨gb217, _, none⟩) NB224_217.out _).trans (((cell_far (p := ⟨gb217, _, none⟩) NB224_217.out _).trans (hHeld.2.1)))), ((cell_far (p := ⟨gb217, _, none⟩) NB224_217.out _).trans (((cell_far (p := ⟨gb217, _, none⟩) NB224_217.out _).trans (hHeld.2.2.1)))), ((cell_far (p := ⟨gb217, _, none⟩) NB224_217.out _).trans (((cell_far (p := ⟨gb217, _, none⟩) NB224_217.out _).trans (hHeld.2.2.2.1)))), ((cell_far (p := ⟨gb217, _, none⟩) NB214_217.out _).trans (((cell_far (p := ⟨gb217, _, none⟩) NB214_217.out _).trans (hHeld.2.2.2.2.1)))), ((cell_far (p := ⟨gb217, _, none⟩) NB214_217.out _).trans (((cell_far (p := ⟨gb217, _, none⟩) NB214_217.out _).trans (hHeld.2.2.2.2.2.1)))), ((cell_far (p := ⟨gb217, _, none⟩) NB214_217.out _).trans (((cell_far (p := ⟨gb217, _, none⟩) NB214_217.out _).trans (hHeld.2.2.2.2.2.2.1)))), ((cell_far (p := ⟨gb217, _, none⟩) NB214_217.out _).trans (((cell_far (p := ⟨gb217, _, none⟩) NB214_217.out _).trans (hHeld.2.2.2.2.2.2.2.1)))), ((cell_far (p := ⟨gb217, _, none⟩) NB214_217.out _).trans (((cell_far (p := ⟨gb217, _, none⟩) NB214_217.out _).trans (hHeld.2.2.2.2.2.2.2.2.1)))), ((cell_far (p := ⟨gb217, _, none⟩) NB214_217.out _).trans (((cell_far (p := ⟨gb217, _, none⟩) NB214_217.out _).trans (hHeld.2.2.2.2.2.2.2.2.2.1)))), ((cell_far (p := ⟨gb217, _, none⟩) NB214_217.out _).trans (((cell_far (p := ⟨gb217, _, none⟩) NB214_217.out _).trans (hHeld.2.2.2.2.2.2.2.2.2.2.1)))), ((cell_far (p := ⟨gb217, _, none⟩) NB214_217.out _).trans (((cell_far (p := ⟨gb217, _, none⟩) NB214_217.out _).trans (hHeld.2.2.2.2.2.2.2.2.2.2.2.1)))), ((cell_far (p := ⟨gb217, _, none⟩) NB214_217.out _).trans (((cell_far (p := ⟨gb217, _, none⟩) NB214_217.out _).trans (hHeld.2.2.2.2.2.2.2.2.2.2.2.2.1)))), ((cell_far (p := ⟨gb217, _, none⟩) NB214_217.out _).trans (((cell_far (p := ⟨gb217, _, none⟩) NB214_217.out _).trans (hHeld.2.2.2.2.2.2.2.2.2.2.2.2.2.1)))), ((cell_far (p := ⟨gb217, _, none⟩) NB214_217.out _).trans (((cell_far (p := ⟨gb217, _, none⟩) NB214_217.out _).trans (hHeld.2.2.2.2.2.2.2.2.2.2.2.2.2.2.1)))), ((cell_far (p := ⟨gb217, _, none⟩) NB214_217.out _).trans (((cell_far (p := ⟨gb217, _, none⟩) NB214_217.out _).trans (hHeld.2.2.2.2.2.2.2.2.2.2.2.2.2.2.2))))⟩ (fun hHeld => ?_)
                    clear hK K
                    refine done_ (done_of HT_.out (by kernel_rfl)) ?_
                    try go_wp2
                    refine bodyPost_ret (results_cc rfl _ _ gb216 gb217 26 31 #[.int .i64 t229, .slice (some ad237) x225001_2.length co83, .int .i64 ji48, .int .i64 t236] #[.int .i64 t241, .bool (decide (ji48 > a0_6))] (0, 0) (0, 0) _ _ rfl (by (with_reducible repeat (first | refine blk_drewN ?_ _ | refine blk_drew ?_ | refine blk_alloc ?_ _)); refine blk_far ?_ NB216_217.out _; (with_reducible repeat (first | refine blk_drewN ?_ _ | refine blk_drew ?_ | refine blk_alloc ?_ _)); refine blk_far ?_ NB216_217.out _; (with_reducible repeat (first | refine blk_drewN ?_ _ | refine blk_drew ?_ | refine blk_alloc ?_ _)); refine blk_put (cs := #[.int .i64 t229, .slice (some ad237) x225001_2.length co83, .int .i64 ji48, .int .i64 0]) ?_ 3 _ rfl; (with_reducible repeat (first | refine blk_drewN ?_ _ | refine blk_drew ?_ | refine blk_alloc ?_ _)); refine blk_put (cs := #[.int .i64 t229, .slice (some ad237) x225001_2.length co83, .int .i64 0, .int .i64 0]) ?_ 2 _ rfl; (with_reducible repeat (first | refine blk_drewN ?_ _ | refine blk_drew ?_ | refine blk_alloc ?_ _)); refine blk_put (cs := #[.int .i64 t229, .slice none 0 0, .int .i64 0, .int .i64 0]) ?_ 1 _ rfl; (with_reducible repeat (first | refine blk_drewN ?_ _ | refine blk_drew ?_ | refine blk_alloc ?_ _)); refine blk_put (cs := #[.int .i64 0, .slice none 0 0, .int .i64 0, .int .i64 0]) ?_ 0 _ rfl; (with_reducible repeat (first | refine blk_drewN ?_ _ | refine blk_drew ?_ | refine blk_alloc ?_ _)); exact BK216.out) Try.underlying26 rfl (by kernel_rfl) rfl (by (with_reducible repeat (first | refine blk_drewN ?_ _ | refine blk_drew ?_ | refine blk_alloc ?_ _)); refine blk_put (cs := #[.int .i64 t241, .bool false]) ?_ 1 _ rfl; (with_reducible repeat (first | refine blk_drewN ?_ _ | refine blk_drew ?_ | refine blk_alloc ?_ _)); refine blk_put (cs := #[.int .i64 0, .bool false]) ?_ 0 _ rfl; (with_reducible repeat (first | refine blk_drewN ?_ _ | refine blk_drew ?_ | refine blk_alloc ?_ _)); refine blk_far ?_ NB217_216.out _; (with_reducible repeat (first | refine blk_drewN ?_ _ | refine blk_drew ?_ | refine blk_alloc ?_ _)); refine blk_far ?_ NB217_216.out _; (with_reducible repeat (first | refine blk_drewN ?_ _ | refine blk_drew ?_ | refine blk_alloc ?_ _)); refine blk_far ?_ NB217_216.out _; (with_reducible repeat (first | refine blk_drewN ?_ _ | refine blk_drew ?_ | refine blk_alloc ?_ _)); refine blk_far ?_ NB217_216.out _; (with_reducible repeat (first | refine blk_drewN ?_ _ | refine blk_drew ?_ | refine blk_alloc ?_ _)); exact BK217.out) Try.underlying31 rfl (by kernel_rfl)) rfl ?_
                    exact ⟨_, by first | rfl | (simp [errW_none, errW_some] <;> rfl) | (simp only [← hji41, ← hji42, ← hji44, ← hji45, ← hji47, ← hji48, ← hji65]; first | rfl | (simp [errW_none, errW_some] <;> rfl)) | (simp [*, errW_none, errW_some] <;> rfl) | (have e_ : ji48 = ji65 := (by omega); subst e_; rfl) | (have e_ : ji47 = ji65 := (by omega); subst e_; rfl) | (have e_ : ji45 = ji65 := (by omega); subst e_; rfl) | (have e_ : ji44 = ji65 := (by omega); subst e_; rfl) | (have e_ : ji42 = ji65 := (by omega); subst e_; rfl) | (have e_ : ji41 = ji65 := (by omega); subst e_; rfl), by (with_reducible repeat (first | apply Kd.Q_alloc | apply Kd.Q_drewN | apply Kd.Q_drew)); exact Kd.Q_mono (Kd.Q_far (p := ⟨gb217, 1, none⟩) (Kd.Q_far (p := ⟨gb217, 0, none⟩) (Kd.Q_far (p := ⟨gb216, 3, none⟩) (Kd.Q_far (p := ⟨gb216, 2, none⟩) (Kd.Q_far (p := ⟨gb216, 1, none⟩) (Kd.Q_far (p := ⟨gb216, 0, none⟩) (Kd.Q_types (Kd.Q_types HO_225001.out BK216.out (by decide)) BK217.out (by decide)) (fun _ hk => hk.1.2) (.int .i64 t229)) (fun _ hk => hk.1.2) (.slice (some ad237) x225001_2.length co83)) (fun _ hk => hk.1.2) (.int .i64 ji48)) (fun _ hk => hk.1.2) (.int .i64 t236)) (fun _ hk => hk.2) (.int .i64 t241)) (fun _ hk => hk.2) (.bool (decide (ji48 > a0_6)))) (fun _ hk => trivial), by repeat (first | (with_reducible first | exact HB.out | apply below_alloc | apply pw_below_drewN | apply below_drew1 | refine below_set ?_ GE214.out | refine below_set ?_ GE215.out | refine below_set ?_ GE216.out | refine below_set ?_ GE217.out | refine below_set ?_ GE224.out) | exact HB.out)⟩
                · rw [if_neg c67] at H
                  exact absurd H (by simp)
              · rw [if_neg c66] at H
                exact absurd H (by simp)
            · rw [if_neg c64] at H
              have c64b0 : decide (0 < (x225001_2.length : Int)) = false := decide_eq_false c64
              have c64b1 : decide (0 < x225001_2.length) = false := decide_eq_false (by omega)
              clear c64
              replace H := Option.bind_eq_some_iff.mp H
              obtain ⟨t242, A920, H⟩ := H
              replace H : (some (t229, x225001_2, ji48, t236, t242, decide (ji48 > a0_6))) = some (r1, r2, r3, r4, r5, r6) := H
              have A92 := Aside0.mk A920
              clear A920
              simp only [Option.some.injEq, Prod.mk.injEq] at H
              obtain ⟨rfl, rfl, rfl, rfl, rfl, rfl⟩ := H
              have hnb93 := NB224_214.out
              have hnc93 := NB214_224.out
              have hnb94 := NB224_215.out
              have hnc94 := NB215_224.out
              have hnb95 := NB224_216.out
              have hnc95 := NB216_224.out
              have hnb96 := NB224_217.out
              have hnc96 := NB217_224.out
              have hcz97_0 : wr.cell? ⟨gb224, 0, none⟩ = some (.int .i64 t229) := (blk_cell BK224.out 0).trans rfl
              have hcz97_1 : wr.cell? ⟨gb224, 1, none⟩ = some (u225001) := (blk_cell BK224.out 1).trans rfl
              have hcz97_2 : wr.cell? ⟨gb224, 2, none⟩ = some (.int .i64 ji48) := (blk_cell BK224.out 2).trans rfl
              have hcz97_3 : wr.cell? ⟨gb224, 3, none⟩ = some (.int .i64 t236) := (blk_cell BK224.out 3).trans rfl
              have hfz97_0 := blk_frozen BK224.out 0
              have hfz97_1 := blk_frozen BK224.out 1
              have hfz97_2 := blk_frozen BK224.out 2
              have hfz97_3 := blk_frozen BK224.out 3
              obtain ⟨Ao98, co98, eo98, _⟩ := Kd.Q_slice HO_225001.out
              subst eo98
              try go_wp2
              have n0_ := Aside0.mk (Kd.Q_drew HO_225001.out)
              have n1_ := Aside0.mk (blk_drew BK214.out)
              have n2_ := Aside0.mk (blk_drew BK215.out)
              have n3_ := Aside0.mk (blk_drew BK216.out)
              have n4_ := Aside0.mk (blk_drew BK217.out)
              have n5_ := Aside0.mk (blk_drew BK224.out)
              have n6_ := Aside0.mk (below_drew1 HB.out)
              clear HO_225001
              clear BK214
              clear BK215
              clear BK216
              clear BK217
              clear BK224
              clear HB
              have HO_225001 := n0_
              have BK214 := n1_
              have BK215 := n2_
              have BK216 := n3_
              have BK217 := n4_
              have BK224 := n5_
              have HB := n6_
              clear n0_ n1_ n2_ n3_ n4_ n5_ n6_
              refine start_ (n := 11) (S := fun w' => w'.cell? ⟨gb224, 0, none⟩ = some (.int .i64 t229) ∧ w'.cell? ⟨gb224, 1, none⟩ = some (.slice Ao98 x225001_2.length co98) ∧ w'.cell? ⟨gb224, 2, none⟩ = some (.int .i64 ji48) ∧ w'.cell? ⟨gb224, 3, none⟩ = some (.int .i64 t236) ∧ w'.cell? ⟨gb214, 0, none⟩ = some (.int .i64 a0_0) ∧ w'.cell? ⟨gb214, 1, none⟩ = some (.int .i64 a0_1) ∧ w'.cell? ⟨gb214, 2, none⟩ = some (.int .i64 a0_2) ∧ w'.cell? ⟨gb214, 3, none⟩ = some (.int .i64 a0_3) ∧ w'.cell? ⟨gb214, 4, none⟩ = some (.int .i64 a0_4) ∧ w'.cell? ⟨gb214, 5, none⟩ = some (.int .i64 a0_5) ∧ w'.cell? ⟨gb214, 6, none⟩ = some (.int .i64 a0_6) ∧ w'.cell? ⟨gb214, 7, none⟩ = some (.int .i64 a0_7) ∧ w'.cell? ⟨gb214, 8, none⟩ = some (.int .i64 a0_8) ∧ w'.cell? ⟨gb214, 9, none⟩ = some (.int .i64 a0_9) ∧ w'.cell? ⟨gb214, 10, none⟩ = some (.int .i64 a0_10) ∧ w'.cell? ⟨gb214, 11, none⟩ = some (.int .i64 a0_11)) (ds := []) #[false, false, false, false, false, false, false, false, false, false, false] (by kernel_rfl) rfl rfl ⟨(blk_cell BK224.out 0).trans rfl, (blk_cell BK224.out 1).trans rfl, (blk_cell BK224.out 2).trans rfl, (blk_cell BK224.out 3).trans rfl, (blk_cell BK214.out 0).trans rfl, (blk_cell BK214.out 1).trans rfl, (blk_cell BK214.out 2).trans rfl, (blk_cell BK214.out 3).trans rfl, (blk_cell BK214.out 4).trans rfl, (blk_cell BK214.out 5).trans rfl, (blk_cell BK214.out 6).trans rfl, (blk_cell BK214.out 7).trans rfl, (blk_cell BK214.out 8).trans rfl, (blk_cell BK214.out 9).trans rfl, (blk_cell BK214.out 10).trans rfl, (blk_cell BK214.out 11).trans rfl⟩ (fun hHeld => ?_); refine with_tabW governorref16_Step.tab12 governorref16_Step.bits12 (fun HT_ HW_ => ?_)
              generalize wr.drew = w99 at HO_225001 BK214 BK215 BK216 BK217 BK224 HB hHeld ⊢
              refine pure_ (i := 3) (N := some 92) (v := ?_) (a' := ?_) #[false, false, false, true, false, false, false, false, false, false, false] rfl rfl (any_of HT_.out (by kernel_rfl)) (fun _ _ _ h => h) (Or.inl ⟨by rfl, ?_⟩) ?_ ?_
              rotate_left
              · intro w'
                go_simp
                with_reducible rfl
              rotate_left
              · simp only [Act.put, List.setIfInBounds_toArray, List.set_cons_zero, List.set_cons_succ, i64_w, i32_w]
                rfl
              refine pure_ (i := 5) (N := some 94) (v := ?_) (a' := ?_) #[false, false, false, true, false, true, false, false, false, false, false] rfl rfl (any_of HT_.out (by kernel_rfl)) (fun _ _ _ h => h) (Or.inl ⟨by rfl, ?_⟩) ?_ ?_
              rotate_left
              · intro w'
                go_simp
                with_reducible rfl
              rotate_left
              · simp only [Act.put, List.setIfInBounds_toArray, List.set_cons_zero, List.set_cons_succ, i64_w, i32_w]
                rfl
              refine take_ (i := 0) (N := some 89) (v := ?_) (a' := ?_) #[true, false, false, true, false, true, false, false, false, false, false] rfl rfl (take_ofW HT_.out HW_.out (by kernel_rfl)) (fun _ _ _ h => h) (Or.inl ⟨by rfl, ?_⟩) hHeld ?_ ?_
              rotate_left
              · rintro w' ⟨s0, s1, s2, s3, s4, s5, s6, s7, s8, s9, s10, s11, s12, s13, s14, s15⟩
                go_simp
                with_reducible rfl
              rotate_left
              · simp only [Act.put, List.setIfInBounds_toArray, List.set_cons_zero, List.set_cons_succ, i64_w, i32_w]
                rfl
              refine take_ (i := 1) (N := some 90) (v := ?_) (a' := ?_) #[true, true, false, true, false, true, false, false, false, false, false] rfl rfl (take_ofW HT_.out HW_.out (by kernel_rfl)) (fun _ _ _ h => h) (Or.inl ⟨by rfl, ?_⟩) hHeld ?_ ?_
              rotate_left
              · rintro w' ⟨s0, s1, s2, s3, s4, s5, s6, s7, s8, s9, s10, s11, s12, s13, s14, s15⟩
                go_simp
                with_reducible rfl
              rotate_left
              · simp only [Act.put, List.setIfInBounds_toArray, List.set_cons_zero, List.set_cons_succ, i64_w, i32_w]
                rfl
              refine take_ (i := 4) (N := some 93) (v := ?_) (a' := ?_) #[true, true, false, true, true, true, false, false, false, false, false] rfl rfl (take_ofW HT_.out HW_.out (by kernel_rfl)) (fun _ _ _ h => h) (Or.inl ⟨by rfl, ?_⟩) hHeld ?_ ?_
              rotate_left
              · rintro w' ⟨s0, s1, s2, s3, s4, s5, s6, s7, s8, s9, s10, s11, s12, s13, s14, s15⟩
                go_simp
                with_reducible rfl
              rotate_left
              · simp only [Act.put, List.setIfInBounds_toArray, List.set_cons_zero, List.set_cons_succ, i64_w, i32_w]
                rfl
              refine take_ (i := 6) (N := some 95) (v := ?_) (a' := ?_) #[true, true, false, true, true, true, true, false, false, false, false] rfl rfl (take_ofW HT_.out HW_.out (by kernel_rfl)) (fun _ _ _ h => h) (Or.inl ⟨by rfl, ?_⟩) hHeld ?_ ?_
              rotate_left
              · rintro w' ⟨s0, s1, s2, s3, s4, s5, s6, s7, s8, s9, s10, s11, s12, s13, s14, s15⟩
                go_simp
                with_reducible rfl
              rotate_left
              · simp only [Act.put, List.setIfInBounds_toArray, List.set_cons_zero, List.set_cons_succ, i64_w, i32_w]
                rfl
              refine pure_ (i := 7) (N := some 96) (v := ?_) (a' := ?_) #[true, true, false, true, true, true, true, true, false, false, false] rfl rfl (any_of HT_.out (by kernel_rfl)) (fun _ _ _ h => h) (Or.inl ⟨by rfl, ?_⟩) ?_ ?_
              rotate_left
              · intro w'
                go_simp
                with_reducible rfl
              rotate_left
              · simp only [Act.put, List.setIfInBounds_toArray, List.set_cons_zero, List.set_cons_succ, i64_w, i32_w]
                rfl
              refine one_ (i := 2) (N := some 91) #[true, true, true, true, true, true, true, true, false, false, false] rfl rfl (one_of HT_.out (by kernel_rfl)) (by decide) (fun K hK => ?_)
              refine goes_ Try.func22 (by kernel_rfl) rfl #[.agg #[.int .i64 t229, .slice Ao98 x225001_2.length co98, .int .i64 ji48, .int .i64 t236]] (by rfl) rfl rfl (by (try simp only [List.map_toArray, List.map_cons, List.map_nil]); first | done | (simp only [hji48]; rfl) | rfl | (simp only [List.length_drop, List.length_take]; rfl)) ?_
              with_reducible refine (governorref16_All.calls k2 t229 _ _ x225001_2 ji48 t236 t242 _ ?side1 ?side2 A92.out).mono ?_
              (case side1 => repeat (first | exact (Kd.Q_reads' HO_225001.out).2.2 | (with_reducible refine Kd.C_alloc ?_ _) | (with_reducible refine Kd.C_drewN ?_ _) | (with_reducible refine Kd.C_drew ?_)))
              (case side2 => exact (Kd.Q_reads' HO_225001.out).2.1)
              rintro e w100 ⟨rfl, hb⟩
              refine ⟨_, rfl, ?_⟩
              have n0_ := Aside0.mk (Kd.Q_below (by (with_reducible repeat (first | apply Kd.Q_alloc | apply Kd.Q_drewN | apply Kd.Q_drew)); exact HO_225001.out) hb)
              have n1_ := Aside0.mk (blk_below (g := gb214) (o := .cells #[.int .i64 a0_0, .int .i64 a0_1, .int .i64 a0_2, .int .i64 a0_3, .int .i64 a0_4, .int .i64 a0_5, .int .i64 a0_6, .int .i64 a0_7, .int .i64 a0_8, .int .i64 a0_9, .int .i64 a0_10, .int .i64 a0_11] 23 (0, 0)) (by (with_reducible repeat (first | refine blk_drewN ?_ _ | refine blk_drew ?_ | refine blk_alloc ?_ _)); exact BK214.out) hb)
              have n2_ := Aside0.mk (blk_below (g := gb215) (o := .cells #[.int .i64 a1_0, .slice A1_1 l1_1.length c1_1, .int .i64 a1_2, .int .i64 a1_3] 26 (0, 0)) (by (with_reducible repeat (first | refine blk_drewN ?_ _ | refine blk_drew ?_ | refine blk_alloc ?_ _)); exact BK215.out) hb)
              have n3_ := Aside0.mk (blk_below (g := gb216) (o := .cells #[.int .i64 0, .slice none 0 0, .int .i64 0, .int .i64 0] 26 (0, 0)) (by (with_reducible repeat (first | refine blk_drewN ?_ _ | refine blk_drew ?_ | refine blk_alloc ?_ _)); exact BK216.out) hb)
              have n4_ := Aside0.mk (blk_below (g := gb217) (o := .cells #[.int .i64 0, .bool false] 31 (0, 0)) (by (with_reducible repeat (first | refine blk_drewN ?_ _ | refine blk_drew ?_ | refine blk_alloc ?_ _)); exact BK217.out) hb)
              have n5_ := Aside0.mk (blk_below (g := gb224) (o := .cells #[.int .i64 t229, .slice Ao98 x225001_2.length co98, .int .i64 ji48, .int .i64 t236] 26 (0, 0)) (by (with_reducible repeat (first | refine blk_drewN ?_ _ | refine blk_drew ?_ | refine blk_alloc ?_ _)); exact BK224.out) hb)
              have n6_ := Aside0.mk (below_step (by repeat (first | (with_reducible first | exact HB.out | apply below_alloc | apply pw_below_drewN | apply below_drew1 | refine below_set ?_ GE214.out | refine below_set ?_ GE215.out | refine below_set ?_ GE216.out | refine below_set ?_ GE217.out | refine below_set ?_ GE224.out) | exact HB.out)) hb)
              clear HO_225001
              clear BK214
              clear BK215
              clear BK216
              clear BK217
              clear BK224
              clear HB
              have HO_225001 := n0_
              have BK214 := n1_
              have BK215 := n2_
              have BK216 := n3_
              have BK217 := n4_
              have BK224 := n5_
              have HB := n6_
              clear n0_ n1_ n2_ n3_ n4_ n5_ n6_
              (try clear hb)
              (try clear hb2)
              (try clear hk)
              (try clear hi)
              refine hK.out _ _ ⟨(blk_cell BK224.out 0).trans rfl, (blk_cell BK224.out 1).trans rfl, (blk_cell BK224.out 2).trans rfl, (blk_cell BK224.out 3).trans rfl, (blk_cell BK214.out 0).trans rfl, (blk_cell BK214.out 1).trans rfl, (blk_cell BK214.out 2).trans rfl, (blk_cell BK214.out 3).trans rfl, (blk_cell BK214.out 4).trans rfl, (blk_cell BK214.out 5).trans rfl, (blk_cell BK214.out 6).trans rfl, (blk_cell BK214.out 7).trans rfl, (blk_cell BK214.out 8).trans rfl, (blk_cell BK214.out 9).trans rfl, (blk_cell BK214.out 10).trans rfl, (blk_cell BK214.out 11).trans rfl⟩ (fun hHeld => ?_)
              clear hK K
              refine norm_ (a' := ?_) ?_ ?_
              rotate_left
              · show Act.put _ (some 91) _ = _
                simp only [Act.put, List.setIfInBounds_toArray, List.set_cons_zero, List.set_cons_succ, i64_w, i32_w]
                rfl
              refine pure_ (i := 8) (N := some 97) (v := ?_) (a' := ?_) #[true, true, true, true, true, true, true, true, true, false, false] rfl rfl (any_of HT_.out (by kernel_rfl)) (fun _ _ _ h => h) (Or.inl ⟨by rfl, ?_⟩) ?_ ?_
              rotate_left
              · intro w'
                go_simp
                with_reducible rfl
              rotate_left
              · simp only [Act.put, List.setIfInBounds_toArray, List.set_cons_zero, List.set_cons_succ, i64_w, i32_w]
                rfl
              refine one_ (i := 9) (N := none) #[true, true, true, true, true, true, true, true, true, true, false] rfl rfl (one_of HT_.out (by kernel_rfl)) (by decide) (fun K hK => ?_)
              have hs101 : w100.cell? ⟨gb216, 0, none⟩ = some (.int .i64 0) := (blk_cell BK216.out 0).trans rfl
              have hfs101 := blk_frozen BK216.out 0
              have hns101_0 := NB214_216.out
              have hns101_1 := NB215_216.out
              have hns101_3 := NB217_216.out
              have hns101_4 := NB224_216.out
              have hms101_0 := NB216_214.out
              have hms101_1 := NB216_215.out
              have hms101_3 := NB216_217.out
              have hms101_4 := NB216_224.out
              have hs102 : w100.cell? ⟨gb216, 1, none⟩ = some (.slice none 0 0) := (blk_cell BK216.out 1).trans rfl
              have hfs102 := blk_frozen BK216.out 1
              have hns102_0 := NB214_216.out
              have hns102_1 := NB215_216.out
              have hns102_3 := NB217_216.out
              have hns102_4 := NB224_216.out
              have hms102_0 := NB216_214.out
              have hms102_1 := NB216_215.out
              have hms102_3 := NB216_217.out
              have hms102_4 := NB216_224.out
              have hs103 : w100.cell? ⟨gb216, 2, none⟩ = some (.int .i64 0) := (blk_cell BK216.out 2).trans rfl
              have hfs103 := blk_frozen BK216.out 2
              have hns103_0 := NB214_216.out
              have hns103_1 := NB215_216.out
              have hns103_3 := NB217_216.out
              have hns103_4 := NB224_216.out
              have hms103_0 := NB216_214.out
              have hms103_1 := NB216_215.out
              have hms103_3 := NB216_217.out
              have hms103_4 := NB216_224.out
              have hs104 : w100.cell? ⟨gb216, 3, none⟩ = some (.int .i64 0) := (blk_cell BK216.out 3).trans rfl
              have hfs104 := blk_frozen BK216.out 3
              have hns104_0 := NB214_216.out
              have hns104_1 := NB215_216.out
              have hns104_3 := NB217_216.out
              have hns104_4 := NB224_216.out
              have hms104_0 := NB216_214.out
              have hms104_1 := NB216_215.out
              have hms104_3 := NB216_217.out
              have hms104_4 := NB216_224.out
              refine skip_ (w1 := ?_) (by rfl) rfl ?_ ?_
              rotate_left
              · go_simp
                rfl
              refine hK.out _ _ ⟨((cell_far (p := ⟨gb216, _, none⟩) NB224_216.out _).trans (((cell_far (p := ⟨gb216, _, none⟩) NB224_216.out _).trans (((cell_far (p := ⟨gb216, _, none⟩) NB224_216.out _).trans (((cell_far (p := ⟨gb216, _, none⟩) NB224_216.out _).trans (hHeld.1)))))))), ((cell_far (p := ⟨gb216, _, none⟩) NB224_216.out _).trans (((cell_far (p := ⟨gb216, _, none⟩) NB224_216.out _).trans (((cell_far (p := ⟨gb216, _, none⟩) NB224_216.out _).trans (((cell_far (p := ⟨gb216, _, none⟩) NB224_216.out _).trans (hHeld.2.1)))))))), ((cell_far (p := ⟨gb216, _, none⟩) NB224_216.out _).trans (((cell_far (p := ⟨gb216, _, none⟩) NB224_216.out _).trans (((cell_far (p := ⟨gb216, _, none⟩) NB224_216.out _).trans (((cell_far (p := ⟨gb216, _, none⟩) NB224_216.out _).trans (hHeld.2.2.1)))))))), ((cell_far (p := ⟨gb216, _, none⟩) NB224_216.out _).trans (((cell_far (p := ⟨gb216, _, none⟩) NB224_216.out _).trans (((cell_far (p := ⟨gb216, _, none⟩) NB224_216.out _).trans (((cell_far (p := ⟨gb216, _, none⟩) NB224_216.out _).trans (hHeld.2.2.2.1)))))))), ((cell_far (p := ⟨gb216, _, none⟩) NB214_216.out _).trans (((cell_far (p := ⟨gb216, _, none⟩) NB214_216.out _).trans (((cell_far (p := ⟨gb216, _, none⟩) NB214_216.out _).trans (((cell_far (p := ⟨gb216, _, none⟩) NB214_216.out _).trans (hHeld.2.2.2.2.1)))))))), ((cell_far (p := ⟨gb216, _, none⟩) NB214_216.out _).trans (((cell_far (p := ⟨gb216, _, none⟩) NB214_216.out _).trans (((cell_far (p := ⟨gb216, _, none⟩) NB214_216.out _).trans (((cell_far (p := ⟨gb216, _, none⟩) NB214_216.out _).trans (hHeld.2.2.2.2.2.1)))))))), ((cell_far (p := ⟨gb216, _, none⟩) NB214_216.out _).trans (((cell_far (p := ⟨gb216, _, none⟩) NB214_216.out _).trans (((cell_far (p := ⟨gb216, _, none⟩) NB214_216.out _).trans (((cell_far (p := ⟨gb216, _, none⟩) NB214_216.out _).trans (hHeld.2.2.2.2.2.2.1)))))))), ((cell_far (p := ⟨gb216, _, none⟩) NB214_216.out _).trans (((cell_far (p := ⟨gb216, _, none⟩) NB214_216.out _).trans (((cell_far (p := ⟨gb216, _, none⟩) NB214_216.out _).trans (((cell_far (p := ⟨gb216, _, none⟩) NB214_216.out _).trans (hHeld.2.2.2.2.2.2.2.1)))))))), ((cell_far (p := ⟨gb216, _, none⟩) NB214_216.out _).trans (((cell_far (p := ⟨gb216, _, none⟩) NB214_216.out _).trans (((cell_far (p := ⟨gb216, _, none⟩) NB214_216.out _).trans (((cell_far (p := ⟨gb216, _, none⟩) NB214_216.out _).trans (hHeld.2.2.2.2.2.2.2.2.1)))))))), ((cell_far (p := ⟨gb216, _, none⟩) NB214_216.out _).trans (((cell_far (p := ⟨gb216, _, none⟩) NB214_216.out _).trans (((cell_far (p := ⟨gb216, _, none⟩) NB214_216.out _).trans (((cell_far (p := ⟨gb216, _, none⟩) NB214_216.out _).trans (hHeld.2.2.2.2.2.2.2.2.2.1)))))))), ((cell_far (p := ⟨gb216, _, none⟩) NB214_216.out _).trans (((cell_far (p := ⟨gb216, _, none⟩) NB214_216.out _).trans (((cell_far (p := ⟨gb216, _, none⟩) NB214_216.out _).trans (((cell_far (p := ⟨gb216, _, none⟩) NB214_216.out _).trans (hHeld.2.2.2.2.2.2.2.2.2.2.1)))))))), ((cell_far (p := ⟨gb216, _, none⟩) NB214_216.out _).trans (((cell_far (p := ⟨gb216, _, none⟩) NB214_216.out _).trans (((cell_far (p := ⟨gb216, _, none⟩) NB214_216.out _).trans (((cell_far (p := ⟨gb216, _, none⟩) NB214_216.out _).trans (hHeld.2.2.2.2.2.2.2.2.2.2.2.1)))))))), ((cell_far (p := ⟨gb216, _, none⟩) NB214_216.out _).trans (((cell_far (p := ⟨gb216, _, none⟩) NB214_216.out _).trans (((cell_far (p := ⟨gb216, _, none⟩) NB214_216.out _).trans (((cell_far (p := ⟨gb216, _, none⟩) NB214_216.out _).trans (hHeld.2.2.2.2.2.2.2.2.2.2.2.2.1)))))))), ((cell_far (p := ⟨gb216, _, none⟩) NB214_216.out _).trans (((cell_far (p := ⟨gb216, _, none⟩) NB214_216.out _).trans (((cell_far (p := ⟨gb216, _, none⟩) NB214_216.out _).trans (((cell_far (p := ⟨gb216, _, none⟩) NB214_216.out _).trans (hHeld.2.2.2.2.2.2.2.2.2.2.2.2.2.1)))))))), ((cell_far (p := ⟨gb216, _, none⟩) NB214_216.out _).trans (((cell_far (p := ⟨gb216, _, none⟩) NB214_216.out _).trans (((cell_far (p := ⟨gb216, _, none⟩) NB214_216.out _).trans (((cell_far (p := ⟨gb216, _, none⟩) NB214_216.out _).trans (hHeld.2.2.2.2.2.2.2.2.2.2.2.2.2.2.1)))))))), ((cell_far (p := ⟨gb216, _, none⟩) NB214_216.out _).trans (((cell_far (p := ⟨gb216, _, none⟩) NB214_216.out _).trans (((cell_far (p := ⟨gb216, _, none⟩) NB214_216.out _).trans (((cell_far (p := ⟨gb216, _, none⟩) NB214_216.out _).trans (hHeld.2.2.2.2.2.2.2.2.2.2.2.2.2.2.2))))))))⟩ (fun hHeld => ?_)
              clear hK K
              refine one_ (i := 10) (N := none) #[true, true, true, true, true, true, true, true, true, true, true] rfl rfl (one_of HT_.out (by kernel_rfl)) (by decide) (fun K hK => ?_)
              have hs105 : w100.cell? ⟨gb217, 0, none⟩ = some (.int .i64 0) := (blk_cell BK217.out 0).trans rfl
              have hfs105 := blk_frozen BK217.out 0
              have hns105_0 := NB214_217.out
              have hns105_1 := NB215_217.out
              have hns105_2 := NB216_217.out
              have hns105_4 := NB224_217.out
              have hms105_0 := NB217_214.out
              have hms105_1 := NB217_215.out
              have hms105_2 := NB217_216.out
              have hms105_4 := NB217_224.out
              have hs106 : w100.cell? ⟨gb217, 1, none⟩ = some (.bool false) := (blk_cell BK217.out 1).trans rfl
              have hfs106 := blk_frozen BK217.out 1
              have hns106_0 := NB214_217.out
              have hns106_1 := NB215_217.out
              have hns106_2 := NB216_217.out
              have hns106_4 := NB224_217.out
              have hms106_0 := NB217_214.out
              have hms106_1 := NB217_215.out
              have hms106_2 := NB217_216.out
              have hms106_4 := NB217_224.out
              refine skip_ (w1 := ?_) (by rfl) rfl ?_ ?_
              rotate_left
              · go_simp
                rfl
              refine hK.out _ _ ⟨((cell_far (p := ⟨gb217, _, none⟩) NB224_217.out _).trans (((cell_far (p := ⟨gb217, _, none⟩) NB224_217.out _).trans (hHeld.1)))), ((cell_far (p := ⟨gb217, _, none⟩) NB224_217.out _).trans (((cell_far (p := ⟨gb217, _, none⟩) NB224_217.out _).trans (hHeld.2.1)))), ((cell_far (p := ⟨gb217, _, none⟩) NB224_217.out _).trans (((cell_far (p := ⟨gb217, _, none⟩) NB224_217.out _).trans (hHeld.2.2.1)))), ((cell_far (p := ⟨gb217, _, none⟩) NB224_217.out _).trans (((cell_far (p := ⟨gb217, _, none⟩) NB224_217.out _).trans (hHeld.2.2.2.1)))), ((cell_far (p := ⟨gb217, _, none⟩) NB214_217.out _).trans (((cell_far (p := ⟨gb217, _, none⟩) NB214_217.out _).trans (hHeld.2.2.2.2.1)))), ((cell_far (p := ⟨gb217, _, none⟩) NB214_217.out _).trans (((cell_far (p := ⟨gb217, _, none⟩) NB214_217.out _).trans (hHeld.2.2.2.2.2.1)))), ((cell_far (p := ⟨gb217, _, none⟩) NB214_217.out _).trans (((cell_far (p := ⟨gb217, _, none⟩) NB214_217.out _).trans (hHeld.2.2.2.2.2.2.1)))), ((cell_far (p := ⟨gb217, _, none⟩) NB214_217.out _).trans (((cell_far (p := ⟨gb217, _, none⟩) NB214_217.out _).trans (hHeld.2.2.2.2.2.2.2.1)))), ((cell_far (p := ⟨gb217, _, none⟩) NB214_217.out _).trans (((cell_far (p := ⟨gb217, _, none⟩) NB214_217.out _).trans (hHeld.2.2.2.2.2.2.2.2.1)))), ((cell_far (p := ⟨gb217, _, none⟩) NB214_217.out _).trans (((cell_far (p := ⟨gb217, _, none⟩) NB214_217.out _).trans (hHeld.2.2.2.2.2.2.2.2.2.1)))), ((cell_far (p := ⟨gb217, _, none⟩) NB214_217.out _).trans (((cell_far (p := ⟨gb217, _, none⟩) NB214_217.out _).trans (hHeld.2.2.2.2.2.2.2.2.2.2.1)))), ((cell_far (p := ⟨gb217, _, none⟩) NB214_217.out _).trans (((cell_far (p := ⟨gb217, _, none⟩) NB214_217.out _).trans (hHeld.2.2.2.2.2.2.2.2.2.2.2.1)))), ((cell_far (p := ⟨gb217, _, none⟩) NB214_217.out _).trans (((cell_far (p := ⟨gb217, _, none⟩) NB214_217.out _).trans (hHeld.2.2.2.2.2.2.2.2.2.2.2.2.1)))), ((cell_far (p := ⟨gb217, _, none⟩) NB214_217.out _).trans (((cell_far (p := ⟨gb217, _, none⟩) NB214_217.out _).trans (hHeld.2.2.2.2.2.2.2.2.2.2.2.2.2.1)))), ((cell_far (p := ⟨gb217, _, none⟩) NB214_217.out _).trans (((cell_far (p := ⟨gb217, _, none⟩) NB214_217.out _).trans (hHeld.2.2.2.2.2.2.2.2.2.2.2.2.2.2.1)))), ((cell_far (p := ⟨gb217, _, none⟩) NB214_217.out _).trans (((cell_far (p := ⟨gb217, _, none⟩) NB214_217.out _).trans (hHeld.2.2.2.2.2.2.2.2.2.2.2.2.2.2.2))))⟩ (fun hHeld => ?_)
              clear hK K
              refine done_ (done_of HT_.out (by kernel_rfl)) ?_
              try go_wp2
              refine bodyPost_ret (results_cc rfl _ _ gb216 gb217 26 31 #[.int .i64 t229, .slice Ao98 x225001_2.length co98, .int .i64 ji48, .int .i64 t236] #[.int .i64 t242, .bool (decide (ji48 > a0_6))] (0, 0) (0, 0) _ _ rfl (by (with_reducible repeat (first | refine blk_drewN ?_ _ | refine blk_drew ?_ | refine blk_alloc ?_ _)); refine blk_far ?_ NB216_217.out _; (with_reducible repeat (first | refine blk_drewN ?_ _ | refine blk_drew ?_ | refine blk_alloc ?_ _)); refine blk_far ?_ NB216_217.out _; (with_reducible repeat (first | refine blk_drewN ?_ _ | refine blk_drew ?_ | refine blk_alloc ?_ _)); refine blk_put (cs := #[.int .i64 t229, .slice Ao98 x225001_2.length co98, .int .i64 ji48, .int .i64 0]) ?_ 3 _ rfl; (with_reducible repeat (first | refine blk_drewN ?_ _ | refine blk_drew ?_ | refine blk_alloc ?_ _)); refine blk_put (cs := #[.int .i64 t229, .slice Ao98 x225001_2.length co98, .int .i64 0, .int .i64 0]) ?_ 2 _ rfl; (with_reducible repeat (first | refine blk_drewN ?_ _ | refine blk_drew ?_ | refine blk_alloc ?_ _)); refine blk_put (cs := #[.int .i64 t229, .slice none 0 0, .int .i64 0, .int .i64 0]) ?_ 1 _ rfl; (with_reducible repeat (first | refine blk_drewN ?_ _ | refine blk_drew ?_ | refine blk_alloc ?_ _)); refine blk_put (cs := #[.int .i64 0, .slice none 0 0, .int .i64 0, .int .i64 0]) ?_ 0 _ rfl; (with_reducible repeat (first | refine blk_drewN ?_ _ | refine blk_drew ?_ | refine blk_alloc ?_ _)); exact BK216.out) Try.underlying26 rfl (by kernel_rfl) rfl (by (with_reducible repeat (first | refine blk_drewN ?_ _ | refine blk_drew ?_ | refine blk_alloc ?_ _)); refine blk_put (cs := #[.int .i64 t242, .bool false]) ?_ 1 _ rfl; (with_reducible repeat (first | refine blk_drewN ?_ _ | refine blk_drew ?_ | refine blk_alloc ?_ _)); refine blk_put (cs := #[.int .i64 0, .bool false]) ?_ 0 _ rfl; (with_reducible repeat (first | refine blk_drewN ?_ _ | refine blk_drew ?_ | refine blk_alloc ?_ _)); refine blk_far ?_ NB217_216.out _; (with_reducible repeat (first | refine blk_drewN ?_ _ | refine blk_drew ?_ | refine blk_alloc ?_ _)); refine blk_far ?_ NB217_216.out _; (with_reducible repeat (first | refine blk_drewN ?_ _ | refine blk_drew ?_ | refine blk_alloc ?_ _)); refine blk_far ?_ NB217_216.out _; (with_reducible repeat (first | refine blk_drewN ?_ _ | refine blk_drew ?_ | refine blk_alloc ?_ _)); refine blk_far ?_ NB217_216.out _; (with_reducible repeat (first | refine blk_drewN ?_ _ | refine blk_drew ?_ | refine blk_alloc ?_ _)); exact BK217.out) Try.underlying31 rfl (by kernel_rfl)) rfl ?_
              exact ⟨_, by first | rfl | (simp [errW_none, errW_some] <;> rfl) | (simp only [← hji41, ← hji42, ← hji44, ← hji45, ← hji47, ← hji48]; first | rfl | (simp [errW_none, errW_some] <;> rfl)) | (simp [*, errW_none, errW_some] <;> rfl) | (have e_ : ji47 = ji48 := (by omega); subst e_; rfl) | (have e_ : ji45 = ji48 := (by omega); subst e_; rfl) | (have e_ : ji44 = ji48 := (by omega); subst e_; rfl) | (have e_ : ji42 = ji48 := (by omega); subst e_; rfl) | (have e_ : ji41 = ji48 := (by omega); subst e_; rfl), by (with_reducible repeat (first | apply Kd.Q_alloc | apply Kd.Q_drewN | apply Kd.Q_drew)); exact Kd.Q_mono (Kd.Q_far (p := ⟨gb217, 1, none⟩) (Kd.Q_far (p := ⟨gb217, 0, none⟩) (Kd.Q_far (p := ⟨gb216, 3, none⟩) (Kd.Q_far (p := ⟨gb216, 2, none⟩) (Kd.Q_far (p := ⟨gb216, 1, none⟩) (Kd.Q_far (p := ⟨gb216, 0, none⟩) (Kd.Q_types (Kd.Q_types HO_225001.out BK216.out (by decide)) BK217.out (by decide)) (fun _ hk => hk.1.2) (.int .i64 t229)) (fun _ hk => hk.1.2) (.slice Ao98 x225001_2.length co98)) (fun _ hk => hk.1.2) (.int .i64 ji48)) (fun _ hk => hk.1.2) (.int .i64 t236)) (fun _ hk => hk.2) (.int .i64 t242)) (fun _ hk => hk.2) (.bool (decide (ji48 > a0_6)))) (fun _ hk => trivial), by repeat (first | (with_reducible first | exact HB.out | apply below_alloc | apply pw_below_drewN | apply below_drew1 | refine below_set ?_ GE214.out | refine below_set ?_ GE215.out | refine below_set ?_ GE216.out | refine below_set ?_ GE217.out | refine below_set ?_ GE224.out) | exact HB.out)⟩
  · rw [if_neg c5] at H
    exact absurd H (by simp)

/-! ### governorref16_New: function 24 -/
def governorref16_New.f (a0 : Int) : Option (Int × List Int × Int × Int) := some (mn (mx a0 0) 1000, ([] : List Int), 0, 0)
set_option maxHeartbeats 8000000 in
set_option maxRecDepth 100000 in
theorem governorref16_New.calls (a0 : Int) (r1 : Int) (r2 : List Int) (r3 : Int) (r4 : Int) (w : World) (h : governorref16_New.f a0 = some (r1, r2, r3, r4)) :
    Calls Try.prog 24 #[.int .i64 a0] w fun e w' => ∃ v1_ : Value, e = .returned (.agg #[.int .i64 r1, v1_, .int .i64 r3, .int .i64 r4]) ∧ Kd.R (Kd.int .i64) 3 w' w.heap.size (fun _ => True) v1_ r2 ∧ Below w.heap.size w w' := by
  have hu26 := Try.underlying26
  have HB := Aside0.mk (Below.refl w.heap.size w)
  have H : (some (mn (mx a0 0) 1000, ([] : List Int), 0, 0)) = some (r1, r2, r3, r4) := h
  clear h
  obtain ⟨ji2, hji2⟩ : ∃ j_ : Int, (mx a0 0) = j_ := ⟨_, rfl⟩
  replace H : (some (mn (ji2) 1000, ([] : List Int), 0, 0)) = some (r1, r2, r3, r4) := by first | (rw [hji2] at H; exact H) | (simp only [hji2] at H ⊢; exact H)
  (try (have hji2l : 0 ≤ ji2 := by (rw [← hji2]; unfold mx; (repeat' split) <;> omega)))
  (try (have hji2m : 0 ≤ ji2 := by omega))
  have hji2_ : (if a0 < 0 then 0 else a0) = ji2 := hji2
  obtain ⟨ji3, hji3⟩ : ∃ j_ : Int, (mn (ji2) 1000) = j_ := ⟨_, rfl⟩
  replace H : (some (ji3, ([] : List Int), 0, 0)) = some (r1, r2, r3, r4) := by first | (rw [hji3] at H; exact H) | (simp only [hji3] at H ⊢; exact H)
  have hji3_ : (if 1000 < (ji2) then 1000 else (ji2)) = ji3 := hji3
  simp only [Option.some.injEq, Prod.mk.injEq] at H
  obtain ⟨rfl, rfl, rfl, rfl⟩ := H
  go_enter Try.func24, Try.ntmps24
  go_wp2_with (first | ((with_reducible refine gate_dst (N := 2) rfl ?_); refine box_event ?hg (N := 2) ?hd (cs := #[.int .i64 0, .slice none 0 0, .int .i64 0, .int .i64 0]) (t := 26) ?hr ?_; (case hd => rfl); (case hg => rfl); (case hr => first | (go_simp; done) | (go_simp; rfl)); intro gb243 hg w4 hbox hb; have n0_ := Aside0.mk (below_step (by repeat (first | (with_reducible first | exact HB.out | apply below_alloc | apply pw_below_drewN | apply below_drew1) | exact HB.out)) hb); have n1_ := Aside0.mk (hbox); have n2_ := Aside0.mk ((by rw [hg]; exact (below_size (by repeat (first | (with_reducible first | exact HB.out | apply below_alloc | apply pw_below_drewN | apply below_drew1) | exact HB.out))) : w.heap.size ≤ gb243)); have n3_ := Aside0.mk ((by rw [hg]; exact (below_size (by repeat (first | (with_reducible first | exact HB.out | apply below_alloc | apply pw_below_drewN | apply below_drew1) | exact HB.out))) : w.heap.size ≤ gb243)); clear HB; have HB := n0_; have BK243 := n1_; have GW243 := n2_; have GE243 := n3_; clear n0_ n1_ n2_ n3_; clear hb hbox hg; have hcz5_0 : w4.cell? ⟨gb243, 0, none⟩ = some (.int .i64 0) := (blk_cell BK243.out 0).trans rfl; have hcz5_1 : w4.cell? ⟨gb243, 1, none⟩ = some (.slice none 0 0) := (blk_cell BK243.out 1).trans rfl; have hcz5_2 : w4.cell? ⟨gb243, 2, none⟩ = some (.int .i64 0) := (blk_cell BK243.out 2).trans rfl; have hcz5_3 : w4.cell? ⟨gb243, 3, none⟩ = some (.int .i64 0) := (blk_cell BK243.out 3).trans rfl; have hfz5_0 := blk_frozen BK243.out 0; have hfz5_1 := blk_frozen BK243.out 1; have hfz5_2 := blk_frozen BK243.out 2; have hfz5_3 := blk_frozen BK243.out 3))
  refine bodyPost_ret (results_cell_row rfl _ _ gb243 26 #[.int .i64 ji3, .slice none 0 0, .int .i64 0, .int .i64 0] (0, 0) _ rfl (by (with_reducible repeat (first | refine blk_drewN ?_ _ | refine blk_drew ?_ | refine blk_alloc ?_ _)); refine blk_put (cs := #[.int .i64 ji3, .slice none 0 0, .int .i64 0, .int .i64 0]) ?_ 3 _ rfl; (with_reducible repeat (first | refine blk_drewN ?_ _ | refine blk_drew ?_ | refine blk_alloc ?_ _)); refine blk_put (cs := #[.int .i64 ji3, .slice none 0 0, .int .i64 0, .int .i64 0]) ?_ 2 _ rfl; (with_reducible repeat (first | refine blk_drewN ?_ _ | refine blk_drew ?_ | refine blk_alloc ?_ _)); refine blk_put (cs := #[.int .i64 ji3, .slice none 0 0, .int .i64 0, .int .i64 0]) ?_ 1 _ rfl; (with_reducible repeat (first | refine blk_drewN ?_ _ | refine blk_drew ?_ | refine blk_alloc ?_ _)); refine blk_put (cs := #[.int .i64 0, .slice none 0 0, .int .i64 0, .int .i64 0]) ?_ 0 _ rfl; (with_reducible repeat (first | refine blk_drewN ?_ _ | refine blk_drew ?_ | refine blk_alloc ?_ _)); exact BK243.out) Try.underlying26 rfl (by kernel_rfl)) rfl ?_
  exact ⟨_, by first | rfl | (simp [errW_none, errW_some] <;> rfl) | (simp only [← hji2, ← hji3]; first | rfl | (simp [errW_none, errW_some] <;> rfl)) | (simp [*, errW_none, errW_some] <;> rfl) | (have e_ : ji2 = ji3 := (by omega); subst e_; rfl), by first | exact Kd.R_nil _ _ _ _ _ | exact Kd.N_nil _ _ _ _ _ | exact Kd.V_nil _ _ _ _ _ | exact Kd.Q_nil _ _ _ _ _ | exact Kd.S_nil _ _ _ _ _, by repeat (first | (with_reducible first | exact HB.out | apply below_alloc | apply pw_below_drewN | apply below_drew1 | refine below_set ?_ GE243.out) | exact HB.out)⟩

end Go.Proofs.Ytgeldfjpafimpaa.PAll
