-- laid by a program of this session (tprint.py) out of the translation and of texts typed by hand; Lean checks it
import Derived.Test.YtgeldfjpafimpaaPAllx0
import Derived.Test.YtgeldfjpafimpaaPAllx1
import Derived.Test.YtgeldfjpafimpaaPAllx36
import Derived.Test.YtgeldfjpafimpaaPAllx38
import Derived.Test.YtgeldfjpafimpaaPAllx42
import Derived.Test.YtgeldfjpafimpaaPAllx49
namespace Go.Proofs.Ytgeldfjpafimpaa.PAll
open Go.RowKit Go.Proofs.YtgeldfjpafimpaaW.PrintWords Go.Proofs.YtgeldfjpafimpaaW.PrintLast Go.Proofs.YtgeldfjpafimpaaW.PrintMore
attribute [local go_sem] max2_int min2_int max_two min_two max_three min_three max_four min_four   -- for this text's walks alone
set_option linter.unusedVariables false
set_option linter.unusedSimpArgs false

attribute [local go_sem high] eqA47
/-! ### governorlaw14_PolicyRow: function 13 -/
mutual
def governorlaw14_PolicyRow.j0 : Nat → Int → List Int → Int → Bool → Bool → Int → Int → List (S83) → Int → Int → Int → Int → List (S71) → Option (Bool)
  | 0, _, _, _, _, _, _, _, _, _, _, _, _, _ => none
  | k + 1, x1, x2, x3, x9, x27, x417000, x417001, x417002, x417003, x417004, x417005, x417006, x417007 => if x27 = true then (some x9) else (governorlaw14_PolicyRow.l0 k x2 x3 x9 (Int.tmod (wrap64 (x1)) 1001) (Int.tmod (wrap64 (x1)) 1001) 0 x417000 x417001 x417002 x417003 x417004 x417005 x417006 x417007 0 0 false 0 0 false)
def governorlaw14_PolicyRow.l0 : Nat → List Int → Int → Bool → Int → Int → Int → Int → Int → List (S83) → Int → Int → Int → Int → List (S71) → Int → Int → Bool → Int → Int → Bool → Option (Bool)
  | 0, _, _, _, _, _, _, _, _, _, _, _, _, _, _, _, _, _, _, _, _ => none
  | k + 1, x2, x3, x9, x12, x13, x14, x417000, x417001, x417002, x417003, x417004, x417005, x417006, x417007, x420000, x420001, x420002, x421000, x421001, x421002 => if x14 < (x2.length : Int) then (if 0 ≤ x14 then ((policy_Next.f k x417000 x417001 x417002 x417003 x417004 x417005 x417006 x417007 x420000 x420001 x420002 x12 (rd x2 x14) (wrap64 ((wrap64 (x3)) + x14))).bind fun bt422 => ((governorref14_Next.f k x417000 x417001 x417002 x417003 x417004 x417005 x417006 x417007 x421000 x421001 x421002 x13 (rd x2 x14) (wrap64 ((wrap64 (x3)) + x14))).bind fun bt428 => (if (!(bt422.1 == bt428.1) || (!(bt422.2.1 == bt428.2.1) || (!(bt422.2.2.1 == bt428.2.2.1)))) = true then (some false) else (if bt422.2.2.2 = bt428.2.2.2 then (governorlaw14_PolicyRow.l0 k x2 x3 x9 bt422.2.2.2 bt428.2.2.2 (wrap64 (x14 + 1)) x417000 x417001 x417002 x417003 x417004 x417005 x417006 x417007 bt422.1 bt422.2.1 bt422.2.2.1 bt428.1 bt428.2.1 bt428.2.2.1) else (some false))))) else (none)) else (some x9)
end
def governorlaw14_PolicyRow.f (k : Nat) (a0_0 : Int) (a0_1 : Int) (l0_2 : List (S83)) (a0_3 : Int) (a0_4 : Int) (a0_5 : Int) (a0_6 : Int) (l0_7 : List (S71)) (a1 : Int) (l2 : List Int) (a3 : Int) : Option (Bool) := (governorlaw14_head.f k).bind fun t417 => ((governorlaw14_Right.f k a0_0 a0_1 l0_2 a0_3 a0_4 a0_5 a0_6 l0_7).bind fun t418 => (if t418 = true then (governorlaw14_PolicyRow.j0 k a1 l2 a3 t417 (decide ((l2.length : Int) > 300)) a0_0 a0_1 l0_2 a0_3 a0_4 a0_5 a0_6 l0_7) else (governorlaw14_PolicyRow.j0 k a1 l2 a3 t417 true a0_0 a0_1 l0_2 a0_3 a0_4 a0_5 a0_6 l0_7)))
theorem governorlaw14_PolicyRow.mono_l : ∀ k, (∀ y0 y1 y2 y3 y4 y5 y6 y7 y8 y9 y10 y11 y12, LeO (governorlaw14_PolicyRow.j0 k y0 y1 y2 y3 y4 y5 y6 y7 y8 y9 y10 y11 y12) (governorlaw14_PolicyRow.j0 (k + 1) y0 y1 y2 y3 y4 y5 y6 y7 y8 y9 y10 y11 y12)) ∧ (∀ y0 y1 y2 y3 y4 y5 y6 y7 y8 y9 y10 y11 y12 y13 y14 y15 y16 y17 y18 y19, LeO (governorlaw14_PolicyRow.l0 k y0 y1 y2 y3 y4 y5 y6 y7 y8 y9 y10 y11 y12 y13 y14 y15 y16 y17 y18 y19) (governorlaw14_PolicyRow.l0 (k + 1) y0 y1 y2 y3 y4 y5 y6 y7 y8 y9 y10 y11 y12 y13 y14 y15 y16 y17 y18 y19))
  | 0 => ⟨fun _ _ _ _ _ _ _ _ _ _ _ _ _ r h => by simp [governorlaw14_PolicyRow.j0] at h, fun _ _ _ _ _ _ _ _ _ _ _ _ _ _ _ _ _ _ _ _ r h => by simp [governorlaw14_PolicyRow.l0] at h⟩
  | k + 1 => by
    obtain ⟨ih0, ih1⟩ := governorlaw14_PolicyRow.mono_l k
    refine ⟨?_, ?_⟩
    · intro y0 y1 y2 y3 y4 y5 y6 y7 y8 y9 y10 y11 y12
      unfold governorlaw14_PolicyRow.j0
      repeat' first
      | (with_reducible exact ih0 _ _ _ _ _ _ _ _ _ _ _ _ _)
      | (with_reducible exact ih1 _ _ _ _ _ _ _ _ _ _ _ _ _ _ _ _ _ _ _ _)
      | (with_reducible exact governorlaw14_Right.mono _ _ _ _ _ _ _ _ _)
      | (with_reducible exact governorlaw14_head.mono _)
      | (with_reducible exact governorref14_Next.mono _ _ _ _ _ _ _ _ _ _ _ _ _ _ _)
      | (with_reducible exact policy_Next.mono _ _ _ _ _ _ _ _ _ _ _ _ _ _ _)
      | (with_reducible exact LeO.refl _)
      | (with_reducible exact LeO.none _)
      | (with_reducible refine LeO.ite ?_ ?_)
      | (with_reducible refine LeO.bind ?_ (fun _ => ?_))
      | exact ih0 _ _ _ _ _ _ _ _ _ _ _ _ _
      | exact ih1 _ _ _ _ _ _ _ _ _ _ _ _ _ _ _ _ _ _ _ _
      | exact governorlaw14_Right.mono _ _ _ _ _ _ _ _ _
      | exact governorlaw14_head.mono _
      | exact governorref14_Next.mono _ _ _ _ _ _ _ _ _ _ _ _ _ _ _
      | exact policy_Next.mono _ _ _ _ _ _ _ _ _ _ _ _ _ _ _
      | exact LeO.none _
      | refine LeO.ite ?_ ?_
      | refine LeO.bind ?_ (fun _ => ?_)
    · intro y0 y1 y2 y3 y4 y5 y6 y7 y8 y9 y10 y11 y12 y13 y14 y15 y16 y17 y18 y19
      unfold governorlaw14_PolicyRow.l0
      repeat' first
      | (with_reducible exact ih0 _ _ _ _ _ _ _ _ _ _ _ _ _)
      | (with_reducible exact ih1 _ _ _ _ _ _ _ _ _ _ _ _ _ _ _ _ _ _ _ _)
      | (with_reducible exact governorlaw14_Right.mono _ _ _ _ _ _ _ _ _)
      | (with_reducible exact governorlaw14_head.mono _)
      | (with_reducible exact governorref14_Next.mono _ _ _ _ _ _ _ _ _ _ _ _ _ _ _)
      | (with_reducible exact policy_Next.mono _ _ _ _ _ _ _ _ _ _ _ _ _ _ _)
      | (with_reducible exact LeO.refl _)
      | (with_reducible exact LeO.none _)
      | (with_reducible refine LeO.ite ?_ ?_)
      | (with_reducible refine LeO.bind ?_ (fun _ => ?_))
      | exact ih0 _ _ _ _ _ _ _ _ _ _ _ _ _
      | exact ih1 _ _ _ _ _ _ _ _ _ _ _ _ _ _ _ _ _ _ _ _
      | exact governorlaw14_Right.mono _ _ _ _ _ _ _ _ _
      | exact governorlaw14_head.mono _
      | exact governorref14_Next.mono _ _ _ _ _ _ _ _ _ _ _ _ _ _ _
      | exact policy_Next.mono _ _ _ _ _ _ _ _ _ _ _ _ _ _ _
      | exact LeO.none _
      | refine LeO.ite ?_ ?_
      | refine LeO.bind ?_ (fun _ => ?_)
theorem governorlaw14_PolicyRow.mono : ∀ a0 a1 a2 a3 a4 a5 a6 a7 a8 a9 a10 k, LeO (governorlaw14_PolicyRow.f k a0 a1 a2 a3 a4 a5 a6 a7 a8 a9 a10) (governorlaw14_PolicyRow.f (k + 1) a0 a1 a2 a3 a4 a5 a6 a7 a8 a9 a10) := by
  intro a0 a1 a2 a3 a4 a5 a6 a7 a8 a9 a10 k
  obtain ⟨ih0, ih1⟩ := governorlaw14_PolicyRow.mono_l k
  unfold governorlaw14_PolicyRow.f
  repeat' first
      | (with_reducible exact ih0 _ _ _ _ _ _ _ _ _ _ _ _ _)
      | (with_reducible exact ih1 _ _ _ _ _ _ _ _ _ _ _ _ _ _ _ _ _ _ _ _)
      | (with_reducible exact governorlaw14_Right.mono _ _ _ _ _ _ _ _ _)
      | (with_reducible exact governorlaw14_head.mono _)
      | (with_reducible exact governorref14_Next.mono _ _ _ _ _ _ _ _ _ _ _ _ _ _ _)
      | (with_reducible exact policy_Next.mono _ _ _ _ _ _ _ _ _ _ _ _ _ _ _)
      | (with_reducible exact LeO.refl _)
      | (with_reducible exact LeO.none _)
      | (with_reducible refine LeO.ite ?_ ?_)
      | (with_reducible refine LeO.bind ?_ (fun _ => ?_))
      | exact ih0 _ _ _ _ _ _ _ _ _ _ _ _ _
      | exact ih1 _ _ _ _ _ _ _ _ _ _ _ _ _ _ _ _ _ _ _ _
      | exact governorlaw14_Right.mono _ _ _ _ _ _ _ _ _
      | exact governorlaw14_head.mono _
      | exact governorref14_Next.mono _ _ _ _ _ _ _ _ _ _ _ _ _ _ _
      | exact policy_Next.mono _ _ _ _ _ _ _ _ _ _ _ _ _ _ _
      | exact LeO.none _
      | refine LeO.ite ?_ ?_
      | refine LeO.bind ?_ (fun _ => ?_)
def governorlaw14_PolicyRow.T11 : Bool × List (List Nat × List Nat) := (true, [([], []), ([], []), ([], []), ([], []), ([], []), ([3, 4], [3, 4]), ([5], [5]), ([], []), ([7], [7]), ([], []), ([8, 9], [8, 9]), ([0, 1, 2, 6, 10], [0, 1, 2, 6, 10]), ([11], [11]), ([12], [12]), ([12], [12]), ([], []), ([15, 13, 11, 0, 1, 2, 3, 4, 5, 6, 7, 8, 9, 10, 11, 12, 13, 15], [13, 15]), ([14, 16, 0, 1, 2, 3, 4, 5, 6, 7, 8, 9, 10, 11, 12, 13, 14, 15, 16], [14])])
def governorlaw14_PolicyRow.B11 : List Nat := [0, 0, 0, 0, 0, 24, 56, 0, 128, 0, 896, 2047, 4095, 8191, 8191, 0, 49151, 131071]
theorem governorlaw14_PolicyRow.tab11 : rtab .any (opsOf Try.f13 11) = governorlaw14_PolicyRow.T11 := by kernel_rfl
theorem governorlaw14_PolicyRow.bits11 : waitsOk governorlaw14_PolicyRow.T11.2 governorlaw14_PolicyRow.B11 = true := by kernel_rfl
def governorlaw14_PolicyRow.T12 : Bool × List (List Nat × List Nat) := (true, [([], []), ([], []), ([], []), ([], []), ([], []), ([3, 4], [3, 4]), ([5], [5]), ([], []), ([7], [7]), ([], []), ([8, 9], [8, 9]), ([0, 1, 2, 6, 10], [0, 1, 2, 6, 10]), ([11], [11]), ([12], [12]), ([12], [12]), ([], []), ([15, 13, 11, 0, 1, 2, 3, 4, 5, 6, 7, 8, 9, 10, 11, 12, 13, 15], [13, 15]), ([14, 16, 0, 1, 2, 3, 4, 5, 6, 7, 8, 9, 10, 11, 12, 13, 14, 15, 16], [14])])
def governorlaw14_PolicyRow.B12 : List Nat := [0, 0, 0, 0, 0, 24, 56, 0, 128, 0, 896, 2047, 4095, 8191, 8191, 0, 49151, 131071]
theorem governorlaw14_PolicyRow.tab12 : rtab .any (opsOf Try.f13 12) = governorlaw14_PolicyRow.T12 := by kernel_rfl
theorem governorlaw14_PolicyRow.bits12 : waitsOk governorlaw14_PolicyRow.T12.2 governorlaw14_PolicyRow.B12 = true := by kernel_rfl
set_option maxHeartbeats 8000000 in
set_option maxRecDepth 100000 in
theorem governorlaw14_PolicyRow.calls (k : Nat) (a0_0 : Int) (a0_1 : Int) (A0_2 : Option Addr) (c0_2 : Nat) (l0_2 : List (S83)) (a0_3 : Int) (a0_4 : Int) (a0_5 : Int) (a0_6 : Int) (A0_7 : Option Addr) (c0_7 : Nat) (l0_7 : List (S71)) (a1 : Int) (A2 : Option Addr) (c2 : Nat) (l2 : List Int) (a3 : Int) (r : Bool) (w : World) (hr0_2 : Kd.C k83 w A0_2 l0_2.length l0_2) (hc0_2 : l0_2.length ≤ c0_2) (hr0_7 : Kd.C k71 w A0_7 l0_7.length l0_7) (hc0_7 : l0_7.length ≤ c0_7) (hr2 : Kd.C (Kd.int .i64) w A2 l2.length l2) (hc2 : l2.length ≤ c2) (hrT : r = true) (h : governorlaw14_PolicyRow.f k a0_0 a0_1 l0_2 a0_3 a0_4 a0_5 a0_6 l0_7 a1 l2 a3 = some r) :
    Calls Try.prog 13 #[.agg #[.int .i64 a0_0, .int .i64 a0_1, .slice A0_2 l0_2.length c0_2, .int .i64 a0_3, .int .i64 a0_4, .int .i64 a0_5, .int .i64 a0_6, .slice A0_7 l0_7.length c0_7], .int .u16 a1, .slice A2 l2.length c2, .int .u16 a3] w fun e w' => e = .returned (.bool r) ∧ Below w.heap.size w w' := by
  have hu45 := Try.underlying45
  have hu47 := Try.underlying47
  have HR0_2 := Aside0.mk hr0_2
  have HC0_2 := Aside0.mk hc0_2
  clear hr0_2 hc0_2
  have HR0_7 := Aside0.mk hr0_7
  have HC0_7 := Aside0.mk hc0_7
  clear hr0_7 hc0_7
  have HR2 := Aside0.mk hr2
  have HC2 := Aside0.mk hc2
  clear hr2 hc2
  have HB := Aside0.mk (Below.refl w.heap.size w)
  have HRT := Aside0.mk hrT
  clear hrT
  have H : ((governorlaw14_head.f k).bind fun t417 => ((governorlaw14_Right.f k a0_0 a0_1 l0_2 a0_3 a0_4 a0_5 a0_6 l0_7).bind fun t418 => (if t418 = true then (governorlaw14_PolicyRow.j0 k a1 l2 a3 t417 (decide ((l2.length : Int) > 300)) a0_0 a0_1 l0_2 a0_3 a0_4 a0_5 a0_6 l0_7) else (governorlaw14_PolicyRow.j0 k a1 l2 a3 t417 true a0_0 a0_1 l0_2 a0_3 a0_4 a0_5 a0_6 l0_7)))) = some r := h
  clear h
  replace H := Option.bind_eq_some_iff.mp H
  obtain ⟨t417, A50, H⟩ := H
  replace H : ((governorlaw14_Right.f k a0_0 a0_1 l0_2 a0_3 a0_4 a0_5 a0_6 l0_7).bind fun t418 => (if t418 = true then (governorlaw14_PolicyRow.j0 k a1 l2 a3 t417 (decide ((l2.length : Int) > 300)) a0_0 a0_1 l0_2 a0_3 a0_4 a0_5 a0_6 l0_7) else (governorlaw14_PolicyRow.j0 k a1 l2 a3 t417 true a0_0 a0_1 l0_2 a0_3 a0_4 a0_5 a0_6 l0_7))) = some r := H
  have A5 := Aside0.mk A50
  clear A50
  have HC6 := Aside0.mk H
  clear H
  go_enter Try.func13, Try.ntmps13
  go_upto_region 2 with (first | ((with_reducible refine gate_dst (N := 4) rfl ?_); (try (refine gate_guard (by rfl) ?_; dsimp only)); refine box_event ?hg (N := 4) ?hd (cs := #[.int .i64 a0_0, .int .i64 a0_1, .slice A0_2 l0_2.length c0_2, .int .i64 a0_3, .int .i64 a0_4, .int .i64 a0_5, .int .i64 a0_6, .slice A0_7 l0_7.length c0_7]) (t := 45) ?hr ?_; (case hd => rfl); (case hg => rfl); (case hr => first | (go_simp; done) | (go_simp; rfl)); intro gb416 hg w7 hbox hb; have n0_ := Aside0.mk (below_step (by repeat (first | (with_reducible first | exact HB.out | apply below_alloc | apply pw_below_drewN | apply below_drew1) | exact HB.out)) hb); have n1_ := Aside0.mk (hbox); have n2_ := Aside0.mk ((by rw [hg]; exact (below_size (by repeat (first | (with_reducible first | exact HB.out | apply below_alloc | apply pw_below_drewN | apply below_drew1) | exact HB.out))) : w.heap.size ≤ gb416)); have n3_ := Aside0.mk ((by rw [hg]; exact (below_size (by repeat (first | (with_reducible first | exact HB.out | apply below_alloc | apply pw_below_drewN | apply below_drew1) | exact HB.out))) : w.heap.size ≤ gb416)); clear HB; have HB := n0_; have BK416 := n1_; have GW416 := n2_; have GE416 := n3_; clear n0_ n1_ n2_ n3_; clear hb hbox hg) | ((with_reducible refine gate_callee (f := 25) rfl ?_); refine goesL_ (some 19) rfl rfl Try.func25 (by kernel_rfl) rfl #[] rfl (by (try simp only [List.map_toArray, List.map_cons, List.map_nil]); first | done | rfl | (simp only [List.length_drop, List.length_take]; rfl)) ?_; (with_reducible refine (governorlaw14_head.calls k  t417 _ A5.out).mono ?_); rintro e w8 ⟨rfl, hb⟩; refine ⟨_, rfl, ?_⟩; have n0_ := Aside0.mk (blk_below (g := gb416) (o := .cells #[.int .i64 a0_0, .int .i64 a0_1, .slice A0_2 l0_2.length c0_2, .int .i64 a0_3, .int .i64 a0_4, .int .i64 a0_5, .int .i64 a0_6, .slice A0_7 l0_7.length c0_7] 45 (0, 0)) (by (with_reducible repeat (first | refine blk_drewN ?_ _ | refine blk_drew ?_ | refine blk_alloc ?_ _)); exact BK416.out) hb); have n1_ := Aside0.mk (below_step (by repeat (first | (with_reducible first | exact HB.out | apply below_alloc | apply pw_below_drewN | apply below_drew1 | refine below_set ?_ GE416.out) | exact HB.out)) hb); clear BK416; clear HB; have BK416 := n0_; have HB := n1_; clear n0_ n1_; (try clear hb); (try clear hb2); (try clear hk); (try clear hi)))
  (try simp only [Act.put, List.setIfInBounds_toArray, List.set_cons_zero, List.set_cons_succ])
  go_cut [27] (fun v27 wc => ∃ (kq : Nat) (x27_5 : Bool), v27 = .bool x27_5 ∧ Aside0 (governorlaw14_PolicyRow.j0 kq a1 l2 a3 t417 x27_5 a0_0 a0_1 l0_2 a0_3 a0_4 a0_5 a0_6 l0_7 = some r) ∧ Aside0 (kq ≤ k) ∧ Aside0 (wc.heap[gb416]? = some (.cells #[.int .i64 a0_0, .int .i64 a0_1, (.slice A0_2 l0_2.length c0_2), .int .i64 a0_3, .int .i64 a0_4, .int .i64 a0_5, .int .i64 a0_6, (.slice A0_7 l0_7.length c0_7)] 45 (0, 0))) ∧ Aside0 (Below w.heap.size w wc))
  case first =>
    have H := HC6.out
    clear HC6
    replace H := Option.bind_eq_some_iff.mp H
    obtain ⟨t418, A90, H⟩ := H
    replace H : (if t418 = true then (governorlaw14_PolicyRow.j0 k a1 l2 a3 t417 (decide ((l2.length : Int) > 300)) a0_0 a0_1 l0_2 a0_3 a0_4 a0_5 a0_6 l0_7) else (governorlaw14_PolicyRow.j0 k a1 l2 a3 t417 true a0_0 a0_1 l0_2 a0_3 a0_4 a0_5 a0_6 l0_7)) = some r := H
    have A9 := Aside0.mk A90
    clear A90
    by_cases c10 : t418 = true
    · subst c10
      have H1 : (governorlaw14_PolicyRow.j0 k a1 l2 a3 t417 (decide ((l2.length : Int) > 300)) a0_0 a0_1 l0_2 a0_3 a0_4 a0_5 a0_6 l0_7) = some r := by rw [if_pos rfl] at H; exact H
      clear H
      have H := H1
      clear H1
      have H' := Aside0.mk H
      clear H
      have hcz11_0 : w8.cell? ⟨gb416, 0, none⟩ = some (.int .i64 a0_0) := (blk_cell BK416.out 0).trans rfl
      have hcz11_1 : w8.cell? ⟨gb416, 1, none⟩ = some (.int .i64 a0_1) := (blk_cell BK416.out 1).trans rfl
      have hcz11_2 : w8.cell? ⟨gb416, 2, none⟩ = some (.slice A0_2 l0_2.length c0_2) := (blk_cell BK416.out 2).trans rfl
      have hcz11_3 : w8.cell? ⟨gb416, 3, none⟩ = some (.int .i64 a0_3) := (blk_cell BK416.out 3).trans rfl
      have hcz11_4 : w8.cell? ⟨gb416, 4, none⟩ = some (.int .i64 a0_4) := (blk_cell BK416.out 4).trans rfl
      have hcz11_5 : w8.cell? ⟨gb416, 5, none⟩ = some (.int .i64 a0_5) := (blk_cell BK416.out 5).trans rfl
      have hcz11_6 : w8.cell? ⟨gb416, 6, none⟩ = some (.int .i64 a0_6) := (blk_cell BK416.out 6).trans rfl
      have hcz11_7 : w8.cell? ⟨gb416, 7, none⟩ = some (.slice A0_7 l0_7.length c0_7) := (blk_cell BK416.out 7).trans rfl
      have hfz11_0 := blk_frozen BK416.out 0
      have hfz11_1 := blk_frozen BK416.out 1
      have hfz11_2 := blk_frozen BK416.out 2
      have hfz11_3 := blk_frozen BK416.out 3
      have hfz11_4 := blk_frozen BK416.out 4
      have hfz11_5 := blk_frozen BK416.out 5
      have hfz11_6 := blk_frozen BK416.out 6
      have hfz11_7 := blk_frozen BK416.out 7
      go_wp2_with (first | ((with_reducible refine gate_callee (f := 26) rfl ?_); refine goesL_ (some 21) rfl rfl Try.func26 (by kernel_rfl) rfl #[.agg #[.int .i64 a0_0, .int .i64 a0_1, .slice A0_2 l0_2.length c0_2, .int .i64 a0_3, .int .i64 a0_4, .int .i64 a0_5, .int .i64 a0_6, .slice A0_7 l0_7.length c0_7]] rfl (by (try simp only [List.map_toArray, List.map_cons, List.map_nil]); first | done | rfl | (simp only [List.length_drop, List.length_take]; rfl)) ?_; (with_reducible refine (governorlaw14_Right.calls k a0_0 a0_1 _ _ l0_2 a0_3 a0_4 a0_5 a0_6 _ _ l0_7 true _ ?side1 ?side2 ?side3 ?side4 A9.out).mono ?_); (case side1 => repeat (first | exact (Kd.C_below HR0_2.out HB.out) | (with_reducible refine Kd.C_alloc ?_ _) | (with_reducible refine Kd.C_drewN ?_ _) | (with_reducible refine Kd.C_drew ?_))); (case side2 => exact HC0_2.out); (case side3 => repeat (first | exact (Kd.C_below HR0_7.out HB.out) | (with_reducible refine Kd.C_alloc ?_ _) | (with_reducible refine Kd.C_drewN ?_ _) | (with_reducible refine Kd.C_drew ?_))); (case side4 => exact HC0_7.out); rintro e w12 ⟨rfl, hb⟩; refine ⟨_, rfl, ?_⟩; have n0_ := Aside0.mk (blk_below (g := gb416) (o := .cells #[.int .i64 a0_0, .int .i64 a0_1, .slice A0_2 l0_2.length c0_2, .int .i64 a0_3, .int .i64 a0_4, .int .i64 a0_5, .int .i64 a0_6, .slice A0_7 l0_7.length c0_7] 45 (0, 0)) (by (with_reducible repeat (first | refine blk_drewN ?_ _ | refine blk_drew ?_ | refine blk_alloc ?_ _)); exact BK416.out) hb); have n1_ := Aside0.mk (below_step (by repeat (first | (with_reducible first | exact HB.out | apply below_alloc | apply pw_below_drewN | apply below_drew1 | refine below_set ?_ GE416.out) | exact HB.out)) hb); clear BK416; clear HB; have BK416 := n0_; have HB := n1_; clear n0_ n1_; (try clear hb); (try clear hb2); (try clear hk); (try clear hi)))
      go_meet
      case rel => exact ⟨_, (decide ((l2.length : Int) > 300)), (by first | rfl | (simp; done) | (simp [*]; done)), H', ⟨by first | omega | exact Nat.le_refl _⟩, ⟨by (with_reducible repeat (first | refine blk_drewN ?_ _ | refine blk_drew ?_ | refine blk_alloc ?_ _)); exact BK416.out⟩, ⟨by repeat (first | (with_reducible first | exact HB.out | apply below_alloc | apply pw_below_drewN | apply below_drew1 | refine below_set ?_ GE416.out) | exact HB.out)⟩⟩
    · replace c10 := Bool.eq_false_iff.mpr c10
      subst c10
      have H1 : (governorlaw14_PolicyRow.j0 k a1 l2 a3 t417 true a0_0 a0_1 l0_2 a0_3 a0_4 a0_5 a0_6 l0_7) = some r := by rw [if_neg (show ¬ (false = true) by decide)] at H; exact H
      clear H
      have H := H1
      clear H1
      have H' := Aside0.mk H
      clear H
      have hcz13_0 : w8.cell? ⟨gb416, 0, none⟩ = some (.int .i64 a0_0) := (blk_cell BK416.out 0).trans rfl
      have hcz13_1 : w8.cell? ⟨gb416, 1, none⟩ = some (.int .i64 a0_1) := (blk_cell BK416.out 1).trans rfl
      have hcz13_2 : w8.cell? ⟨gb416, 2, none⟩ = some (.slice A0_2 l0_2.length c0_2) := (blk_cell BK416.out 2).trans rfl
      have hcz13_3 : w8.cell? ⟨gb416, 3, none⟩ = some (.int .i64 a0_3) := (blk_cell BK416.out 3).trans rfl
      have hcz13_4 : w8.cell? ⟨gb416, 4, none⟩ = some (.int .i64 a0_4) := (blk_cell BK416.out 4).trans rfl
      have hcz13_5 : w8.cell? ⟨gb416, 5, none⟩ = some (.int .i64 a0_5) := (blk_cell BK416.out 5).trans rfl
      have hcz13_6 : w8.cell? ⟨gb416, 6, none⟩ = some (.int .i64 a0_6) := (blk_cell BK416.out 6).trans rfl
      have hcz13_7 : w8.cell? ⟨gb416, 7, none⟩ = some (.slice A0_7 l0_7.length c0_7) := (blk_cell BK416.out 7).trans rfl
      have hfz13_0 := blk_frozen BK416.out 0
      have hfz13_1 := blk_frozen BK416.out 1
      have hfz13_2 := blk_frozen BK416.out 2
      have hfz13_3 := blk_frozen BK416.out 3
      have hfz13_4 := blk_frozen BK416.out 4
      have hfz13_5 := blk_frozen BK416.out 5
      have hfz13_6 := blk_frozen BK416.out 6
      have hfz13_7 := blk_frozen BK416.out 7
      go_wp2_with (first | ((with_reducible refine gate_callee (f := 26) rfl ?_); refine goesL_ (some 21) rfl rfl Try.func26 (by kernel_rfl) rfl #[.agg #[.int .i64 a0_0, .int .i64 a0_1, .slice A0_2 l0_2.length c0_2, .int .i64 a0_3, .int .i64 a0_4, .int .i64 a0_5, .int .i64 a0_6, .slice A0_7 l0_7.length c0_7]] rfl (by (try simp only [List.map_toArray, List.map_cons, List.map_nil]); first | done | rfl | (simp only [List.length_drop, List.length_take]; rfl)) ?_; (with_reducible refine (governorlaw14_Right.calls k a0_0 a0_1 _ _ l0_2 a0_3 a0_4 a0_5 a0_6 _ _ l0_7 false _ ?side1 ?side2 ?side3 ?side4 A9.out).mono ?_); (case side1 => repeat (first | exact (Kd.C_below HR0_2.out HB.out) | (with_reducible refine Kd.C_alloc ?_ _) | (with_reducible refine Kd.C_drewN ?_ _) | (with_reducible refine Kd.C_drew ?_))); (case side2 => exact HC0_2.out); (case side3 => repeat (first | exact (Kd.C_below HR0_7.out HB.out) | (with_reducible refine Kd.C_alloc ?_ _) | (with_reducible refine Kd.C_drewN ?_ _) | (with_reducible refine Kd.C_drew ?_))); (case side4 => exact HC0_7.out); rintro e w14 ⟨rfl, hb⟩; refine ⟨_, rfl, ?_⟩; have n0_ := Aside0.mk (blk_below (g := gb416) (o := .cells #[.int .i64 a0_0, .int .i64 a0_1, .slice A0_2 l0_2.length c0_2, .int .i64 a0_3, .int .i64 a0_4, .int .i64 a0_5, .int .i64 a0_6, .slice A0_7 l0_7.length c0_7] 45 (0, 0)) (by (with_reducible repeat (first | refine blk_drewN ?_ _ | refine blk_drew ?_ | refine blk_alloc ?_ _)); exact BK416.out) hb); have n1_ := Aside0.mk (below_step (by repeat (first | (with_reducible first | exact HB.out | apply below_alloc | apply pw_below_drewN | apply below_drew1 | refine below_set ?_ GE416.out) | exact HB.out)) hb); clear BK416; clear HB; have BK416 := n0_; have HB := n1_; clear n0_ n1_; (try clear hb); (try clear hb2); (try clear hk); (try clear hi)))
      go_meet
      case rel => exact ⟨_, (true), (by first | rfl | (simp; done) | (simp [*]; done)), H', ⟨by first | omega | exact Nat.le_refl _⟩, ⟨by (with_reducible repeat (first | refine blk_drewN ?_ _ | refine blk_drew ?_ | refine blk_alloc ?_ _)); exact BK416.out⟩, ⟨by repeat (first | (with_reducible first | exact HB.out | apply below_alloc | apply pw_below_drewN | apply below_drew1 | refine below_set ?_ GE416.out) | exact HB.out)⟩⟩
  case rest =>
    clear HC6
    try clear c1
    try clear c2
    try clear p2
    try clear c10
    try clear c13
    try clear hcz11_0
    try clear hcz11_1
    try clear hcz11_2
    try clear hcz11_3
    try clear hcz11_4
    try clear hcz11_5
    try clear hcz11_6
    try clear hcz11_7
    try clear hcz13_0
    try clear hcz13_1
    try clear hcz13_2
    try clear hcz13_3
    try clear hcz13_4
    try clear hcz13_5
    try clear hcz13_6
    try clear hcz13_7
    try clear hfz11_0
    try clear hfz11_1
    try clear hfz11_2
    try clear hfz11_3
    try clear hfz11_4
    try clear hfz11_5
    try clear hfz11_6
    try clear hfz11_7
    try clear hfz13_0
    try clear hfz13_1
    try clear hfz13_2
    try clear hfz13_3
    try clear hfz13_4
    try clear hfz13_5
    try clear hfz13_6
    try clear hfz13_7
    obtain ⟨kq, x27_5, rfl, HA, HJ5, BK416, HB⟩ := hcut
    cases kq with
    | zero => exact absurd HA.out (by simp [governorlaw14_PolicyRow.j0])
    | succ kj5 =>
      have H := HA.out
      clear HA
      simp only [governorlaw14_PolicyRow.j0] at H
      by_cases c15 : x27_5 = true
      · subst c15
        have H1 : (some t417) = some r := by rw [if_pos rfl] at H; exact H
        clear H
        have H := H1
        clear H1
        obtain rfl := Option.some.inj H
        go_wp2
        go_ret
        exact ⟨by first | rfl | (simp [errW_none, errW_some] <;> rfl) | (simp [*, errW_none, errW_some] <;> rfl), by repeat (first | (with_reducible first | exact HB.out | apply below_alloc | apply pw_below_drewN | apply below_drew1 | refine below_set ?_ GE416.out) | exact HB.out)⟩
      · replace c15 := Bool.eq_false_iff.mpr c15
        subst c15
        have H1 : (governorlaw14_PolicyRow.l0 kj5 l2 a3 t417 (Int.tmod (wrap64 (a1)) 1001) (Int.tmod (wrap64 (a1)) 1001) 0 a0_0 a0_1 l0_2 a0_3 a0_4 a0_5 a0_6 l0_7 0 0 false 0 0 false) = some r := by rw [if_neg (show ¬ (false = true) by decide)] at H; exact H
        clear H
        have H := H1
        clear H1
        have H' := Aside0.mk H
        clear H
        go_wp2_with (first | ((with_reducible refine gate_dst (N := 10) rfl ?_); (try (refine gate_guard (by rfl) ?_; dsimp only)); refine box_event ?hg (N := 10) ?hd (cs := #[.int .i64 0, .int .i64 0, .bool false]) (t := 47) ?hr ?_; (case hd => rfl); (case hg => rfl); (case hr => first | (go_simp; done) | (go_simp; rfl)); intro gb419 hg w16 hbox hb; have n0_ := Aside0.mk (blk_below (g := gb416) (o := .cells #[.int .i64 a0_0, .int .i64 a0_1, .slice A0_2 l0_2.length c0_2, .int .i64 a0_3, .int .i64 a0_4, .int .i64 a0_5, .int .i64 a0_6, .slice A0_7 l0_7.length c0_7] 45 (0, 0)) (by (with_reducible repeat (first | refine blk_drewN ?_ _ | refine blk_drew ?_ | refine blk_alloc ?_ _)); exact BK416.out) hb); have n1_ := Aside0.mk (below_step (by repeat (first | (with_reducible first | exact HB.out | apply below_alloc | apply pw_below_drewN | apply below_drew1 | refine below_set ?_ GE416.out) | exact HB.out)) hb); have n2_ := Aside0.mk (hbox); have n3_ := Aside0.mk ((by rw [hg]; exact (below_size (by repeat (first | (with_reducible first | exact HB.out | apply below_alloc | apply pw_below_drewN | apply below_drew1 | refine below_set ?_ GE416.out) | exact HB.out))) : w.heap.size ≤ gb419)); have n4_ := Aside0.mk ((by rw [hg]; exact (below_size (by repeat (first | (with_reducible first | exact HB.out | apply below_alloc | apply pw_below_drewN | apply below_drew1 | refine below_set ?_ GE416.out) | exact HB.out))) : w.heap.size ≤ gb419)); have n5_ := Aside0.mk ((by rw [hg]; exact Nat.ne_of_lt (blk_lt (g := gb416) (o := .cells #[.int .i64 a0_0, .int .i64 a0_1, .slice A0_2 l0_2.length c0_2, .int .i64 a0_3, .int .i64 a0_4, .int .i64 a0_5, .int .i64 a0_6, .slice A0_7 l0_7.length c0_7] 45 (0, 0)) (by (with_reducible repeat (first | refine blk_drewN ?_ _ | refine blk_drew ?_ | refine blk_alloc ?_ _)); exact BK416.out)) : gb416 ≠ gb419)); have n6_ := Aside0.mk ((by rw [hg]; exact Nat.ne_of_gt (blk_lt (g := gb416) (o := .cells #[.int .i64 a0_0, .int .i64 a0_1, .slice A0_2 l0_2.length c0_2, .int .i64 a0_3, .int .i64 a0_4, .int .i64 a0_5, .int .i64 a0_6, .slice A0_7 l0_7.length c0_7] 45 (0, 0)) (by (with_reducible repeat (first | refine blk_drewN ?_ _ | refine blk_drew ?_ | refine blk_alloc ?_ _)); exact BK416.out)) : gb419 ≠ gb416)); clear BK416; clear HB; have BK416 := n0_; have HB := n1_; have BK419 := n2_; have GW419 := n3_; have GE419 := n4_; have NB416_419 := n5_; have NB419_416 := n6_; clear n0_ n1_ n2_ n3_ n4_ n5_ n6_; clear hb hbox hg) | ((with_reducible refine gate_dst (N := 11) rfl ?_); (try (refine gate_guard (by rfl) ?_; dsimp only)); refine box_event ?hg (N := 11) ?hd (cs := #[.int .i64 0, .int .i64 0, .bool false]) (t := 47) ?hr ?_; (case hd => rfl); (case hg => rfl); (case hr => first | (go_simp; done) | (go_simp; rfl)); intro gb420 hg w17 hbox hb; have n0_ := Aside0.mk (blk_below (g := gb416) (o := .cells #[.int .i64 a0_0, .int .i64 a0_1, .slice A0_2 l0_2.length c0_2, .int .i64 a0_3, .int .i64 a0_4, .int .i64 a0_5, .int .i64 a0_6, .slice A0_7 l0_7.length c0_7] 45 (0, 0)) (by (with_reducible repeat (first | refine blk_drewN ?_ _ | refine blk_drew ?_ | refine blk_alloc ?_ _)); exact BK416.out) hb); have n1_ := Aside0.mk (blk_below (g := gb419) (o := .cells #[.int .i64 0, .int .i64 0, .bool false] 47 (0, 0)) (by (with_reducible repeat (first | refine blk_drewN ?_ _ | refine blk_drew ?_ | refine blk_alloc ?_ _)); exact BK419.out) hb); have n2_ := Aside0.mk (below_step (by repeat (first | (with_reducible first | exact HB.out | apply below_alloc | apply pw_below_drewN | apply below_drew1 | refine below_set ?_ GE416.out | refine below_set ?_ GE419.out) | exact HB.out)) hb); have n3_ := Aside0.mk (hbox); have n4_ := Aside0.mk ((by rw [hg]; exact (below_size (by repeat (first | (with_reducible first | exact HB.out | apply below_alloc | apply pw_below_drewN | apply below_drew1 | refine below_set ?_ GE416.out | refine below_set ?_ GE419.out) | exact HB.out))) : w.heap.size ≤ gb420)); have n5_ := Aside0.mk ((by rw [hg]; exact (below_size (by repeat (first | (with_reducible first | exact HB.out | apply below_alloc | apply pw_below_drewN | apply below_drew1 | refine below_set ?_ GE416.out | refine below_set ?_ GE419.out) | exact HB.out))) : w.heap.size ≤ gb420)); have n6_ := Aside0.mk ((by rw [hg]; exact Nat.ne_of_lt (blk_lt (g := gb416) (o := .cells #[.int .i64 a0_0, .int .i64 a0_1, .slice A0_2 l0_2.length c0_2, .int .i64 a0_3, .int .i64 a0_4, .int .i64 a0_5, .int .i64 a0_6, .slice A0_7 l0_7.length c0_7] 45 (0, 0)) (by (with_reducible repeat (first | refine blk_drewN ?_ _ | refine blk_drew ?_ | refine blk_alloc ?_ _)); exact BK416.out)) : gb416 ≠ gb420)); have n7_ := Aside0.mk ((by rw [hg]; exact Nat.ne_of_gt (blk_lt (g := gb416) (o := .cells #[.int .i64 a0_0, .int .i64 a0_1, .slice A0_2 l0_2.length c0_2, .int .i64 a0_3, .int .i64 a0_4, .int .i64 a0_5, .int .i64 a0_6, .slice A0_7 l0_7.length c0_7] 45 (0, 0)) (by (with_reducible repeat (first | refine blk_drewN ?_ _ | refine blk_drew ?_ | refine blk_alloc ?_ _)); exact BK416.out)) : gb420 ≠ gb416)); have n8_ := Aside0.mk ((by rw [hg]; exact Nat.ne_of_lt (blk_lt (g := gb419) (o := .cells #[.int .i64 0, .int .i64 0, .bool false] 47 (0, 0)) (by (with_reducible repeat (first | refine blk_drewN ?_ _ | refine blk_drew ?_ | refine blk_alloc ?_ _)); exact BK419.out)) : gb419 ≠ gb420)); have n9_ := Aside0.mk ((by rw [hg]; exact Nat.ne_of_gt (blk_lt (g := gb419) (o := .cells #[.int .i64 0, .int .i64 0, .bool false] 47 (0, 0)) (by (with_reducible repeat (first | refine blk_drewN ?_ _ | refine blk_drew ?_ | refine blk_alloc ?_ _)); exact BK419.out)) : gb420 ≠ gb419)); clear BK416; clear BK419; clear HB; have BK416 := n0_; have BK419 := n1_; have HB := n2_; have BK420 := n3_; have GW420 := n4_; have GE420 := n5_; have NB416_420 := n6_; have NB420_416 := n7_; have NB419_420 := n8_; have NB420_419 := n9_; clear n0_ n1_ n2_ n3_ n4_ n5_ n6_ n7_ n8_ n9_; clear hb hbox hg))
        go_loopg [12, 13, 14] kj5 (fun kq v12 v13 v14 w' => ∃ (x12_2 : Int) (x13_2 : Int) (x14_2 : Int) (x420000_2 : Int) (x420001_2 : Int) (x420002_2 : Bool) (x421000_2 : Int) (x421001_2 : Int) (x421002_2 : Bool), v12 = .int .i64 x12_2 ∧ v13 = .int .i64 x13_2 ∧ v14 = .int .i64 x14_2 ∧ Aside0 (governorlaw14_PolicyRow.l0 kq l2 a3 t417 x12_2 x13_2 x14_2 a0_0 a0_1 l0_2 a0_3 a0_4 a0_5 a0_6 l0_7 x420000_2 x420001_2 x420002_2 x421000_2 x421001_2 x421002_2 = some r) ∧ Aside0 (kq ≤ kj5) ∧ Aside0 (w'.heap[gb416]? = some (.cells #[.int .i64 a0_0, .int .i64 a0_1, (.slice A0_2 l0_2.length c0_2), .int .i64 a0_3, .int .i64 a0_4, .int .i64 a0_5, .int .i64 a0_6, (.slice A0_7 l0_7.length c0_7)] 45 (0, 0))) ∧ Aside0 (w'.heap[gb419]? = some (.cells #[.int .i64 x420000_2, .int .i64 x420001_2, .bool x420002_2] 47 (0, 0))) ∧ Aside0 (w'.heap[gb420]? = some (.cells #[.int .i64 x421000_2, .int .i64 x421001_2, .bool x421002_2] 47 (0, 0))) ∧ Aside0 (Below w.heap.size w w'))
        case atStart => exact ⟨(Int.tmod (wrap64 (a1)) 1001), (Int.tmod (wrap64 (a1)) 1001), (0), (0), (0), (false), (0), (0), (false), (by first | rfl | (simp; done) | (simp [*]; done)), (by first | rfl | (simp; done) | (simp [*]; done)), (by first | rfl | (simp; done) | (simp [*]; done)), H', ⟨Nat.le_refl _⟩, ⟨by (with_reducible repeat (first | refine blk_drewN ?_ _ | refine blk_drew ?_ | refine blk_alloc ?_ _)); exact BK416.out⟩, ⟨by (with_reducible repeat (first | refine blk_drewN ?_ _ | refine blk_drew ?_ | refine blk_alloc ?_ _)); exact BK419.out⟩, ⟨by (with_reducible repeat (first | refine blk_drewN ?_ _ | refine blk_drew ?_ | refine blk_alloc ?_ _)); exact BK420.out⟩, ⟨by repeat (first | (with_reducible first | exact HB.out | apply below_alloc | apply pw_below_drewN | apply below_drew1 | refine below_set ?_ GE416.out | refine below_set ?_ GE419.out | refine below_set ?_ GE420.out) | exact HB.out)⟩⟩
        case round =>
          clear H'
          try clear c1
          try clear c2
          try clear p2
          try clear p6
          try clear c10
          try clear c13
          try clear c15
          try clear hcz11_0
          try clear hcz11_1
          try clear hcz11_2
          try clear hcz11_3
          try clear hcz11_4
          try clear hcz11_5
          try clear hcz11_6
          try clear hcz11_7
          try clear hcz13_0
          try clear hcz13_1
          try clear hcz13_2
          try clear hcz13_3
          try clear hcz13_4
          try clear hcz13_5
          try clear hcz13_6
          try clear hcz13_7
          try clear hfz11_0
          try clear hfz11_1
          try clear hfz11_2
          try clear hfz11_3
          try clear hfz11_4
          try clear hfz11_5
          try clear hfz11_6
          try clear hfz11_7
          try clear hfz13_0
          try clear hfz13_1
          try clear hfz13_2
          try clear hfz13_3
          try clear hfz13_4
          try clear hfz13_5
          try clear hfz13_6
          try clear hfz13_7
          try clear p2
          obtain ⟨x12_2, x13_2, x14_2, x420000_2, x420001_2, x420002_2, x421000_2, x421001_2, x421002_2, rfl, rfl, rfl, HA, HK2, BK416, BK419, BK420, HB⟩ := hrel
          cases gk with
          | zero => exact absurd HA.out (by simp [governorlaw14_PolicyRow.l0])
          | succ k2 =>
            have H := HA.out
            clear HA
            simp only [governorlaw14_PolicyRow.l0] at H
            by_cases c18 : x14_2 < (l2.length : Int)
            · rw [if_pos c18] at H
              have c18b0 : decide (x14_2 < (l2.length : Int)) = true := decide_eq_true c18
              clear c18
              by_cases c19 : 0 ≤ x14_2
              · rw [if_pos c19] at H
                have c19b0 : decide (0 ≤ x14_2) = true := decide_eq_true c19
                clear c19
                replace H := Option.bind_eq_some_iff.mp H
                obtain ⟨⟨t422, t423, t424, t425⟩, A200, H⟩ := H
                replace H : ((governorref14_Next.f k2 a0_0 a0_1 l0_2 a0_3 a0_4 a0_5 a0_6 l0_7 x421000_2 x421001_2 x421002_2 x13_2 (rd l2 x14_2) (wrap64 ((wrap64 (a3)) + x14_2))).bind fun bt428 => (if (!(t422 == bt428.1) || (!(t423 == bt428.2.1) || (!(t424 == bt428.2.2.1)))) = true then (some false) else (if t425 = bt428.2.2.2 then (governorlaw14_PolicyRow.l0 k2 l2 a3 t417 t425 bt428.2.2.2 (wrap64 (x14_2 + 1)) a0_0 a0_1 l0_2 a0_3 a0_4 a0_5 a0_6 l0_7 t422 t423 t424 bt428.1 bt428.2.1 bt428.2.2.1) else (some false)))) = some r := H
                have A20 := Aside0.mk A200
                clear A200
                replace H := Option.bind_eq_some_iff.mp H
                obtain ⟨⟨t428, t429, t430, t431⟩, A210, H⟩ := H
                replace H : (if (!(t422 == t428) || (!(t423 == t429) || (!(t424 == t430)))) = true then (some false) else (if t425 = t431 then (governorlaw14_PolicyRow.l0 k2 l2 a3 t417 t425 t431 (wrap64 (x14_2 + 1)) a0_0 a0_1 l0_2 a0_3 a0_4 a0_5 a0_6 l0_7 t422 t423 t424 t428 t429 t430) else (some false))) = some r := H
                have A21 := Aside0.mk A210
                clear A210
                by_cases c22 : (!(t422 == t428) || (!(t423 == t429) || (!(t424 == t430)))) = true
                · rw [if_pos c22] at H
                  have c22b0 : (!(t422 == t428) || (!(t423 == t429) || (!(t424 == t430)))) = true := c22
                  clear c22
                  exact absurd (Option.some.inj H) (by rw [HRT.out]; decide)
                · rw [if_neg c22] at H
                  have c22b0 : (!(t422 == t428) || (!(t423 == t429) || (!(t424 == t430)))) = false := by simpa using c22
                  clear c22
                  by_cases c23 : t425 = t431
                  · rw [if_pos c23] at H
                    have c23b0 : (t425 == t431) = true := beq_iff_eq.mpr c23
                    have c23b1 : (t425 != t431) = false := bne_eq_false_iff_eq.mpr c23
                    clear c23
                    have H' := Aside0.mk H
                    clear H
                    try go_wp2
                    have n0_ := Aside0.mk (blk_drew BK416.out)
                    have n1_ := Aside0.mk (blk_drew BK419.out)
                    have n2_ := Aside0.mk (blk_drew BK420.out)
                    have n3_ := Aside0.mk (below_drew1 HB.out)
                    clear BK416
                    clear BK419
                    clear BK420
                    clear HB
                    have BK416 := n0_
                    have BK419 := n1_
                    have BK420 := n2_
                    have HB := n3_
                    clear n0_ n1_ n2_ n3_
                    have p421 : 0 ≤ (x14_2 : Int) := of_decide_eq_true (by first | (with_reducible assumption) | assumption)
                    have q421 : x14_2 < (l2.length : Int) := of_decide_eq_true (by first | (with_reducible assumption) | assumption)
                    obtain ⟨ad421, e421, hx421_0⟩ := Kd.at_int HR2.out x14_2 p421 q421
                    have hw421_0 := hx421_0
                    cases e421
                    replace hx421_0 := (HB.out.cell (World.block_lt_of_cell? w _ hx421_0)).trans hx421_0
                    replace p421 := eq_true p421
                    replace q421 := eq_true q421
                    refine start_ (n := 18) (S := fun w' => w'.cell? ⟨gb416, 0, none⟩ = some (.int .i64 a0_0) ∧ w'.cell? ⟨gb416, 1, none⟩ = some (.int .i64 a0_1) ∧ w'.cell? ⟨gb416, 2, none⟩ = some (.slice A0_2 l0_2.length c0_2) ∧ w'.cell? ⟨gb416, 3, none⟩ = some (.int .i64 a0_3) ∧ w'.cell? ⟨gb416, 4, none⟩ = some (.int .i64 a0_4) ∧ w'.cell? ⟨gb416, 5, none⟩ = some (.int .i64 a0_5) ∧ w'.cell? ⟨gb416, 6, none⟩ = some (.int .i64 a0_6) ∧ w'.cell? ⟨gb416, 7, none⟩ = some (.slice A0_7 l0_7.length c0_7) ∧ w'.cell? ⟨gb419, 0, none⟩ = some (.int .i64 x420000_2) ∧ w'.cell? ⟨gb419, 1, none⟩ = some (.int .i64 x420001_2) ∧ w'.cell? ⟨gb419, 2, none⟩ = some (.bool x420002_2) ∧ w'.cell? (ad421.add (x14_2).toNat) = some (.int .i64 (rd l2 x14_2))) (ds := []) #[false, false, false, false, false, false, false, false, false, false, false, false, false, false, false, false, false, false] (by kernel_rfl) rfl rfl ⟨(blk_cell BK416.out 0).trans rfl, (blk_cell BK416.out 1).trans rfl, (blk_cell BK416.out 2).trans rfl, (blk_cell BK416.out 3).trans rfl, (blk_cell BK416.out 4).trans rfl, (blk_cell BK416.out 5).trans rfl, (blk_cell BK416.out 6).trans rfl, (blk_cell BK416.out 7).trans rfl, (blk_cell BK419.out 0).trans rfl, (blk_cell BK419.out 1).trans rfl, (blk_cell BK419.out 2).trans rfl, ((HB.out.cell (World.block_lt_of_cell? w _ hw421_0)).trans hw421_0)⟩ (fun hHeld => ?_); refine with_tabW governorlaw14_PolicyRow.tab11 governorlaw14_PolicyRow.bits11 (fun HT_ HW_ => ?_)
                    generalize wr.drew = w24 at BK416 BK419 BK420 HB hx421_0 hHeld ⊢
                    refine pure_ (i := 2) (N := some 42) (v := ?_) (a' := ?_) #[false, false, true, false, false, false, false, false, false, false, false, false, false, false, false, false, false, false] rfl rfl (any_of HT_.out (by kernel_rfl)) (fun _ _ _ h => h) (Or.inl ⟨by rfl, ?_⟩) ?_ ?_
                    rotate_left
                    · intro w'
                      go_simp
                      with_reducible rfl
                    rotate_left
                    · simp only [Act.put, List.setIfInBounds_toArray, List.set_cons_zero, List.set_cons_succ, i64_w, i32_w]
                      rfl
                    refine pure_ (i := 3) (N := some 43) (v := ?_) (a' := ?_) #[false, false, true, true, false, false, false, false, false, false, false, false, false, false, false, false, false, false] rfl rfl (any_of HT_.out (by kernel_rfl)) (fun _ _ _ h => h) (Or.inl ⟨by rfl, ?_⟩) ?_ ?_
                    rotate_left
                    · intro w'
                      go_simp
                      with_reducible rfl
                    rotate_left
                    · simp only [Act.put, List.setIfInBounds_toArray, List.set_cons_zero, List.set_cons_succ, i64_w, i32_w]
                      rfl
                    refine pure_ (i := 4) (N := some 44) (v := ?_) (a' := ?_) #[false, false, true, true, true, false, false, false, false, false, false, false, false, false, false, false, false, false] rfl rfl (any_of HT_.out (by kernel_rfl)) (fun _ _ _ h => h) (Or.inl ⟨by rfl, ?_⟩) ?_ ?_
                    rotate_left
                    · intro w'
                      go_simp
                      with_reducible rfl
                    rotate_left
                    · simp only [Act.put, List.setIfInBounds_toArray, List.set_cons_zero, List.set_cons_succ, i64_w, i32_w]
                      rfl
                    refine pure_ (i := 5) (N := some 45) (v := ?_) (a' := ?_) #[false, false, true, true, true, true, false, false, false, false, false, false, false, false, false, false, false, false] rfl rfl (any_of HT_.out (by kernel_rfl)) (fun _ _ _ h => h) (Or.inl ⟨by rfl, ?_⟩) ?_ ?_
                    rotate_left
                    · intro w'
                      go_simp
                      with_reducible rfl
                    rotate_left
                    · simp only [Act.put, List.setIfInBounds_toArray, List.set_cons_zero, List.set_cons_succ, i64_w, i32_w]
                      rfl
                    refine pure_ (i := 7) (N := some 47) (v := ?_) (a' := ?_) #[false, false, true, true, true, true, false, true, false, false, false, false, false, false, false, false, false, false] rfl rfl (any_of HT_.out (by kernel_rfl)) (fun _ _ _ h => h) (Or.inl ⟨by rfl, ?_⟩) ?_ ?_
                    rotate_left
                    · intro w'
                      go_simp
                      with_reducible rfl
                    rotate_left
                    · simp only [Act.put, List.setIfInBounds_toArray, List.set_cons_zero, List.set_cons_succ, i64_w, i32_w]
                      rfl
                    refine pure_ (i := 8) (N := some 48) (v := ?_) (a' := ?_) #[false, false, true, true, true, true, false, true, true, false, false, false, false, false, false, false, false, false] rfl rfl (any_of HT_.out (by kernel_rfl)) (fun _ _ _ h => h) (Or.inl ⟨by rfl, ?_⟩) ?_ ?_
                    rotate_left
                    · intro w'
                      go_simp
                      with_reducible rfl
                    rotate_left
                    · simp only [Act.put, List.setIfInBounds_toArray, List.set_cons_zero, List.set_cons_succ, i64_w, i32_w]
                      rfl
                    refine pure_ (i := 9) (N := some 49) (v := ?_) (a' := ?_) #[false, false, true, true, true, true, false, true, true, true, false, false, false, false, false, false, false, false] rfl rfl (any_of HT_.out (by kernel_rfl)) (fun _ _ _ h => h) (Or.inl ⟨by rfl, ?_⟩) ?_ ?_
                    rotate_left
                    · intro w'
                      go_simp
                      with_reducible rfl
                    rotate_left
                    · simp only [Act.put, List.setIfInBounds_toArray, List.set_cons_zero, List.set_cons_succ, i64_w, i32_w]
                      rfl
                    refine pure_ (i := 10) (N := some 50) (v := ?_) (a' := ?_) #[false, false, true, true, true, true, false, true, true, true, true, false, false, false, false, false, false, false] rfl rfl (any_of HT_.out (by kernel_rfl)) (fun _ _ _ h => h) (Or.inl ⟨by rfl, ?_⟩) ?_ ?_
                    rotate_left
                    · intro w'
                      go_simp
                      with_reducible rfl
                    rotate_left
                    · simp only [Act.put, List.setIfInBounds_toArray, List.set_cons_zero, List.set_cons_succ, i64_w, i32_w]
                      rfl
                    refine take_ (i := 0) (N := some 40) (v := ?_) (a' := ?_) #[true, false, true, true, true, true, false, true, true, true, true, false, false, false, false, false, false, false] rfl rfl (take_ofW HT_.out HW_.out (by kernel_rfl)) (fun _ _ _ h => h) (Or.inl ⟨by rfl, ?_⟩) hHeld ?_ ?_
                    rotate_left
                    · rintro w' ⟨s0, s1, s2, s3, s4, s5, s6, s7, s8, s9, s10, s11⟩
                      go_simp
                      with_reducible rfl
                    rotate_left
                    · simp only [Act.put, List.setIfInBounds_toArray, List.set_cons_zero, List.set_cons_succ, i64_w, i32_w]
                      rfl
                    refine take_ (i := 1) (N := some 41) (v := ?_) (a' := ?_) #[true, true, true, true, true, true, false, true, true, true, true, false, false, false, false, false, false, false] rfl rfl (take_ofW HT_.out HW_.out (by kernel_rfl)) (fun _ _ _ h => h) (Or.inl ⟨by rfl, ?_⟩) hHeld ?_ ?_
                    rotate_left
                    · rintro w' ⟨s0, s1, s2, s3, s4, s5, s6, s7, s8, s9, s10, s11⟩
                      go_simp
                      with_reducible rfl
                    rotate_left
                    · simp only [Act.put, List.setIfInBounds_toArray, List.set_cons_zero, List.set_cons_succ, i64_w, i32_w]
                      rfl
                    refine take_ (i := 6) (N := some 46) (v := ?_) (a' := ?_) #[true, true, true, true, true, true, true, true, true, true, true, false, false, false, false, false, false, false] rfl rfl (take_ofW HT_.out HW_.out (by kernel_rfl)) (fun _ _ _ h => h) (Or.inl ⟨by rfl, ?_⟩) hHeld ?_ ?_
                    rotate_left
                    · rintro w' ⟨s0, s1, s2, s3, s4, s5, s6, s7, s8, s9, s10, s11⟩
                      go_simp
                      with_reducible rfl
                    rotate_left
                    · simp only [Act.put, List.setIfInBounds_toArray, List.set_cons_zero, List.set_cons_succ, i64_w, i32_w]
                      rfl
                    refine join_ (σ := Nat) 2 #[true, true, true, true, true, true, true, true, true, true, true, true, true, true, true, true, false, false] (fun s_ => [(51, .tuple #[.agg #[.int .i64 t422, .int .i64 t423, .bool t424], .int .i64 t425]), (15, .pointer (some ⟨s_, 0, none⟩)), (39, .tuple #[.agg #[.int .i64 t422, .int .i64 t423, .bool t424], .int .i64 t425]), (52, .agg #[.int .i64 t422, .int .i64 t423, .bool t424]), (53, .int .i64 t425)]) (fun s_ w' => (w'.cell? ⟨gb416, 0, none⟩ = some (.int .i64 a0_0) ∧ w'.cell? ⟨gb416, 1, none⟩ = some (.int .i64 a0_1) ∧ w'.cell? ⟨gb416, 2, none⟩ = some (.slice A0_2 l0_2.length c0_2) ∧ w'.cell? ⟨gb416, 3, none⟩ = some (.int .i64 a0_3) ∧ w'.cell? ⟨gb416, 4, none⟩ = some (.int .i64 a0_4) ∧ w'.cell? ⟨gb416, 5, none⟩ = some (.int .i64 a0_5) ∧ w'.cell? ⟨gb416, 6, none⟩ = some (.int .i64 a0_6) ∧ w'.cell? ⟨gb416, 7, none⟩ = some (.slice A0_7 l0_7.length c0_7) ∧ w'.cell? ⟨gb419, 0, none⟩ = some (.int .i64 x420000_2) ∧ w'.cell? ⟨gb419, 1, none⟩ = some (.int .i64 x420001_2) ∧ w'.cell? ⟨gb419, 2, none⟩ = some (.bool x420002_2) ∧ w'.cell? (ad421.add (x14_2).toNat) = some (.int .i64 (rd l2 x14_2))) ∧ (w'.heap[gb416]? = some (.cells #[.int .i64 a0_0, .int .i64 a0_1, .slice A0_2 l0_2.length c0_2, .int .i64 a0_3, .int .i64 a0_4, .int .i64 a0_5, .int .i64 a0_6, .slice A0_7 l0_7.length c0_7] 45 (0, 0))) ∧ (w'.heap[gb419]? = some (.cells #[.int .i64 x420000_2, .int .i64 x420001_2, .bool x420002_2] 47 (0, 0))) ∧ (w'.heap[gb420]? = some (.cells #[.int .i64 x421000_2, .int .i64 x421001_2, .bool x421002_2] 47 (0, 0))) ∧ (w'.heap[s_]? = some (.cells #[.int .i64 0, .int .i64 0, .bool false] 47 (0, 0))) ∧ (w.heap.size ≤ s_) ∧ (w.heap.size ≤ s_) ∧ (gb416 ≠ s_) ∧ (s_ ≠ gb416) ∧ (gb419 ≠ s_) ∧ (s_ ≠ gb419) ∧ (gb420 ≠ s_) ∧ (s_ ≠ gb420) ∧ (Below w.heap.size w w')) ?_ ?_
                    rotate_left
                    · intro hCont
                      refine two_ (i := 11) (j := 15) (Ni := some 51) (Nj := some 15) #[true, true, true, true, true, true, true, true, true, true, true, true, false, false, false, false, false, false] #[true, true, true, true, true, true, true, true, true, true, true, false, false, false, false, true, false, false] rfl rfl rfl rfl (two_of HT_.out (by kernel_rfl)) (by decide) (by decide) (fun K hK => ?_) (fun K hK => ?_)
                      · skip
                        refine goes_ Try.func27 (by kernel_rfl) rfl #[.agg #[.int .i64 a0_0, .int .i64 a0_1, .slice A0_2 l0_2.length c0_2, .int .i64 a0_3, .int .i64 a0_4, .int .i64 a0_5, .int .i64 a0_6, .slice A0_7 l0_7.length c0_7], .agg #[.int .i64 x420000_2, .int .i64 x420001_2, .bool x420002_2], .int .i64 x12_2, .int .i64 (rd l2 x14_2), .int .i64 (wrap64 ((wrap64 (a3)) + x14_2))] (by rfl) rfl rfl (by (try simp only [List.map_toArray, List.map_cons, List.map_nil]); first | done | rfl | (simp only [List.length_drop, List.length_take]; rfl)) ?_
                        with_reducible refine (policy_Next.calls k2 a0_0 a0_1 _ _ l0_2 a0_3 a0_4 a0_5 a0_6 _ _ l0_7 x420000_2 x420001_2 x420002_2 x12_2 (rd l2 x14_2) (wrap64 ((wrap64 (a3)) + x14_2)) t422 t423 t424 t425 _ ?side1 ?side2 ?side3 ?side4 A20.out).mono ?_
                        (case side1 => repeat (first | exact (Kd.C_below HR0_2.out HB.out) | (with_reducible refine Kd.C_alloc ?_ _) | (with_reducible refine Kd.C_drewN ?_ _) | (with_reducible refine Kd.C_drew ?_)))
                        (case side2 => exact HC0_2.out)
                        (case side3 => repeat (first | exact (Kd.C_below HR0_7.out HB.out) | (with_reducible refine Kd.C_alloc ?_ _) | (with_reducible refine Kd.C_drewN ?_ _) | (with_reducible refine Kd.C_drew ?_)))
                        (case side4 => exact HC0_7.out)
                        rintro e w25 ⟨rfl, hb⟩
                        refine ⟨_, rfl, ?_⟩
                        have n0_ := Aside0.mk (blk_below (g := gb416) (o := .cells #[.int .i64 a0_0, .int .i64 a0_1, .slice A0_2 l0_2.length c0_2, .int .i64 a0_3, .int .i64 a0_4, .int .i64 a0_5, .int .i64 a0_6, .slice A0_7 l0_7.length c0_7] 45 (0, 0)) (by (with_reducible repeat (first | refine blk_drewN ?_ _ | refine blk_drew ?_ | refine blk_alloc ?_ _)); exact BK416.out) hb)
                        have n1_ := Aside0.mk (blk_below (g := gb419) (o := .cells #[.int .i64 x420000_2, .int .i64 x420001_2, .bool x420002_2] 47 (0, 0)) (by (with_reducible repeat (first | refine blk_drewN ?_ _ | refine blk_drew ?_ | refine blk_alloc ?_ _)); exact BK419.out) hb)
                        have n2_ := Aside0.mk (blk_below (g := gb420) (o := .cells #[.int .i64 x421000_2, .int .i64 x421001_2, .bool x421002_2] 47 (0, 0)) (by (with_reducible repeat (first | refine blk_drewN ?_ _ | refine blk_drew ?_ | refine blk_alloc ?_ _)); exact BK420.out) hb)
                        have n3_ := Aside0.mk (below_step (by repeat (first | (with_reducible first | exact HB.out | apply below_alloc | apply pw_below_drewN | apply below_drew1 | refine below_set ?_ GE416.out | refine below_set ?_ GE419.out | refine below_set ?_ GE420.out) | exact HB.out)) hb)
                        clear BK416
                        clear BK419
                        clear BK420
                        clear HB
                        have BK416 := n0_
                        have BK419 := n1_
                        have BK420 := n2_
                        have HB := n3_
                        clear n0_ n1_ n2_ n3_
                        (try clear hb)
                        (try clear hb2)
                        (try clear hk)
                        (try clear hi)
                        refine hK.out _ _ ⟨(blk_cell BK416.out 0).trans rfl, (blk_cell BK416.out 1).trans rfl, (blk_cell BK416.out 2).trans rfl, (blk_cell BK416.out 3).trans rfl, (blk_cell BK416.out 4).trans rfl, (blk_cell BK416.out 5).trans rfl, (blk_cell BK416.out 6).trans rfl, (blk_cell BK416.out 7).trans rfl, (blk_cell BK419.out 0).trans rfl, (blk_cell BK419.out 1).trans rfl, (blk_cell BK419.out 2).trans rfl, ((HB.out.cell (World.block_lt_of_cell? w _ hw421_0)).trans hw421_0)⟩ (fun hHeld => ?_)
                        clear hK K
                        refine norm_ (a' := ?_) ?_ ?_
                        rotate_left
                        · show Act.put _ (some 51) _ = _
                          simp only [Act.put, List.setIfInBounds_toArray, List.set_cons_zero, List.set_cons_succ, i64_w, i32_w]
                          rfl
                        refine pure_ (i := 12) (N := some 39) (v := ?_) (a' := ?_) #[true, true, true, true, true, true, true, true, true, true, true, true, true, false, false, false, false, false] rfl rfl (any_of HT_.out (by kernel_rfl)) (fun _ _ _ h => h) (Or.inl ⟨by rfl, ?_⟩) ?_ ?_
                        rotate_left
                        · intro w'
                          go_simp
                          with_reducible rfl
                        rotate_left
                        · simp only [Act.put, List.setIfInBounds_toArray, List.set_cons_zero, List.set_cons_succ, i64_w, i32_w]
                          rfl
                        refine pure_ (i := 13) (N := some 52) (v := ?_) (a' := ?_) #[true, true, true, true, true, true, true, true, true, true, true, true, true, true, false, false, false, false] rfl rfl (any_of HT_.out (by kernel_rfl)) (fun _ _ _ h => h) (Or.inl ⟨by rfl, ?_⟩) ?_ ?_
                        rotate_left
                        · intro w'
                          go_simp
                          with_reducible rfl
                        rotate_left
                        · simp only [Act.put, List.setIfInBounds_toArray, List.set_cons_zero, List.set_cons_succ, i64_w, i32_w]
                          rfl
                        refine pure_ (i := 14) (N := some 53) (v := ?_) (a' := ?_) #[true, true, true, true, true, true, true, true, true, true, true, true, true, true, true, false, false, false] rfl rfl (any_of HT_.out (by kernel_rfl)) (fun _ _ _ h => h) (Or.inl ⟨by rfl, ?_⟩) ?_ ?_
                        rotate_left
                        · intro w'
                          go_simp
                          with_reducible rfl
                        rotate_left
                        · simp only [Act.put, List.setIfInBounds_toArray, List.set_cons_zero, List.set_cons_succ, i64_w, i32_w]
                          rfl
                        refine one_ (i := 15) (N := some 15) #[true, true, true, true, true, true, true, true, true, true, true, true, true, true, true, true, false, false] rfl rfl (one_of HT_.out (by kernel_rfl)) (by decide) (fun K hK => ?_)
                        refine box_step ?hg (N := 15) ?hd (cs := #[.int .i64 0, .int .i64 0, .bool false]) (t := 47) ?hr ?_; (case hd => rfl); (case hg => rfl); (case hr => first | (go_simp; done) | (go_simp; rfl))
                        intro gb426 hg w26 hbox hb
                        have n0_ := Aside0.mk (blk_below (g := gb416) (o := .cells #[.int .i64 a0_0, .int .i64 a0_1, .slice A0_2 l0_2.length c0_2, .int .i64 a0_3, .int .i64 a0_4, .int .i64 a0_5, .int .i64 a0_6, .slice A0_7 l0_7.length c0_7] 45 (0, 0)) (by (with_reducible repeat (first | refine blk_drewN ?_ _ | refine blk_drew ?_ | refine blk_alloc ?_ _)); exact BK416.out) hb)
                        have n1_ := Aside0.mk (blk_below (g := gb419) (o := .cells #[.int .i64 x420000_2, .int .i64 x420001_2, .bool x420002_2] 47 (0, 0)) (by (with_reducible repeat (first | refine blk_drewN ?_ _ | refine blk_drew ?_ | refine blk_alloc ?_ _)); exact BK419.out) hb)
                        have n2_ := Aside0.mk (blk_below (g := gb420) (o := .cells #[.int .i64 x421000_2, .int .i64 x421001_2, .bool x421002_2] 47 (0, 0)) (by (with_reducible repeat (first | refine blk_drewN ?_ _ | refine blk_drew ?_ | refine blk_alloc ?_ _)); exact BK420.out) hb)
                        have n3_ := Aside0.mk (below_step (by repeat (first | (with_reducible first | exact HB.out | apply below_alloc | apply pw_below_drewN | apply below_drew1 | refine below_set ?_ GE416.out | refine below_set ?_ GE419.out | refine below_set ?_ GE420.out) | exact HB.out)) hb)
                        have n4_ := Aside0.mk (hbox)
                        have n5_ := Aside0.mk ((by rw [hg]; exact (below_size (by repeat (first | (with_reducible first | exact HB.out | apply below_alloc | apply pw_below_drewN | apply below_drew1 | refine below_set ?_ GE416.out | refine below_set ?_ GE419.out | refine below_set ?_ GE420.out) | exact HB.out))) : w.heap.size ≤ gb426))
                        have n6_ := Aside0.mk ((by rw [hg]; exact (below_size (by repeat (first | (with_reducible first | exact HB.out | apply below_alloc | apply pw_below_drewN | apply below_drew1 | refine below_set ?_ GE416.out | refine below_set ?_ GE419.out | refine below_set ?_ GE420.out) | exact HB.out))) : w.heap.size ≤ gb426))
                        have n7_ := Aside0.mk ((by rw [hg]; exact Nat.ne_of_lt (blk_lt (g := gb416) (o := .cells #[.int .i64 a0_0, .int .i64 a0_1, .slice A0_2 l0_2.length c0_2, .int .i64 a0_3, .int .i64 a0_4, .int .i64 a0_5, .int .i64 a0_6, .slice A0_7 l0_7.length c0_7] 45 (0, 0)) (by (with_reducible repeat (first | refine blk_drewN ?_ _ | refine blk_drew ?_ | refine blk_alloc ?_ _)); exact BK416.out)) : gb416 ≠ gb426))
                        have n8_ := Aside0.mk ((by rw [hg]; exact Nat.ne_of_gt (blk_lt (g := gb416) (o := .cells #[.int .i64 a0_0, .int .i64 a0_1, .slice A0_2 l0_2.length c0_2, .int .i64 a0_3, .int .i64 a0_4, .int .i64 a0_5, .int .i64 a0_6, .slice A0_7 l0_7.length c0_7] 45 (0, 0)) (by (with_reducible repeat (first | refine blk_drewN ?_ _ | refine blk_drew ?_ | refine blk_alloc ?_ _)); exact BK416.out)) : gb426 ≠ gb416))
                        have n9_ := Aside0.mk ((by rw [hg]; exact Nat.ne_of_lt (blk_lt (g := gb419) (o := .cells #[.int .i64 x420000_2, .int .i64 x420001_2, .bool x420002_2] 47 (0, 0)) (by (with_reducible repeat (first | refine blk_drewN ?_ _ | refine blk_drew ?_ | refine blk_alloc ?_ _)); exact BK419.out)) : gb419 ≠ gb426))
                        have n10_ := Aside0.mk ((by rw [hg]; exact Nat.ne_of_gt (blk_lt (g := gb419) (o := .cells #[.int .i64 x420000_2, .int .i64 x420001_2, .bool x420002_2] 47 (0, 0)) (by (with_reducible repeat (first | refine blk_drewN ?_ _ | refine blk_drew ?_ | refine blk_alloc ?_ _)); exact BK419.out)) : gb426 ≠ gb419))
                        have n11_ := Aside0.mk ((by rw [hg]; exact Nat.ne_of_lt (blk_lt (g := gb420) (o := .cells #[.int .i64 x421000_2, .int .i64 x421001_2, .bool x421002_2] 47 (0, 0)) (by (with_reducible repeat (first | refine blk_drewN ?_ _ | refine blk_drew ?_ | refine blk_alloc ?_ _)); exact BK420.out)) : gb420 ≠ gb426))
                        have n12_ := Aside0.mk ((by rw [hg]; exact Nat.ne_of_gt (blk_lt (g := gb420) (o := .cells #[.int .i64 x421000_2, .int .i64 x421001_2, .bool x421002_2] 47 (0, 0)) (by (with_reducible repeat (first | refine blk_drewN ?_ _ | refine blk_drew ?_ | refine blk_alloc ?_ _)); exact BK420.out)) : gb426 ≠ gb420))
                        clear BK416
                        clear BK419
                        clear BK420
                        clear HB
                        have BK416 := n0_
                        have BK419 := n1_
                        have BK420 := n2_
                        have HB := n3_
                        have BK426 := n4_
                        have GW426 := n5_
                        have GE426 := n6_
                        have NB416_426 := n7_
                        have NB426_416 := n8_
                        have NB419_426 := n9_
                        have NB426_419 := n10_
                        have NB420_426 := n11_
                        have NB426_420 := n12_
                        clear n0_ n1_ n2_ n3_ n4_ n5_ n6_ n7_ n8_ n9_ n10_ n11_ n12_
                        clear hb hbox hg
                        refine hK.out _ _ ⟨(blk_cell BK416.out 0).trans rfl, (blk_cell BK416.out 1).trans rfl, (blk_cell BK416.out 2).trans rfl, (blk_cell BK416.out 3).trans rfl, (blk_cell BK416.out 4).trans rfl, (blk_cell BK416.out 5).trans rfl, (blk_cell BK416.out 6).trans rfl, (blk_cell BK416.out 7).trans rfl, (blk_cell BK419.out 0).trans rfl, (blk_cell BK419.out 1).trans rfl, (blk_cell BK419.out 2).trans rfl, ((HB.out.cell (World.block_lt_of_cell? w _ hw421_0)).trans hw421_0)⟩ (fun hHeld => ?_)
                        clear hK K
                        refine norm_ (a' := ?_) ?_ ?_
                        rotate_left
                        · show Act.put _ (some 15) _ = _
                          simp only [Act.put, List.setIfInBounds_toArray, List.set_cons_zero, List.set_cons_succ, i64_w, i32_w]
                          rfl
                        exact norm_ (by simp only [putAll, Act.put, List.setIfInBounds_toArray, List.set_cons_zero, List.set_cons_succ]) (hCont (gb426) _ ⟨hHeld, (by (with_reducible repeat (first | refine blk_drewN ?_ _ | refine blk_drew ?_ | refine blk_alloc ?_ _)); exact BK416.out), (by (with_reducible repeat (first | refine blk_drewN ?_ _ | refine blk_drew ?_ | refine blk_alloc ?_ _)); exact BK419.out), (by (with_reducible repeat (first | refine blk_drewN ?_ _ | refine blk_drew ?_ | refine blk_alloc ?_ _)); exact BK420.out), (by (with_reducible repeat (first | refine blk_drewN ?_ _ | refine blk_drew ?_ | refine blk_alloc ?_ _)); exact BK426.out), GW426.out, GE426.out, NB416_426.out, NB426_416.out, NB419_426.out, NB426_419.out, NB420_426.out, NB426_420.out, (by repeat (first | (with_reducible first | exact HB.out | apply below_alloc | apply pw_below_drewN | apply below_drew1 | refine below_set ?_ GE416.out | refine below_set ?_ GE419.out | refine below_set ?_ GE420.out | refine below_set ?_ GE426.out) | exact HB.out))⟩)
                      · skip
                        refine box_step ?hg (N := 15) ?hd (cs := #[.int .i64 0, .int .i64 0, .bool false]) (t := 47) ?hr ?_; (case hd => rfl); (case hg => rfl); (case hr => first | (go_simp; done) | (go_simp; rfl))
                        intro gb426 hg w25 hbox hb
                        have n0_ := Aside0.mk (blk_below (g := gb416) (o := .cells #[.int .i64 a0_0, .int .i64 a0_1, .slice A0_2 l0_2.length c0_2, .int .i64 a0_3, .int .i64 a0_4, .int .i64 a0_5, .int .i64 a0_6, .slice A0_7 l0_7.length c0_7] 45 (0, 0)) (by (with_reducible repeat (first | refine blk_drewN ?_ _ | refine blk_drew ?_ | refine blk_alloc ?_ _)); exact BK416.out) hb)
                        have n1_ := Aside0.mk (blk_below (g := gb419) (o := .cells #[.int .i64 x420000_2, .int .i64 x420001_2, .bool x420002_2] 47 (0, 0)) (by (with_reducible repeat (first | refine blk_drewN ?_ _ | refine blk_drew ?_ | refine blk_alloc ?_ _)); exact BK419.out) hb)
                        have n2_ := Aside0.mk (blk_below (g := gb420) (o := .cells #[.int .i64 x421000_2, .int .i64 x421001_2, .bool x421002_2] 47 (0, 0)) (by (with_reducible repeat (first | refine blk_drewN ?_ _ | refine blk_drew ?_ | refine blk_alloc ?_ _)); exact BK420.out) hb)
                        have n3_ := Aside0.mk (below_step (by repeat (first | (with_reducible first | exact HB.out | apply below_alloc | apply pw_below_drewN | apply below_drew1 | refine below_set ?_ GE416.out | refine below_set ?_ GE419.out | refine below_set ?_ GE420.out) | exact HB.out)) hb)
                        have n4_ := Aside0.mk (hbox)
                        have n5_ := Aside0.mk ((by rw [hg]; exact (below_size (by repeat (first | (with_reducible first | exact HB.out | apply below_alloc | apply pw_below_drewN | apply below_drew1 | refine below_set ?_ GE416.out | refine below_set ?_ GE419.out | refine below_set ?_ GE420.out) | exact HB.out))) : w.heap.size ≤ gb426))
                        have n6_ := Aside0.mk ((by rw [hg]; exact (below_size (by repeat (first | (with_reducible first | exact HB.out | apply below_alloc | apply pw_below_drewN | apply below_drew1 | refine below_set ?_ GE416.out | refine below_set ?_ GE419.out | refine below_set ?_ GE420.out) | exact HB.out))) : w.heap.size ≤ gb426))
                        have n7_ := Aside0.mk ((by rw [hg]; exact Nat.ne_of_lt (blk_lt (g := gb416) (o := .cells #[.int .i64 a0_0, .int .i64 a0_1, .slice A0_2 l0_2.length c0_2, .int .i64 a0_3, .int .i64 a0_4, .int .i64 a0_5, .int .i64 a0_6, .slice A0_7 l0_7.length c0_7] 45 (0, 0)) (by (with_reducible repeat (first | refine blk_drewN ?_ _ | refine blk_drew ?_ | refine blk_alloc ?_ _)); exact BK416.out)) : gb416 ≠ gb426))
                        have n8_ := Aside0.mk ((by rw [hg]; exact Nat.ne_of_gt (blk_lt (g := gb416) (o := .cells #[.int .i64 a0_0, .int .i64 a0_1, .slice A0_2 l0_2.length c0_2, .int .i64 a0_3, .int .i64 a0_4, .int .i64 a0_5, .int .i64 a0_6, .slice A0_7 l0_7.length c0_7] 45 (0, 0)) (by (with_reducible repeat (first | refine blk_drewN ?_ _ | refine blk_drew ?_ | refine blk_alloc ?_ _)); exact BK416.out)) : gb426 ≠ gb416))
                        have n9_ := Aside0.mk ((by rw [hg]; exact Nat.ne_of_lt (blk_lt (g := gb419) (o := .cells #[.int .i64 x420000_2, .int .i64 x420001_2, .bool x420002_2] 47 (0, 0)) (by (with_reducible repeat (first | refine blk_drewN ?_ _ | refine blk_drew ?_ | refine blk_alloc ?_ _)); exact BK419.out)) : gb419 ≠ gb426))
                        have n10_ := Aside0.mk ((by rw [hg]; exact Nat.ne_of_gt (blk_lt (g := gb419) (o := .cells #[.int .i64 x420000_2, .int .i64 x420001_2, .bool x420002_2] 47 (0, 0)) (by (with_reducible repeat (first | refine blk_drewN ?_ _ | refine blk_drew ?_ | refine blk_alloc ?_ _)); exact BK419.out)) : gb426 ≠ gb419))
                        have n11_ := Aside0.mk ((by rw [hg]; exact Nat.ne_of_lt (blk_lt (g := gb420) (o := .cells #[.int .i64 x421000_2, .int .i64 x421001_2, .bool x421002_2] 47 (0, 0)) (by (with_reducible repeat (first | refine blk_drewN ?_ _ | refine blk_drew ?_ | refine blk_alloc ?_ _)); exact BK420.out)) : gb420 ≠ gb426))
                        have n12_ := Aside0.mk ((by rw [hg]; exact Nat.ne_of_gt (blk_lt (g := gb420) (o := .cells #[.int .i64 x421000_2, .int .i64 x421001_2, .bool x421002_2] 47 (0, 0)) (by (with_reducible repeat (first | refine blk_drewN ?_ _ | refine blk_drew ?_ | refine blk_alloc ?_ _)); exact BK420.out)) : gb426 ≠ gb420))
                        clear BK416
                        clear BK419
                        clear BK420
                        clear HB
                        have BK416 := n0_
                        have BK419 := n1_
                        have BK420 := n2_
                        have HB := n3_
                        have BK426 := n4_
                        have GW426 := n5_
                        have GE426 := n6_
                        have NB416_426 := n7_
                        have NB426_416 := n8_
                        have NB419_426 := n9_
                        have NB426_419 := n10_
                        have NB420_426 := n11_
                        have NB426_420 := n12_
                        clear n0_ n1_ n2_ n3_ n4_ n5_ n6_ n7_ n8_ n9_ n10_ n11_ n12_
                        clear hb hbox hg
                        refine hK.out _ _ ⟨(blk_cell BK416.out 0).trans rfl, (blk_cell BK416.out 1).trans rfl, (blk_cell BK416.out 2).trans rfl, (blk_cell BK416.out 3).trans rfl, (blk_cell BK416.out 4).trans rfl, (blk_cell BK416.out 5).trans rfl, (blk_cell BK416.out 6).trans rfl, (blk_cell BK416.out 7).trans rfl, (blk_cell BK419.out 0).trans rfl, (blk_cell BK419.out 1).trans rfl, (blk_cell BK419.out 2).trans rfl, ((HB.out.cell (World.block_lt_of_cell? w _ hw421_0)).trans hw421_0)⟩ (fun hHeld => ?_)
                        clear hK K
                        refine norm_ (a' := ?_) ?_ ?_
                        rotate_left
                        · show Act.put _ (some 15) _ = _
                          simp only [Act.put, List.setIfInBounds_toArray, List.set_cons_zero, List.set_cons_succ, i64_w, i32_w]
                          rfl
                        refine one_ (i := 11) (N := some 51) #[true, true, true, true, true, true, true, true, true, true, true, true, false, false, false, true, false, false] rfl rfl (one_of HT_.out (by kernel_rfl)) (by decide) (fun K hK => ?_)
                        refine goes_ Try.func27 (by kernel_rfl) rfl #[.agg #[.int .i64 a0_0, .int .i64 a0_1, .slice A0_2 l0_2.length c0_2, .int .i64 a0_3, .int .i64 a0_4, .int .i64 a0_5, .int .i64 a0_6, .slice A0_7 l0_7.length c0_7], .agg #[.int .i64 x420000_2, .int .i64 x420001_2, .bool x420002_2], .int .i64 x12_2, .int .i64 (rd l2 x14_2), .int .i64 (wrap64 ((wrap64 (a3)) + x14_2))] (by rfl) rfl rfl (by (try simp only [List.map_toArray, List.map_cons, List.map_nil]); first | done | rfl | (simp only [List.length_drop, List.length_take]; rfl)) ?_
                        with_reducible refine (policy_Next.calls k2 a0_0 a0_1 _ _ l0_2 a0_3 a0_4 a0_5 a0_6 _ _ l0_7 x420000_2 x420001_2 x420002_2 x12_2 (rd l2 x14_2) (wrap64 ((wrap64 (a3)) + x14_2)) t422 t423 t424 t425 _ ?side1 ?side2 ?side3 ?side4 A20.out).mono ?_
                        (case side1 => repeat (first | exact (Kd.C_below HR0_2.out HB.out) | (with_reducible refine Kd.C_alloc ?_ _) | (with_reducible refine Kd.C_drewN ?_ _) | (with_reducible refine Kd.C_drew ?_)))
                        (case side2 => exact HC0_2.out)
                        (case side3 => repeat (first | exact (Kd.C_below HR0_7.out HB.out) | (with_reducible refine Kd.C_alloc ?_ _) | (with_reducible refine Kd.C_drewN ?_ _) | (with_reducible refine Kd.C_drew ?_)))
                        (case side4 => exact HC0_7.out)
                        rintro e w26 ⟨rfl, hb⟩
                        refine ⟨_, rfl, ?_⟩
                        have n0_ := Aside0.mk (blk_below (g := gb416) (o := .cells #[.int .i64 a0_0, .int .i64 a0_1, .slice A0_2 l0_2.length c0_2, .int .i64 a0_3, .int .i64 a0_4, .int .i64 a0_5, .int .i64 a0_6, .slice A0_7 l0_7.length c0_7] 45 (0, 0)) (by (with_reducible repeat (first | refine blk_drewN ?_ _ | refine blk_drew ?_ | refine blk_alloc ?_ _)); exact BK416.out) hb)
                        have n1_ := Aside0.mk (blk_below (g := gb419) (o := .cells #[.int .i64 x420000_2, .int .i64 x420001_2, .bool x420002_2] 47 (0, 0)) (by (with_reducible repeat (first | refine blk_drewN ?_ _ | refine blk_drew ?_ | refine blk_alloc ?_ _)); exact BK419.out) hb)
                        have n2_ := Aside0.mk (blk_below (g := gb420) (o := .cells #[.int .i64 x421000_2, .int .i64 x421001_2, .bool x421002_2] 47 (0, 0)) (by (with_reducible repeat (first | refine blk_drewN ?_ _ | refine blk_drew ?_ | refine blk_alloc ?_ _)); exact BK420.out) hb)
                        have n3_ := Aside0.mk (blk_below (g := gb426) (o := .cells #[.int .i64 0, .int .i64 0, .bool false] 47 (0, 0)) (by (with_reducible repeat (first | refine blk_drewN ?_ _ | refine blk_drew ?_ | refine blk_alloc ?_ _)); exact BK426.out) hb)
                        have n4_ := Aside0.mk (below_step (by repeat (first | (with_reducible first | exact HB.out | apply below_alloc | apply pw_below_drewN | apply below_drew1 | refine below_set ?_ GE416.out | refine below_set ?_ GE419.out | refine below_set ?_ GE420.out | refine below_set ?_ GE426.out) | exact HB.out)) hb)
                        clear BK416
                        clear BK419
                        clear BK420
                        clear BK426
                        clear HB
                        have BK416 := n0_
                        have BK419 := n1_
                        have BK420 := n2_
                        have BK426 := n3_
                        have HB := n4_
                        clear n0_ n1_ n2_ n3_ n4_
                        (try clear hb)
                        (try clear hb2)
                        (try clear hk)
                        (try clear hi)
                        refine hK.out _ _ ⟨(blk_cell BK416.out 0).trans rfl, (blk_cell BK416.out 1).trans rfl, (blk_cell BK416.out 2).trans rfl, (blk_cell BK416.out 3).trans rfl, (blk_cell BK416.out 4).trans rfl, (blk_cell BK416.out 5).trans rfl, (blk_cell BK416.out 6).trans rfl, (blk_cell BK416.out 7).trans rfl, (blk_cell BK419.out 0).trans rfl, (blk_cell BK419.out 1).trans rfl, (blk_cell BK419.out 2).trans rfl, ((HB.out.cell (World.block_lt_of_cell? w _ hw421_0)).trans hw421_0)⟩ (fun hHeld => ?_)
                        clear hK K
                        refine norm_ (a' := ?_) ?_ ?_
                        rotate_left
                        · show Act.put _ (some 51) _ = _
                          simp only [Act.put, List.setIfInBounds_toArray, List.set_cons_zero, List.set_cons_succ, i64_w, i32_w]
                          rfl
                        refine pure_ (i := 12) (N := some 39) (v := ?_) (a' := ?_) #[true, true, true, true, true, true, true, true, true, true, true, true, true, false, false, true, false, false] rfl rfl (any_of HT_.out (by kernel_rfl)) (fun _ _ _ h => h) (Or.inl ⟨by rfl, ?_⟩) ?_ ?_
                        rotate_left
                        · intro w'
                          go_simp
                          with_reducible rfl
                        rotate_left
                        · simp only [Act.put, List.setIfInBounds_toArray, List.set_cons_zero, List.set_cons_succ, i64_w, i32_w]
                          rfl
                        refine pure_ (i := 13) (N := some 52) (v := ?_) (a' := ?_) #[true, true, true, true, true, true, true, true, true, true, true, true, true, true, false, true, false, false] rfl rfl (any_of HT_.out (by kernel_rfl)) (fun _ _ _ h => h) (Or.inl ⟨by rfl, ?_⟩) ?_ ?_
                        rotate_left
                        · intro w'
                          go_simp
                          with_reducible rfl
                        rotate_left
                        · simp only [Act.put, List.setIfInBounds_toArray, List.set_cons_zero, List.set_cons_succ, i64_w, i32_w]
                          rfl
                        refine pure_ (i := 14) (N := some 53) (v := ?_) (a' := ?_) #[true, true, true, true, true, true, true, true, true, true, true, true, true, true, true, true, false, false] rfl rfl (any_of HT_.out (by kernel_rfl)) (fun _ _ _ h => h) (Or.inl ⟨by rfl, ?_⟩) ?_ ?_
                        rotate_left
                        · intro w'
                          go_simp
                          with_reducible rfl
                        rotate_left
                        · simp only [Act.put, List.setIfInBounds_toArray, List.set_cons_zero, List.set_cons_succ, i64_w, i32_w]
                          rfl
                        exact norm_ (by simp only [putAll, Act.put, List.setIfInBounds_toArray, List.set_cons_zero, List.set_cons_succ]) (hCont (gb426) _ ⟨hHeld, (by (with_reducible repeat (first | refine blk_drewN ?_ _ | refine blk_drew ?_ | refine blk_alloc ?_ _)); exact BK416.out), (by (with_reducible repeat (first | refine blk_drewN ?_ _ | refine blk_drew ?_ | refine blk_alloc ?_ _)); exact BK419.out), (by (with_reducible repeat (first | refine blk_drewN ?_ _ | refine blk_drew ?_ | refine blk_alloc ?_ _)); exact BK420.out), (by (with_reducible repeat (first | refine blk_drewN ?_ _ | refine blk_drew ?_ | refine blk_alloc ?_ _)); exact BK426.out), GW426.out, GE426.out, NB416_426.out, NB426_416.out, NB419_426.out, NB426_419.out, NB420_426.out, NB426_420.out, (by repeat (first | (with_reducible first | exact HB.out | apply below_alloc | apply pw_below_drewN | apply below_drew1 | refine below_set ?_ GE416.out | refine below_set ?_ GE419.out | refine below_set ?_ GE420.out | refine below_set ?_ GE426.out) | exact HB.out))⟩)
                    rintro gb426 w27 ⟨hS_, h0_, h1_, h2_, h3_, h4_, h5_, h6_, h7_, h8_, h9_, h10_, h11_, h12_⟩
                    have n0_ : Aside0 (w27.heap[gb416]? = some (.cells #[.int .i64 a0_0, .int .i64 a0_1, .slice A0_2 l0_2.length c0_2, .int .i64 a0_3, .int .i64 a0_4, .int .i64 a0_5, .int .i64 a0_6, .slice A0_7 l0_7.length c0_7] 45 (0, 0))) := ⟨h0_⟩
                    have n1_ : Aside0 (w27.heap[gb419]? = some (.cells #[.int .i64 x420000_2, .int .i64 x420001_2, .bool x420002_2] 47 (0, 0))) := ⟨h1_⟩
                    have n2_ : Aside0 (w27.heap[gb420]? = some (.cells #[.int .i64 x421000_2, .int .i64 x421001_2, .bool x421002_2] 47 (0, 0))) := ⟨h2_⟩
                    have n3_ : Aside0 (w27.heap[gb426]? = some (.cells #[.int .i64 0, .int .i64 0, .bool false] 47 (0, 0))) := ⟨h3_⟩
                    have n4_ : Aside0 (w.heap.size ≤ gb426) := ⟨h4_⟩
                    have n5_ : Aside0 (w.heap.size ≤ gb426) := ⟨h5_⟩
                    have n6_ : Aside0 (gb416 ≠ gb426) := ⟨h6_⟩
                    have n7_ : Aside0 (gb426 ≠ gb416) := ⟨h7_⟩
                    have n8_ : Aside0 (gb419 ≠ gb426) := ⟨h8_⟩
                    have n9_ : Aside0 (gb426 ≠ gb419) := ⟨h9_⟩
                    have n10_ : Aside0 (gb420 ≠ gb426) := ⟨h10_⟩
                    have n11_ : Aside0 (gb426 ≠ gb420) := ⟨h11_⟩
                    have n12_ : Aside0 (Below w.heap.size w w27) := ⟨h12_⟩
                    clear BK416
                    clear BK419
                    clear BK420
                    clear HB
                    clear h0_ h1_ h2_ h3_ h4_ h5_ h6_ h7_ h8_ h9_ h10_ h11_ h12_
                    have BK416 := n0_
                    have BK419 := n1_
                    have BK420 := n2_
                    have BK426 := n3_
                    have GW426 := n4_
                    have GE426 := n5_
                    have NB416_426 := n6_
                    have NB426_416 := n7_
                    have NB419_426 := n8_
                    have NB426_419 := n9_
                    have NB420_426 := n10_
                    have NB426_420 := n11_
                    have HB := n12_
                    clear n0_ n1_ n2_ n3_ n4_ n5_ n6_ n7_ n8_ n9_ n10_ n11_ n12_
                    have hHeld : w27.cell? ⟨gb416, 0, none⟩ = some (.int .i64 a0_0) ∧ w27.cell? ⟨gb416, 1, none⟩ = some (.int .i64 a0_1) ∧ w27.cell? ⟨gb416, 2, none⟩ = some (.slice A0_2 l0_2.length c0_2) ∧ w27.cell? ⟨gb416, 3, none⟩ = some (.int .i64 a0_3) ∧ w27.cell? ⟨gb416, 4, none⟩ = some (.int .i64 a0_4) ∧ w27.cell? ⟨gb416, 5, none⟩ = some (.int .i64 a0_5) ∧ w27.cell? ⟨gb416, 6, none⟩ = some (.int .i64 a0_6) ∧ w27.cell? ⟨gb416, 7, none⟩ = some (.slice A0_7 l0_7.length c0_7) ∧ w27.cell? ⟨gb419, 0, none⟩ = some (.int .i64 x420000_2) ∧ w27.cell? ⟨gb419, 1, none⟩ = some (.int .i64 x420001_2) ∧ w27.cell? ⟨gb419, 2, none⟩ = some (.bool x420002_2) ∧ w27.cell? (ad421.add (x14_2).toNat) = some (.int .i64 (rd l2 x14_2)) := hS_
                    refine norm_ (a' := ?_) ?_ ?_
                    rotate_left
                    · simp only [putAll, Act.put, List.setIfInBounds_toArray, List.set_cons_zero, List.set_cons_succ]
                      rfl
                    refine one_ (i := 16) (N := none) #[true, true, true, true, true, true, true, true, true, true, true, true, true, true, true, true, true, false] rfl rfl (one_of HT_.out (by kernel_rfl)) (by decide) (fun K hK => ?_)
                    have hs28 : w27.cell? ⟨gb426, 0, none⟩ = some (.int .i64 0) := (blk_cell BK426.out 0).trans rfl
                    have hfs28 := blk_frozen BK426.out 0
                    have hns28_0 := NB416_426.out
                    have hns28_1 := NB419_426.out
                    have hns28_2 := NB420_426.out
                    have hms28_0 := NB426_416.out
                    have hms28_1 := NB426_419.out
                    have hms28_2 := NB426_420.out
                    have hs29 : w27.cell? ⟨gb426, 1, none⟩ = some (.int .i64 0) := (blk_cell BK426.out 1).trans rfl
                    have hfs29 := blk_frozen BK426.out 1
                    have hns29_0 := NB416_426.out
                    have hns29_1 := NB419_426.out
                    have hns29_2 := NB420_426.out
                    have hms29_0 := NB426_416.out
                    have hms29_1 := NB426_419.out
                    have hms29_2 := NB426_420.out
                    have hs30 : w27.cell? ⟨gb426, 2, none⟩ = some (.bool false) := (blk_cell BK426.out 2).trans rfl
                    have hfs30 := blk_frozen BK426.out 2
                    have hns30_0 := NB416_426.out
                    have hns30_1 := NB419_426.out
                    have hns30_2 := NB420_426.out
                    have hms30_0 := NB426_416.out
                    have hms30_1 := NB426_419.out
                    have hms30_2 := NB426_420.out
                    refine skip_ (w1 := ?_) (by rfl) rfl ?_ ?_
                    rotate_left
                    · go_simp
                      rfl
                    refine hK.out _ _ ⟨((cell_far (p := ⟨gb426, _, none⟩) NB416_426.out _).trans (((cell_far (p := ⟨gb426, _, none⟩) NB416_426.out _).trans (((cell_far (p := ⟨gb426, _, none⟩) NB416_426.out _).trans (hHeld.1)))))), ((cell_far (p := ⟨gb426, _, none⟩) NB416_426.out _).trans (((cell_far (p := ⟨gb426, _, none⟩) NB416_426.out _).trans (((cell_far (p := ⟨gb426, _, none⟩) NB416_426.out _).trans (hHeld.2.1)))))), ((cell_far (p := ⟨gb426, _, none⟩) NB416_426.out _).trans (((cell_far (p := ⟨gb426, _, none⟩) NB416_426.out _).trans (((cell_far (p := ⟨gb426, _, none⟩) NB416_426.out _).trans (hHeld.2.2.1)))))), ((cell_far (p := ⟨gb426, _, none⟩) NB416_426.out _).trans (((cell_far (p := ⟨gb426, _, none⟩) NB416_426.out _).trans (((cell_far (p := ⟨gb426, _, none⟩) NB416_426.out _).trans (hHeld.2.2.2.1)))))), ((cell_far (p := ⟨gb426, _, none⟩) NB416_426.out _).trans (((cell_far (p := ⟨gb426, _, none⟩) NB416_426.out _).trans (((cell_far (p := ⟨gb426, _, none⟩) NB416_426.out _).trans (hHeld.2.2.2.2.1)))))), ((cell_far (p := ⟨gb426, _, none⟩) NB416_426.out _).trans (((cell_far (p := ⟨gb426, _, none⟩) NB416_426.out _).trans (((cell_far (p := ⟨gb426, _, none⟩) NB416_426.out _).trans (hHeld.2.2.2.2.2.1)))))), ((cell_far (p := ⟨gb426, _, none⟩) NB416_426.out _).trans (((cell_far (p := ⟨gb426, _, none⟩) NB416_426.out _).trans (((cell_far (p := ⟨gb426, _, none⟩) NB416_426.out _).trans (hHeld.2.2.2.2.2.2.1)))))), ((cell_far (p := ⟨gb426, _, none⟩) NB416_426.out _).trans (((cell_far (p := ⟨gb426, _, none⟩) NB416_426.out _).trans (((cell_far (p := ⟨gb426, _, none⟩) NB416_426.out _).trans (hHeld.2.2.2.2.2.2.2.1)))))), ((cell_far (p := ⟨gb426, _, none⟩) NB419_426.out _).trans (((cell_far (p := ⟨gb426, _, none⟩) NB419_426.out _).trans (((cell_far (p := ⟨gb426, _, none⟩) NB419_426.out _).trans (hHeld.2.2.2.2.2.2.2.2.1)))))), ((cell_far (p := ⟨gb426, _, none⟩) NB419_426.out _).trans (((cell_far (p := ⟨gb426, _, none⟩) NB419_426.out _).trans (((cell_far (p := ⟨gb426, _, none⟩) NB419_426.out _).trans (hHeld.2.2.2.2.2.2.2.2.2.1)))))), ((cell_far (p := ⟨gb426, _, none⟩) NB419_426.out _).trans (((cell_far (p := ⟨gb426, _, none⟩) NB419_426.out _).trans (((cell_far (p := ⟨gb426, _, none⟩) NB419_426.out _).trans (hHeld.2.2.2.2.2.2.2.2.2.2.1)))))), ((cell_far (p := ⟨gb426, _, none⟩) (by first | exact Nat.ne_of_lt (Nat.lt_of_lt_of_le (by have := World.block_lt_of_cell? _ _ hw421_0; first | rwa [add_block] at this | exact this) GW426.out) | (rw [add_block]; exact Nat.ne_of_lt (Nat.lt_of_lt_of_le (by have := World.block_lt_of_cell? _ _ hw421_0; first | rwa [add_block] at this | exact this) GW426.out)) | (show (Addr.add _ _).block ≠ _; rw [add_block]; exact Nat.ne_of_lt (Nat.lt_of_lt_of_le (by have := World.block_lt_of_cell? _ _ hw421_0; first | rwa [add_block] at this | exact this) GW426.out)) | (dsimp only; exact Nat.ne_of_lt (Nat.lt_of_lt_of_le (by have := World.block_lt_of_cell? _ _ hw421_0; first | rwa [add_block] at this | exact this) GW426.out))) _).trans (((cell_far (p := ⟨gb426, _, none⟩) (by first | exact Nat.ne_of_lt (Nat.lt_of_lt_of_le (by have := World.block_lt_of_cell? _ _ hw421_0; first | rwa [add_block] at this | exact this) GW426.out) | (rw [add_block]; exact Nat.ne_of_lt (Nat.lt_of_lt_of_le (by have := World.block_lt_of_cell? _ _ hw421_0; first | rwa [add_block] at this | exact this) GW426.out)) | (show (Addr.add _ _).block ≠ _; rw [add_block]; exact Nat.ne_of_lt (Nat.lt_of_lt_of_le (by have := World.block_lt_of_cell? _ _ hw421_0; first | rwa [add_block] at this | exact this) GW426.out)) | (dsimp only; exact Nat.ne_of_lt (Nat.lt_of_lt_of_le (by have := World.block_lt_of_cell? _ _ hw421_0; first | rwa [add_block] at this | exact this) GW426.out))) _).trans (((cell_far (p := ⟨gb426, _, none⟩) (by first | exact Nat.ne_of_lt (Nat.lt_of_lt_of_le (by have := World.block_lt_of_cell? _ _ hw421_0; first | rwa [add_block] at this | exact this) GW426.out) | (rw [add_block]; exact Nat.ne_of_lt (Nat.lt_of_lt_of_le (by have := World.block_lt_of_cell? _ _ hw421_0; first | rwa [add_block] at this | exact this) GW426.out)) | (show (Addr.add _ _).block ≠ _; rw [add_block]; exact Nat.ne_of_lt (Nat.lt_of_lt_of_le (by have := World.block_lt_of_cell? _ _ hw421_0; first | rwa [add_block] at this | exact this) GW426.out)) | (dsimp only; exact Nat.ne_of_lt (Nat.lt_of_lt_of_le (by have := World.block_lt_of_cell? _ _ hw421_0; first | rwa [add_block] at this | exact this) GW426.out))) _).trans (hHeld.2.2.2.2.2.2.2.2.2.2.2))))))⟩ (fun hHeld => ?_)
                    clear hK K
                    refine pure_ (i := 17) (N := some 16) (v := ?_) (a' := ?_) #[true, true, true, true, true, true, true, true, true, true, true, true, true, true, true, true, true, true] rfl rfl (any_of HT_.out (by kernel_rfl)) (fun _ _ _ h => h) (Or.inl ⟨by rfl, ?_⟩) ?_ ?_
                    rotate_left
                    · intro w'
                      go_simp
                      with_reducible rfl
                    rotate_left
                    · simp only [Act.put, List.setIfInBounds_toArray, List.set_cons_zero, List.set_cons_succ, i64_w, i32_w]
                      rfl
                    refine done_ (done_of HT_.out (by kernel_rfl)) ?_
                    try go_wp2
                    have n0_ : Aside0 ((((w27.setCell ⟨gb426, 0, none⟩ (.int .i64 t422)).setCell ⟨gb426, 1, none⟩ (.int .i64 t423)).setCell ⟨gb426, 2, none⟩ (.bool t424)).heap[gb416]? = some (.cells #[.int .i64 a0_0, .int .i64 a0_1, .slice A0_2 l0_2.length c0_2, .int .i64 a0_3, .int .i64 a0_4, .int .i64 a0_5, .int .i64 a0_6, .slice A0_7 l0_7.length c0_7] 45 (0, 0))) := ⟨by (with_reducible repeat (first | refine blk_drewN ?_ _ | refine blk_drew ?_ | refine blk_alloc ?_ _)); refine blk_far ?_ NB416_426.out _; (with_reducible repeat (first | refine blk_drewN ?_ _ | refine blk_drew ?_ | refine blk_alloc ?_ _)); refine blk_far ?_ NB416_426.out _; (with_reducible repeat (first | refine blk_drewN ?_ _ | refine blk_drew ?_ | refine blk_alloc ?_ _)); refine blk_far ?_ NB416_426.out _; (with_reducible repeat (first | refine blk_drewN ?_ _ | refine blk_drew ?_ | refine blk_alloc ?_ _)); exact BK416.out⟩
                    have n1_ : Aside0 ((((w27.setCell ⟨gb426, 0, none⟩ (.int .i64 t422)).setCell ⟨gb426, 1, none⟩ (.int .i64 t423)).setCell ⟨gb426, 2, none⟩ (.bool t424)).heap[gb419]? = some (.cells #[.int .i64 x420000_2, .int .i64 x420001_2, .bool x420002_2] 47 (0, 0))) := ⟨by (with_reducible repeat (first | refine blk_drewN ?_ _ | refine blk_drew ?_ | refine blk_alloc ?_ _)); refine blk_far ?_ NB419_426.out _; (with_reducible repeat (first | refine blk_drewN ?_ _ | refine blk_drew ?_ | refine blk_alloc ?_ _)); refine blk_far ?_ NB419_426.out _; (with_reducible repeat (first | refine blk_drewN ?_ _ | refine blk_drew ?_ | refine blk_alloc ?_ _)); refine blk_far ?_ NB419_426.out _; (with_reducible repeat (first | refine blk_drewN ?_ _ | refine blk_drew ?_ | refine blk_alloc ?_ _)); exact BK419.out⟩
                    have n2_ : Aside0 ((((w27.setCell ⟨gb426, 0, none⟩ (.int .i64 t422)).setCell ⟨gb426, 1, none⟩ (.int .i64 t423)).setCell ⟨gb426, 2, none⟩ (.bool t424)).heap[gb420]? = some (.cells #[.int .i64 x421000_2, .int .i64 x421001_2, .bool x421002_2] 47 (0, 0))) := ⟨by (with_reducible repeat (first | refine blk_drewN ?_ _ | refine blk_drew ?_ | refine blk_alloc ?_ _)); refine blk_far ?_ NB420_426.out _; (with_reducible repeat (first | refine blk_drewN ?_ _ | refine blk_drew ?_ | refine blk_alloc ?_ _)); refine blk_far ?_ NB420_426.out _; (with_reducible repeat (first | refine blk_drewN ?_ _ | refine blk_drew ?_ | refine blk_alloc ?_ _)); refine blk_far ?_ NB420_426.out _; (with_reducible repeat (first | refine blk_drewN ?_ _ | refine blk_drew ?_ | refine blk_alloc ?_ _)); exact BK420.out⟩
                    have n3_ : Aside0 ((((w27.setCell ⟨gb426, 0, none⟩ (.int .i64 t422)).setCell ⟨gb426, 1, none⟩ (.int .i64 t423)).setCell ⟨gb426, 2, none⟩ (.bool t424)).heap[gb426]? = some (.cells #[.int .i64 t422, .int .i64 t423, .bool t424] 47 (0, 0))) := ⟨by (with_reducible repeat (first | refine blk_drewN ?_ _ | refine blk_drew ?_ | refine blk_alloc ?_ _)); refine blk_put (cs := #[.int .i64 t422, .int .i64 t423, .bool false]) ?_ 2 _ rfl; (with_reducible repeat (first | refine blk_drewN ?_ _ | refine blk_drew ?_ | refine blk_alloc ?_ _)); refine blk_put (cs := #[.int .i64 t422, .int .i64 0, .bool false]) ?_ 1 _ rfl; (with_reducible repeat (first | refine blk_drewN ?_ _ | refine blk_drew ?_ | refine blk_alloc ?_ _)); refine blk_put (cs := #[.int .i64 0, .int .i64 0, .bool false]) ?_ 0 _ rfl; (with_reducible repeat (first | refine blk_drewN ?_ _ | refine blk_drew ?_ | refine blk_alloc ?_ _)); exact BK426.out⟩
                    have n4_ : Aside0 (Below w.heap.size w (((w27.setCell ⟨gb426, 0, none⟩ (.int .i64 t422)).setCell ⟨gb426, 1, none⟩ (.int .i64 t423)).setCell ⟨gb426, 2, none⟩ (.bool t424))) := ⟨by repeat (first | (with_reducible first | exact HB.out | apply below_alloc | apply pw_below_drewN | apply below_drew1 | refine below_set ?_ GE416.out | refine below_set ?_ GE419.out | refine below_set ?_ GE420.out | refine below_set ?_ GE426.out) | exact HB.out)⟩
                    (try clear BK416)
                    (try clear BK419)
                    (try clear BK420)
                    (try clear BK426)
                    (try clear HB)
                    generalize (((w27.setCell ⟨gb426, 0, none⟩ (.int .i64 t422)).setCell ⟨gb426, 1, none⟩ (.int .i64 t423)).setCell ⟨gb426, 2, none⟩ (.bool t424)) = w31 at n0_ n1_ n2_ n3_ n4_ ⊢
                    have BK416 := n0_
                    have BK419 := n1_
                    have BK420 := n2_
                    have BK426 := n3_
                    have HB := n4_
                    clear n0_ n1_ n2_ n3_ n4_
                    have n0_ := Aside0.mk (blk_drew BK416.out)
                    have n1_ := Aside0.mk (blk_drew BK419.out)
                    have n2_ := Aside0.mk (blk_drew BK420.out)
                    have n3_ := Aside0.mk (blk_drew BK426.out)
                    have n4_ := Aside0.mk (below_drew1 HB.out)
                    clear BK416
                    clear BK419
                    clear BK420
                    clear BK426
                    clear HB
                    have BK416 := n0_
                    have BK419 := n1_
                    have BK420 := n2_
                    have BK426 := n3_
                    have HB := n4_
                    clear n0_ n1_ n2_ n3_ n4_
                    have p427 : 0 ≤ (x14_2 : Int) := of_decide_eq_true (by first | (with_reducible assumption) | assumption)
                    have q427 : x14_2 < (l2.length : Int) := of_decide_eq_true (by first | (with_reducible assumption) | assumption)
                    obtain ⟨ad427, e427, hx427_0⟩ := Kd.at_int HR2.out x14_2 p427 q427
                    have hw427_0 := hx427_0
                    obtain rfl : ad421 = ad427 := (by injection e427)
                    replace hx427_0 := (HB.out.cell (World.block_lt_of_cell? w _ hx427_0)).trans hx427_0
                    replace p427 := eq_true p427
                    replace q427 := eq_true q427
                    refine start_ (n := 18) (S := fun w' => w'.cell? ⟨gb416, 0, none⟩ = some (.int .i64 a0_0) ∧ w'.cell? ⟨gb416, 1, none⟩ = some (.int .i64 a0_1) ∧ w'.cell? ⟨gb416, 2, none⟩ = some (.slice A0_2 l0_2.length c0_2) ∧ w'.cell? ⟨gb416, 3, none⟩ = some (.int .i64 a0_3) ∧ w'.cell? ⟨gb416, 4, none⟩ = some (.int .i64 a0_4) ∧ w'.cell? ⟨gb416, 5, none⟩ = some (.int .i64 a0_5) ∧ w'.cell? ⟨gb416, 6, none⟩ = some (.int .i64 a0_6) ∧ w'.cell? ⟨gb416, 7, none⟩ = some (.slice A0_7 l0_7.length c0_7) ∧ w'.cell? ⟨gb420, 0, none⟩ = some (.int .i64 x421000_2) ∧ w'.cell? ⟨gb420, 1, none⟩ = some (.int .i64 x421001_2) ∧ w'.cell? ⟨gb420, 2, none⟩ = some (.bool x421002_2) ∧ w'.cell? (ad421.add (x14_2).toNat) = some (.int .i64 (rd l2 x14_2))) (ds := []) #[false, false, false, false, false, false, false, false, false, false, false, false, false, false, false, false, false, false] (by kernel_rfl) rfl rfl ⟨(blk_cell BK416.out 0).trans rfl, (blk_cell BK416.out 1).trans rfl, (blk_cell BK416.out 2).trans rfl, (blk_cell BK416.out 3).trans rfl, (blk_cell BK416.out 4).trans rfl, (blk_cell BK416.out 5).trans rfl, (blk_cell BK416.out 6).trans rfl, (blk_cell BK416.out 7).trans rfl, (blk_cell BK420.out 0).trans rfl, (blk_cell BK420.out 1).trans rfl, (blk_cell BK420.out 2).trans rfl, ((HB.out.cell (World.block_lt_of_cell? w _ hw427_0)).trans hw427_0)⟩ (fun hHeld => ?_); refine with_tabW governorlaw14_PolicyRow.tab12 governorlaw14_PolicyRow.bits12 (fun HT_ HW_ => ?_)
                    generalize w31.drew = w32 at BK416 BK419 BK420 BK426 HB hx427_0 hHeld ⊢
                    refine pure_ (i := 2) (N := some 57) (v := ?_) (a' := ?_) #[false, false, true, false, false, false, false, false, false, false, false, false, false, false, false, false, false, false] rfl rfl (any_of HT_.out (by kernel_rfl)) (fun _ _ _ h => h) (Or.inl ⟨by rfl, ?_⟩) ?_ ?_
                    rotate_left
                    · intro w'
                      go_simp
                      with_reducible rfl
                    rotate_left
                    · simp only [Act.put, List.setIfInBounds_toArray, List.set_cons_zero, List.set_cons_succ, i64_w, i32_w]
                      rfl
                    refine pure_ (i := 3) (N := some 58) (v := ?_) (a' := ?_) #[false, false, true, true, false, false, false, false, false, false, false, false, false, false, false, false, false, false] rfl rfl (any_of HT_.out (by kernel_rfl)) (fun _ _ _ h => h) (Or.inl ⟨by rfl, ?_⟩) ?_ ?_
                    rotate_left
                    · intro w'
                      go_simp
                      with_reducible rfl
                    rotate_left
                    · simp only [Act.put, List.setIfInBounds_toArray, List.set_cons_zero, List.set_cons_succ, i64_w, i32_w]
                      rfl
                    refine pure_ (i := 4) (N := some 59) (v := ?_) (a' := ?_) #[false, false, true, true, true, false, false, false, false, false, false, false, false, false, false, false, false, false] rfl rfl (any_of HT_.out (by kernel_rfl)) (fun _ _ _ h => h) (Or.inl ⟨by rfl, ?_⟩) ?_ ?_
                    rotate_left
                    · intro w'
                      go_simp
                      with_reducible rfl
                    rotate_left
                    · simp only [Act.put, List.setIfInBounds_toArray, List.set_cons_zero, List.set_cons_succ, i64_w, i32_w]
                      rfl
                    refine pure_ (i := 5) (N := some 60) (v := ?_) (a' := ?_) #[false, false, true, true, true, true, false, false, false, false, false, false, false, false, false, false, false, false] rfl rfl (any_of HT_.out (by kernel_rfl)) (fun _ _ _ h => h) (Or.inl ⟨by rfl, ?_⟩) ?_ ?_
                    rotate_left
                    · intro w'
                      go_simp
                      with_reducible rfl
                    rotate_left
                    · simp only [Act.put, List.setIfInBounds_toArray, List.set_cons_zero, List.set_cons_succ, i64_w, i32_w]
                      rfl
                    refine pure_ (i := 7) (N := some 62) (v := ?_) (a' := ?_) #[false, false, true, true, true, true, false, true, false, false, false, false, false, false, false, false, false, false] rfl rfl (any_of HT_.out (by kernel_rfl)) (fun _ _ _ h => h) (Or.inl ⟨by rfl, ?_⟩) ?_ ?_
                    rotate_left
                    · intro w'
                      go_simp
                      with_reducible rfl
                    rotate_left
                    · simp only [Act.put, List.setIfInBounds_toArray, List.set_cons_zero, List.set_cons_succ, i64_w, i32_w]
                      rfl
                    refine pure_ (i := 8) (N := some 63) (v := ?_) (a' := ?_) #[false, false, true, true, true, true, false, true, true, false, false, false, false, false, false, false, false, false] rfl rfl (any_of HT_.out (by kernel_rfl)) (fun _ _ _ h => h) (Or.inl ⟨by rfl, ?_⟩) ?_ ?_
                    rotate_left
                    · intro w'
                      go_simp
                      with_reducible rfl
                    rotate_left
                    · simp only [Act.put, List.setIfInBounds_toArray, List.set_cons_zero, List.set_cons_succ, i64_w, i32_w]
                      rfl
                    refine pure_ (i := 9) (N := some 64) (v := ?_) (a' := ?_) #[false, false, true, true, true, true, false, true, true, true, false, false, false, false, false, false, false, false] rfl rfl (any_of HT_.out (by kernel_rfl)) (fun _ _ _ h => h) (Or.inl ⟨by rfl, ?_⟩) ?_ ?_
                    rotate_left
                    · intro w'
                      go_simp
                      with_reducible rfl
                    rotate_left
                    · simp only [Act.put, List.setIfInBounds_toArray, List.set_cons_zero, List.set_cons_succ, i64_w, i32_w]
                      rfl
                    refine pure_ (i := 10) (N := some 65) (v := ?_) (a' := ?_) #[false, false, true, true, true, true, false, true, true, true, true, false, false, false, false, false, false, false] rfl rfl (any_of HT_.out (by kernel_rfl)) (fun _ _ _ h => h) (Or.inl ⟨by rfl, ?_⟩) ?_ ?_
                    rotate_left
                    · intro w'
                      go_simp
                      with_reducible rfl
                    rotate_left
                    · simp only [Act.put, List.setIfInBounds_toArray, List.set_cons_zero, List.set_cons_succ, i64_w, i32_w]
                      rfl
                    refine take_ (i := 0) (N := some 55) (v := ?_) (a' := ?_) #[true, false, true, true, true, true, false, true, true, true, true, false, false, false, false, false, false, false] rfl rfl (take_ofW HT_.out HW_.out (by kernel_rfl)) (fun _ _ _ h => h) (Or.inl ⟨by rfl, ?_⟩) hHeld ?_ ?_
                    rotate_left
                    · rintro w' ⟨s0, s1, s2, s3, s4, s5, s6, s7, s8, s9, s10, s11⟩
                      go_simp
                      with_reducible rfl
                    rotate_left
                    · simp only [Act.put, List.setIfInBounds_toArray, List.set_cons_zero, List.set_cons_succ, i64_w, i32_w]
                      rfl
                    refine take_ (i := 1) (N := some 56) (v := ?_) (a' := ?_) #[true, true, true, true, true, true, false, true, true, true, true, false, false, false, false, false, false, false] rfl rfl (take_ofW HT_.out HW_.out (by kernel_rfl)) (fun _ _ _ h => h) (Or.inl ⟨by rfl, ?_⟩) hHeld ?_ ?_
                    rotate_left
                    · rintro w' ⟨s0, s1, s2, s3, s4, s5, s6, s7, s8, s9, s10, s11⟩
                      go_simp
                      with_reducible rfl
                    rotate_left
                    · simp only [Act.put, List.setIfInBounds_toArray, List.set_cons_zero, List.set_cons_succ, i64_w, i32_w]
                      rfl
                    refine take_ (i := 6) (N := some 61) (v := ?_) (a' := ?_) #[true, true, true, true, true, true, true, true, true, true, true, false, false, false, false, false, false, false] rfl rfl (take_ofW HT_.out HW_.out (by kernel_rfl)) (fun _ _ _ h => h) (Or.inl ⟨by rfl, ?_⟩) hHeld ?_ ?_
                    rotate_left
                    · rintro w' ⟨s0, s1, s2, s3, s4, s5, s6, s7, s8, s9, s10, s11⟩
                      go_simp
                      with_reducible rfl
                    rotate_left
                    · simp only [Act.put, List.setIfInBounds_toArray, List.set_cons_zero, List.set_cons_succ, i64_w, i32_w]
                      rfl
                    refine join_ (σ := Nat) 2 #[true, true, true, true, true, true, true, true, true, true, true, true, true, true, true, true, false, false] (fun s_ => [(66, .tuple #[.agg #[.int .i64 t428, .int .i64 t429, .bool t430], .int .i64 t431]), (17, .pointer (some ⟨s_, 0, none⟩)), (54, .tuple #[.agg #[.int .i64 t428, .int .i64 t429, .bool t430], .int .i64 t431]), (67, .agg #[.int .i64 t428, .int .i64 t429, .bool t430]), (68, .int .i64 t431)]) (fun s_ w' => (w'.cell? ⟨gb416, 0, none⟩ = some (.int .i64 a0_0) ∧ w'.cell? ⟨gb416, 1, none⟩ = some (.int .i64 a0_1) ∧ w'.cell? ⟨gb416, 2, none⟩ = some (.slice A0_2 l0_2.length c0_2) ∧ w'.cell? ⟨gb416, 3, none⟩ = some (.int .i64 a0_3) ∧ w'.cell? ⟨gb416, 4, none⟩ = some (.int .i64 a0_4) ∧ w'.cell? ⟨gb416, 5, none⟩ = some (.int .i64 a0_5) ∧ w'.cell? ⟨gb416, 6, none⟩ = some (.int .i64 a0_6) ∧ w'.cell? ⟨gb416, 7, none⟩ = some (.slice A0_7 l0_7.length c0_7) ∧ w'.cell? ⟨gb420, 0, none⟩ = some (.int .i64 x421000_2) ∧ w'.cell? ⟨gb420, 1, none⟩ = some (.int .i64 x421001_2) ∧ w'.cell? ⟨gb420, 2, none⟩ = some (.bool x421002_2) ∧ w'.cell? (ad421.add (x14_2).toNat) = some (.int .i64 (rd l2 x14_2))) ∧ (w'.heap[gb416]? = some (.cells #[.int .i64 a0_0, .int .i64 a0_1, .slice A0_2 l0_2.length c0_2, .int .i64 a0_3, .int .i64 a0_4, .int .i64 a0_5, .int .i64 a0_6, .slice A0_7 l0_7.length c0_7] 45 (0, 0))) ∧ (w'.heap[gb419]? = some (.cells #[.int .i64 x420000_2, .int .i64 x420001_2, .bool x420002_2] 47 (0, 0))) ∧ (w'.heap[gb420]? = some (.cells #[.int .i64 x421000_2, .int .i64 x421001_2, .bool x421002_2] 47 (0, 0))) ∧ (w'.heap[gb426]? = some (.cells #[.int .i64 t422, .int .i64 t423, .bool t424] 47 (0, 0))) ∧ (w'.heap[s_]? = some (.cells #[.int .i64 0, .int .i64 0, .bool false] 47 (0, 0))) ∧ (w.heap.size ≤ s_) ∧ (w.heap.size ≤ s_) ∧ (gb416 ≠ s_) ∧ (s_ ≠ gb416) ∧ (gb419 ≠ s_) ∧ (s_ ≠ gb419) ∧ (gb420 ≠ s_) ∧ (s_ ≠ gb420) ∧ (gb426 ≠ s_) ∧ (s_ ≠ gb426) ∧ (Below w.heap.size w w')) ?_ ?_
                    rotate_left
                    · intro hCont
                      refine two_ (i := 11) (j := 15) (Ni := some 66) (Nj := some 17) #[true, true, true, true, true, true, true, true, true, true, true, true, false, false, false, false, false, false] #[true, true, true, true, true, true, true, true, true, true, true, false, false, false, false, true, false, false] rfl rfl rfl rfl (two_of HT_.out (by kernel_rfl)) (by decide) (by decide) (fun K hK => ?_) (fun K hK => ?_)
                      · skip
                        refine goes_ Try.func28 (by kernel_rfl) rfl #[.agg #[.int .i64 a0_0, .int .i64 a0_1, .slice A0_2 l0_2.length c0_2, .int .i64 a0_3, .int .i64 a0_4, .int .i64 a0_5, .int .i64 a0_6, .slice A0_7 l0_7.length c0_7], .agg #[.int .i64 x421000_2, .int .i64 x421001_2, .bool x421002_2], .int .i64 x13_2, .int .i64 (rd l2 x14_2), .int .i64 (wrap64 ((wrap64 (a3)) + x14_2))] (by rfl) rfl rfl (by (try simp only [List.map_toArray, List.map_cons, List.map_nil]); first | done | rfl | (simp only [List.length_drop, List.length_take]; rfl)) ?_
                        with_reducible refine (governorref14_Next.calls k2 a0_0 a0_1 _ _ l0_2 a0_3 a0_4 a0_5 a0_6 _ _ l0_7 x421000_2 x421001_2 x421002_2 x13_2 (rd l2 x14_2) (wrap64 ((wrap64 (a3)) + x14_2)) t428 t429 t430 t431 _ ?side1 ?side2 ?side3 ?side4 A21.out).mono ?_
                        (case side1 => repeat (first | exact (Kd.C_below HR0_2.out HB.out) | (with_reducible refine Kd.C_alloc ?_ _) | (with_reducible refine Kd.C_drewN ?_ _) | (with_reducible refine Kd.C_drew ?_)))
                        (case side2 => exact HC0_2.out)
                        (case side3 => repeat (first | exact (Kd.C_below HR0_7.out HB.out) | (with_reducible refine Kd.C_alloc ?_ _) | (with_reducible refine Kd.C_drewN ?_ _) | (with_reducible refine Kd.C_drew ?_)))
                        (case side4 => exact HC0_7.out)
                        rintro e w33 ⟨rfl, hb⟩
                        refine ⟨_, rfl, ?_⟩
                        have n0_ := Aside0.mk (blk_below (g := gb416) (o := .cells #[.int .i64 a0_0, .int .i64 a0_1, .slice A0_2 l0_2.length c0_2, .int .i64 a0_3, .int .i64 a0_4, .int .i64 a0_5, .int .i64 a0_6, .slice A0_7 l0_7.length c0_7] 45 (0, 0)) (by (with_reducible repeat (first | refine blk_drewN ?_ _ | refine blk_drew ?_ | refine blk_alloc ?_ _)); exact BK416.out) hb)
                        have n1_ := Aside0.mk (blk_below (g := gb419) (o := .cells #[.int .i64 x420000_2, .int .i64 x420001_2, .bool x420002_2] 47 (0, 0)) (by (with_reducible repeat (first | refine blk_drewN ?_ _ | refine blk_drew ?_ | refine blk_alloc ?_ _)); exact BK419.out) hb)
                        have n2_ := Aside0.mk (blk_below (g := gb420) (o := .cells #[.int .i64 x421000_2, .int .i64 x421001_2, .bool x421002_2] 47 (0, 0)) (by (with_reducible repeat (first | refine blk_drewN ?_ _ | refine blk_drew ?_ | refine blk_alloc ?_ _)); exact BK420.out) hb)
                        have n3_ := Aside0.mk (blk_below (g := gb426) (o := .cells #[.int .i64 t422, .int .i64 t423, .bool t424] 47 (0, 0)) (by (with_reducible repeat (first | refine blk_drewN ?_ _ | refine blk_drew ?_ | refine blk_alloc ?_ _)); exact BK426.out) hb)
                        have n4_ := Aside0.mk (below_step (by repeat (first | (with_reducible first | exact HB.out | apply below_alloc | apply pw_below_drewN | apply below_drew1 | refine below_set ?_ GE416.out | refine below_set ?_ GE419.out | refine below_set ?_ GE420.out | refine below_set ?_ GE426.out) | exact HB.out)) hb)
                        clear BK416
                        clear BK419
                        clear BK420
                        clear BK426
                        clear HB
                        have BK416 := n0_
                        have BK419 := n1_
                        have BK420 := n2_
                        have BK426 := n3_
                        have HB := n4_
                        clear n0_ n1_ n2_ n3_ n4_
                        (try clear hb)
                        (try clear hb2)
                        (try clear hk)
                        (try clear hi)
                        refine hK.out _ _ ⟨(blk_cell BK416.out 0).trans rfl, (blk_cell BK416.out 1).trans rfl, (blk_cell BK416.out 2).trans rfl, (blk_cell BK416.out 3).trans rfl, (blk_cell BK416.out 4).trans rfl, (blk_cell BK416.out 5).trans rfl, (blk_cell BK416.out 6).trans rfl, (blk_cell BK416.out 7).trans rfl, (blk_cell BK420.out 0).trans rfl, (blk_cell BK420.out 1).trans rfl, (blk_cell BK420.out 2).trans rfl, ((HB.out.cell (World.block_lt_of_cell? w _ hw427_0)).trans hw427_0)⟩ (fun hHeld => ?_)
                        clear hK K
                        refine norm_ (a' := ?_) ?_ ?_
                        rotate_left
                        · show Act.put _ (some 66) _ = _
                          simp only [Act.put, List.setIfInBounds_toArray, List.set_cons_zero, List.set_cons_succ, i64_w, i32_w]
                          rfl
                        refine pure_ (i := 12) (N := some 54) (v := ?_) (a' := ?_) #[true, true, true, true, true, true, true, true, true, true, true, true, true, false, false, false, false, false] rfl rfl (any_of HT_.out (by kernel_rfl)) (fun _ _ _ h => h) (Or.inl ⟨by rfl, ?_⟩) ?_ ?_
                        rotate_left
                        · intro w'
                          go_simp
                          with_reducible rfl
                        rotate_left
                        · simp only [Act.put, List.setIfInBounds_toArray, List.set_cons_zero, List.set_cons_succ, i64_w, i32_w]
                          rfl
                        refine pure_ (i := 13) (N := some 67) (v := ?_) (a' := ?_) #[true, true, true, true, true, true, true, true, true, true, true, true, true, true, false, false, false, false] rfl rfl (any_of HT_.out (by kernel_rfl)) (fun _ _ _ h => h) (Or.inl ⟨by rfl, ?_⟩) ?_ ?_
                        rotate_left
                        · intro w'
                          go_simp
                          with_reducible rfl
                        rotate_left
                        · simp only [Act.put, List.setIfInBounds_toArray, List.set_cons_zero, List.set_cons_succ, i64_w, i32_w]
                          rfl
                        refine pure_ (i := 14) (N := some 68) (v := ?_) (a' := ?_) #[true, true, true, true, true, true, true, true, true, true, true, true, true, true, true, false, false, false] rfl rfl (any_of HT_.out (by kernel_rfl)) (fun _ _ _ h => h) (Or.inl ⟨by rfl, ?_⟩) ?_ ?_
                        rotate_left
                        · intro w'
                          go_simp
                          with_reducible rfl
                        rotate_left
                        · simp only [Act.put, List.setIfInBounds_toArray, List.set_cons_zero, List.set_cons_succ, i64_w, i32_w]
                          rfl
                        refine one_ (i := 15) (N := some 17) #[true, true, true, true, true, true, true, true, true, true, true, true, true, true, true, true, false, false] rfl rfl (one_of HT_.out (by kernel_rfl)) (by decide) (fun K hK => ?_)
                        refine box_step ?hg (N := 17) ?hd (cs := #[.int .i64 0, .int .i64 0, .bool false]) (t := 47) ?hr ?_; (case hd => rfl); (case hg => rfl); (case hr => first | (go_simp; done) | (go_simp; rfl))
                        intro gb432 hg w34 hbox hb
                        have n0_ := Aside0.mk (blk_below (g := gb416) (o := .cells #[.int .i64 a0_0, .int .i64 a0_1, .slice A0_2 l0_2.length c0_2, .int .i64 a0_3, .int .i64 a0_4, .int .i64 a0_5, .int .i64 a0_6, .slice A0_7 l0_7.length c0_7] 45 (0, 0)) (by (with_reducible repeat (first | refine blk_drewN ?_ _ | refine blk_drew ?_ | refine blk_alloc ?_ _)); exact BK416.out) hb)
                        have n1_ := Aside0.mk (blk_below (g := gb419) (o := .cells #[.int .i64 x420000_2, .int .i64 x420001_2, .bool x420002_2] 47 (0, 0)) (by (with_reducible repeat (first | refine blk_drewN ?_ _ | refine blk_drew ?_ | refine blk_alloc ?_ _)); exact BK419.out) hb)
                        have n2_ := Aside0.mk (blk_below (g := gb420) (o := .cells #[.int .i64 x421000_2, .int .i64 x421001_2, .bool x421002_2] 47 (0, 0)) (by (with_reducible repeat (first | refine blk_drewN ?_ _ | refine blk_drew ?_ | refine blk_alloc ?_ _)); exact BK420.out) hb)
                        have n3_ := Aside0.mk (blk_below (g := gb426) (o := .cells #[.int .i64 t422, .int .i64 t423, .bool t424] 47 (0, 0)) (by (with_reducible repeat (first | refine blk_drewN ?_ _ | refine blk_drew ?_ | refine blk_alloc ?_ _)); exact BK426.out) hb)
                        have n4_ := Aside0.mk (below_step (by repeat (first | (with_reducible first | exact HB.out | apply below_alloc | apply pw_below_drewN | apply below_drew1 | refine below_set ?_ GE416.out | refine below_set ?_ GE419.out | refine below_set ?_ GE420.out | refine below_set ?_ GE426.out) | exact HB.out)) hb)
                        have n5_ := Aside0.mk (hbox)
                        have n6_ := Aside0.mk ((by rw [hg]; exact (below_size (by repeat (first | (with_reducible first | exact HB.out | apply below_alloc | apply pw_below_drewN | apply below_drew1 | refine below_set ?_ GE416.out | refine below_set ?_ GE419.out | refine below_set ?_ GE420.out | refine below_set ?_ GE426.out) | exact HB.out))) : w.heap.size ≤ gb432))
                        have n7_ := Aside0.mk ((by rw [hg]; exact (below_size (by repeat (first | (with_reducible first | exact HB.out | apply below_alloc | apply pw_below_drewN | apply below_drew1 | refine below_set ?_ GE416.out | refine below_set ?_ GE419.out | refine below_set ?_ GE420.out | refine below_set ?_ GE426.out) | exact HB.out))) : w.heap.size ≤ gb432))
                        have n8_ := Aside0.mk ((by rw [hg]; exact Nat.ne_of_lt (blk_lt (g := gb416) (o := .cells #[.int .i64 a0_0, .int .i64 a0_1, .slice A0_2 l0_2.length c0_2, .int .i64 a0_3, .int .i64 a0_4, .int .i64 a0_5, .int .i64 a0_6, .slice A0_7 l0_7.length c0_7] 45 (0, 0)) (by (with_reducible repeat (first | refine blk_drewN ?_ _ | refine blk_drew ?_ | refine blk_alloc ?_ _)); exact BK416.out)) : gb416 ≠ gb432))
                        have n9_ := Aside0.mk ((by rw [hg]; exact Nat.ne_of_gt (blk_lt (g := gb416) (o := .cells #[.int .i64 a0_0, .int .i64 a0_1, .slice A0_2 l0_2.length c0_2, .int .i64 a0_3, .int .i64 a0_4, .int .i64 a0_5, .int .i64 a0_6, .slice A0_7 l0_7.length c0_7] 45 (0, 0)) (by (with_reducible repeat (first | refine blk_drewN ?_ _ | refine blk_drew ?_ | refine blk_alloc ?_ _)); exact BK416.out)) : gb432 ≠ gb416))
                        have n10_ := Aside0.mk ((by rw [hg]; exact Nat.ne_of_lt (blk_lt (g := gb419) (o := .cells #[.int .i64 x420000_2, .int .i64 x420001_2, .bool x420002_2] 47 (0, 0)) (by (with_reducible repeat (first | refine blk_drewN ?_ _ | refine blk_drew ?_ | refine blk_alloc ?_ _)); exact BK419.out)) : gb419 ≠ gb432))
                        have n11_ := Aside0.mk ((by rw [hg]; exact Nat.ne_of_gt (blk_lt (g := gb419) (o := .cells #[.int .i64 x420000_2, .int .i64 x420001_2, .bool x420002_2] 47 (0, 0)) (by (with_reducible repeat (first | refine blk_drewN ?_ _ | refine blk_drew ?_ | refine blk_alloc ?_ _)); exact BK419.out)) : gb432 ≠ gb419))
                        have n12_ := Aside0.mk ((by rw [hg]; exact Nat.ne_of_lt (blk_lt (g := gb420) (o := .cells #[.int .i64 x421000_2, .int .i64 x421001_2, .bool x421002_2] 47 (0, 0)) (by (with_reducible repeat (first | refine blk_drewN ?_ _ | refine blk_drew ?_ | refine blk_alloc ?_ _)); exact BK420.out)) : gb420 ≠ gb432))
                        have n13_ := Aside0.mk ((by rw [hg]; exact Nat.ne_of_gt (blk_lt (g := gb420) (o := .cells #[.int .i64 x421000_2, .int .i64 x421001_2, .bool x421002_2] 47 (0, 0)) (by (with_reducible repeat (first | refine blk_drewN ?_ _ | refine blk_drew ?_ | refine blk_alloc ?_ _)); exact BK420.out)) : gb432 ≠ gb420))
                        have n14_ := Aside0.mk ((by rw [hg]; exact Nat.ne_of_lt (blk_lt (g := gb426) (o := .cells #[.int .i64 t422, .int .i64 t423, .bool t424] 47 (0, 0)) (by (with_reducible repeat (first | refine blk_drewN ?_ _ | refine blk_drew ?_ | refine blk_alloc ?_ _)); exact BK426.out)) : gb426 ≠ gb432))
                        have n15_ := Aside0.mk ((by rw [hg]; exact Nat.ne_of_gt (blk_lt (g := gb426) (o := .cells #[.int .i64 t422, .int .i64 t423, .bool t424] 47 (0, 0)) (by (with_reducible repeat (first | refine blk_drewN ?_ _ | refine blk_drew ?_ | refine blk_alloc ?_ _)); exact BK426.out)) : gb432 ≠ gb426))
                        clear BK416
                        clear BK419
                        clear BK420
                        clear BK426
                        clear HB
                        have BK416 := n0_
                        have BK419 := n1_
                        have BK420 := n2_
                        have BK426 := n3_
                        have HB := n4_
                        have BK432 := n5_
                        have GW432 := n6_
                        have GE432 := n7_
                        have NB416_432 := n8_
                        have NB432_416 := n9_
                        have NB419_432 := n10_
                        have NB432_419 := n11_
                        have NB420_432 := n12_
                        have NB432_420 := n13_
                        have NB426_432 := n14_
                        have NB432_426 := n15_
                        clear n0_ n1_ n2_ n3_ n4_ n5_ n6_ n7_ n8_ n9_ n10_ n11_ n12_ n13_ n14_ n15_
                        clear hb hbox hg
                        refine hK.out _ _ ⟨(blk_cell BK416.out 0).trans rfl, (blk_cell BK416.out 1).trans rfl, (blk_cell BK416.out 2).trans rfl, (blk_cell BK416.out 3).trans rfl, (blk_cell BK416.out 4).trans rfl, (blk_cell BK416.out 5).trans rfl, (blk_cell BK416.out 6).trans rfl, (blk_cell BK416.out 7).trans rfl, (blk_cell BK420.out 0).trans rfl, (blk_cell BK420.out 1).trans rfl, (blk_cell BK420.out 2).trans rfl, ((HB.out.cell (World.block_lt_of_cell? w _ hw427_0)).trans hw427_0)⟩ (fun hHeld => ?_)
                        clear hK K
                        refine norm_ (a' := ?_) ?_ ?_
                        rotate_left
                        · show Act.put _ (some 17) _ = _
                          simp only [Act.put, List.setIfInBounds_toArray, List.set_cons_zero, List.set_cons_succ, i64_w, i32_w]
                          rfl
                        exact norm_ (by simp only [putAll, Act.put, List.setIfInBounds_toArray, List.set_cons_zero, List.set_cons_succ]) (hCont (gb432) _ ⟨hHeld, (by (with_reducible repeat (first | refine blk_drewN ?_ _ | refine blk_drew ?_ | refine blk_alloc ?_ _)); exact BK416.out), (by (with_reducible repeat (first | refine blk_drewN ?_ _ | refine blk_drew ?_ | refine blk_alloc ?_ _)); exact BK419.out), (by (with_reducible repeat (first | refine blk_drewN ?_ _ | refine blk_drew ?_ | refine blk_alloc ?_ _)); exact BK420.out), (by (with_reducible repeat (first | refine blk_drewN ?_ _ | refine blk_drew ?_ | refine blk_alloc ?_ _)); exact BK426.out), (by (with_reducible repeat (first | refine blk_drewN ?_ _ | refine blk_drew ?_ | refine blk_alloc ?_ _)); exact BK432.out), GW432.out, GE432.out, NB416_432.out, NB432_416.out, NB419_432.out, NB432_419.out, NB420_432.out, NB432_420.out, NB426_432.out, NB432_426.out, (by repeat (first | (with_reducible first | exact HB.out | apply below_alloc | apply pw_below_drewN | apply below_drew1 | refine below_set ?_ GE416.out | refine below_set ?_ GE419.out | refine below_set ?_ GE420.out | refine below_set ?_ GE426.out | refine below_set ?_ GE432.out) | exact HB.out))⟩)
                      · skip
                        refine box_step ?hg (N := 17) ?hd (cs := #[.int .i64 0, .int .i64 0, .bool false]) (t := 47) ?hr ?_; (case hd => rfl); (case hg => rfl); (case hr => first | (go_simp; done) | (go_simp; rfl))
                        intro gb432 hg w33 hbox hb
                        have n0_ := Aside0.mk (blk_below (g := gb416) (o := .cells #[.int .i64 a0_0, .int .i64 a0_1, .slice A0_2 l0_2.length c0_2, .int .i64 a0_3, .int .i64 a0_4, .int .i64 a0_5, .int .i64 a0_6, .slice A0_7 l0_7.length c0_7] 45 (0, 0)) (by (with_reducible repeat (first | refine blk_drewN ?_ _ | refine blk_drew ?_ | refine blk_alloc ?_ _)); exact BK416.out) hb)
                        have n1_ := Aside0.mk (blk_below (g := gb419) (o := .cells #[.int .i64 x420000_2, .int .i64 x420001_2, .bool x420002_2] 47 (0, 0)) (by (with_reducible repeat (first | refine blk_drewN ?_ _ | refine blk_drew ?_ | refine blk_alloc ?_ _)); exact BK419.out) hb)
                        have n2_ := Aside0.mk (blk_below (g := gb420) (o := .cells #[.int .i64 x421000_2, .int .i64 x421001_2, .bool x421002_2] 47 (0, 0)) (by (with_reducible repeat (first | refine blk_drewN ?_ _ | refine blk_drew ?_ | refine blk_alloc ?_ _)); exact BK420.out) hb)
                        have n3_ := Aside0.mk (blk_below (g := gb426) (o := .cells #[.int .i64 t422, .int .i64 t423, .bool t424] 47 (0, 0)) (by (with_reducible repeat (first | refine blk_drewN ?_ _ | refine blk_drew ?_ | refine blk_alloc ?_ _)); exact BK426.out) hb)
                        have n4_ := Aside0.mk (below_step (by repeat (first | (with_reducible first | exact HB.out | apply below_alloc | apply pw_below_drewN | apply below_drew1 | refine below_set ?_ GE416.out | refine below_set ?_ GE419.out | refine below_set ?_ GE420.out | refine below_set ?_ GE426.out) | exact HB.out)) hb)
                        have n5_ := Aside0.mk (hbox)
                        have n6_ := Aside0.mk ((by rw [hg]; exact (below_size (by repeat (first | (with_reducible first | exact HB.out | apply below_alloc | apply pw_below_drewN | apply below_drew1 | refine below_set ?_ GE416.out | refine below_set ?_ GE419.out | refine below_set ?_ GE420.out | refine below_set ?_ GE426.out) | exact HB.out))) : w.heap.size ≤ gb432))
                        have n7_ := Aside0.mk ((by rw [hg]; exact (below_size (by repeat (first | (with_reducible first | exact HB.out | apply below_alloc | apply pw_below_drewN | apply below_drew1 | refine below_set ?_ GE416.out | refine below_set ?_ GE419.out | refine below_set ?_ GE420.out | refine below_set ?_ GE426.out) | exact HB.out))) : w.heap.size ≤ gb432))
                        have n8_ := Aside0.mk ((by rw [hg]; exact Nat.ne_of_lt (blk_lt (g := gb416) (o := .cells #[.int .i64 a0_0, .int .i64 a0_1, .slice A0_2 l0_2.length c0_2, .int .i64 a0_3, .int .i64 a0_4, .int .i64 a0_5, .int .i64 a0_6, .slice A0_7 l0_7.length c0_7] 45 (0, 0)) (by (with_reducible repeat (first | refine blk_drewN ?_ _ | refine blk_drew ?_ | refine blk_alloc ?_ _)); exact BK416.out)) : gb416 ≠ gb432))
                        have n9_ := Aside0.mk ((by rw [hg]; exact Nat.ne_of_gt (blk_lt (g := gb416) (o := .cells #[.int .i64 a0_0, .int .i64 a0_1, .slice A0_2 l0_2.length c0_2, .int .i64 a0_3, .int .i64 a0_4, .int .i64 a0_5, .int .i64 a0_6, .slice A0_7 l0_7.length c0_7] 45 (0, 0)) (by (with_reducible repeat (first | refine blk_drewN ?_ _ | refine blk_drew ?_ | refine blk_alloc ?_ _)); exact BK416.out)) : gb432 ≠ gb416))
                        have n10_ := Aside0.mk ((by rw [hg]; exact Nat.ne_of_lt (blk_lt (g := gb419) (o := .cells #[.int .i64 x420000_2, .int .i64 x420001_2, .bool x420002_2] 47 (0, 0)) (by (with_reducible repeat (first | refine blk_drewN ?_ _ | refine blk_drew ?_ | refine blk_alloc ?_ _)); exact BK419.out)) : gb419 ≠ gb432))
                        have n11_ := Aside0.mk ((by rw [hg]; exact Nat.ne_of_gt (blk_lt (g := gb419) (o := .cells #[.int .i64 x420000_2, .int .i64 x420001_2, .bool x420002_2] 47 (0, 0)) (by (with_reducible repeat (first | refine blk_drewN ?_ _ | refine blk_drew ?_ | refine blk_alloc ?_ _)); exact BK419.out)) : gb432 ≠ gb419))
                        have n12_ := Aside0.mk ((by rw [hg]; exact Nat.ne_of_lt (blk_lt (g := gb420) (o := .cells #[.int .i64 x421000_2, .int .i64 x421001_2, .bool x421002_2] 47 (0, 0)) (by (with_reducible repeat (first | refine blk_drewN ?_ _ | refine blk_drew ?_ | refine blk_alloc ?_ _)); exact BK420.out)) : gb420 ≠ gb432))
                        have n13_ := Aside0.mk ((by rw [hg]; exact Nat.ne_of_gt (blk_lt (g := gb420) (o := .cells #[.int .i64 x421000_2, .int .i64 x421001_2, .bool x421002_2] 47 (0, 0)) (by (with_reducible repeat (first | refine blk_drewN ?_ _ | refine blk_drew ?_ | refine blk_alloc ?_ _)); exact BK420.out)) : gb432 ≠ gb420))
                        have n14_ := Aside0.mk ((by rw [hg]; exact Nat.ne_of_lt (blk_lt (g := gb426) (o := .cells #[.int .i64 t422, .int .i64 t423, .bool t424] 47 (0, 0)) (by (with_reducible repeat (first | refine blk_drewN ?_ _ | refine blk_drew ?_ | refine blk_alloc ?_ _)); exact BK426.out)) : gb426 ≠ gb432))
                        have n15_ := Aside0.mk ((by rw [hg]; exact Nat.ne_of_gt (blk_lt (g := gb426) (o := .cells #[.int .i64 t422, .int .i64 t423, .bool t424] 47 (0, 0)) (by (with_reducible repeat (first | refine blk_drewN ?_ _ | refine blk_drew ?_ | refine blk_alloc ?_ _)); exact BK426.out)) : gb432 ≠ gb426))
                        clear BK416
                        clear BK419
                        clear BK420
                        clear BK426
                        clear HB
                        have BK416 := n0_
                        have BK419 := n1_
                        have BK420 := n2_
                        have BK426 := n3_
                        have HB := n4_
                        have BK432 := n5_
                        have GW432 := n6_
                        have GE432 := n7_
                        have NB416_432 := n8_
                        have NB432_416 := n9_
                        have NB419_432 := n10_
                        have NB432_419 := n11_
                        have NB420_432 := n12_
                        have NB432_420 := n13_
                        have NB426_432 := n14_
                        have NB432_426 := n15_
                        clear n0_ n1_ n2_ n3_ n4_ n5_ n6_ n7_ n8_ n9_ n10_ n11_ n12_ n13_ n14_ n15_
                        clear hb hbox hg
                        refine hK.out _ _ ⟨(blk_cell BK416.out 0).trans rfl, (blk_cell BK416.out 1).trans rfl, (blk_cell BK416.out 2).trans rfl, (blk_cell BK416.out 3).trans rfl, (blk_cell BK416.out 4).trans rfl, (blk_cell BK416.out 5).trans rfl, (blk_cell BK416.out 6).trans rfl, (blk_cell BK416.out 7).trans rfl, (blk_cell BK420.out 0).trans rfl, (blk_cell BK420.out 1).trans rfl, (blk_cell BK420.out 2).trans rfl, ((HB.out.cell (World.block_lt_of_cell? w _ hw427_0)).trans hw427_0)⟩ (fun hHeld => ?_)
                        clear hK K
                        refine norm_ (a' := ?_) ?_ ?_
                        rotate_left
                        · show Act.put _ (some 17) _ = _
                          simp only [Act.put, List.setIfInBounds_toArray, List.set_cons_zero, List.set_cons_succ, i64_w, i32_w]
                          rfl
                        refine one_ (i := 11) (N := some 66) #[true, true, true, true, true, true, true, true, true, true, true, true, false, false, false, true, false, false] rfl rfl (one_of HT_.out (by kernel_rfl)) (by decide) (fun K hK => ?_)
                        refine goes_ Try.func28 (by kernel_rfl) rfl #[.agg #[.int .i64 a0_0, .int .i64 a0_1, .slice A0_2 l0_2.length c0_2, .int .i64 a0_3, .int .i64 a0_4, .int .i64 a0_5, .int .i64 a0_6, .slice A0_7 l0_7.length c0_7], .agg #[.int .i64 x421000_2, .int .i64 x421001_2, .bool x421002_2], .int .i64 x13_2, .int .i64 (rd l2 x14_2), .int .i64 (wrap64 ((wrap64 (a3)) + x14_2))] (by rfl) rfl rfl (by (try simp only [List.map_toArray, List.map_cons, List.map_nil]); first | done | rfl | (simp only [List.length_drop, List.length_take]; rfl)) ?_
                        with_reducible refine (governorref14_Next.calls k2 a0_0 a0_1 _ _ l0_2 a0_3 a0_4 a0_5 a0_6 _ _ l0_7 x421000_2 x421001_2 x421002_2 x13_2 (rd l2 x14_2) (wrap64 ((wrap64 (a3)) + x14_2)) t428 t429 t430 t431 _ ?side1 ?side2 ?side3 ?side4 A21.out).mono ?_
                        (case side1 => repeat (first | exact (Kd.C_below HR0_2.out HB.out) | (with_reducible refine Kd.C_alloc ?_ _) | (with_reducible refine Kd.C_drewN ?_ _) | (with_reducible refine Kd.C_drew ?_)))
                        (case side2 => exact HC0_2.out)
                        (case side3 => repeat (first | exact (Kd.C_below HR0_7.out HB.out) | (with_reducible refine Kd.C_alloc ?_ _) | (with_reducible refine Kd.C_drewN ?_ _) | (with_reducible refine Kd.C_drew ?_)))
                        (case side4 => exact HC0_7.out)
                        rintro e w34 ⟨rfl, hb⟩
                        refine ⟨_, rfl, ?_⟩
                        have n0_ := Aside0.mk (blk_below (g := gb416) (o := .cells #[.int .i64 a0_0, .int .i64 a0_1, .slice A0_2 l0_2.length c0_2, .int .i64 a0_3, .int .i64 a0_4, .int .i64 a0_5, .int .i64 a0_6, .slice A0_7 l0_7.length c0_7] 45 (0, 0)) (by (with_reducible repeat (first | refine blk_drewN ?_ _ | refine blk_drew ?_ | refine blk_alloc ?_ _)); exact BK416.out) hb)
                        have n1_ := Aside0.mk (blk_below (g := gb419) (o := .cells #[.int .i64 x420000_2, .int .i64 x420001_2, .bool x420002_2] 47 (0, 0)) (by (with_reducible repeat (first | refine blk_drewN ?_ _ | refine blk_drew ?_ | refine blk_alloc ?_ _)); exact BK419.out) hb)
                        have n2_ := Aside0.mk (blk_below (g := gb420) (o := .cells #[.int .i64 x421000_2, .int .i64 x421001_2, .bool x421002_2] 47 (0, 0)) (by (with_reducible repeat (first | refine blk_drewN ?_ _ | refine blk_drew ?_ | refine blk_alloc ?_ _)); exact BK420.out) hb)
                        have n3_ := Aside0.mk (blk_below (g := gb426) (o := .cells #[.int .i64 t422, .int .i64 t423, .bool t424] 47 (0, 0)) (by (with_reducible repeat (first | refine blk_drewN ?_ _ | refine blk_drew ?_ | refine blk_alloc ?_ _)); exact BK426.out) hb)
                        have n4_ := Aside0.mk (blk_below (g := gb432) (o := .cells #[.int .i64 0, .int .i64 0, .bool false] 47 (0, 0)) (by (with_reducible repeat (first | refine blk_drewN ?_ _ | refine blk_drew ?_ | refine blk_alloc ?_ _)); exact BK432.out) hb)
                        have n5_ := Aside0.mk (below_step (by repeat (first | (with_reducible first | exact HB.out | apply below_alloc | apply pw_below_drewN | apply below_drew1 | refine below_set ?_ GE416.out | refine below_set ?_ GE419.out | refine below_set ?_ GE420.out | refine below_set ?_ GE426.out | refine below_set ?_ GE432.out) | exact HB.out)) hb)
                        clear BK416
                        clear BK419
                        clear BK420
                        clear BK426
                        clear BK432
                        clear HB
                        have BK416 := n0_
                        have BK419 := n1_
                        have BK420 := n2_
                        have BK426 := n3_
                        have BK432 := n4_
                        have HB := n5_
                        clear n0_ n1_ n2_ n3_ n4_ n5_
                        (try clear hb)
                        (try clear hb2)
                        (try clear hk)
                        (try clear hi)
                        refine hK.out _ _ ⟨(blk_cell BK416.out 0).trans rfl, (blk_cell BK416.out 1).trans rfl, (blk_cell BK416.out 2).trans rfl, (blk_cell BK416.out 3).trans rfl, (blk_cell BK416.out 4).trans rfl, (blk_cell BK416.out 5).trans rfl, (blk_cell BK416.out 6).trans rfl, (blk_cell BK416.out 7).trans rfl, (blk_cell BK420.out 0).trans rfl, (blk_cell BK420.out 1).trans rfl, (blk_cell BK420.out 2).trans rfl, ((HB.out.cell (World.block_lt_of_cell? w _ hw427_0)).trans hw427_0)⟩ (fun hHeld => ?_)
                        clear hK K
                        refine norm_ (a' := ?_) ?_ ?_
                        rotate_left
                        · show Act.put _ (some 66) _ = _
                          simp only [Act.put, List.setIfInBounds_toArray, List.set_cons_zero, List.set_cons_succ, i64_w, i32_w]
                          rfl
                        refine pure_ (i := 12) (N := some 54) (v := ?_) (a' := ?_) #[true, true, true, true, true, true, true, true, true, true, true, true, true, false, false, true, false, false] rfl rfl (any_of HT_.out (by kernel_rfl)) (fun _ _ _ h => h) (Or.inl ⟨by rfl, ?_⟩) ?_ ?_
                        rotate_left
                        · intro w'
                          go_simp
                          with_reducible rfl
                        rotate_left
                        · simp only [Act.put, List.setIfInBounds_toArray, List.set_cons_zero, List.set_cons_succ, i64_w, i32_w]
                          rfl
                        refine pure_ (i := 13) (N := some 67) (v := ?_) (a' := ?_) #[true, true, true, true, true, true, true, true, true, true, true, true, true, true, false, true, false, false] rfl rfl (any_of HT_.out (by kernel_rfl)) (fun _ _ _ h => h) (Or.inl ⟨by rfl, ?_⟩) ?_ ?_
                        rotate_left
                        · intro w'
                          go_simp
                          with_reducible rfl
                        rotate_left
                        · simp only [Act.put, List.setIfInBounds_toArray, List.set_cons_zero, List.set_cons_succ, i64_w, i32_w]
                          rfl
                        refine pure_ (i := 14) (N := some 68) (v := ?_) (a' := ?_) #[true, true, true, true, true, true, true, true, true, true, true, true, true, true, true, true, false, false] rfl rfl (any_of HT_.out (by kernel_rfl)) (fun _ _ _ h => h) (Or.inl ⟨by rfl, ?_⟩) ?_ ?_
                        rotate_left
                        · intro w'
                          go_simp
                          with_reducible rfl
                        rotate_left
                        · simp only [Act.put, List.setIfInBounds_toArray, List.set_cons_zero, List.set_cons_succ, i64_w, i32_w]
                          rfl
                        exact norm_ (by simp only [putAll, Act.put, List.setIfInBounds_toArray, List.set_cons_zero, List.set_cons_succ]) (hCont (gb432) _ ⟨hHeld, (by (with_reducible repeat (first | refine blk_drewN ?_ _ | refine blk_drew ?_ | refine blk_alloc ?_ _)); exact BK416.out), (by (with_reducible repeat (first | refine blk_drewN ?_ _ | refine blk_drew ?_ | refine blk_alloc ?_ _)); exact BK419.out), (by (with_reducible repeat (first | refine blk_drewN ?_ _ | refine blk_drew ?_ | refine blk_alloc ?_ _)); exact BK420.out), (by (with_reducible repeat (first | refine blk_drewN ?_ _ | refine blk_drew ?_ | refine blk_alloc ?_ _)); exact BK426.out), (by (with_reducible repeat (first | refine blk_drewN ?_ _ | refine blk_drew ?_ | refine blk_alloc ?_ _)); exact BK432.out), GW432.out, GE432.out, NB416_432.out, NB432_416.out, NB419_432.out, NB432_419.out, NB420_432.out, NB432_420.out, NB426_432.out, NB432_426.out, (by repeat (first | (with_reducible first | exact HB.out | apply below_alloc | apply pw_below_drewN | apply below_drew1 | refine below_set ?_ GE416.out | refine below_set ?_ GE419.out | refine below_set ?_ GE420.out | refine below_set ?_ GE426.out | refine below_set ?_ GE432.out) | exact HB.out))⟩)
                    rintro gb432 w35 ⟨hS_, h0_, h1_, h2_, h3_, h4_, h5_, h6_, h7_, h8_, h9_, h10_, h11_, h12_, h13_, h14_, h15_⟩
                    have n0_ : Aside0 (w35.heap[gb416]? = some (.cells #[.int .i64 a0_0, .int .i64 a0_1, .slice A0_2 l0_2.length c0_2, .int .i64 a0_3, .int .i64 a0_4, .int .i64 a0_5, .int .i64 a0_6, .slice A0_7 l0_7.length c0_7] 45 (0, 0))) := ⟨h0_⟩
                    have n1_ : Aside0 (w35.heap[gb419]? = some (.cells #[.int .i64 x420000_2, .int .i64 x420001_2, .bool x420002_2] 47 (0, 0))) := ⟨h1_⟩
                    have n2_ : Aside0 (w35.heap[gb420]? = some (.cells #[.int .i64 x421000_2, .int .i64 x421001_2, .bool x421002_2] 47 (0, 0))) := ⟨h2_⟩
                    have n3_ : Aside0 (w35.heap[gb426]? = some (.cells #[.int .i64 t422, .int .i64 t423, .bool t424] 47 (0, 0))) := ⟨h3_⟩
                    have n4_ : Aside0 (w35.heap[gb432]? = some (.cells #[.int .i64 0, .int .i64 0, .bool false] 47 (0, 0))) := ⟨h4_⟩
                    have n5_ : Aside0 (w.heap.size ≤ gb432) := ⟨h5_⟩
                    have n6_ : Aside0 (w.heap.size ≤ gb432) := ⟨h6_⟩
                    have n7_ : Aside0 (gb416 ≠ gb432) := ⟨h7_⟩
                    have n8_ : Aside0 (gb432 ≠ gb416) := ⟨h8_⟩
                    have n9_ : Aside0 (gb419 ≠ gb432) := ⟨h9_⟩
                    have n10_ : Aside0 (gb432 ≠ gb419) := ⟨h10_⟩
                    have n11_ : Aside0 (gb420 ≠ gb432) := ⟨h11_⟩
                    have n12_ : Aside0 (gb432 ≠ gb420) := ⟨h12_⟩
                    have n13_ : Aside0 (gb426 ≠ gb432) := ⟨h13_⟩
                    have n14_ : Aside0 (gb432 ≠ gb426) := ⟨h14_⟩
                    have n15_ : Aside0 (Below w.heap.size w w35) := ⟨h15_⟩
                    clear BK416
                    clear BK419
                    clear BK420
                    clear BK426
                    clear HB
                    clear h0_ h1_ h2_ h3_ h4_ h5_ h6_ h7_ h8_ h9_ h10_ h11_ h12_ h13_ h14_ h15_
                    have BK416 := n0_
                    have BK419 := n1_
                    have BK420 := n2_
                    have BK426 := n3_
                    have BK432 := n4_
                    have GW432 := n5_
                    have GE432 := n6_
                    have NB416_432 := n7_
                    have NB432_416 := n8_
                    have NB419_432 := n9_
                    have NB432_419 := n10_
                    have NB420_432 := n11_
                    have NB432_420 := n12_
                    have NB426_432 := n13_
                    have NB432_426 := n14_
                    have HB := n15_
                    clear n0_ n1_ n2_ n3_ n4_ n5_ n6_ n7_ n8_ n9_ n10_ n11_ n12_ n13_ n14_ n15_
                    have hHeld : w35.cell? ⟨gb416, 0, none⟩ = some (.int .i64 a0_0) ∧ w35.cell? ⟨gb416, 1, none⟩ = some (.int .i64 a0_1) ∧ w35.cell? ⟨gb416, 2, none⟩ = some (.slice A0_2 l0_2.length c0_2) ∧ w35.cell? ⟨gb416, 3, none⟩ = some (.int .i64 a0_3) ∧ w35.cell? ⟨gb416, 4, none⟩ = some (.int .i64 a0_4) ∧ w35.cell? ⟨gb416, 5, none⟩ = some (.int .i64 a0_5) ∧ w35.cell? ⟨gb416, 6, none⟩ = some (.int .i64 a0_6) ∧ w35.cell? ⟨gb416, 7, none⟩ = some (.slice A0_7 l0_7.length c0_7) ∧ w35.cell? ⟨gb420, 0, none⟩ = some (.int .i64 x421000_2) ∧ w35.cell? ⟨gb420, 1, none⟩ = some (.int .i64 x421001_2) ∧ w35.cell? ⟨gb420, 2, none⟩ = some (.bool x421002_2) ∧ w35.cell? (ad421.add (x14_2).toNat) = some (.int .i64 (rd l2 x14_2)) := hS_
                    refine norm_ (a' := ?_) ?_ ?_
                    rotate_left
                    · simp only [putAll, Act.put, List.setIfInBounds_toArray, List.set_cons_zero, List.set_cons_succ]
                      rfl
                    refine one_ (i := 16) (N := none) #[true, true, true, true, true, true, true, true, true, true, true, true, true, true, true, true, true, false] rfl rfl (one_of HT_.out (by kernel_rfl)) (by decide) (fun K hK => ?_)
                    have hs36 : w35.cell? ⟨gb432, 0, none⟩ = some (.int .i64 0) := (blk_cell BK432.out 0).trans rfl
                    have hfs36 := blk_frozen BK432.out 0
                    have hns36_0 := NB416_432.out
                    have hns36_1 := NB419_432.out
                    have hns36_2 := NB420_432.out
                    have hns36_3 := NB426_432.out
                    have hms36_0 := NB432_416.out
                    have hms36_1 := NB432_419.out
                    have hms36_2 := NB432_420.out
                    have hms36_3 := NB432_426.out
                    have hs37 : w35.cell? ⟨gb432, 1, none⟩ = some (.int .i64 0) := (blk_cell BK432.out 1).trans rfl
                    have hfs37 := blk_frozen BK432.out 1
                    have hns37_0 := NB416_432.out
                    have hns37_1 := NB419_432.out
                    have hns37_2 := NB420_432.out
                    have hns37_3 := NB426_432.out
                    have hms37_0 := NB432_416.out
                    have hms37_1 := NB432_419.out
                    have hms37_2 := NB432_420.out
                    have hms37_3 := NB432_426.out
                    have hs38 : w35.cell? ⟨gb432, 2, none⟩ = some (.bool false) := (blk_cell BK432.out 2).trans rfl
                    have hfs38 := blk_frozen BK432.out 2
                    have hns38_0 := NB416_432.out
                    have hns38_1 := NB419_432.out
                    have hns38_2 := NB420_432.out
                    have hns38_3 := NB426_432.out
                    have hms38_0 := NB432_416.out
                    have hms38_1 := NB432_419.out
                    have hms38_2 := NB432_420.out
                    have hms38_3 := NB432_426.out
                    refine skip_ (w1 := ?_) (by rfl) rfl ?_ ?_
                    rotate_left
                    · go_simp
                      rfl
                    refine hK.out _ _ ⟨((cell_far (p := ⟨gb432, _, none⟩) NB416_432.out _).trans (((cell_far (p := ⟨gb432, _, none⟩) NB416_432.out _).trans (((cell_far (p := ⟨gb432, _, none⟩) NB416_432.out _).trans (hHeld.1)))))), ((cell_far (p := ⟨gb432, _, none⟩) NB416_432.out _).trans (((cell_far (p := ⟨gb432, _, none⟩) NB416_432.out _).trans (((cell_far (p := ⟨gb432, _, none⟩) NB416_432.out _).trans (hHeld.2.1)))))), ((cell_far (p := ⟨gb432, _, none⟩) NB416_432.out _).trans (((cell_far (p := ⟨gb432, _, none⟩) NB416_432.out _).trans (((cell_far (p := ⟨gb432, _, none⟩) NB416_432.out _).trans (hHeld.2.2.1)))))), ((cell_far (p := ⟨gb432, _, none⟩) NB416_432.out _).trans (((cell_far (p := ⟨gb432, _, none⟩) NB416_432.out _).trans (((cell_far (p := ⟨gb432, _, none⟩) NB416_432.out _).trans (hHeld.2.2.2.1)))))), ((cell_far (p := ⟨gb432, _, none⟩) NB416_432.out _).trans (((cell_far (p := ⟨gb432, _, none⟩) NB416_432.out _).trans (((cell_far (p := ⟨gb432, _, none⟩) NB416_432.out _).trans (hHeld.2.2.2.2.1)))))), ((cell_far (p := ⟨gb432, _, none⟩) NB416_432.out _).trans (((cell_far (p := ⟨gb432, _, none⟩) NB416_432.out _).trans (((cell_far (p := ⟨gb432, _, none⟩) NB416_432.out _).trans (hHeld.2.2.2.2.2.1)))))), ((cell_far (p := ⟨gb432, _, none⟩) NB416_432.out _).trans (((cell_far (p := ⟨gb432, _, none⟩) NB416_432.out _).trans (((cell_far (p := ⟨gb432, _, none⟩) NB416_432.out _).trans (hHeld.2.2.2.2.2.2.1)))))), ((cell_far (p := ⟨gb432, _, none⟩) NB416_432.out _).trans (((cell_far (p := ⟨gb432, _, none⟩) NB416_432.out _).trans (((cell_far (p := ⟨gb432, _, none⟩) NB416_432.out _).trans (hHeld.2.2.2.2.2.2.2.1)))))), ((cell_far (p := ⟨gb432, _, none⟩) NB420_432.out _).trans (((cell_far (p := ⟨gb432, _, none⟩) NB420_432.out _).trans (((cell_far (p := ⟨gb432, _, none⟩) NB420_432.out _).trans (hHeld.2.2.2.2.2.2.2.2.1)))))), ((cell_far (p := ⟨gb432, _, none⟩) NB420_432.out _).trans (((cell_far (p := ⟨gb432, _, none⟩) NB420_432.out _).trans (((cell_far (p := ⟨gb432, _, none⟩) NB420_432.out _).trans (hHeld.2.2.2.2.2.2.2.2.2.1)))))), ((cell_far (p := ⟨gb432, _, none⟩) NB420_432.out _).trans (((cell_far (p := ⟨gb432, _, none⟩) NB420_432.out _).trans (((cell_far (p := ⟨gb432, _, none⟩) NB420_432.out _).trans (hHeld.2.2.2.2.2.2.2.2.2.2.1)))))), ((cell_far (p := ⟨gb432, _, none⟩) (by first | exact Nat.ne_of_lt (Nat.lt_of_lt_of_le (by have := World.block_lt_of_cell? _ _ hw427_0; first | rwa [add_block] at this | exact this) GW432.out) | (rw [add_block]; exact Nat.ne_of_lt (Nat.lt_of_lt_of_le (by have := World.block_lt_of_cell? _ _ hw427_0; first | rwa [add_block] at this | exact this) GW432.out)) | (show (Addr.add _ _).block ≠ _; rw [add_block]; exact Nat.ne_of_lt (Nat.lt_of_lt_of_le (by have := World.block_lt_of_cell? _ _ hw427_0; first | rwa [add_block] at this | exact this) GW432.out)) | (dsimp only; exact Nat.ne_of_lt (Nat.lt_of_lt_of_le (by have := World.block_lt_of_cell? _ _ hw427_0; first | rwa [add_block] at this | exact this) GW432.out))) _).trans (((cell_far (p := ⟨gb432, _, none⟩) (by first | exact Nat.ne_of_lt (Nat.lt_of_lt_of_le (by have := World.block_lt_of_cell? _ _ hw427_0; first | rwa [add_block] at this | exact this) GW432.out) | (rw [add_block]; exact Nat.ne_of_lt (Nat.lt_of_lt_of_le (by have := World.block_lt_of_cell? _ _ hw427_0; first | rwa [add_block] at this | exact this) GW432.out)) | (show (Addr.add _ _).block ≠ _; rw [add_block]; exact Nat.ne_of_lt (Nat.lt_of_lt_of_le (by have := World.block_lt_of_cell? _ _ hw427_0; first | rwa [add_block] at this | exact this) GW432.out)) | (dsimp only; exact Nat.ne_of_lt (Nat.lt_of_lt_of_le (by have := World.block_lt_of_cell? _ _ hw427_0; first | rwa [add_block] at this | exact this) GW432.out))) _).trans (((cell_far (p := ⟨gb432, _, none⟩) (by first | exact Nat.ne_of_lt (Nat.lt_of_lt_of_le (by have := World.block_lt_of_cell? _ _ hw427_0; first | rwa [add_block] at this | exact this) GW432.out) | (rw [add_block]; exact Nat.ne_of_lt (Nat.lt_of_lt_of_le (by have := World.block_lt_of_cell? _ _ hw427_0; first | rwa [add_block] at this | exact this) GW432.out)) | (show (Addr.add _ _).block ≠ _; rw [add_block]; exact Nat.ne_of_lt (Nat.lt_of_lt_of_le (by have := World.block_lt_of_cell? _ _ hw427_0; first | rwa [add_block] at this | exact this) GW432.out)) | (dsimp only; exact Nat.ne_of_lt (Nat.lt_of_lt_of_le (by have := World.block_lt_of_cell? _ _ hw427_0; first | rwa [add_block] at this | exact this) GW432.out))) _).trans (hHeld.2.2.2.2.2.2.2.2.2.2.2))))))⟩ (fun hHeld => ?_)
                    clear hK K
                    refine pure_ (i := 17) (N := some 18) (v := ?_) (a' := ?_) #[true, true, true, true, true, true, true, true, true, true, true, true, true, true, true, true, true, true] rfl rfl (any_of HT_.out (by kernel_rfl)) (fun _ _ _ h => h) (Or.inl ⟨by rfl, ?_⟩) ?_ ?_
                    rotate_left
                    · intro w'
                      go_simp
                      with_reducible rfl
                    rotate_left
                    · simp only [Act.put, List.setIfInBounds_toArray, List.set_cons_zero, List.set_cons_succ, i64_w, i32_w]
                      rfl
                    refine done_ (done_of HT_.out (by kernel_rfl)) ?_
                    have hnb39 := NB426_416.out
                    have hnc39 := NB416_426.out
                    have hnb40 := NB426_419.out
                    have hnc40 := NB419_426.out
                    have hnb41 := NB426_420.out
                    have hnc41 := NB420_426.out
                    have hnb42 := NB426_432.out
                    have hnc42 := NB432_426.out
                    have hcz43_0 : w35.cell? ⟨gb426, 0, none⟩ = some (.int .i64 t422) := (blk_cell BK426.out 0).trans rfl
                    have hcz43_1 : w35.cell? ⟨gb426, 1, none⟩ = some (.int .i64 t423) := (blk_cell BK426.out 1).trans rfl
                    have hcz43_2 : w35.cell? ⟨gb426, 2, none⟩ = some (.bool t424) := (blk_cell BK426.out 2).trans rfl
                    have hfz43_0 := blk_frozen BK426.out 0
                    have hfz43_1 := blk_frozen BK426.out 1
                    have hfz43_2 := blk_frozen BK426.out 2
                    have hnb44 := NB432_416.out
                    have hnc44 := NB416_432.out
                    have hnb45 := NB432_419.out
                    have hnc45 := NB419_432.out
                    have hnb46 := NB432_420.out
                    have hnc46 := NB420_432.out
                    have hcz47_0 : w35.cell? ⟨gb432, 0, none⟩ = some (.int .i64 0) := (blk_cell BK432.out 0).trans rfl
                    have hcz47_1 : w35.cell? ⟨gb432, 1, none⟩ = some (.int .i64 0) := (blk_cell BK432.out 1).trans rfl
                    have hcz47_2 : w35.cell? ⟨gb432, 2, none⟩ = some (.bool false) := (blk_cell BK432.out 2).trans rfl
                    have hfz47_0 := blk_frozen BK432.out 0
                    have hfz47_1 := blk_frozen BK432.out 1
                    have hfz47_2 := blk_frozen BK432.out 2
                    have hnb48 := NB419_416.out
                    have hnc48 := NB416_419.out
                    have hnb49 := NB419_420.out
                    have hnc49 := NB420_419.out
                    have hcz50_0 : w35.cell? ⟨gb419, 0, none⟩ = some (.int .i64 x420000_2) := (blk_cell BK419.out 0).trans rfl
                    have hcz50_1 : w35.cell? ⟨gb419, 1, none⟩ = some (.int .i64 x420001_2) := (blk_cell BK419.out 1).trans rfl
                    have hcz50_2 : w35.cell? ⟨gb419, 2, none⟩ = some (.bool x420002_2) := (blk_cell BK419.out 2).trans rfl
                    have hfz50_0 := blk_frozen BK419.out 0
                    have hfz50_1 := blk_frozen BK419.out 1
                    have hfz50_2 := blk_frozen BK419.out 2
                    have hnb51 := NB420_416.out
                    have hnc51 := NB416_420.out
                    have hcz52_0 : w35.cell? ⟨gb420, 0, none⟩ = some (.int .i64 x421000_2) := (blk_cell BK420.out 0).trans rfl
                    have hcz52_1 : w35.cell? ⟨gb420, 1, none⟩ = some (.int .i64 x421001_2) := (blk_cell BK420.out 1).trans rfl
                    have hcz52_2 : w35.cell? ⟨gb420, 2, none⟩ = some (.bool x421002_2) := (blk_cell BK420.out 2).trans rfl
                    have hfz52_0 := blk_frozen BK420.out 0
                    have hfz52_1 := blk_frozen BK420.out 1
                    have hfz52_2 := blk_frozen BK420.out 2
                    try go_wp2
                    go_roundg k2
                    case measure => have := HJ5.out; have := HK2.out; omega
                    case rel => exact ⟨(t425), (t431), (wrap64 (x14_2 + 1)), (t422), (t423), (t424), (t428), (t429), (t430), (by first | rfl | (simp; done) | (simp [*]; done)), (by first | rfl | (simp; done) | (simp [*]; done)), (by first | rfl | (simp; done) | (simp [*]; done)), H', ⟨by have := HJ5.out; have := HK2.out; omega⟩, ⟨by (with_reducible repeat (first | refine blk_drewN ?_ _ | refine blk_drew ?_ | refine blk_alloc ?_ _)); refine blk_far ?_ NB416_420.out _; (with_reducible repeat (first | refine blk_drewN ?_ _ | refine blk_drew ?_ | refine blk_alloc ?_ _)); refine blk_far ?_ NB416_420.out _; (with_reducible repeat (first | refine blk_drewN ?_ _ | refine blk_drew ?_ | refine blk_alloc ?_ _)); refine blk_far ?_ NB416_420.out _; (with_reducible repeat (first | refine blk_drewN ?_ _ | refine blk_drew ?_ | refine blk_alloc ?_ _)); refine blk_far ?_ NB416_419.out _; (with_reducible repeat (first | refine blk_drewN ?_ _ | refine blk_drew ?_ | refine blk_alloc ?_ _)); refine blk_far ?_ NB416_419.out _; (with_reducible repeat (first | refine blk_drewN ?_ _ | refine blk_drew ?_ | refine blk_alloc ?_ _)); refine blk_far ?_ NB416_419.out _; (with_reducible repeat (first | refine blk_drewN ?_ _ | refine blk_drew ?_ | refine blk_alloc ?_ _)); refine blk_far ?_ NB416_432.out _; (with_reducible repeat (first | refine blk_drewN ?_ _ | refine blk_drew ?_ | refine blk_alloc ?_ _)); refine blk_far ?_ NB416_432.out _; (with_reducible repeat (first | refine blk_drewN ?_ _ | refine blk_drew ?_ | refine blk_alloc ?_ _)); refine blk_far ?_ NB416_432.out _; (with_reducible repeat (first | refine blk_drewN ?_ _ | refine blk_drew ?_ | refine blk_alloc ?_ _)); exact BK416.out⟩, ⟨by (with_reducible repeat (first | refine blk_drewN ?_ _ | refine blk_drew ?_ | refine blk_alloc ?_ _)); refine blk_far ?_ NB419_420.out _; (with_reducible repeat (first | refine blk_drewN ?_ _ | refine blk_drew ?_ | refine blk_alloc ?_ _)); refine blk_far ?_ NB419_420.out _; (with_reducible repeat (first | refine blk_drewN ?_ _ | refine blk_drew ?_ | refine blk_alloc ?_ _)); refine blk_far ?_ NB419_420.out _; (with_reducible repeat (first | refine blk_drewN ?_ _ | refine blk_drew ?_ | refine blk_alloc ?_ _)); refine blk_put (cs := #[.int .i64 t422, .int .i64 t423, .bool x420002_2]) ?_ 2 _ rfl; (with_reducible repeat (first | refine blk_drewN ?_ _ | refine blk_drew ?_ | refine blk_alloc ?_ _)); refine blk_put (cs := #[.int .i64 t422, .int .i64 x420001_2, .bool x420002_2]) ?_ 1 _ rfl; (with_reducible repeat (first | refine blk_drewN ?_ _ | refine blk_drew ?_ | refine blk_alloc ?_ _)); refine blk_put (cs := #[.int .i64 x420000_2, .int .i64 x420001_2, .bool x420002_2]) ?_ 0 _ rfl; (with_reducible repeat (first | refine blk_drewN ?_ _ | refine blk_drew ?_ | refine blk_alloc ?_ _)); refine blk_far ?_ NB419_432.out _; (with_reducible repeat (first | refine blk_drewN ?_ _ | refine blk_drew ?_ | refine blk_alloc ?_ _)); refine blk_far ?_ NB419_432.out _; (with_reducible repeat (first | refine blk_drewN ?_ _ | refine blk_drew ?_ | refine blk_alloc ?_ _)); refine blk_far ?_ NB419_432.out _; (with_reducible repeat (first | refine blk_drewN ?_ _ | refine blk_drew ?_ | refine blk_alloc ?_ _)); exact BK419.out⟩, ⟨by (with_reducible repeat (first | refine blk_drewN ?_ _ | refine blk_drew ?_ | refine blk_alloc ?_ _)); refine blk_put (cs := #[.int .i64 t428, .int .i64 t429, .bool x421002_2]) ?_ 2 _ rfl; (with_reducible repeat (first | refine blk_drewN ?_ _ | refine blk_drew ?_ | refine blk_alloc ?_ _)); refine blk_put (cs := #[.int .i64 t428, .int .i64 x421001_2, .bool x421002_2]) ?_ 1 _ rfl; (with_reducible repeat (first | refine blk_drewN ?_ _ | refine blk_drew ?_ | refine blk_alloc ?_ _)); refine blk_put (cs := #[.int .i64 x421000_2, .int .i64 x421001_2, .bool x421002_2]) ?_ 0 _ rfl; (with_reducible repeat (first | refine blk_drewN ?_ _ | refine blk_drew ?_ | refine blk_alloc ?_ _)); refine blk_far ?_ NB420_419.out _; (with_reducible repeat (first | refine blk_drewN ?_ _ | refine blk_drew ?_ | refine blk_alloc ?_ _)); refine blk_far ?_ NB420_419.out _; (with_reducible repeat (first | refine blk_drewN ?_ _ | refine blk_drew ?_ | refine blk_alloc ?_ _)); refine blk_far ?_ NB420_419.out _; (with_reducible repeat (first | refine blk_drewN ?_ _ | refine blk_drew ?_ | refine blk_alloc ?_ _)); refine blk_far ?_ NB420_432.out _; (with_reducible repeat (first | refine blk_drewN ?_ _ | refine blk_drew ?_ | refine blk_alloc ?_ _)); refine blk_far ?_ NB420_432.out _; (with_reducible repeat (first | refine blk_drewN ?_ _ | refine blk_drew ?_ | refine blk_alloc ?_ _)); refine blk_far ?_ NB420_432.out _; (with_reducible repeat (first | refine blk_drewN ?_ _ | refine blk_drew ?_ | refine blk_alloc ?_ _)); exact BK420.out⟩, ⟨by repeat (first | (with_reducible first | exact HB.out | apply below_alloc | apply pw_below_drewN | apply below_drew1 | refine below_set ?_ GE416.out | refine below_set ?_ GE419.out | refine below_set ?_ GE420.out | refine below_set ?_ GE426.out | refine below_set ?_ GE432.out) | exact HB.out)⟩⟩
                  · rw [if_neg c23] at H
                    have c23b0 : (t425 == t431) = false := beq_eq_false_iff_ne.mpr c23
                    have c23b1 : (t425 != t431) = true := bne_iff_ne.mpr c23
                    exact absurd (Option.some.inj H) (by rw [HRT.out]; decide)
              · rw [if_neg c19] at H
                exact absurd H (by simp)
            · rw [if_neg c18] at H
              have c18b0 : decide (x14_2 < (l2.length : Int)) = false := decide_eq_false c18
              clear c18
              obtain rfl := Option.some.inj H
              go_wp2
              go_ret
              exact ⟨by first | rfl | (simp [errW_none, errW_some] <;> rfl) | (simp [*, errW_none, errW_some] <;> rfl), by repeat (first | (with_reducible first | exact HB.out | apply below_alloc | apply pw_below_drewN | apply below_drew1 | refine below_set ?_ GE416.out | refine below_set ?_ GE419.out | refine below_set ?_ GE420.out) | exact HB.out)⟩

end Go.Proofs.Ytgeldfjpafimpaa.PAll
