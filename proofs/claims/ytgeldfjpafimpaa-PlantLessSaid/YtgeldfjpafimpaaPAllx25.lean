-- laid by a program of this session (tprint.py) out of the translation and of texts typed by hand; Lean checks it
import Derived.Test.YtgeldfjpafimpaaPAllx0
import Derived.Test.YtgeldfjpafimpaaPAllx2
import Derived.Test.YtgeldfjpafimpaaPAllx11
import Derived.Test.YtgeldfjpafimpaaPAllx15
import Derived.Test.YtgeldfjpafimpaaPAllx17
import Derived.Test.YtgeldfjpafimpaaPAllx18
namespace Go.Proofs.Ytgeldfjpafimpaa.PAll
open Go.RowKit Go.Proofs.YtgeldfjpafimpaaW.PrintWords Go.Proofs.YtgeldfjpafimpaaW.PrintLast Go.Proofs.YtgeldfjpafimpaaW.PrintMore
attribute [local go_sem] max2_int min2_int max_two min_two max_three min_three max_four min_four   -- for this text's walks alone
set_option linter.unusedVariables false
set_option linter.unusedSimpArgs false

abbrev JRa := @Kd.R_alloc
abbrev JRn := @Kd.R_drewN
abbrev JRd := @Kd.R_drew
abbrev Jbn := @blk_drewN
abbrev Jbd := @blk_drew
abbrev Jba := @blk_alloc
abbrev Jla := @below_alloc
abbrev Jln := @pw_below_drewN
abbrev Jld := @below_drew1
abbrev Js1 := @List.setIfInBounds_toArray
abbrev Js2 := @List.set_cons_zero
abbrev Js3 := @List.set_cons_succ
abbrev Jcf := @cell_far
abbrev Jbc := @blk_cell
abbrev Jbb := @blk_below
abbrev Jst := @below_step
abbrev Jsz := @below_size
abbrev Jse := @below_set
theorem JA {p : Prop} (h : p) : Aside0 p := ⟨h⟩
abbrev JT : Bool := true
abbrev JF : Bool := false
/-! ### governorlaw16_PlantLess: function 7 -/
mutual
def governorlaw16_PlantLess.j0 : Nat → Int → Bool → Bool → Int → Int → Int → Int → Int → Int → Int → Int → Int → Int → Int → Int → Int → List Int → Int → Int → Option (Bool)
 | 0, _, _, _, _, _, _, _, _, _, _, _, _, _, _, _, _, _, _, _ => none
 | k + 1, x2, x7, md, fM, fN, fO, fP, fQ, fR, fS, fT, fU, fV, fW, fX, d8, d9, ea, eb => if md = true then (some x7) else ((plant_All.f k d8 d9 ea eb).bind fun aJ => ((plant_Step.f fM fN fO fP fQ fR fS fT fU fV fW fX d8 d9 ea eb aJ 0).bind fun ax => ((plant_Step.f fM fN fO fP fQ fR fS fT fU fV fW fX d8 d9 ea eb (mx (wrap64 (aJ - (wrap64 (x2)))) 0) 0).bind fun ai => (if ai.1 > ax.1 then (governorlaw16_PlantLess.j1 k x7 aJ (mx (wrap64 (aJ - (wrap64 (x2)))) 0) true ax.1 ax.2.1 ax.2.2.1 ax.2.2.2.1 ai.1 ai.2.1 ai.2.2.1 ai.2.2.2.1) else (if ai.1 < ax.1 then (if (ai.2.1.length : Int) > 0 then (governorlaw16_PlantLess.j1 k x7 aJ (mx (wrap64 (aJ - (wrap64 (x2)))) 0) true ax.1 ax.2.1 ax.2.2.1 ax.2.2.2.1 ai.1 ai.2.1 ai.2.2.1 ai.2.2.2.1) else (governorlaw16_PlantLess.j1 k x7 aJ (mx (wrap64 (aJ - (wrap64 (x2)))) 0) (decide ((ai.2.1.length : Int) > (ax.2.1.length : Int))) ax.1 ax.2.1 ax.2.2.1 ax.2.2.2.1 ai.1 ai.2.1 ai.2.2.1 ai.2.2.2.1)) else (governorlaw16_PlantLess.j1 k x7 aJ (mx (wrap64 (aJ - (wrap64 (x2)))) 0) (decide ((ai.2.1.length : Int) > (ax.2.1.length : Int))) ax.1 ax.2.1 ax.2.2.1 ax.2.2.2.1 ai.1 ai.2.1 ai.2.2.1 ai.2.2.2.1))))))
def governorlaw16_PlantLess.j1 : Nat → Bool → Int → Int → Bool → Int → List Int → Int → Int → Int → List Int → Int → Int → Option (Bool)
 | 0, _, _, _, _, _, _, _, _, _, _, _, _ => none
 | k + 1, x7, x8, it, me, bP, bA, bQ, bR, bS, bv, bT, bU => if me = true then (some false) else (governorlaw16_PlantLess.l0 k x7 x8 it 0 bP bA bQ bR bS bv bT bU)
def governorlaw16_PlantLess.l0 : Nat → Bool → Int → Int → Int → Int → List Int → Int → Int → Int → List Int → Int → Int → Option (Bool)
 | 0, _, _, _, _, _, _, _, _, _, _, _, _ => none
 | k + 1, x7, x8, it, hf, bP, bA, bQ, bR, bS, bv, bT, bU => if hf < (bv.length : Int) then (if 0 ≤ hf then (if hf < (bA.length : Int) then (if (rd bv hf) > (rd bA hf) then (some false) else (if (rd bv hf) < (rd bA hf) then (if (wrap64 (hf + 1)) < (bv.length : Int) then (some false) else (governorlaw16_PlantLess.l0 k x7 x8 it (wrap64 (hf + 1)) bP bA bQ bR bS bv bT bU)) else (governorlaw16_PlantLess.l0 k x7 x8 it (wrap64 (hf + 1)) bP bA bQ bR bS bv bT bU))) else (none)) else (none)) else (if x7 = true then ((plant_All.f k bP bA bQ bR).bind fun cl => (if cl = x8 then ((plant_All.f k bS bv bT bU).bind fun d4 => (some (d4 == it))) else (some false))) else (some false))
end
def governorlaw16_PlantLess.f (k : Nat) (a0_0 : Int) (a0_1 : Int) (a0_2 : Int) (a0_3 : Int) (a0_4 : Int) (a0_5 : Int) (a0_6 : Int) (a0_7 : Int) (a0_8 : Int) (a0_9 : Int) (a0_10 : Int) (a0_11 : Int) (a1_0 : Int) (l1_1 : List Int) (a1_2 : Int) (a1_3 : Int) (a2 : Int) : Option (Bool) := (governorlaw16_head.f k).bind fun aU => ((governorref09_Conf.f a0_0 a0_1 a0_2 a0_3 a0_4 a0_5 a0_6 a0_7 a0_8 a0_9 a0_10 a0_11).bind fun fb => (if fb = true then (if (l1_1.length : Int) > 8 then (governorlaw16_PlantLess.j0 k a2 aU true a0_0 a0_1 a0_2 a0_3 a0_4 a0_5 a0_6 a0_7 a0_8 a0_9 a0_10 a0_11 a1_0 l1_1 a1_2 a1_3) else ((governorref16_Right.f k a1_0 l1_1 a1_2 a1_3).bind fun bO => (governorlaw16_PlantLess.j0 k a2 aU (!bO) a0_0 a0_1 a0_2 a0_3 a0_4 a0_5 a0_6 a0_7 a0_8 a0_9 a0_10 a0_11 a1_0 l1_1 a1_2 a1_3))) else (governorlaw16_PlantLess.j0 k a2 aU true a0_0 a0_1 a0_2 a0_3 a0_4 a0_5 a0_6 a0_7 a0_8 a0_9 a0_10 a0_11 a1_0 l1_1 a1_2 a1_3)))
theorem governorlaw16_PlantLess.mono_l : ∀ k, (∀ y0 y1 y2 y3 y4 y5 y6 y7 y8 y9 g0 g1 jq jr js jt ju jv jw, LeO (governorlaw16_PlantLess.j0 k y0 y1 y2 y3 y4 y5 y6 y7 y8 y9 g0 g1 jq jr js jt ju jv jw) (governorlaw16_PlantLess.j0 (k + 1) y0 y1 y2 y3 y4 y5 y6 y7 y8 y9 g0 g1 jq jr js jt ju jv jw)) ∧ (∀ y0 y1 y2 y3 y4 y5 y6 y7 y8 y9 g0 g1, LeO (governorlaw16_PlantLess.j1 k y0 y1 y2 y3 y4 y5 y6 y7 y8 y9 g0 g1) (governorlaw16_PlantLess.j1 (k + 1) y0 y1 y2 y3 y4 y5 y6 y7 y8 y9 g0 g1)) ∧ (∀ y0 y1 y2 y3 y4 y5 y6 y7 y8 y9 g0 g1, LeO (governorlaw16_PlantLess.l0 k y0 y1 y2 y3 y4 y5 y6 y7 y8 y9 g0 g1) (governorlaw16_PlantLess.l0 (k + 1) y0 y1 y2 y3 y4 y5 y6 y7 y8 y9 g0 g1))
 | 0 => ⟨fun _ _ _ _ _ _ _ _ _ _ _ _ _ _ _ _ _ _ _ r h => by simp [governorlaw16_PlantLess.j0] at h, fun _ _ _ _ _ _ _ _ _ _ _ _ r h => by simp [governorlaw16_PlantLess.j1] at h, fun _ _ _ _ _ _ _ _ _ _ _ _ r h => by simp [governorlaw16_PlantLess.l0] at h⟩
 | k + 1 => by
  obtain ⟨hh, hj, hl⟩ := governorlaw16_PlantLess.mono_l k
  refine ⟨?_, ?_, ?_⟩
  ·intro y0 y1 y2 y3 y4 y5 y6 y7 y8 y9 g0 g1 jq jr js jt ju jv jw
   unfold governorlaw16_PlantLess.j0
   repeat' first
   | (with_reducible exact hh _ _ _ _ _ _ _ _ _ _ _ _ _ _ _ _ _ _ _)
   | (with_reducible exact hj _ _ _ _ _ _ _ _ _ _ _ _)
   | (with_reducible exact hl _ _ _ _ _ _ _ _ _ _ _ _)
   | (with_reducible exact governorlaw16_head.mono _)
   | (with_reducible exact governorref16_Right.mono _ _ _ _ _)
   | (with_reducible exact plant_All.mono _ _ _ _ _)
   | (with_reducible exact LeO.refl _)
   | (with_reducible exact LeO.none _)
   | (with_reducible refine LeO.ite ?_ ?_)
   | (with_reducible refine LeO.bind ?_ (fun _ => ?_))
   | exact hh _ _ _ _ _ _ _ _ _ _ _ _ _ _ _ _ _ _ _
   | exact hj _ _ _ _ _ _ _ _ _ _ _ _
   | exact hl _ _ _ _ _ _ _ _ _ _ _ _
   | exact governorlaw16_head.mono _
   | exact governorref16_Right.mono _ _ _ _ _
   | exact plant_All.mono _ _ _ _ _
   | exact LeO.none _
   | refine LeO.ite ?_ ?_
   | refine LeO.bind ?_ (fun _ => ?_)
  ·intro y0 y1 y2 y3 y4 y5 y6 y7 y8 y9 g0 g1
   unfold governorlaw16_PlantLess.j1
   repeat' first
   | (with_reducible exact hh _ _ _ _ _ _ _ _ _ _ _ _ _ _ _ _ _ _ _)
   | (with_reducible exact hj _ _ _ _ _ _ _ _ _ _ _ _)
   | (with_reducible exact hl _ _ _ _ _ _ _ _ _ _ _ _)
   | (with_reducible exact governorlaw16_head.mono _)
   | (with_reducible exact governorref16_Right.mono _ _ _ _ _)
   | (with_reducible exact plant_All.mono _ _ _ _ _)
   | (with_reducible exact LeO.refl _)
   | (with_reducible exact LeO.none _)
   | (with_reducible refine LeO.ite ?_ ?_)
   | (with_reducible refine LeO.bind ?_ (fun _ => ?_))
   | exact hh _ _ _ _ _ _ _ _ _ _ _ _ _ _ _ _ _ _ _
   | exact hj _ _ _ _ _ _ _ _ _ _ _ _
   | exact hl _ _ _ _ _ _ _ _ _ _ _ _
   | exact governorlaw16_head.mono _
   | exact governorref16_Right.mono _ _ _ _ _
   | exact plant_All.mono _ _ _ _ _
   | exact LeO.none _
   | refine LeO.ite ?_ ?_
   | refine LeO.bind ?_ (fun _ => ?_)
  ·intro y0 y1 y2 y3 y4 y5 y6 y7 y8 y9 g0 g1
   unfold governorlaw16_PlantLess.l0
   repeat' first
   | (with_reducible exact hh _ _ _ _ _ _ _ _ _ _ _ _ _ _ _ _ _ _ _)
   | (with_reducible exact hj _ _ _ _ _ _ _ _ _ _ _ _)
   | (with_reducible exact hl _ _ _ _ _ _ _ _ _ _ _ _)
   | (with_reducible exact governorlaw16_head.mono _)
   | (with_reducible exact governorref16_Right.mono _ _ _ _ _)
   | (with_reducible exact plant_All.mono _ _ _ _ _)
   | (with_reducible exact LeO.refl _)
   | (with_reducible exact LeO.none _)
   | (with_reducible refine LeO.ite ?_ ?_)
   | (with_reducible refine LeO.bind ?_ (fun _ => ?_))
   | exact hh _ _ _ _ _ _ _ _ _ _ _ _ _ _ _ _ _ _ _
   | exact hj _ _ _ _ _ _ _ _ _ _ _ _
   | exact hl _ _ _ _ _ _ _ _ _ _ _ _
   | exact governorlaw16_head.mono _
   | exact governorref16_Right.mono _ _ _ _ _
   | exact plant_All.mono _ _ _ _ _
   | exact LeO.none _
   | refine LeO.ite ?_ ?_
   | refine LeO.bind ?_ (fun _ => ?_)
theorem governorlaw16_PlantLess.mono : ∀ a0 a1 a2 a3 a4 a5 a6 a7 a8 a9 a10 a11 a12 a13 a14 a15 a16 k, LeO (governorlaw16_PlantLess.f k a0 a1 a2 a3 a4 a5 a6 a7 a8 a9 a10 a11 a12 a13 a14 a15 a16) (governorlaw16_PlantLess.f (k + 1) a0 a1 a2 a3 a4 a5 a6 a7 a8 a9 a10 a11 a12 a13 a14 a15 a16) := by
 intro a0 a1 a2 a3 a4 a5 a6 a7 a8 a9 a10 a11 a12 a13 a14 a15 a16 k
 obtain ⟨hh, hj, hl⟩ := governorlaw16_PlantLess.mono_l k
 unfold governorlaw16_PlantLess.f
 repeat' first
   | (with_reducible exact hh _ _ _ _ _ _ _ _ _ _ _ _ _ _ _ _ _ _ _)
   | (with_reducible exact hj _ _ _ _ _ _ _ _ _ _ _ _)
   | (with_reducible exact hl _ _ _ _ _ _ _ _ _ _ _ _)
   | (with_reducible exact governorlaw16_head.mono _)
   | (with_reducible exact governorref16_Right.mono _ _ _ _ _)
   | (with_reducible exact plant_All.mono _ _ _ _ _)
   | (with_reducible exact LeO.refl _)
   | (with_reducible exact LeO.none _)
   | (with_reducible refine LeO.ite ?_ ?_)
   | (with_reducible refine LeO.bind ?_ (fun _ => ?_))
   | exact hh _ _ _ _ _ _ _ _ _ _ _ _ _ _ _ _ _ _ _
   | exact hj _ _ _ _ _ _ _ _ _ _ _ _
   | exact hl _ _ _ _ _ _ _ _ _ _ _ _
   | exact governorlaw16_head.mono _
   | exact governorref16_Right.mono _ _ _ _ _
   | exact plant_All.mono _ _ _ _ _
   | exact LeO.none _
   | refine LeO.ite ?_ ?_
   | refine LeO.bind ?_ (fun _ => ?_)
set_option maxHeartbeats 8000000 in
set_option maxRecDepth 100000 in
theorem governorlaw16_PlantLess.calls (k : Nat) (a0_0 : Int) (a0_1 : Int) (a0_2 : Int) (a0_3 : Int) (a0_4 : Int) (a0_5 : Int) (a0_6 : Int) (a0_7 : Int) (a0_8 : Int) (a0_9 : Int) (a0_10 : Int) (a0_11 : Int) (a1_0 : Int) (A1_1 : Option Addr) (c1_1 : Nat) (l1_1 : List Int) (a1_2 : Int) (a1_3 : Int) (a2 : Int) (r : Bool) (w : World) (hr1_1 : Kd.C (Kd.int .i64) w A1_1 l1_1.length l1_1) (hc1_1 : l1_1.length ≤ c1_1) (hrT : r = true) (h : governorlaw16_PlantLess.f k a0_0 a0_1 a0_2 a0_3 a0_4 a0_5 a0_6 a0_7 a0_8 a0_9 a0_10 a0_11 a1_0 l1_1 a1_2 a1_3 a2 = some r) :
  Calls Try.prog 7 #[.agg #[.int .i64 a0_0, .int .i64 a0_1, .int .i64 a0_2, .int .i64 a0_3, .int .i64 a0_4, .int .i64 a0_5, .int .i64 a0_6, .int .i64 a0_7, .int .i64 a0_8, .int .i64 a0_9, .int .i64 a0_10, .int .i64 a0_11], .agg #[.int .i64 a1_0, .slice A1_1 l1_1.length c1_1, .int .i64 a1_2, .int .i64 a1_3], .int .u8 a2] w fun e w' => e = .returned (.bool r) ∧ Below w.heap.size w w' := by
 have hu23 := Try.underlying23
 have hu26 := Try.underlying26
 have hu31 := Try.underlying31
 have bI := JA hr1_1
 have bJ := JA hc1_1
 clear hr1_1 hc1_1
 have HB := JA (Below.refl w.heap.size w)
 have HRT := JA hrT
 clear hrT
 have H : ((governorlaw16_head.f k).bind fun aU => ((governorref09_Conf.f a0_0 a0_1 a0_2 a0_3 a0_4 a0_5 a0_6 a0_7 a0_8 a0_9 a0_10 a0_11).bind fun fb => (if fb = true then (if (l1_1.length : Int) > 8 then (governorlaw16_PlantLess.j0 k a2 aU true a0_0 a0_1 a0_2 a0_3 a0_4 a0_5 a0_6 a0_7 a0_8 a0_9 a0_10 a0_11 a1_0 l1_1 a1_2 a1_3) else ((governorref16_Right.f k a1_0 l1_1 a1_2 a1_3).bind fun bO => (governorlaw16_PlantLess.j0 k a2 aU (!bO) a0_0 a0_1 a0_2 a0_3 a0_4 a0_5 a0_6 a0_7 a0_8 a0_9 a0_10 a0_11 a1_0 l1_1 a1_2 a1_3))) else (governorlaw16_PlantLess.j0 k a2 aU true a0_0 a0_1 a0_2 a0_3 a0_4 a0_5 a0_6 a0_7 a0_8 a0_9 a0_10 a0_11 a1_0 l1_1 a1_2 a1_3)))) = some r := h
 clear h
 replace H := Option.bind_eq_some_iff.mp H
 obtain ⟨aU, kZ, H⟩ := H
 replace H : ((governorref09_Conf.f a0_0 a0_1 a0_2 a0_3 a0_4 a0_5 a0_6 a0_7 a0_8 a0_9 a0_10 a0_11).bind fun fb => (if fb = true then (if (l1_1.length : Int) > 8 then (governorlaw16_PlantLess.j0 k a2 aU true a0_0 a0_1 a0_2 a0_3 a0_4 a0_5 a0_6 a0_7 a0_8 a0_9 a0_10 a0_11 a1_0 l1_1 a1_2 a1_3) else ((governorref16_Right.f k a1_0 l1_1 a1_2 a1_3).bind fun bO => (governorlaw16_PlantLess.j0 k a2 aU (!bO) a0_0 a0_1 a0_2 a0_3 a0_4 a0_5 a0_6 a0_7 a0_8 a0_9 a0_10 a0_11 a1_0 l1_1 a1_2 a1_3))) else (governorlaw16_PlantLess.j0 k a2 aU true a0_0 a0_1 a0_2 a0_3 a0_4 a0_5 a0_6 a0_7 a0_8 a0_9 a0_10 a0_11 a1_0 l1_1 a1_2 a1_3))) = some r := H
 have A4 := JA kZ
 clear kZ
 have jx := JA H
 clear H
 go_enter Try.func7, Try.ntmps7
 go_upto_region 2 with (first | ((with_reducible refine gate_dst (N := 3) rfl ?_); (try (refine gate_guard (by rfl) ?_; dsimp only)); refine box_event ?hg (N := 3) ?hd (cs := #[.int .i64 a0_0, .int .i64 a0_1, .int .i64 a0_2, .int .i64 a0_3, .int .i64 a0_4, .int .i64 a0_5, .int .i64 a0_6, .int .i64 a0_7, .int .i64 a0_8, .int .i64 a0_9, .int .i64 a0_10, .int .i64 a0_11]) (t := 23) ?hr ?_; (case hd => rfl); (case hg => rfl); (case hr => first | (go_simp; done) | (go_simp; rfl)); intro ac hg w6 hbox hb; have n0_ := JA (Jst (by repeat (first | (with_reducible first | exact HB.out | apply Jla | apply Jln | apply Jld) | exact HB.out)) hb); have n1_ := JA (hbox); have n2_ := JA ((by rw [hg]; exact (Jsz (by repeat (first | (with_reducible first | exact HB.out | apply Jla | apply Jln | apply Jld) | exact HB.out))) : w.heap.size ≤ ac)); have n3_ := JA ((by rw [hg]; exact (Jsz (by repeat (first | (with_reducible first | exact HB.out | apply Jla | apply Jln | apply Jld) | exact HB.out))) : w.heap.size ≤ ac)); clear HB; have HB := n0_; have aa := n1_; have hw := n2_; have aj := n3_; clear n0_ n1_ n2_ n3_; clear hb hbox hg) | ((with_reducible refine gate_dst (N := 4) rfl ?_); (try (refine gate_guard (by rfl) ?_; dsimp only)); refine box_event ?hg (N := 4) ?hd (cs := #[.int .i64 a1_0, .slice A1_1 l1_1.length c1_1, .int .i64 a1_2, .int .i64 a1_3]) (t := 26) ?hr ?_; (case hd => rfl); (case hg => rfl); (case hr => first | (go_simp; done) | (go_simp; rfl)); intro ae hg w7 hbox hb; have n0_ := JA (Jbb (g := ac) (o := .cells #[.int .i64 a0_0, .int .i64 a0_1, .int .i64 a0_2, .int .i64 a0_3, .int .i64 a0_4, .int .i64 a0_5, .int .i64 a0_6, .int .i64 a0_7, .int .i64 a0_8, .int .i64 a0_9, .int .i64 a0_10, .int .i64 a0_11] 23 (0, 0)) (by (with_reducible repeat first | apply Jbn | apply Jbd | apply Jba); exact aa.out) hb); have n1_ := JA (Jst (by repeat (first | (with_reducible first | exact HB.out | apply Jla | apply Jln | apply Jld | refine Jse ?_ aj.out) | exact HB.out)) hb); have n2_ := JA (hbox); have n3_ := JA ((by rw [hg]; exact (Jsz (by repeat (first | (with_reducible first | exact HB.out | apply Jla | apply Jln | apply Jld | refine Jse ?_ aj.out) | exact HB.out))) : w.heap.size ≤ ae)); have n4_ := JA ((by rw [hg]; exact (Jsz (by repeat (first | (with_reducible first | exact HB.out | apply Jla | apply Jln | apply Jld | refine Jse ?_ aj.out) | exact HB.out))) : w.heap.size ≤ ae)); have n5_ := JA ((by rw [hg]; exact Nat.ne_of_lt (blk_lt (g := ac) (o := .cells #[.int .i64 a0_0, .int .i64 a0_1, .int .i64 a0_2, .int .i64 a0_3, .int .i64 a0_4, .int .i64 a0_5, .int .i64 a0_6, .int .i64 a0_7, .int .i64 a0_8, .int .i64 a0_9, .int .i64 a0_10, .int .i64 a0_11] 23 (0, 0)) (by (with_reducible repeat first | apply Jbn | apply Jbd | apply Jba); exact aa.out)) : ac ≠ ae)); have n6_ := JA ((by rw [hg]; exact Nat.ne_of_gt (blk_lt (g := ac) (o := .cells #[.int .i64 a0_0, .int .i64 a0_1, .int .i64 a0_2, .int .i64 a0_3, .int .i64 a0_4, .int .i64 a0_5, .int .i64 a0_6, .int .i64 a0_7, .int .i64 a0_8, .int .i64 a0_9, .int .i64 a0_10, .int .i64 a0_11] 23 (0, 0)) (by (with_reducible repeat first | apply Jbn | apply Jbd | apply Jba); exact aa.out)) : ae ≠ ac)); clear aa; clear HB; have aa := n0_; have HB := n1_; have ab := n2_; have hx := n3_; have ak := n4_; have bw := n5_; have bx := n6_; clear n0_ n1_ n2_ n3_ n4_ n5_ n6_; clear hb hbox hg) | (go_at_call 15; (with_reducible refine (governorlaw16_head.calls k  aU _ A4.out).mono ?_); rintro e w8 ⟨rfl, hb⟩; have n0_ := JA (Jbb (g := ac) (o := .cells #[.int .i64 a0_0, .int .i64 a0_1, .int .i64 a0_2, .int .i64 a0_3, .int .i64 a0_4, .int .i64 a0_5, .int .i64 a0_6, .int .i64 a0_7, .int .i64 a0_8, .int .i64 a0_9, .int .i64 a0_10, .int .i64 a0_11] 23 (0, 0)) (by (with_reducible repeat first | apply Jbn | apply Jbd | apply Jba); exact aa.out) hb); have n1_ := JA (Jbb (g := ae) (o := .cells #[.int .i64 a1_0, .slice A1_1 l1_1.length c1_1, .int .i64 a1_2, .int .i64 a1_3] 26 (0, 0)) (by (with_reducible repeat first | apply Jbn | apply Jbd | apply Jba); exact ab.out) hb); have n2_ := JA (Jst (by repeat (first | (with_reducible first | exact HB.out | apply Jla | apply Jln | apply Jld | refine Jse ?_ aj.out | refine Jse ?_ ak.out) | exact HB.out)) hb); clear aa; clear ab; clear HB; have aa := n0_; have ab := n1_; have HB := n2_; clear n0_ n1_ n2_; (try clear hb); (try clear bV); (try clear hk); (try clear hi)))
 repeat (go_quiet (first | ((with_reducible refine gate_dst (N := 3) rfl ?_); (try (refine gate_guard (by rfl) ?_; dsimp only)); refine box_event ?hg (N := 3) ?hd (cs := #[.int .i64 a0_0, .int .i64 a0_1, .int .i64 a0_2, .int .i64 a0_3, .int .i64 a0_4, .int .i64 a0_5, .int .i64 a0_6, .int .i64 a0_7, .int .i64 a0_8, .int .i64 a0_9, .int .i64 a0_10, .int .i64 a0_11]) (t := 23) ?hr ?_; (case hd => rfl); (case hg => rfl); (case hr => first | (go_simp; done) | (go_simp; rfl)); intro ac hg w6 hbox hb; have n0_ := JA (Jst (by repeat (first | (with_reducible first | exact HB.out | apply Jla | apply Jln | apply Jld) | exact HB.out)) hb); have n1_ := JA (hbox); have n2_ := JA ((by rw [hg]; exact (Jsz (by repeat (first | (with_reducible first | exact HB.out | apply Jla | apply Jln | apply Jld) | exact HB.out))) : w.heap.size ≤ ac)); have n3_ := JA ((by rw [hg]; exact (Jsz (by repeat (first | (with_reducible first | exact HB.out | apply Jla | apply Jln | apply Jld) | exact HB.out))) : w.heap.size ≤ ac)); clear HB; have HB := n0_; have aa := n1_; have hw := n2_; have aj := n3_; clear n0_ n1_ n2_ n3_; clear hb hbox hg) | ((with_reducible refine gate_dst (N := 4) rfl ?_); (try (refine gate_guard (by rfl) ?_; dsimp only)); refine box_event ?hg (N := 4) ?hd (cs := #[.int .i64 a1_0, .slice A1_1 l1_1.length c1_1, .int .i64 a1_2, .int .i64 a1_3]) (t := 26) ?hr ?_; (case hd => rfl); (case hg => rfl); (case hr => first | (go_simp; done) | (go_simp; rfl)); intro ae hg w7 hbox hb; have n0_ := JA (Jbb (g := ac) (o := .cells #[.int .i64 a0_0, .int .i64 a0_1, .int .i64 a0_2, .int .i64 a0_3, .int .i64 a0_4, .int .i64 a0_5, .int .i64 a0_6, .int .i64 a0_7, .int .i64 a0_8, .int .i64 a0_9, .int .i64 a0_10, .int .i64 a0_11] 23 (0, 0)) (by (with_reducible repeat first | apply Jbn | apply Jbd | apply Jba); exact aa.out) hb); have n1_ := JA (Jst (by repeat (first | (with_reducible first | exact HB.out | apply Jla | apply Jln | apply Jld | refine Jse ?_ aj.out) | exact HB.out)) hb); have n2_ := JA (hbox); have n3_ := JA ((by rw [hg]; exact (Jsz (by repeat (first | (with_reducible first | exact HB.out | apply Jla | apply Jln | apply Jld | refine Jse ?_ aj.out) | exact HB.out))) : w.heap.size ≤ ae)); have n4_ := JA ((by rw [hg]; exact (Jsz (by repeat (first | (with_reducible first | exact HB.out | apply Jla | apply Jln | apply Jld | refine Jse ?_ aj.out) | exact HB.out))) : w.heap.size ≤ ae)); have n5_ := JA ((by rw [hg]; exact Nat.ne_of_lt (blk_lt (g := ac) (o := .cells #[.int .i64 a0_0, .int .i64 a0_1, .int .i64 a0_2, .int .i64 a0_3, .int .i64 a0_4, .int .i64 a0_5, .int .i64 a0_6, .int .i64 a0_7, .int .i64 a0_8, .int .i64 a0_9, .int .i64 a0_10, .int .i64 a0_11] 23 (0, 0)) (by (with_reducible repeat first | apply Jbn | apply Jbd | apply Jba); exact aa.out)) : ac ≠ ae)); have n6_ := JA ((by rw [hg]; exact Nat.ne_of_gt (blk_lt (g := ac) (o := .cells #[.int .i64 a0_0, .int .i64 a0_1, .int .i64 a0_2, .int .i64 a0_3, .int .i64 a0_4, .int .i64 a0_5, .int .i64 a0_6, .int .i64 a0_7, .int .i64 a0_8, .int .i64 a0_9, .int .i64 a0_10, .int .i64 a0_11] 23 (0, 0)) (by (with_reducible repeat first | apply Jbn | apply Jbd | apply Jba); exact aa.out)) : ae ≠ ac)); clear aa; clear HB; have aa := n0_; have HB := n1_; have ab := n2_; have hx := n3_; have ak := n4_; have bw := n5_; have bx := n6_; clear n0_ n1_ n2_ n3_ n4_ n5_ n6_; clear hb hbox hg) | (go_at_call 15; (with_reducible refine (governorlaw16_head.calls k  aU _ A4.out).mono ?_); rintro e w8 ⟨rfl, hb⟩; have n0_ := JA (Jbb (g := ac) (o := .cells #[.int .i64 a0_0, .int .i64 a0_1, .int .i64 a0_2, .int .i64 a0_3, .int .i64 a0_4, .int .i64 a0_5, .int .i64 a0_6, .int .i64 a0_7, .int .i64 a0_8, .int .i64 a0_9, .int .i64 a0_10, .int .i64 a0_11] 23 (0, 0)) (by (with_reducible repeat first | apply Jbn | apply Jbd | apply Jba); exact aa.out) hb); have n1_ := JA (Jbb (g := ae) (o := .cells #[.int .i64 a1_0, .slice A1_1 l1_1.length c1_1, .int .i64 a1_2, .int .i64 a1_3] 26 (0, 0)) (by (with_reducible repeat first | apply Jbn | apply Jbd | apply Jba); exact ab.out) hb); have n2_ := JA (Jst (by repeat (first | (with_reducible first | exact HB.out | apply Jla | apply Jln | apply Jld | refine Jse ?_ aj.out | refine Jse ?_ ak.out) | exact HB.out)) hb); clear aa; clear ab; clear HB; have aa := n0_; have ab := n1_; have HB := n2_; clear n0_ n1_ n2_; (try clear hb); (try clear bV); (try clear hk); (try clear hi))); go_upto_region 2 with (first | ((with_reducible refine gate_dst (N := 3) rfl ?_); (try (refine gate_guard (by rfl) ?_; dsimp only)); refine box_event ?hg (N := 3) ?hd (cs := #[.int .i64 a0_0, .int .i64 a0_1, .int .i64 a0_2, .int .i64 a0_3, .int .i64 a0_4, .int .i64 a0_5, .int .i64 a0_6, .int .i64 a0_7, .int .i64 a0_8, .int .i64 a0_9, .int .i64 a0_10, .int .i64 a0_11]) (t := 23) ?hr ?_; (case hd => rfl); (case hg => rfl); (case hr => first | (go_simp; done) | (go_simp; rfl)); intro ac hg w6 hbox hb; have n0_ := JA (Jst (by repeat (first | (with_reducible first | exact HB.out | apply Jla | apply Jln | apply Jld) | exact HB.out)) hb); have n1_ := JA (hbox); have n2_ := JA ((by rw [hg]; exact (Jsz (by repeat (first | (with_reducible first | exact HB.out | apply Jla | apply Jln | apply Jld) | exact HB.out))) : w.heap.size ≤ ac)); have n3_ := JA ((by rw [hg]; exact (Jsz (by repeat (first | (with_reducible first | exact HB.out | apply Jla | apply Jln | apply Jld) | exact HB.out))) : w.heap.size ≤ ac)); clear HB; have HB := n0_; have aa := n1_; have hw := n2_; have aj := n3_; clear n0_ n1_ n2_ n3_; clear hb hbox hg) | ((with_reducible refine gate_dst (N := 4) rfl ?_); (try (refine gate_guard (by rfl) ?_; dsimp only)); refine box_event ?hg (N := 4) ?hd (cs := #[.int .i64 a1_0, .slice A1_1 l1_1.length c1_1, .int .i64 a1_2, .int .i64 a1_3]) (t := 26) ?hr ?_; (case hd => rfl); (case hg => rfl); (case hr => first | (go_simp; done) | (go_simp; rfl)); intro ae hg w7 hbox hb; have n0_ := JA (Jbb (g := ac) (o := .cells #[.int .i64 a0_0, .int .i64 a0_1, .int .i64 a0_2, .int .i64 a0_3, .int .i64 a0_4, .int .i64 a0_5, .int .i64 a0_6, .int .i64 a0_7, .int .i64 a0_8, .int .i64 a0_9, .int .i64 a0_10, .int .i64 a0_11] 23 (0, 0)) (by (with_reducible repeat first | apply Jbn | apply Jbd | apply Jba); exact aa.out) hb); have n1_ := JA (Jst (by repeat (first | (with_reducible first | exact HB.out | apply Jla | apply Jln | apply Jld | refine Jse ?_ aj.out) | exact HB.out)) hb); have n2_ := JA (hbox); have n3_ := JA ((by rw [hg]; exact (Jsz (by repeat (first | (with_reducible first | exact HB.out | apply Jla | apply Jln | apply Jld | refine Jse ?_ aj.out) | exact HB.out))) : w.heap.size ≤ ae)); have n4_ := JA ((by rw [hg]; exact (Jsz (by repeat (first | (with_reducible first | exact HB.out | apply Jla | apply Jln | apply Jld | refine Jse ?_ aj.out) | exact HB.out))) : w.heap.size ≤ ae)); have n5_ := JA ((by rw [hg]; exact Nat.ne_of_lt (blk_lt (g := ac) (o := .cells #[.int .i64 a0_0, .int .i64 a0_1, .int .i64 a0_2, .int .i64 a0_3, .int .i64 a0_4, .int .i64 a0_5, .int .i64 a0_6, .int .i64 a0_7, .int .i64 a0_8, .int .i64 a0_9, .int .i64 a0_10, .int .i64 a0_11] 23 (0, 0)) (by (with_reducible repeat first | apply Jbn | apply Jbd | apply Jba); exact aa.out)) : ac ≠ ae)); have n6_ := JA ((by rw [hg]; exact Nat.ne_of_gt (blk_lt (g := ac) (o := .cells #[.int .i64 a0_0, .int .i64 a0_1, .int .i64 a0_2, .int .i64 a0_3, .int .i64 a0_4, .int .i64 a0_5, .int .i64 a0_6, .int .i64 a0_7, .int .i64 a0_8, .int .i64 a0_9, .int .i64 a0_10, .int .i64 a0_11] 23 (0, 0)) (by (with_reducible repeat first | apply Jbn | apply Jbd | apply Jba); exact aa.out)) : ae ≠ ac)); clear aa; clear HB; have aa := n0_; have HB := n1_; have ab := n2_; have hx := n3_; have ak := n4_; have bw := n5_; have bx := n6_; clear n0_ n1_ n2_ n3_ n4_ n5_ n6_; clear hb hbox hg) | (go_at_call 15; (with_reducible refine (governorlaw16_head.calls k  aU _ A4.out).mono ?_); rintro e w8 ⟨rfl, hb⟩; have n0_ := JA (Jbb (g := ac) (o := .cells #[.int .i64 a0_0, .int .i64 a0_1, .int .i64 a0_2, .int .i64 a0_3, .int .i64 a0_4, .int .i64 a0_5, .int .i64 a0_6, .int .i64 a0_7, .int .i64 a0_8, .int .i64 a0_9, .int .i64 a0_10, .int .i64 a0_11] 23 (0, 0)) (by (with_reducible repeat first | apply Jbn | apply Jbd | apply Jba); exact aa.out) hb); have n1_ := JA (Jbb (g := ae) (o := .cells #[.int .i64 a1_0, .slice A1_1 l1_1.length c1_1, .int .i64 a1_2, .int .i64 a1_3] 26 (0, 0)) (by (with_reducible repeat first | apply Jbn | apply Jbd | apply Jba); exact ab.out) hb); have n2_ := JA (Jst (by repeat (first | (with_reducible first | exact HB.out | apply Jla | apply Jln | apply Jld | refine Jse ?_ aj.out | refine Jse ?_ ak.out) | exact HB.out)) hb); clear aa; clear ab; clear HB; have aa := n0_; have ab := n1_; have HB := n2_; clear n0_ n1_ n2_; (try clear hb); (try clear bV); (try clear hk); (try clear hi))))
 (try simp only [Act.put, Js1, Js2, Js3])
 go_cut [29] (fun mf wc => ∃ (kq : Nat) (fY : Bool), mf = .bool fY ∧ Aside0 (governorlaw16_PlantLess.j0 kq a2 aU fY a0_0 a0_1 a0_2 a0_3 a0_4 a0_5 a0_6 a0_7 a0_8 a0_9 a0_10 a0_11 a1_0 l1_1 a1_2 a1_3 = some r) ∧ Aside0 (kq ≤ k) ∧ Aside0 (wc.heap[ac]? = some (.cells #[.int .i64 a0_0, .int .i64 a0_1, .int .i64 a0_2, .int .i64 a0_3, .int .i64 a0_4, .int .i64 a0_5, .int .i64 a0_6, .int .i64 a0_7, .int .i64 a0_8, .int .i64 a0_9, .int .i64 a0_10, .int .i64 a0_11] 23 (0, 0))) ∧ Aside0 (wc.heap[ae]? = some (.cells #[.int .i64 a1_0, (.slice A1_1 l1_1.length c1_1), .int .i64 a1_2, .int .i64 a1_3] 26 (0, 0))) ∧ Aside0 (Below w.heap.size w wc))
 case first =>
  have H := jx.out
  clear jx
  replace H := Option.bind_eq_some_iff.mp H
  obtain ⟨fb, k0, H⟩ := H
  replace H : (if fb = true then (if (l1_1.length : Int) > 8 then (governorlaw16_PlantLess.j0 k a2 aU true a0_0 a0_1 a0_2 a0_3 a0_4 a0_5 a0_6 a0_7 a0_8 a0_9 a0_10 a0_11 a1_0 l1_1 a1_2 a1_3) else ((governorref16_Right.f k a1_0 l1_1 a1_2 a1_3).bind fun bO => (governorlaw16_PlantLess.j0 k a2 aU (!bO) a0_0 a0_1 a0_2 a0_3 a0_4 a0_5 a0_6 a0_7 a0_8 a0_9 a0_10 a0_11 a1_0 l1_1 a1_2 a1_3))) else (governorlaw16_PlantLess.j0 k a2 aU true a0_0 a0_1 a0_2 a0_3 a0_4 a0_5 a0_6 a0_7 a0_8 a0_9 a0_10 a0_11 a1_0 l1_1 a1_2 a1_3)) = some r := H
  have A9 := JA k0
  clear k0
  by_cases ia : fb = true
  ·subst ia
   have H1 : (if (l1_1.length : Int) > 8 then (governorlaw16_PlantLess.j0 k a2 aU true a0_0 a0_1 a0_2 a0_3 a0_4 a0_5 a0_6 a0_7 a0_8 a0_9 a0_10 a0_11 a1_0 l1_1 a1_2 a1_3) else ((governorref16_Right.f k a1_0 l1_1 a1_2 a1_3).bind fun bO => (governorlaw16_PlantLess.j0 k a2 aU (!bO) a0_0 a0_1 a0_2 a0_3 a0_4 a0_5 a0_6 a0_7 a0_8 a0_9 a0_10 a0_11 a1_0 l1_1 a1_2 a1_3))) = some r := by rw [if_pos rfl] at H; exact H
   clear H
   have H := H1
   clear H1
   by_cases hm : (l1_1.length : Int) > 8
   ·rw [if_pos hm] at H
    have cm : decide (8 < (l1_1.length : Int)) = true := decide_eq_true hm
    have d5 : decide (8 < l1_1.length) = true := decide_eq_true (by omega)
    clear hm
    (first | rw [cm] | rw [d5] | (simp only [i64_w, i32_w]; rw [cm]) | skip)
    have H' := JA H
    clear H
    have k1 := bw.out
    have k2 := bx.out
    have ec : w8.cell? ⟨ac, 0, none⟩ = some (.int .i64 a0_0) := (Jbc aa.out 0).trans rfl
    have ed : w8.cell? ⟨ac, 1, none⟩ = some (.int .i64 a0_1) := (Jbc aa.out 1).trans rfl
    have ee : w8.cell? ⟨ac, 2, none⟩ = some (.int .i64 a0_2) := (Jbc aa.out 2).trans rfl
    have ef : w8.cell? ⟨ac, 3, none⟩ = some (.int .i64 a0_3) := (Jbc aa.out 3).trans rfl
    have eg : w8.cell? ⟨ac, 4, none⟩ = some (.int .i64 a0_4) := (Jbc aa.out 4).trans rfl
    have eh : w8.cell? ⟨ac, 5, none⟩ = some (.int .i64 a0_5) := (Jbc aa.out 5).trans rfl
    have ei : w8.cell? ⟨ac, 6, none⟩ = some (.int .i64 a0_6) := (Jbc aa.out 6).trans rfl
    have ej : w8.cell? ⟨ac, 7, none⟩ = some (.int .i64 a0_7) := (Jbc aa.out 7).trans rfl
    have ek : w8.cell? ⟨ac, 8, none⟩ = some (.int .i64 a0_8) := (Jbc aa.out 8).trans rfl
    have el : w8.cell? ⟨ac, 9, none⟩ = some (.int .i64 a0_9) := (Jbc aa.out 9).trans rfl
    have dR : w8.cell? ⟨ac, 10, none⟩ = some (.int .i64 a0_10) := (Jbc aa.out 10).trans rfl
    have dS : w8.cell? ⟨ac, 11, none⟩ = some (.int .i64 a0_11) := (Jbc aa.out 11).trans rfl
    have em := blk_frozen aa.out 0
    have en := blk_frozen aa.out 1
    have eo := blk_frozen aa.out 2
    have ep := blk_frozen aa.out 3
    have eq := blk_frozen aa.out 4
    have er := blk_frozen aa.out 5
    have es := blk_frozen aa.out 6
    have et := blk_frozen aa.out 7
    have eu := blk_frozen aa.out 8
    have ev := blk_frozen aa.out 9
    have dT := blk_frozen aa.out 10
    have dU := blk_frozen aa.out 11
    go_wp2_with (first | (go_at_call 16; (with_reducible refine (governorref09_Conf.calls a0_0 a0_1 a0_2 a0_3 a0_4 a0_5 a0_6 a0_7 a0_8 a0_9 a0_10 a0_11 true _ A9.out).mono ?_); rintro e fZ ⟨rfl, hb⟩; have n0_ := JA (Jbb (g := ac) (o := .cells #[.int .i64 a0_0, .int .i64 a0_1, .int .i64 a0_2, .int .i64 a0_3, .int .i64 a0_4, .int .i64 a0_5, .int .i64 a0_6, .int .i64 a0_7, .int .i64 a0_8, .int .i64 a0_9, .int .i64 a0_10, .int .i64 a0_11] 23 (0, 0)) (by (with_reducible repeat first | apply Jbn | apply Jbd | apply Jba); exact aa.out) hb); have n1_ := JA (Jbb (g := ae) (o := .cells #[.int .i64 a1_0, .slice A1_1 l1_1.length c1_1, .int .i64 a1_2, .int .i64 a1_3] 26 (0, 0)) (by (with_reducible repeat first | apply Jbn | apply Jbd | apply Jba); exact ab.out) hb); have n2_ := JA (Jst (by repeat (first | (with_reducible first | exact HB.out | apply Jla | apply Jln | apply Jld | refine Jse ?_ aj.out | refine Jse ?_ ak.out) | exact HB.out)) hb); clear aa; clear ab; clear HB; have aa := n0_; have ab := n1_; have HB := n2_; clear n0_ n1_ n2_; (try clear hb); (try clear bV); (try clear hk); (try clear hi); have bW : fZ.cell? ⟨ae, 0, none⟩ = some (.int .i64 a1_0) := (Jbc ab.out 0).trans rfl; have bX : fZ.cell? ⟨ae, 1, none⟩ = some (.slice A1_1 l1_1.length c1_1) := (Jbc ab.out 1).trans rfl; have bY : fZ.cell? ⟨ae, 2, none⟩ = some (.int .i64 a1_2) := (Jbc ab.out 2).trans rfl; have bZ : fZ.cell? ⟨ae, 3, none⟩ = some (.int .i64 a1_3) := (Jbc ab.out 3).trans rfl; have b0 := blk_frozen ab.out 0; have b1 := blk_frozen ab.out 1; have b2 := blk_frozen ab.out 2; have b3 := blk_frozen ab.out 3))
    repeat (go_quiet (first | (go_at_call 16; (with_reducible refine (governorref09_Conf.calls a0_0 a0_1 a0_2 a0_3 a0_4 a0_5 a0_6 a0_7 a0_8 a0_9 a0_10 a0_11 true _ A9.out).mono ?_); rintro e fZ ⟨rfl, hb⟩; have n0_ := JA (Jbb (g := ac) (o := .cells #[.int .i64 a0_0, .int .i64 a0_1, .int .i64 a0_2, .int .i64 a0_3, .int .i64 a0_4, .int .i64 a0_5, .int .i64 a0_6, .int .i64 a0_7, .int .i64 a0_8, .int .i64 a0_9, .int .i64 a0_10, .int .i64 a0_11] 23 (0, 0)) (by (with_reducible repeat first | apply Jbn | apply Jbd | apply Jba); exact aa.out) hb); have n1_ := JA (Jbb (g := ae) (o := .cells #[.int .i64 a1_0, .slice A1_1 l1_1.length c1_1, .int .i64 a1_2, .int .i64 a1_3] 26 (0, 0)) (by (with_reducible repeat first | apply Jbn | apply Jbd | apply Jba); exact ab.out) hb); have n2_ := JA (Jst (by repeat (first | (with_reducible first | exact HB.out | apply Jla | apply Jln | apply Jld | refine Jse ?_ aj.out | refine Jse ?_ ak.out) | exact HB.out)) hb); clear aa; clear ab; clear HB; have aa := n0_; have ab := n1_; have HB := n2_; clear n0_ n1_ n2_; (try clear hb); (try clear bV); (try clear hk); (try clear hi); have bW : fZ.cell? ⟨ae, 0, none⟩ = some (.int .i64 a1_0) := (Jbc ab.out 0).trans rfl; have bX : fZ.cell? ⟨ae, 1, none⟩ = some (.slice A1_1 l1_1.length c1_1) := (Jbc ab.out 1).trans rfl; have bY : fZ.cell? ⟨ae, 2, none⟩ = some (.int .i64 a1_2) := (Jbc ab.out 2).trans rfl; have bZ : fZ.cell? ⟨ae, 3, none⟩ = some (.int .i64 a1_3) := (Jbc ab.out 3).trans rfl; have b0 := blk_frozen ab.out 0; have b1 := blk_frozen ab.out 1; have b2 := blk_frozen ab.out 2; have b3 := blk_frozen ab.out 3)); try go_wp2_with (first | (go_at_call 16; (with_reducible refine (governorref09_Conf.calls a0_0 a0_1 a0_2 a0_3 a0_4 a0_5 a0_6 a0_7 a0_8 a0_9 a0_10 a0_11 true _ A9.out).mono ?_); rintro e fZ ⟨rfl, hb⟩; have n0_ := JA (Jbb (g := ac) (o := .cells #[.int .i64 a0_0, .int .i64 a0_1, .int .i64 a0_2, .int .i64 a0_3, .int .i64 a0_4, .int .i64 a0_5, .int .i64 a0_6, .int .i64 a0_7, .int .i64 a0_8, .int .i64 a0_9, .int .i64 a0_10, .int .i64 a0_11] 23 (0, 0)) (by (with_reducible repeat first | apply Jbn | apply Jbd | apply Jba); exact aa.out) hb); have n1_ := JA (Jbb (g := ae) (o := .cells #[.int .i64 a1_0, .slice A1_1 l1_1.length c1_1, .int .i64 a1_2, .int .i64 a1_3] 26 (0, 0)) (by (with_reducible repeat first | apply Jbn | apply Jbd | apply Jba); exact ab.out) hb); have n2_ := JA (Jst (by repeat (first | (with_reducible first | exact HB.out | apply Jla | apply Jln | apply Jld | refine Jse ?_ aj.out | refine Jse ?_ ak.out) | exact HB.out)) hb); clear aa; clear ab; clear HB; have aa := n0_; have ab := n1_; have HB := n2_; clear n0_ n1_ n2_; (try clear hb); (try clear bV); (try clear hk); (try clear hi); have bW : fZ.cell? ⟨ae, 0, none⟩ = some (.int .i64 a1_0) := (Jbc ab.out 0).trans rfl; have bX : fZ.cell? ⟨ae, 1, none⟩ = some (.slice A1_1 l1_1.length c1_1) := (Jbc ab.out 1).trans rfl; have bY : fZ.cell? ⟨ae, 2, none⟩ = some (.int .i64 a1_2) := (Jbc ab.out 2).trans rfl; have bZ : fZ.cell? ⟨ae, 3, none⟩ = some (.int .i64 a1_3) := (Jbc ab.out 3).trans rfl; have b0 := blk_frozen ab.out 0; have b1 := blk_frozen ab.out 1; have b2 := blk_frozen ab.out 2; have b3 := blk_frozen ab.out 3)))
    go_meet
    case rel => exact ⟨_, (true), (by first | rfl | (simp; done) | (simp [*]; done)), H', ⟨by first | omega | exact Nat.le_refl _⟩, ⟨by (with_reducible repeat first | apply Jbn | apply Jbd | apply Jba); exact aa.out⟩, ⟨by (with_reducible repeat first | apply Jbn | apply Jbd | apply Jba); exact ab.out⟩, ⟨by repeat (first | (with_reducible first | exact HB.out | apply Jla | apply Jln | apply Jld | refine Jse ?_ aj.out | refine Jse ?_ ak.out) | exact HB.out)⟩⟩
   ·rw [if_neg hm] at H
    have cm : decide (8 < (l1_1.length : Int)) = false := decide_eq_false hm
    have d5 : decide (8 < l1_1.length) = false := decide_eq_false (by omega)
    clear hm
    (first | rw [cm] | rw [d5] | (simp only [i64_w, i32_w]; rw [cm]) | skip)
    replace H := Option.bind_eq_some_iff.mp H
    obtain ⟨bO, iu, H⟩ := H
    replace H : (governorlaw16_PlantLess.j0 k a2 aU (!bO) a0_0 a0_1 a0_2 a0_3 a0_4 a0_5 a0_6 a0_7 a0_8 a0_9 a0_10 a0_11 a1_0 l1_1 a1_2 a1_3) = some r := H
    have jy := JA iu
    clear iu
    have H' := JA H
    clear H
    have k4 := bw.out
    have k5 := bx.out
    have ew : w8.cell? ⟨ac, 0, none⟩ = some (.int .i64 a0_0) := (Jbc aa.out 0).trans rfl
    have ex : w8.cell? ⟨ac, 1, none⟩ = some (.int .i64 a0_1) := (Jbc aa.out 1).trans rfl
    have ey : w8.cell? ⟨ac, 2, none⟩ = some (.int .i64 a0_2) := (Jbc aa.out 2).trans rfl
    have ez : w8.cell? ⟨ac, 3, none⟩ = some (.int .i64 a0_3) := (Jbc aa.out 3).trans rfl
    have eA : w8.cell? ⟨ac, 4, none⟩ = some (.int .i64 a0_4) := (Jbc aa.out 4).trans rfl
    have eB : w8.cell? ⟨ac, 5, none⟩ = some (.int .i64 a0_5) := (Jbc aa.out 5).trans rfl
    have eC : w8.cell? ⟨ac, 6, none⟩ = some (.int .i64 a0_6) := (Jbc aa.out 6).trans rfl
    have eD : w8.cell? ⟨ac, 7, none⟩ = some (.int .i64 a0_7) := (Jbc aa.out 7).trans rfl
    have eE : w8.cell? ⟨ac, 8, none⟩ = some (.int .i64 a0_8) := (Jbc aa.out 8).trans rfl
    have eF : w8.cell? ⟨ac, 9, none⟩ = some (.int .i64 a0_9) := (Jbc aa.out 9).trans rfl
    have dV : w8.cell? ⟨ac, 10, none⟩ = some (.int .i64 a0_10) := (Jbc aa.out 10).trans rfl
    have dW : w8.cell? ⟨ac, 11, none⟩ = some (.int .i64 a0_11) := (Jbc aa.out 11).trans rfl
    have eG := blk_frozen aa.out 0
    have eH := blk_frozen aa.out 1
    have eI := blk_frozen aa.out 2
    have eJ := blk_frozen aa.out 3
    have eK := blk_frozen aa.out 4
    have eL := blk_frozen aa.out 5
    have eM := blk_frozen aa.out 6
    have eN := blk_frozen aa.out 7
    have eO := blk_frozen aa.out 8
    have eP := blk_frozen aa.out 9
    have dX := blk_frozen aa.out 10
    have dY := blk_frozen aa.out 11
    go_wp2_with (first | (go_at_call 16; (with_reducible refine (governorref09_Conf.calls a0_0 a0_1 a0_2 a0_3 a0_4 a0_5 a0_6 a0_7 a0_8 a0_9 a0_10 a0_11 true _ A9.out).mono ?_); rintro e f0 ⟨rfl, hb⟩; have n0_ := JA (Jbb (g := ac) (o := .cells #[.int .i64 a0_0, .int .i64 a0_1, .int .i64 a0_2, .int .i64 a0_3, .int .i64 a0_4, .int .i64 a0_5, .int .i64 a0_6, .int .i64 a0_7, .int .i64 a0_8, .int .i64 a0_9, .int .i64 a0_10, .int .i64 a0_11] 23 (0, 0)) (by (with_reducible repeat first | apply Jbn | apply Jbd | apply Jba); exact aa.out) hb); have n1_ := JA (Jbb (g := ae) (o := .cells #[.int .i64 a1_0, .slice A1_1 l1_1.length c1_1, .int .i64 a1_2, .int .i64 a1_3] 26 (0, 0)) (by (with_reducible repeat first | apply Jbn | apply Jbd | apply Jba); exact ab.out) hb); have n2_ := JA (Jst (by repeat (first | (with_reducible first | exact HB.out | apply Jla | apply Jln | apply Jld | refine Jse ?_ aj.out | refine Jse ?_ ak.out) | exact HB.out)) hb); clear aa; clear ab; clear HB; have aa := n0_; have ab := n1_; have HB := n2_; clear n0_ n1_ n2_; (try clear hb); (try clear bV); (try clear hk); (try clear hi); have b4 : f0.cell? ⟨ae, 0, none⟩ = some (.int .i64 a1_0) := (Jbc ab.out 0).trans rfl; have b5 : f0.cell? ⟨ae, 1, none⟩ = some (.slice A1_1 l1_1.length c1_1) := (Jbc ab.out 1).trans rfl; have b6 : f0.cell? ⟨ae, 2, none⟩ = some (.int .i64 a1_2) := (Jbc ab.out 2).trans rfl; have b7 : f0.cell? ⟨ae, 3, none⟩ = some (.int .i64 a1_3) := (Jbc ab.out 3).trans rfl; have b8 := blk_frozen ab.out 0; have b9 := blk_frozen ab.out 1; have ca := blk_frozen ab.out 2; have cb := blk_frozen ab.out 3) | (go_at_call 17; (with_reducible refine (governorref16_Right.calls k a1_0 _ _ l1_1 a1_2 a1_3 bO _ ?side1 ?side2 jy.out).mono ?_); (case side1 => repeat (first | exact (Kd.C_below bI.out HB.out) | (with_reducible refine Kd.C_alloc ?_ _) | (with_reducible refine Kd.C_drewN ?_ _) | (with_reducible refine Kd.C_drew ?_))); (case side2 => exact bJ.out); rintro e k6 ⟨rfl, hb⟩; have n0_ := JA (Jbb (g := ac) (o := .cells #[.int .i64 a0_0, .int .i64 a0_1, .int .i64 a0_2, .int .i64 a0_3, .int .i64 a0_4, .int .i64 a0_5, .int .i64 a0_6, .int .i64 a0_7, .int .i64 a0_8, .int .i64 a0_9, .int .i64 a0_10, .int .i64 a0_11] 23 (0, 0)) (by (with_reducible repeat first | apply Jbn | apply Jbd | apply Jba); exact aa.out) hb); have n1_ := JA (Jbb (g := ae) (o := .cells #[.int .i64 a1_0, .slice A1_1 l1_1.length c1_1, .int .i64 a1_2, .int .i64 a1_3] 26 (0, 0)) (by (with_reducible repeat first | apply Jbn | apply Jbd | apply Jba); exact ab.out) hb); have n2_ := JA (Jst (by repeat (first | (with_reducible first | exact HB.out | apply Jla | apply Jln | apply Jld | refine Jse ?_ aj.out | refine Jse ?_ ak.out) | exact HB.out)) hb); clear aa; clear ab; clear HB; have aa := n0_; have ab := n1_; have HB := n2_; clear n0_ n1_ n2_; (try clear hb); (try clear bV); (try clear hk); (try clear hi)))
    repeat (go_quiet (first | (go_at_call 16; (with_reducible refine (governorref09_Conf.calls a0_0 a0_1 a0_2 a0_3 a0_4 a0_5 a0_6 a0_7 a0_8 a0_9 a0_10 a0_11 true _ A9.out).mono ?_); rintro e f0 ⟨rfl, hb⟩; have n0_ := JA (Jbb (g := ac) (o := .cells #[.int .i64 a0_0, .int .i64 a0_1, .int .i64 a0_2, .int .i64 a0_3, .int .i64 a0_4, .int .i64 a0_5, .int .i64 a0_6, .int .i64 a0_7, .int .i64 a0_8, .int .i64 a0_9, .int .i64 a0_10, .int .i64 a0_11] 23 (0, 0)) (by (with_reducible repeat first | apply Jbn | apply Jbd | apply Jba); exact aa.out) hb); have n1_ := JA (Jbb (g := ae) (o := .cells #[.int .i64 a1_0, .slice A1_1 l1_1.length c1_1, .int .i64 a1_2, .int .i64 a1_3] 26 (0, 0)) (by (with_reducible repeat first | apply Jbn | apply Jbd | apply Jba); exact ab.out) hb); have n2_ := JA (Jst (by repeat (first | (with_reducible first | exact HB.out | apply Jla | apply Jln | apply Jld | refine Jse ?_ aj.out | refine Jse ?_ ak.out) | exact HB.out)) hb); clear aa; clear ab; clear HB; have aa := n0_; have ab := n1_; have HB := n2_; clear n0_ n1_ n2_; (try clear hb); (try clear bV); (try clear hk); (try clear hi); have b4 : f0.cell? ⟨ae, 0, none⟩ = some (.int .i64 a1_0) := (Jbc ab.out 0).trans rfl; have b5 : f0.cell? ⟨ae, 1, none⟩ = some (.slice A1_1 l1_1.length c1_1) := (Jbc ab.out 1).trans rfl; have b6 : f0.cell? ⟨ae, 2, none⟩ = some (.int .i64 a1_2) := (Jbc ab.out 2).trans rfl; have b7 : f0.cell? ⟨ae, 3, none⟩ = some (.int .i64 a1_3) := (Jbc ab.out 3).trans rfl; have b8 := blk_frozen ab.out 0; have b9 := blk_frozen ab.out 1; have ca := blk_frozen ab.out 2; have cb := blk_frozen ab.out 3) | (go_at_call 17; (with_reducible refine (governorref16_Right.calls k a1_0 _ _ l1_1 a1_2 a1_3 bO _ ?side1 ?side2 jy.out).mono ?_); (case side1 => repeat (first | exact (Kd.C_below bI.out HB.out) | (with_reducible refine Kd.C_alloc ?_ _) | (with_reducible refine Kd.C_drewN ?_ _) | (with_reducible refine Kd.C_drew ?_))); (case side2 => exact bJ.out); rintro e k6 ⟨rfl, hb⟩; have n0_ := JA (Jbb (g := ac) (o := .cells #[.int .i64 a0_0, .int .i64 a0_1, .int .i64 a0_2, .int .i64 a0_3, .int .i64 a0_4, .int .i64 a0_5, .int .i64 a0_6, .int .i64 a0_7, .int .i64 a0_8, .int .i64 a0_9, .int .i64 a0_10, .int .i64 a0_11] 23 (0, 0)) (by (with_reducible repeat first | apply Jbn | apply Jbd | apply Jba); exact aa.out) hb); have n1_ := JA (Jbb (g := ae) (o := .cells #[.int .i64 a1_0, .slice A1_1 l1_1.length c1_1, .int .i64 a1_2, .int .i64 a1_3] 26 (0, 0)) (by (with_reducible repeat first | apply Jbn | apply Jbd | apply Jba); exact ab.out) hb); have n2_ := JA (Jst (by repeat (first | (with_reducible first | exact HB.out | apply Jla | apply Jln | apply Jld | refine Jse ?_ aj.out | refine Jse ?_ ak.out) | exact HB.out)) hb); clear aa; clear ab; clear HB; have aa := n0_; have ab := n1_; have HB := n2_; clear n0_ n1_ n2_; (try clear hb); (try clear bV); (try clear hk); (try clear hi))); try go_wp2_with (first | (go_at_call 16; (with_reducible refine (governorref09_Conf.calls a0_0 a0_1 a0_2 a0_3 a0_4 a0_5 a0_6 a0_7 a0_8 a0_9 a0_10 a0_11 true _ A9.out).mono ?_); rintro e f0 ⟨rfl, hb⟩; have n0_ := JA (Jbb (g := ac) (o := .cells #[.int .i64 a0_0, .int .i64 a0_1, .int .i64 a0_2, .int .i64 a0_3, .int .i64 a0_4, .int .i64 a0_5, .int .i64 a0_6, .int .i64 a0_7, .int .i64 a0_8, .int .i64 a0_9, .int .i64 a0_10, .int .i64 a0_11] 23 (0, 0)) (by (with_reducible repeat first | apply Jbn | apply Jbd | apply Jba); exact aa.out) hb); have n1_ := JA (Jbb (g := ae) (o := .cells #[.int .i64 a1_0, .slice A1_1 l1_1.length c1_1, .int .i64 a1_2, .int .i64 a1_3] 26 (0, 0)) (by (with_reducible repeat first | apply Jbn | apply Jbd | apply Jba); exact ab.out) hb); have n2_ := JA (Jst (by repeat (first | (with_reducible first | exact HB.out | apply Jla | apply Jln | apply Jld | refine Jse ?_ aj.out | refine Jse ?_ ak.out) | exact HB.out)) hb); clear aa; clear ab; clear HB; have aa := n0_; have ab := n1_; have HB := n2_; clear n0_ n1_ n2_; (try clear hb); (try clear bV); (try clear hk); (try clear hi); have b4 : f0.cell? ⟨ae, 0, none⟩ = some (.int .i64 a1_0) := (Jbc ab.out 0).trans rfl; have b5 : f0.cell? ⟨ae, 1, none⟩ = some (.slice A1_1 l1_1.length c1_1) := (Jbc ab.out 1).trans rfl; have b6 : f0.cell? ⟨ae, 2, none⟩ = some (.int .i64 a1_2) := (Jbc ab.out 2).trans rfl; have b7 : f0.cell? ⟨ae, 3, none⟩ = some (.int .i64 a1_3) := (Jbc ab.out 3).trans rfl; have b8 := blk_frozen ab.out 0; have b9 := blk_frozen ab.out 1; have ca := blk_frozen ab.out 2; have cb := blk_frozen ab.out 3) | (go_at_call 17; (with_reducible refine (governorref16_Right.calls k a1_0 _ _ l1_1 a1_2 a1_3 bO _ ?side1 ?side2 jy.out).mono ?_); (case side1 => repeat (first | exact (Kd.C_below bI.out HB.out) | (with_reducible refine Kd.C_alloc ?_ _) | (with_reducible refine Kd.C_drewN ?_ _) | (with_reducible refine Kd.C_drew ?_))); (case side2 => exact bJ.out); rintro e k6 ⟨rfl, hb⟩; have n0_ := JA (Jbb (g := ac) (o := .cells #[.int .i64 a0_0, .int .i64 a0_1, .int .i64 a0_2, .int .i64 a0_3, .int .i64 a0_4, .int .i64 a0_5, .int .i64 a0_6, .int .i64 a0_7, .int .i64 a0_8, .int .i64 a0_9, .int .i64 a0_10, .int .i64 a0_11] 23 (0, 0)) (by (with_reducible repeat first | apply Jbn | apply Jbd | apply Jba); exact aa.out) hb); have n1_ := JA (Jbb (g := ae) (o := .cells #[.int .i64 a1_0, .slice A1_1 l1_1.length c1_1, .int .i64 a1_2, .int .i64 a1_3] 26 (0, 0)) (by (with_reducible repeat first | apply Jbn | apply Jbd | apply Jba); exact ab.out) hb); have n2_ := JA (Jst (by repeat (first | (with_reducible first | exact HB.out | apply Jla | apply Jln | apply Jld | refine Jse ?_ aj.out | refine Jse ?_ ak.out) | exact HB.out)) hb); clear aa; clear ab; clear HB; have aa := n0_; have ab := n1_; have HB := n2_; clear n0_ n1_ n2_; (try clear hb); (try clear bV); (try clear hk); (try clear hi))))
    go_meet
    case rel => exact ⟨_, (!bO), (by first | rfl | (simp; done) | (simp [*]; done)), H', ⟨by first | omega | exact Nat.le_refl _⟩, ⟨by (with_reducible repeat first | apply Jbn | apply Jbd | apply Jba); exact aa.out⟩, ⟨by (with_reducible repeat first | apply Jbn | apply Jbd | apply Jba); exact ab.out⟩, ⟨by repeat (first | (with_reducible first | exact HB.out | apply Jla | apply Jln | apply Jld | refine Jse ?_ aj.out | refine Jse ?_ ak.out) | exact HB.out)⟩⟩
  ·replace ia := Bool.eq_false_iff.mpr ia
   subst ia
   have H1 : (governorlaw16_PlantLess.j0 k a2 aU true a0_0 a0_1 a0_2 a0_3 a0_4 a0_5 a0_6 a0_7 a0_8 a0_9 a0_10 a0_11 a1_0 l1_1 a1_2 a1_3) = some r := by rw [if_neg (show ¬ (false = true) by decide)] at H; exact H
   clear H
   have H := H1
   clear H1
   have H' := JA H
   clear H
   have k7 := bw.out
   have k8 := bx.out
   have eQ : w8.cell? ⟨ac, 0, none⟩ = some (.int .i64 a0_0) := (Jbc aa.out 0).trans rfl
   have eR : w8.cell? ⟨ac, 1, none⟩ = some (.int .i64 a0_1) := (Jbc aa.out 1).trans rfl
   have eS : w8.cell? ⟨ac, 2, none⟩ = some (.int .i64 a0_2) := (Jbc aa.out 2).trans rfl
   have eT : w8.cell? ⟨ac, 3, none⟩ = some (.int .i64 a0_3) := (Jbc aa.out 3).trans rfl
   have eU : w8.cell? ⟨ac, 4, none⟩ = some (.int .i64 a0_4) := (Jbc aa.out 4).trans rfl
   have eV : w8.cell? ⟨ac, 5, none⟩ = some (.int .i64 a0_5) := (Jbc aa.out 5).trans rfl
   have eW : w8.cell? ⟨ac, 6, none⟩ = some (.int .i64 a0_6) := (Jbc aa.out 6).trans rfl
   have eX : w8.cell? ⟨ac, 7, none⟩ = some (.int .i64 a0_7) := (Jbc aa.out 7).trans rfl
   have eY : w8.cell? ⟨ac, 8, none⟩ = some (.int .i64 a0_8) := (Jbc aa.out 8).trans rfl
   have eZ : w8.cell? ⟨ac, 9, none⟩ = some (.int .i64 a0_9) := (Jbc aa.out 9).trans rfl
   have dZ : w8.cell? ⟨ac, 10, none⟩ = some (.int .i64 a0_10) := (Jbc aa.out 10).trans rfl
   have d0 : w8.cell? ⟨ac, 11, none⟩ = some (.int .i64 a0_11) := (Jbc aa.out 11).trans rfl
   have e0 := blk_frozen aa.out 0
   have e1 := blk_frozen aa.out 1
   have e2 := blk_frozen aa.out 2
   have e3 := blk_frozen aa.out 3
   have e4 := blk_frozen aa.out 4
   have e5 := blk_frozen aa.out 5
   have e6 := blk_frozen aa.out 6
   have e7 := blk_frozen aa.out 7
   have e8 := blk_frozen aa.out 8
   have e9 := blk_frozen aa.out 9
   have d1 := blk_frozen aa.out 10
   have d2 := blk_frozen aa.out 11
   go_wp2_with (first | (go_at_call 16; (with_reducible refine (governorref09_Conf.calls a0_0 a0_1 a0_2 a0_3 a0_4 a0_5 a0_6 a0_7 a0_8 a0_9 a0_10 a0_11 false _ A9.out).mono ?_); rintro e k9 ⟨rfl, hb⟩; have n0_ := JA (Jbb (g := ac) (o := .cells #[.int .i64 a0_0, .int .i64 a0_1, .int .i64 a0_2, .int .i64 a0_3, .int .i64 a0_4, .int .i64 a0_5, .int .i64 a0_6, .int .i64 a0_7, .int .i64 a0_8, .int .i64 a0_9, .int .i64 a0_10, .int .i64 a0_11] 23 (0, 0)) (by (with_reducible repeat first | apply Jbn | apply Jbd | apply Jba); exact aa.out) hb); have n1_ := JA (Jbb (g := ae) (o := .cells #[.int .i64 a1_0, .slice A1_1 l1_1.length c1_1, .int .i64 a1_2, .int .i64 a1_3] 26 (0, 0)) (by (with_reducible repeat first | apply Jbn | apply Jbd | apply Jba); exact ab.out) hb); have n2_ := JA (Jst (by repeat (first | (with_reducible first | exact HB.out | apply Jla | apply Jln | apply Jld | refine Jse ?_ aj.out | refine Jse ?_ ak.out) | exact HB.out)) hb); clear aa; clear ab; clear HB; have aa := n0_; have ab := n1_; have HB := n2_; clear n0_ n1_ n2_; (try clear hb); (try clear bV); (try clear hk); (try clear hi)))
   repeat (go_quiet (first | (go_at_call 16; (with_reducible refine (governorref09_Conf.calls a0_0 a0_1 a0_2 a0_3 a0_4 a0_5 a0_6 a0_7 a0_8 a0_9 a0_10 a0_11 false _ A9.out).mono ?_); rintro e k9 ⟨rfl, hb⟩; have n0_ := JA (Jbb (g := ac) (o := .cells #[.int .i64 a0_0, .int .i64 a0_1, .int .i64 a0_2, .int .i64 a0_3, .int .i64 a0_4, .int .i64 a0_5, .int .i64 a0_6, .int .i64 a0_7, .int .i64 a0_8, .int .i64 a0_9, .int .i64 a0_10, .int .i64 a0_11] 23 (0, 0)) (by (with_reducible repeat first | apply Jbn | apply Jbd | apply Jba); exact aa.out) hb); have n1_ := JA (Jbb (g := ae) (o := .cells #[.int .i64 a1_0, .slice A1_1 l1_1.length c1_1, .int .i64 a1_2, .int .i64 a1_3] 26 (0, 0)) (by (with_reducible repeat first | apply Jbn | apply Jbd | apply Jba); exact ab.out) hb); have n2_ := JA (Jst (by repeat (first | (with_reducible first | exact HB.out | apply Jla | apply Jln | apply Jld | refine Jse ?_ aj.out | refine Jse ?_ ak.out) | exact HB.out)) hb); clear aa; clear ab; clear HB; have aa := n0_; have ab := n1_; have HB := n2_; clear n0_ n1_ n2_; (try clear hb); (try clear bV); (try clear hk); (try clear hi))); try go_wp2_with (first | (go_at_call 16; (with_reducible refine (governorref09_Conf.calls a0_0 a0_1 a0_2 a0_3 a0_4 a0_5 a0_6 a0_7 a0_8 a0_9 a0_10 a0_11 false _ A9.out).mono ?_); rintro e k9 ⟨rfl, hb⟩; have n0_ := JA (Jbb (g := ac) (o := .cells #[.int .i64 a0_0, .int .i64 a0_1, .int .i64 a0_2, .int .i64 a0_3, .int .i64 a0_4, .int .i64 a0_5, .int .i64 a0_6, .int .i64 a0_7, .int .i64 a0_8, .int .i64 a0_9, .int .i64 a0_10, .int .i64 a0_11] 23 (0, 0)) (by (with_reducible repeat first | apply Jbn | apply Jbd | apply Jba); exact aa.out) hb); have n1_ := JA (Jbb (g := ae) (o := .cells #[.int .i64 a1_0, .slice A1_1 l1_1.length c1_1, .int .i64 a1_2, .int .i64 a1_3] 26 (0, 0)) (by (with_reducible repeat first | apply Jbn | apply Jbd | apply Jba); exact ab.out) hb); have n2_ := JA (Jst (by repeat (first | (with_reducible first | exact HB.out | apply Jla | apply Jln | apply Jld | refine Jse ?_ aj.out | refine Jse ?_ ak.out) | exact HB.out)) hb); clear aa; clear ab; clear HB; have aa := n0_; have ab := n1_; have HB := n2_; clear n0_ n1_ n2_; (try clear hb); (try clear bV); (try clear hk); (try clear hi))))
   go_meet
   case rel => exact ⟨_, (true), (by first | rfl | (simp; done) | (simp [*]; done)), H', ⟨by first | omega | exact Nat.le_refl _⟩, ⟨by (with_reducible repeat first | apply Jbn | apply Jbd | apply Jba); exact aa.out⟩, ⟨by (with_reducible repeat first | apply Jbn | apply Jbd | apply Jba); exact ab.out⟩, ⟨by repeat (first | (with_reducible first | exact HB.out | apply Jla | apply Jln | apply Jld | refine Jse ?_ aj.out | refine Jse ?_ ak.out) | exact HB.out)⟩⟩
 case rest =>
  clear jx
  try clear c1
  try clear c2
  try clear p2
  try clear c7
  try clear ia
  try clear hm
  try clear cm
  try clear d5
  try clear la
  try clear lb
  try clear lc
  try clear ec
  try clear ed
  try clear dR
  try clear dS
  try clear ee
  try clear ef
  try clear eg
  try clear eh
  try clear ei
  try clear ej
  try clear ek
  try clear el
  try clear bW
  try clear bX
  try clear bY
  try clear bZ
  try clear ew
  try clear ex
  try clear dV
  try clear dW
  try clear ey
  try clear ez
  try clear eA
  try clear eB
  try clear eC
  try clear eD
  try clear eE
  try clear eF
  try clear b4
  try clear b5
  try clear b6
  try clear b7
  try clear eQ
  try clear eR
  try clear dZ
  try clear d0
  try clear eS
  try clear eT
  try clear eU
  try clear eV
  try clear eW
  try clear eX
  try clear eY
  try clear eZ
  try clear em
  try clear en
  try clear dT
  try clear dU
  try clear eo
  try clear ep
  try clear eq
  try clear er
  try clear es
  try clear et
  try clear eu
  try clear ev
  try clear b0
  try clear b1
  try clear b2
  try clear b3
  try clear eG
  try clear eH
  try clear dX
  try clear dY
  try clear eI
  try clear eJ
  try clear eK
  try clear eL
  try clear eM
  try clear eN
  try clear eO
  try clear eP
  try clear b8
  try clear b9
  try clear ca
  try clear cb
  try clear e0
  try clear e1
  try clear d1
  try clear d2
  try clear e2
  try clear e3
  try clear e4
  try clear e5
  try clear e6
  try clear e7
  try clear e8
  try clear e9
  obtain ⟨kq, fY, rfl, HA, hy, aa, ab, HB⟩ := hcut
  cases kq with
  | zero => exact absurd HA.out (by simp [governorlaw16_PlantLess.j0])
  | succ cn =>
   have H := HA.out
   clear HA
   simp only [governorlaw16_PlantLess.j0] at H
   by_cases ir : fY = true
   ·subst ir
    have H1 : (some aU) = some r := by rw [if_pos rfl] at H; exact H
    clear H
    have H := H1
    clear H1
    obtain rfl := Option.some.inj H
    go_wp2
    repeat (go_quiet (fail); try go_wp2)
    go_ret
    exact ⟨by first | rfl | (simp [errW_none, errW_some] <;> rfl) | (simp [*, errW_none, errW_some] <;> rfl), by repeat (first | (with_reducible first | exact HB.out | apply Jla | apply Jln | apply Jld | refine Jse ?_ aj.out | refine Jse ?_ ak.out) | exact HB.out)⟩
   ·replace ir := Bool.eq_false_iff.mpr ir
    subst ir
    have H1 : ((plant_All.f cn a1_0 l1_1 a1_2 a1_3).bind fun aJ => ((plant_Step.f a0_0 a0_1 a0_2 a0_3 a0_4 a0_5 a0_6 a0_7 a0_8 a0_9 a0_10 a0_11 a1_0 l1_1 a1_2 a1_3 aJ 0).bind fun ax => ((plant_Step.f a0_0 a0_1 a0_2 a0_3 a0_4 a0_5 a0_6 a0_7 a0_8 a0_9 a0_10 a0_11 a1_0 l1_1 a1_2 a1_3 (mx (wrap64 (aJ - (wrap64 (a2)))) 0) 0).bind fun ai => (if ai.1 > ax.1 then (governorlaw16_PlantLess.j1 cn aU aJ (mx (wrap64 (aJ - (wrap64 (a2)))) 0) true ax.1 ax.2.1 ax.2.2.1 ax.2.2.2.1 ai.1 ai.2.1 ai.2.2.1 ai.2.2.2.1) else (if ai.1 < ax.1 then (if (ai.2.1.length : Int) > 0 then (governorlaw16_PlantLess.j1 cn aU aJ (mx (wrap64 (aJ - (wrap64 (a2)))) 0) true ax.1 ax.2.1 ax.2.2.1 ax.2.2.2.1 ai.1 ai.2.1 ai.2.2.1 ai.2.2.2.1) else (governorlaw16_PlantLess.j1 cn aU aJ (mx (wrap64 (aJ - (wrap64 (a2)))) 0) (decide ((ai.2.1.length : Int) > (ax.2.1.length : Int))) ax.1 ax.2.1 ax.2.2.1 ax.2.2.2.1 ai.1 ai.2.1 ai.2.2.1 ai.2.2.2.1)) else (governorlaw16_PlantLess.j1 cn aU aJ (mx (wrap64 (aJ - (wrap64 (a2)))) 0) (decide ((ai.2.1.length : Int) > (ax.2.1.length : Int))) ax.1 ax.2.1 ax.2.2.1 ax.2.2.2.1 ai.1 ai.2.1 ai.2.2.1 ai.2.2.2.1)))))) = some r := by rw [if_neg (show ¬ (false = true) by decide)] at H; exact H
    clear H
    have H := H1
    clear H1
    replace H := Option.bind_eq_some_iff.mp H
    obtain ⟨aJ, iv, H⟩ := H
    replace H : ((plant_Step.f a0_0 a0_1 a0_2 a0_3 a0_4 a0_5 a0_6 a0_7 a0_8 a0_9 a0_10 a0_11 a1_0 l1_1 a1_2 a1_3 aJ 0).bind fun ax => ((plant_Step.f a0_0 a0_1 a0_2 a0_3 a0_4 a0_5 a0_6 a0_7 a0_8 a0_9 a0_10 a0_11 a1_0 l1_1 a1_2 a1_3 (mx (wrap64 (aJ - (wrap64 (a2)))) 0) 0).bind fun ai => (if ai.1 > ax.1 then (governorlaw16_PlantLess.j1 cn aU aJ (mx (wrap64 (aJ - (wrap64 (a2)))) 0) true ax.1 ax.2.1 ax.2.2.1 ax.2.2.2.1 ai.1 ai.2.1 ai.2.2.1 ai.2.2.2.1) else (if ai.1 < ax.1 then (if (ai.2.1.length : Int) > 0 then (governorlaw16_PlantLess.j1 cn aU aJ (mx (wrap64 (aJ - (wrap64 (a2)))) 0) true ax.1 ax.2.1 ax.2.2.1 ax.2.2.2.1 ai.1 ai.2.1 ai.2.2.1 ai.2.2.2.1) else (governorlaw16_PlantLess.j1 cn aU aJ (mx (wrap64 (aJ - (wrap64 (a2)))) 0) (decide ((ai.2.1.length : Int) > (ax.2.1.length : Int))) ax.1 ax.2.1 ax.2.2.1 ax.2.2.2.1 ai.1 ai.2.1 ai.2.2.1 ai.2.2.2.1)) else (governorlaw16_PlantLess.j1 cn aU aJ (mx (wrap64 (aJ - (wrap64 (a2)))) 0) (decide ((ai.2.1.length : Int) > (ax.2.1.length : Int))) ax.1 ax.2.1 ax.2.2.1 ax.2.2.2.1 ai.1 ai.2.1 ai.2.2.1 ai.2.2.2.1))))) = some r := H
    have jn := JA iv
    clear iv
    replace H := Option.bind_eq_some_iff.mp H
    obtain ⟨⟨aC, aw, aK, aN, bc, bh⟩, iw, H⟩ := H
    replace H : ((plant_Step.f a0_0 a0_1 a0_2 a0_3 a0_4 a0_5 a0_6 a0_7 a0_8 a0_9 a0_10 a0_11 a1_0 l1_1 a1_2 a1_3 (mx (wrap64 (aJ - (wrap64 (a2)))) 0) 0).bind fun ai => (if ai.1 > aC then (governorlaw16_PlantLess.j1 cn aU aJ (mx (wrap64 (aJ - (wrap64 (a2)))) 0) true aC aw aK aN ai.1 ai.2.1 ai.2.2.1 ai.2.2.2.1) else (if ai.1 < aC then (if (ai.2.1.length : Int) > 0 then (governorlaw16_PlantLess.j1 cn aU aJ (mx (wrap64 (aJ - (wrap64 (a2)))) 0) true aC aw aK aN ai.1 ai.2.1 ai.2.2.1 ai.2.2.2.1) else (governorlaw16_PlantLess.j1 cn aU aJ (mx (wrap64 (aJ - (wrap64 (a2)))) 0) (decide ((ai.2.1.length : Int) > (aw.length : Int))) aC aw aK aN ai.1 ai.2.1 ai.2.2.1 ai.2.2.2.1)) else (governorlaw16_PlantLess.j1 cn aU aJ (mx (wrap64 (aJ - (wrap64 (a2)))) 0) (decide ((ai.2.1.length : Int) > (aw.length : Int))) aC aw aK aN ai.1 ai.2.1 ai.2.2.1 ai.2.2.2.1)))) = some r := H
    have jo := JA iw
    clear iw
    obtain ⟨bG, d6⟩ : ∃ j_ : Int, (mx (wrap64 (aJ - (wrap64 (a2)))) 0) = j_ := ⟨_, rfl⟩
    replace H : ((plant_Step.f a0_0 a0_1 a0_2 a0_3 a0_4 a0_5 a0_6 a0_7 a0_8 a0_9 a0_10 a0_11 a1_0 l1_1 a1_2 a1_3 (bG) 0).bind fun ai => (if ai.1 > aC then (governorlaw16_PlantLess.j1 cn aU aJ bG true aC aw aK aN ai.1 ai.2.1 ai.2.2.1 ai.2.2.2.1) else (if ai.1 < aC then (if (ai.2.1.length : Int) > 0 then (governorlaw16_PlantLess.j1 cn aU aJ bG true aC aw aK aN ai.1 ai.2.1 ai.2.2.1 ai.2.2.2.1) else (governorlaw16_PlantLess.j1 cn aU aJ bG (decide ((ai.2.1.length : Int) > (aw.length : Int))) aC aw aK aN ai.1 ai.2.1 ai.2.2.1 ai.2.2.2.1)) else (governorlaw16_PlantLess.j1 cn aU aJ bG (decide ((ai.2.1.length : Int) > (aw.length : Int))) aC aw aK aN ai.1 ai.2.1 ai.2.2.1 ai.2.2.2.1)))) = some r := by first | (rw [d6] at H; exact H) | (simp only [d6] at H ⊢; exact H)
    (try rw [d6] at jn)
    (try rw [d6] at jo)
    have jz : (if (wrap64 (aJ - (wrap64 (a2)))) < 0 then 0 else (wrap64 (aJ - (wrap64 (a2))))) = bG := d6
    replace H := Option.bind_eq_some_iff.mp H
    obtain ⟨⟨aO, aE, bd, bj, bz, bH⟩, ix, H⟩ := H
    replace H : (if aO > aC then (governorlaw16_PlantLess.j1 cn aU aJ bG true aC aw aK aN aO aE bd bj) else (if aO < aC then (if (aE.length : Int) > 0 then (governorlaw16_PlantLess.j1 cn aU aJ bG true aC aw aK aN aO aE bd bj) else (governorlaw16_PlantLess.j1 cn aU aJ bG (decide ((aE.length : Int) > (aw.length : Int))) aC aw aK aN aO aE bd bj)) else (governorlaw16_PlantLess.j1 cn aU aJ bG (decide ((aE.length : Int) > (aw.length : Int))) aC aw aK aN aO aE bd bj))) = some r := H
    have jA := JA ix
    clear ix
    have ib := JA H
    clear H
    have ld := bx.out
    have le := bw.out
    have f1 : wc.cell? ⟨ae, 0, none⟩ = some (.int .i64 a1_0) := (Jbc ab.out 0).trans rfl
    have f2 : wc.cell? ⟨ae, 1, none⟩ = some (.slice A1_1 l1_1.length c1_1) := (Jbc ab.out 1).trans rfl
    have f3 : wc.cell? ⟨ae, 2, none⟩ = some (.int .i64 a1_2) := (Jbc ab.out 2).trans rfl
    have f4 : wc.cell? ⟨ae, 3, none⟩ = some (.int .i64 a1_3) := (Jbc ab.out 3).trans rfl
    have f5 := blk_frozen ab.out 0
    have f6 := blk_frozen ab.out 1
    have f7 := blk_frozen ab.out 2
    have f8 := blk_frozen ab.out 3
    go_upto_region 8 with (first | (go_at_call 21; (with_reducible refine (plant_All.calls cn a1_0 _ _ l1_1 a1_2 a1_3 aJ _ ?side1 ?side2 jn.out).mono ?_); (case side1 => repeat (first | exact (Kd.C_below bI.out HB.out) | (with_reducible refine Kd.C_alloc ?_ _) | (with_reducible refine Kd.C_drewN ?_ _) | (with_reducible refine Kd.C_drew ?_))); (case side2 => exact bJ.out); rintro e bs ⟨rfl, hb⟩; have n0_ := JA (Jbb (g := ac) (o := .cells #[.int .i64 a0_0, .int .i64 a0_1, .int .i64 a0_2, .int .i64 a0_3, .int .i64 a0_4, .int .i64 a0_5, .int .i64 a0_6, .int .i64 a0_7, .int .i64 a0_8, .int .i64 a0_9, .int .i64 a0_10, .int .i64 a0_11] 23 (0, 0)) (by (with_reducible repeat first | apply Jbn | apply Jbd | apply Jba); exact aa.out) hb); have n1_ := JA (Jbb (g := ae) (o := .cells #[.int .i64 a1_0, .slice A1_1 l1_1.length c1_1, .int .i64 a1_2, .int .i64 a1_3] 26 (0, 0)) (by (with_reducible repeat first | apply Jbn | apply Jbd | apply Jba); exact ab.out) hb); have n2_ := JA (Jst (by repeat (first | (with_reducible first | exact HB.out | apply Jla | apply Jln | apply Jld | refine Jse ?_ aj.out | refine Jse ?_ ak.out) | exact HB.out)) hb); clear aa; clear ab; clear HB; have aa := n0_; have ab := n1_; have HB := n2_; clear n0_ n1_ n2_; (try clear hb); (try clear bV); (try clear hk); (try clear hi); have co : bs.cell? ⟨ac, 0, none⟩ = some (.int .i64 a0_0) := (Jbc aa.out 0).trans rfl; have cp : bs.cell? ⟨ac, 1, none⟩ = some (.int .i64 a0_1) := (Jbc aa.out 1).trans rfl; have cq : bs.cell? ⟨ac, 2, none⟩ = some (.int .i64 a0_2) := (Jbc aa.out 2).trans rfl; have cr : bs.cell? ⟨ac, 3, none⟩ = some (.int .i64 a0_3) := (Jbc aa.out 3).trans rfl; have ct : bs.cell? ⟨ac, 4, none⟩ = some (.int .i64 a0_4) := (Jbc aa.out 4).trans rfl; have cu : bs.cell? ⟨ac, 5, none⟩ = some (.int .i64 a0_5) := (Jbc aa.out 5).trans rfl; have cv : bs.cell? ⟨ac, 6, none⟩ = some (.int .i64 a0_6) := (Jbc aa.out 6).trans rfl; have cw : bs.cell? ⟨ac, 7, none⟩ = some (.int .i64 a0_7) := (Jbc aa.out 7).trans rfl; have cx : bs.cell? ⟨ac, 8, none⟩ = some (.int .i64 a0_8) := (Jbc aa.out 8).trans rfl; have cy : bs.cell? ⟨ac, 9, none⟩ = some (.int .i64 a0_9) := (Jbc aa.out 9).trans rfl; have cc : bs.cell? ⟨ac, 10, none⟩ = some (.int .i64 a0_10) := (Jbc aa.out 10).trans rfl; have cd : bs.cell? ⟨ac, 11, none⟩ = some (.int .i64 a0_11) := (Jbc aa.out 11).trans rfl; have cz := blk_frozen aa.out 0; have cA := blk_frozen aa.out 1; have cB := blk_frozen aa.out 2; have cC := blk_frozen aa.out 3; have cD := blk_frozen aa.out 4; have cE := blk_frozen aa.out 5; have cF := blk_frozen aa.out 6; have cG := blk_frozen aa.out 7; have cH := blk_frozen aa.out 8; have cI := blk_frozen aa.out 9; have ce := blk_frozen aa.out 10; have cf := blk_frozen aa.out 11; have cJ : bs.cell? ⟨ae, 0, none⟩ = some (.int .i64 a1_0) := (Jbc ab.out 0).trans rfl; have cK : bs.cell? ⟨ae, 1, none⟩ = some (.slice A1_1 l1_1.length c1_1) := (Jbc ab.out 1).trans rfl; have cL : bs.cell? ⟨ae, 2, none⟩ = some (.int .i64 a1_2) := (Jbc ab.out 2).trans rfl; have cM : bs.cell? ⟨ae, 3, none⟩ = some (.int .i64 a1_3) := (Jbc ab.out 3).trans rfl; have cN := blk_frozen ab.out 0; have cO := blk_frozen ab.out 1; have cP := blk_frozen ab.out 2; have cQ := blk_frozen ab.out 3) | (go_at_call 18; (with_reducible refine (plant_Step.calls a0_0 a0_1 a0_2 a0_3 a0_4 a0_5 a0_6 a0_7 a0_8 a0_9 a0_10 a0_11 a1_0 _ _ l1_1 a1_2 a1_3 aJ 0 aC aw aK aN bc bh _ ?side1 ?side2 jo.out).mono ?_); (case side1 => repeat (first | exact (Kd.C_below bI.out HB.out) | (with_reducible refine Kd.C_alloc ?_ _) | (with_reducible refine Kd.C_drewN ?_ _) | (with_reducible refine Kd.C_drew ?_))); (case side2 => exact bJ.out); rintro e lf ⟨iy, rfl, d7, hb⟩; have n0_ := JA (Kd.Q_lower d7 (Jsz (by repeat (first | (with_reducible first | exact HB.out | apply Jla | apply Jln | apply Jld | refine Jse ?_ aj.out | refine Jse ?_ ak.out) | exact HB.out)))); have n1_ := JA (Jbb (g := ac) (o := .cells #[.int .i64 a0_0, .int .i64 a0_1, .int .i64 a0_2, .int .i64 a0_3, .int .i64 a0_4, .int .i64 a0_5, .int .i64 a0_6, .int .i64 a0_7, .int .i64 a0_8, .int .i64 a0_9, .int .i64 a0_10, .int .i64 a0_11] 23 (0, 0)) (by (with_reducible repeat first | apply Jbn | apply Jbd | apply Jba); exact aa.out) hb); have n2_ := JA (Jbb (g := ae) (o := .cells #[.int .i64 a1_0, .slice A1_1 l1_1.length c1_1, .int .i64 a1_2, .int .i64 a1_3] 26 (0, 0)) (by (with_reducible repeat first | apply Jbn | apply Jbd | apply Jba); exact ab.out) hb); have n3_ := JA (Jst (by repeat (first | (with_reducible first | exact HB.out | apply Jla | apply Jln | apply Jld | refine Jse ?_ aj.out | refine Jse ?_ ak.out) | exact HB.out)) hb); clear aa; clear ab; clear HB; have aB := n0_; have aa := n1_; have ab := n2_; have HB := n3_; clear n0_ n1_ n2_ n3_; (try clear hb); (try clear bV); (try clear hk); (try clear hi); (try clear d7)) | ((with_reducible refine gate_dst (N := 9) rfl ?_); (try (refine gate_guard (by rfl) ?_; dsimp only)); refine box_event ?hg (N := 9) ?hd (cs := #[.int .i64 0, .slice none 0 0, .int .i64 0, .int .i64 0]) (t := 26) ?hr ?_; (case hd => rfl); (case hg => rfl); (case hr => first | (go_simp; done) | (go_simp; rfl)); intro ag hg lg hbox hb; have n0_ := JA (Kd.Q_below (by (with_reducible repeat (first | apply Kd.Q_alloc | apply Kd.Q_drewN | apply Kd.Q_drew)); exact aB.out) hb); have n1_ := JA (Jbb (g := ac) (o := .cells #[.int .i64 a0_0, .int .i64 a0_1, .int .i64 a0_2, .int .i64 a0_3, .int .i64 a0_4, .int .i64 a0_5, .int .i64 a0_6, .int .i64 a0_7, .int .i64 a0_8, .int .i64 a0_9, .int .i64 a0_10, .int .i64 a0_11] 23 (0, 0)) (by (with_reducible repeat first | apply Jbn | apply Jbd | apply Jba); exact aa.out) hb); have n2_ := JA (Jbb (g := ae) (o := .cells #[.int .i64 a1_0, .slice A1_1 l1_1.length c1_1, .int .i64 a1_2, .int .i64 a1_3] 26 (0, 0)) (by (with_reducible repeat first | apply Jbn | apply Jbd | apply Jba); exact ab.out) hb); have n3_ := JA (Jst (by repeat (first | (with_reducible first | exact HB.out | apply Jla | apply Jln | apply Jld | refine Jse ?_ aj.out | refine Jse ?_ ak.out) | exact HB.out)) hb); have n4_ := JA (hbox); have n5_ := JA ((by rw [hg]; exact (Jsz (by repeat (first | (with_reducible first | exact HB.out | apply Jla | apply Jln | apply Jld | refine Jse ?_ aj.out | refine Jse ?_ ak.out) | exact HB.out))) : w.heap.size ≤ ag)); have n6_ := JA ((by rw [hg]; exact (Jsz (by repeat (first | (with_reducible first | exact HB.out | apply Jla | apply Jln | apply Jld | refine Jse ?_ aj.out | refine Jse ?_ ak.out) | exact HB.out))) : w.heap.size ≤ ag)); have n7_ := JA ((by rw [hg]; exact Nat.ne_of_lt (blk_lt (g := ac) (o := .cells #[.int .i64 a0_0, .int .i64 a0_1, .int .i64 a0_2, .int .i64 a0_3, .int .i64 a0_4, .int .i64 a0_5, .int .i64 a0_6, .int .i64 a0_7, .int .i64 a0_8, .int .i64 a0_9, .int .i64 a0_10, .int .i64 a0_11] 23 (0, 0)) (by (with_reducible repeat first | apply Jbn | apply Jbd | apply Jba); exact aa.out)) : ac ≠ ag)); have n8_ := JA ((by rw [hg]; exact Nat.ne_of_gt (blk_lt (g := ac) (o := .cells #[.int .i64 a0_0, .int .i64 a0_1, .int .i64 a0_2, .int .i64 a0_3, .int .i64 a0_4, .int .i64 a0_5, .int .i64 a0_6, .int .i64 a0_7, .int .i64 a0_8, .int .i64 a0_9, .int .i64 a0_10, .int .i64 a0_11] 23 (0, 0)) (by (with_reducible repeat first | apply Jbn | apply Jbd | apply Jba); exact aa.out)) : ag ≠ ac)); have n9_ := JA ((by rw [hg]; exact Nat.ne_of_lt (blk_lt (g := ae) (o := .cells #[.int .i64 a1_0, .slice A1_1 l1_1.length c1_1, .int .i64 a1_2, .int .i64 a1_3] 26 (0, 0)) (by (with_reducible repeat first | apply Jbn | apply Jbd | apply Jba); exact ab.out)) : ae ≠ ag)); have bm := JA ((by rw [hg]; exact Nat.ne_of_gt (blk_lt (g := ae) (o := .cells #[.int .i64 a1_0, .slice A1_1 l1_1.length c1_1, .int .i64 a1_2, .int .i64 a1_3] 26 (0, 0)) (by (with_reducible repeat first | apply Jbn | apply Jbd | apply Jba); exact ab.out)) : ag ≠ ae)); clear aB; clear aa; clear ab; clear HB; have aB := n0_; have aa := n1_; have ab := n2_; have HB := n3_; have ad := n4_; have hz := n5_; have aD := n6_; have ay := n7_; have aV := n8_; have az := n9_; have aW := bm; clear n0_ n1_ n2_ n3_ n4_ n5_ n6_ n7_ n8_ n9_ bm; clear hb hbox hg) | ((with_reducible refine gate_dst (N := 10) rfl ?_); (try (refine gate_guard (by rfl) ?_; dsimp only)); refine box_event ?hg (N := 10) ?hd (cs := #[.int .i64 0, .bool false]) (t := 31) ?hr ?_; (case hd => rfl); (case hg => rfl); (case hr => first | (go_simp; done) | (go_simp; rfl)); intro an hg bn hbox hb; have n0_ := JA (Kd.Q_below (by (with_reducible repeat (first | apply Kd.Q_alloc | apply Kd.Q_drewN | apply Kd.Q_drew)); exact aB.out) hb); have n1_ := JA (Jbb (g := ac) (o := .cells #[.int .i64 a0_0, .int .i64 a0_1, .int .i64 a0_2, .int .i64 a0_3, .int .i64 a0_4, .int .i64 a0_5, .int .i64 a0_6, .int .i64 a0_7, .int .i64 a0_8, .int .i64 a0_9, .int .i64 a0_10, .int .i64 a0_11] 23 (0, 0)) (by (with_reducible repeat first | apply Jbn | apply Jbd | apply Jba); exact aa.out) hb); have n2_ := JA (Jbb (g := ae) (o := .cells #[.int .i64 a1_0, .slice A1_1 l1_1.length c1_1, .int .i64 a1_2, .int .i64 a1_3] 26 (0, 0)) (by (with_reducible repeat first | apply Jbn | apply Jbd | apply Jba); exact ab.out) hb); have n3_ := JA (Jbb (g := ag) (o := .cells #[.int .i64 0, .slice none 0 0, .int .i64 0, .int .i64 0] 26 (0, 0)) (by (with_reducible repeat first | apply Jbn | apply Jbd | apply Jba); exact ad.out) hb); have n4_ := JA (Jst (by repeat (first | (with_reducible first | exact HB.out | apply Jla | apply Jln | apply Jld | refine Jse ?_ aj.out | refine Jse ?_ ak.out | refine Jse ?_ aD.out) | exact HB.out)) hb); have n5_ := JA (hbox); have n6_ := JA ((by rw [hg]; exact (Jsz (by repeat (first | (with_reducible first | exact HB.out | apply Jla | apply Jln | apply Jld | refine Jse ?_ aj.out | refine Jse ?_ ak.out | refine Jse ?_ aD.out) | exact HB.out))) : w.heap.size ≤ an)); have n7_ := JA ((by rw [hg]; exact (Jsz (by repeat (first | (with_reducible first | exact HB.out | apply Jla | apply Jln | apply Jld | refine Jse ?_ aj.out | refine Jse ?_ ak.out | refine Jse ?_ aD.out) | exact HB.out))) : w.heap.size ≤ an)); have n8_ := JA ((by rw [hg]; exact Nat.ne_of_lt (blk_lt (g := ac) (o := .cells #[.int .i64 a0_0, .int .i64 a0_1, .int .i64 a0_2, .int .i64 a0_3, .int .i64 a0_4, .int .i64 a0_5, .int .i64 a0_6, .int .i64 a0_7, .int .i64 a0_8, .int .i64 a0_9, .int .i64 a0_10, .int .i64 a0_11] 23 (0, 0)) (by (with_reducible repeat first | apply Jbn | apply Jbd | apply Jba); exact aa.out)) : ac ≠ an)); have n9_ := JA ((by rw [hg]; exact Nat.ne_of_gt (blk_lt (g := ac) (o := .cells #[.int .i64 a0_0, .int .i64 a0_1, .int .i64 a0_2, .int .i64 a0_3, .int .i64 a0_4, .int .i64 a0_5, .int .i64 a0_6, .int .i64 a0_7, .int .i64 a0_8, .int .i64 a0_9, .int .i64 a0_10, .int .i64 a0_11] 23 (0, 0)) (by (with_reducible repeat first | apply Jbn | apply Jbd | apply Jba); exact aa.out)) : an ≠ ac)); have bm := JA ((by rw [hg]; exact Nat.ne_of_lt (blk_lt (g := ae) (o := .cells #[.int .i64 a1_0, .slice A1_1 l1_1.length c1_1, .int .i64 a1_2, .int .i64 a1_3] 26 (0, 0)) (by (with_reducible repeat first | apply Jbn | apply Jbd | apply Jba); exact ab.out)) : ae ≠ an)); have bo := JA ((by rw [hg]; exact Nat.ne_of_gt (blk_lt (g := ae) (o := .cells #[.int .i64 a1_0, .slice A1_1 l1_1.length c1_1, .int .i64 a1_2, .int .i64 a1_3] 26 (0, 0)) (by (with_reducible repeat first | apply Jbn | apply Jbd | apply Jba); exact ab.out)) : an ≠ ae)); have bp := JA ((by rw [hg]; exact Nat.ne_of_lt (blk_lt (g := ag) (o := .cells #[.int .i64 0, .slice none 0 0, .int .i64 0, .int .i64 0] 26 (0, 0)) (by (with_reducible repeat first | apply Jbn | apply Jbd | apply Jba); exact ad.out)) : ag ≠ an)); have bq := JA ((by rw [hg]; exact Nat.ne_of_gt (blk_lt (g := ag) (o := .cells #[.int .i64 0, .slice none 0 0, .int .i64 0, .int .i64 0] 26 (0, 0)) (by (with_reducible repeat first | apply Jbn | apply Jbd | apply Jba); exact ad.out)) : an ≠ ag)); clear aB; clear aa; clear ab; clear ad; clear HB; have aB := n0_; have aa := n1_; have ab := n2_; have ad := n3_; have HB := n4_; have am := n5_; have hA := n6_; have aM := n7_; have be := n8_; have bB := n9_; have bf := bm; have bC := bo; have aL := bp; have aA := bq; clear n0_ n1_ n2_ n3_ n4_ n5_ n6_ n7_ n8_ n9_ bm bo bp bq; clear hb hbox hg; have hB := aV.out; have hC := ay.out; have hD := aW.out; have hE := az.out; have hF := aL.out; have hG := aA.out; have cR : bn.cell? ⟨ag, 0, none⟩ = some (.int .i64 0) := (Jbc ad.out 0).trans rfl; have cS : bn.cell? ⟨ag, 1, none⟩ = some (.slice none 0 0) := (Jbc ad.out 1).trans rfl; have cT : bn.cell? ⟨ag, 2, none⟩ = some (.int .i64 0) := (Jbc ad.out 2).trans rfl; have cU : bn.cell? ⟨ag, 3, none⟩ = some (.int .i64 0) := (Jbc ad.out 3).trans rfl; have cV := blk_frozen ad.out 0; have cW := blk_frozen ad.out 1; have cX := blk_frozen ad.out 2; have cY := blk_frozen ad.out 3; obtain ⟨aP, aQ, g2, _⟩ := Kd.Q_slice aB.out; subst g2; have hH := bB.out; have hI := be.out; have hJ := bC.out; have hK := bf.out; have cZ : bn.cell? ⟨an, 0, none⟩ = some (.int .i64 0) := (Jbc am.out 0).trans rfl; have c0 : bn.cell? ⟨an, 1, none⟩ = some (.bool false) := (Jbc am.out 1).trans rfl; have da := blk_frozen am.out 0; have db := blk_frozen am.out 1; have dc : bn.cell? ⟨ac, 0, none⟩ = some (.int .i64 a0_0) := (Jbc aa.out 0).trans rfl; have dd : bn.cell? ⟨ac, 1, none⟩ = some (.int .i64 a0_1) := (Jbc aa.out 1).trans rfl; have de : bn.cell? ⟨ac, 2, none⟩ = some (.int .i64 a0_2) := (Jbc aa.out 2).trans rfl; have df : bn.cell? ⟨ac, 3, none⟩ = some (.int .i64 a0_3) := (Jbc aa.out 3).trans rfl; have dg : bn.cell? ⟨ac, 4, none⟩ = some (.int .i64 a0_4) := (Jbc aa.out 4).trans rfl; have dh : bn.cell? ⟨ac, 5, none⟩ = some (.int .i64 a0_5) := (Jbc aa.out 5).trans rfl; have di : bn.cell? ⟨ac, 6, none⟩ = some (.int .i64 a0_6) := (Jbc aa.out 6).trans rfl; have dj : bn.cell? ⟨ac, 7, none⟩ = some (.int .i64 a0_7) := (Jbc aa.out 7).trans rfl; have dk : bn.cell? ⟨ac, 8, none⟩ = some (.int .i64 a0_8) := (Jbc aa.out 8).trans rfl; have dl : bn.cell? ⟨ac, 9, none⟩ = some (.int .i64 a0_9) := (Jbc aa.out 9).trans rfl; have cg : bn.cell? ⟨ac, 10, none⟩ = some (.int .i64 a0_10) := (Jbc aa.out 10).trans rfl; have ch : bn.cell? ⟨ac, 11, none⟩ = some (.int .i64 a0_11) := (Jbc aa.out 11).trans rfl; have dm := blk_frozen aa.out 0; have dn := blk_frozen aa.out 1; have dp := blk_frozen aa.out 2; have dq := blk_frozen aa.out 3; have dr := blk_frozen aa.out 4; have ds := blk_frozen aa.out 5; have dt := blk_frozen aa.out 6; have du := blk_frozen aa.out 7; have dv := blk_frozen aa.out 8; have dw := blk_frozen aa.out 9; have ci := blk_frozen aa.out 10; have cj := blk_frozen aa.out 11; have dx : bn.cell? ⟨ae, 0, none⟩ = some (.int .i64 a1_0) := (Jbc ab.out 0).trans rfl; have dy : bn.cell? ⟨ae, 1, none⟩ = some (.slice A1_1 l1_1.length c1_1) := (Jbc ab.out 1).trans rfl; have dz : bn.cell? ⟨ae, 2, none⟩ = some (.int .i64 a1_2) := (Jbc ab.out 2).trans rfl; have dA : bn.cell? ⟨ae, 3, none⟩ = some (.int .i64 a1_3) := (Jbc ab.out 3).trans rfl; have dB := blk_frozen ab.out 0; have dC := blk_frozen ab.out 1; have dD := blk_frozen ab.out 2; have dE := blk_frozen ab.out 3) | (go_at_call 18; (with_reducible refine (plant_Step.calls a0_0 a0_1 a0_2 a0_3 a0_4 a0_5 a0_6 a0_7 a0_8 a0_9 a0_10 a0_11 a1_0 _ _ l1_1 a1_2 a1_3 bG 0 aO aE bd bj bz bH _ ?side1 ?side2 jA.out).mono ?_); (case side1 => exact Kd.C_below bI.out (by repeat (first | (with_reducible first | exact HB.out | apply Jla | apply Jln | apply Jld | refine Jse ?_ aj.out | refine Jse ?_ ak.out | refine Jse ?_ aD.out | refine Jse ?_ aM.out) | exact HB.out))); (case side2 => exact bJ.out); rintro e lh ⟨iz, rfl, d7, hb⟩; have n0_ := JA (Kd.Q_elder' (by (with_reducible repeat (first | apply Kd.Q_alloc | apply Kd.Q_drewN | apply Kd.Q_drew)); exact (Kd.Q_mono (Kd.Q_mono (Kd.Q_far (p := ⟨an, 1, none⟩) (Kd.Q_far (p := ⟨an, 0, none⟩) (Kd.Q_far (p := ⟨ag, 3, none⟩) (Kd.Q_far (p := ⟨ag, 2, none⟩) (Kd.Q_far (p := ⟨ag, 1, none⟩) (Kd.Q_far (p := ⟨ag, 0, none⟩) (Kd.Q_types (Kd.Q_types aB.out ad.out (by decide)) am.out (by decide)) (fun _ hk => hk.1.2) (.int .i64 aC)) (fun _ hk => hk.1.2) (.slice aP aw.length aQ)) (fun _ hk => hk.1.2) (.int .i64 aK)) (fun _ hk => hk.1.2) (.int .i64 aN)) (fun _ hk => hk.2) (.int .i64 bc)) (fun _ hk => hk.2) (.bool bh)) (fun _ h_ => h_.1)) (fun _ h_ => h_.1))) (Kd.Q_base d7) hb); have n1_ := JA (Kd.Q_lower (Kd.Q_new' d7 (Kd.Q_lt (by (with_reducible repeat (first | apply Kd.Q_alloc | apply Kd.Q_drewN | apply Kd.Q_drew)); exact (Kd.Q_mono (Kd.Q_mono (Kd.Q_far (p := ⟨an, 1, none⟩) (Kd.Q_far (p := ⟨an, 0, none⟩) (Kd.Q_far (p := ⟨ag, 3, none⟩) (Kd.Q_far (p := ⟨ag, 2, none⟩) (Kd.Q_far (p := ⟨ag, 1, none⟩) (Kd.Q_far (p := ⟨ag, 0, none⟩) (Kd.Q_types (Kd.Q_types aB.out ad.out (by decide)) am.out (by decide)) (fun _ hk => hk.1.2) (.int .i64 aC)) (fun _ hk => hk.1.2) (.slice aP aw.length aQ)) (fun _ hk => hk.1.2) (.int .i64 aK)) (fun _ hk => hk.1.2) (.int .i64 aN)) (fun _ hk => hk.2) (.int .i64 bc)) (fun _ hk => hk.2) (.bool bh)) (fun _ h_ => h_.1)) (fun _ h_ => h_.1))))) (Jsz (by repeat (first | (with_reducible first | exact HB.out | apply Jla | apply Jln | apply Jld | refine Jse ?_ aj.out | refine Jse ?_ ak.out | refine Jse ?_ aD.out | refine Jse ?_ aM.out) | exact HB.out)))); have n2_ := JA (Jbb (g := ac) (o := .cells #[.int .i64 a0_0, .int .i64 a0_1, .int .i64 a0_2, .int .i64 a0_3, .int .i64 a0_4, .int .i64 a0_5, .int .i64 a0_6, .int .i64 a0_7, .int .i64 a0_8, .int .i64 a0_9, .int .i64 a0_10, .int .i64 a0_11] 23 (0, 0)) (by (with_reducible repeat first | apply Jbn | apply Jbd | apply Jba); refine blk_far ?_ be.out _; (with_reducible repeat first | apply Jbn | apply Jbd | apply Jba); refine blk_far ?_ be.out _; (with_reducible repeat first | apply Jbn | apply Jbd | apply Jba); refine blk_far ?_ ay.out _; (with_reducible repeat first | apply Jbn | apply Jbd | apply Jba); refine blk_far ?_ ay.out _; (with_reducible repeat first | apply Jbn | apply Jbd | apply Jba); refine blk_far ?_ ay.out _; (with_reducible repeat first | apply Jbn | apply Jbd | apply Jba); refine blk_far ?_ ay.out _; (with_reducible repeat first | apply Jbn | apply Jbd | apply Jba); exact aa.out) hb); have n3_ := JA (Jbb (g := ae) (o := .cells #[.int .i64 a1_0, .slice A1_1 l1_1.length c1_1, .int .i64 a1_2, .int .i64 a1_3] 26 (0, 0)) (by (with_reducible repeat first | apply Jbn | apply Jbd | apply Jba); refine blk_far ?_ bf.out _; (with_reducible repeat first | apply Jbn | apply Jbd | apply Jba); refine blk_far ?_ bf.out _; (with_reducible repeat first | apply Jbn | apply Jbd | apply Jba); refine blk_far ?_ az.out _; (with_reducible repeat first | apply Jbn | apply Jbd | apply Jba); refine blk_far ?_ az.out _; (with_reducible repeat first | apply Jbn | apply Jbd | apply Jba); refine blk_far ?_ az.out _; (with_reducible repeat first | apply Jbn | apply Jbd | apply Jba); refine blk_far ?_ az.out _; (with_reducible repeat first | apply Jbn | apply Jbd | apply Jba); exact ab.out) hb); have n4_ := JA (Jbb (g := ag) (o := .cells #[.int .i64 aC, .slice aP aw.length aQ, .int .i64 aK, .int .i64 aN] 26 (0, 0)) (by (with_reducible repeat first | apply Jbn | apply Jbd | apply Jba); refine blk_far ?_ aL.out _; (with_reducible repeat first | apply Jbn | apply Jbd | apply Jba); refine blk_far ?_ aL.out _; (with_reducible repeat first | apply Jbn | apply Jbd | apply Jba); refine blk_put (cs := #[.int .i64 aC, .slice aP aw.length aQ, .int .i64 aK, .int .i64 0]) ?_ 3 _ rfl; (with_reducible repeat first | apply Jbn | apply Jbd | apply Jba); refine blk_put (cs := #[.int .i64 aC, .slice aP aw.length aQ, .int .i64 0, .int .i64 0]) ?_ 2 _ rfl; (with_reducible repeat first | apply Jbn | apply Jbd | apply Jba); refine blk_put (cs := #[.int .i64 aC, .slice none 0 0, .int .i64 0, .int .i64 0]) ?_ 1 _ rfl; (with_reducible repeat first | apply Jbn | apply Jbd | apply Jba); refine blk_put (cs := #[.int .i64 0, .slice none 0 0, .int .i64 0, .int .i64 0]) ?_ 0 _ rfl; (with_reducible repeat first | apply Jbn | apply Jbd | apply Jba); exact ad.out) hb); have n5_ := JA (Jbb (g := an) (o := .cells #[.int .i64 bc, .bool bh] 31 (0, 0)) (by (with_reducible repeat first | apply Jbn | apply Jbd | apply Jba); refine blk_put (cs := #[.int .i64 bc, .bool false]) ?_ 1 _ rfl; (with_reducible repeat first | apply Jbn | apply Jbd | apply Jba); refine blk_put (cs := #[.int .i64 0, .bool false]) ?_ 0 _ rfl; (with_reducible repeat first | apply Jbn | apply Jbd | apply Jba); refine blk_far ?_ aA.out _; (with_reducible repeat first | apply Jbn | apply Jbd | apply Jba); refine blk_far ?_ aA.out _; (with_reducible repeat first | apply Jbn | apply Jbd | apply Jba); refine blk_far ?_ aA.out _; (with_reducible repeat first | apply Jbn | apply Jbd | apply Jba); refine blk_far ?_ aA.out _; (with_reducible repeat first | apply Jbn | apply Jbd | apply Jba); exact am.out) hb); have n6_ := JA (Jst (by repeat (first | (with_reducible first | exact HB.out | apply Jla | apply Jln | apply Jld | refine Jse ?_ aj.out | refine Jse ?_ ak.out | refine Jse ?_ aD.out | refine Jse ?_ aM.out) | exact HB.out)) hb); clear aB; clear aa; clear ab; clear ad; clear am; clear HB; have aB := n0_; have bg := n1_; have aa := n2_; have ab := n3_; have ad := n4_; have am := n5_; have HB := n6_; clear n0_ n1_ n2_ n3_ n4_ n5_ n6_; (try clear hb); (try clear bV); (try clear hk); (try clear hi); (try clear d7)) | ((with_reducible refine gate_dst (N := 12) rfl ?_); (try (refine gate_guard (by rfl) ?_; dsimp only)); refine box_event ?hg (N := 12) ?hd (cs := #[.int .i64 0, .slice none 0 0, .int .i64 0, .int .i64 0]) (t := 26) ?hr ?_; (case hd => rfl); (case hg => rfl); (case hr => first | (go_simp; done) | (go_simp; rfl)); intro ah hg li hbox hb; have n0_ := JA (Kd.Q_below (by (with_reducible repeat (first | apply Kd.Q_alloc | apply Kd.Q_drewN | apply Kd.Q_drew)); exact aB.out) hb); have n1_ := JA (Kd.Q_below (by (with_reducible repeat (first | apply Kd.Q_alloc | apply Kd.Q_drewN | apply Kd.Q_drew)); exact bg.out) hb); have n2_ := JA (Jbb (g := ac) (o := .cells #[.int .i64 a0_0, .int .i64 a0_1, .int .i64 a0_2, .int .i64 a0_3, .int .i64 a0_4, .int .i64 a0_5, .int .i64 a0_6, .int .i64 a0_7, .int .i64 a0_8, .int .i64 a0_9, .int .i64 a0_10, .int .i64 a0_11] 23 (0, 0)) (by (with_reducible repeat first | apply Jbn | apply Jbd | apply Jba); exact aa.out) hb); have n3_ := JA (Jbb (g := ae) (o := .cells #[.int .i64 a1_0, .slice A1_1 l1_1.length c1_1, .int .i64 a1_2, .int .i64 a1_3] 26 (0, 0)) (by (with_reducible repeat first | apply Jbn | apply Jbd | apply Jba); exact ab.out) hb); have n4_ := JA (Jbb (g := ag) (o := .cells #[.int .i64 aC, .slice aP aw.length aQ, .int .i64 aK, .int .i64 aN] 26 (0, 0)) (by (with_reducible repeat first | apply Jbn | apply Jbd | apply Jba); exact ad.out) hb); have n5_ := JA (Jbb (g := an) (o := .cells #[.int .i64 bc, .bool bh] 31 (0, 0)) (by (with_reducible repeat first | apply Jbn | apply Jbd | apply Jba); exact am.out) hb); have n6_ := JA (Jst (by repeat (first | (with_reducible first | exact HB.out | apply Jla | apply Jln | apply Jld | refine Jse ?_ aj.out | refine Jse ?_ ak.out | refine Jse ?_ aD.out | refine Jse ?_ aM.out) | exact HB.out)) hb); have n7_ := JA (hbox); have n8_ := JA ((by rw [hg]; exact (Jsz (by repeat (first | (with_reducible first | exact HB.out | apply Jla | apply Jln | apply Jld | refine Jse ?_ aj.out | refine Jse ?_ ak.out | refine Jse ?_ aD.out | refine Jse ?_ aM.out) | exact HB.out))) : w.heap.size ≤ ah)); have n9_ := JA ((by rw [hg]; exact (Jsz (by repeat (first | (with_reducible first | exact HB.out | apply Jla | apply Jln | apply Jld | refine Jse ?_ aj.out | refine Jse ?_ ak.out | refine Jse ?_ aD.out | refine Jse ?_ aM.out) | exact HB.out))) : w.heap.size ≤ ah)); have bm := JA ((by rw [hg]; exact Nat.ne_of_lt (blk_lt (g := ac) (o := .cells #[.int .i64 a0_0, .int .i64 a0_1, .int .i64 a0_2, .int .i64 a0_3, .int .i64 a0_4, .int .i64 a0_5, .int .i64 a0_6, .int .i64 a0_7, .int .i64 a0_8, .int .i64 a0_9, .int .i64 a0_10, .int .i64 a0_11] 23 (0, 0)) (by (with_reducible repeat first | apply Jbn | apply Jbd | apply Jba); exact aa.out)) : ac ≠ ah)); have bo := JA ((by rw [hg]; exact Nat.ne_of_gt (blk_lt (g := ac) (o := .cells #[.int .i64 a0_0, .int .i64 a0_1, .int .i64 a0_2, .int .i64 a0_3, .int .i64 a0_4, .int .i64 a0_5, .int .i64 a0_6, .int .i64 a0_7, .int .i64 a0_8, .int .i64 a0_9, .int .i64 a0_10, .int .i64 a0_11] 23 (0, 0)) (by (with_reducible repeat first | apply Jbn | apply Jbd | apply Jba); exact aa.out)) : ah ≠ ac)); have bp := JA ((by rw [hg]; exact Nat.ne_of_lt (blk_lt (g := ae) (o := .cells #[.int .i64 a1_0, .slice A1_1 l1_1.length c1_1, .int .i64 a1_2, .int .i64 a1_3] 26 (0, 0)) (by (with_reducible repeat first | apply Jbn | apply Jbd | apply Jba); exact ab.out)) : ae ≠ ah)); have bq := JA ((by rw [hg]; exact Nat.ne_of_gt (blk_lt (g := ae) (o := .cells #[.int .i64 a1_0, .slice A1_1 l1_1.length c1_1, .int .i64 a1_2, .int .i64 a1_3] 26 (0, 0)) (by (with_reducible repeat first | apply Jbn | apply Jbd | apply Jba); exact ab.out)) : ah ≠ ae)); have bK := JA ((by rw [hg]; exact Nat.ne_of_lt (blk_lt (g := ag) (o := .cells #[.int .i64 aC, .slice aP aw.length aQ, .int .i64 aK, .int .i64 aN] 26 (0, 0)) (by (with_reducible repeat first | apply Jbn | apply Jbd | apply Jba); exact ad.out)) : ag ≠ ah)); have bL := JA ((by rw [hg]; exact Nat.ne_of_gt (blk_lt (g := ag) (o := .cells #[.int .i64 aC, .slice aP aw.length aQ, .int .i64 aK, .int .i64 aN] 26 (0, 0)) (by (with_reducible repeat first | apply Jbn | apply Jbd | apply Jba); exact ad.out)) : ah ≠ ag)); have bM := JA ((by rw [hg]; exact Nat.ne_of_lt (blk_lt (g := an) (o := .cells #[.int .i64 bc, .bool bh] 31 (0, 0)) (by (with_reducible repeat first | apply Jbn | apply Jbd | apply Jba); exact am.out)) : an ≠ ah)); have bN := JA ((by rw [hg]; exact Nat.ne_of_gt (blk_lt (g := an) (o := .cells #[.int .i64 bc, .bool bh] 31 (0, 0)) (by (with_reducible repeat first | apply Jbn | apply Jbd | apply Jba); exact am.out)) : ah ≠ an)); clear aB; clear bg; clear aa; clear ab; clear ad; clear am; clear HB; have aB := n0_; have bg := n1_; have aa := n2_; have ab := n3_; have ad := n4_; have am := n5_; have HB := n6_; have af := n7_; have hL := n8_; have bi := n9_; have ap := bm; have aX := bo; have aq := bp; have aY := bq; have ar := bK; have aZ := bL; have au := bM; have ba := bN; clear n0_ n1_ n2_ n3_ n4_ n5_ n6_ n7_ n8_ n9_ bm bo bp bq bK bL bM bN; clear hb hbox hg) | ((with_reducible refine gate_dst (N := 13) rfl ?_); (try (refine gate_guard (by rfl) ?_; dsimp only)); refine box_event ?hg (N := 13) ?hd (cs := #[.int .i64 0, .bool false]) (t := 31) ?hr ?_; (case hd => rfl); (case hg => rfl); (case hr => first | (go_simp; done) | (go_simp; rfl)); intro ao hg br hbox hb; have n0_ := JA (Kd.Q_below (by (with_reducible repeat (first | apply Kd.Q_alloc | apply Kd.Q_drewN | apply Kd.Q_drew)); exact aB.out) hb); have n1_ := JA (Kd.Q_below (by (with_reducible repeat (first | apply Kd.Q_alloc | apply Kd.Q_drewN | apply Kd.Q_drew)); exact bg.out) hb); have n2_ := JA (Jbb (g := ac) (o := .cells #[.int .i64 a0_0, .int .i64 a0_1, .int .i64 a0_2, .int .i64 a0_3, .int .i64 a0_4, .int .i64 a0_5, .int .i64 a0_6, .int .i64 a0_7, .int .i64 a0_8, .int .i64 a0_9, .int .i64 a0_10, .int .i64 a0_11] 23 (0, 0)) (by (with_reducible repeat first | apply Jbn | apply Jbd | apply Jba); exact aa.out) hb); have n3_ := JA (Jbb (g := ae) (o := .cells #[.int .i64 a1_0, .slice A1_1 l1_1.length c1_1, .int .i64 a1_2, .int .i64 a1_3] 26 (0, 0)) (by (with_reducible repeat first | apply Jbn | apply Jbd | apply Jba); exact ab.out) hb); have n4_ := JA (Jbb (g := ag) (o := .cells #[.int .i64 aC, .slice aP aw.length aQ, .int .i64 aK, .int .i64 aN] 26 (0, 0)) (by (with_reducible repeat first | apply Jbn | apply Jbd | apply Jba); exact ad.out) hb); have n5_ := JA (Jbb (g := an) (o := .cells #[.int .i64 bc, .bool bh] 31 (0, 0)) (by (with_reducible repeat first | apply Jbn | apply Jbd | apply Jba); exact am.out) hb); have n6_ := JA (Jbb (g := ah) (o := .cells #[.int .i64 0, .slice none 0 0, .int .i64 0, .int .i64 0] 26 (0, 0)) (by (with_reducible repeat first | apply Jbn | apply Jbd | apply Jba); exact af.out) hb); have n7_ := JA (Jst (by repeat (first | (with_reducible first | exact HB.out | apply Jla | apply Jln | apply Jld | refine Jse ?_ aj.out | refine Jse ?_ ak.out | refine Jse ?_ aD.out | refine Jse ?_ aM.out | refine Jse ?_ bi.out) | exact HB.out)) hb); have n8_ := JA (hbox); have n9_ := JA ((by rw [hg]; exact (Jsz (by repeat (first | (with_reducible first | exact HB.out | apply Jla | apply Jln | apply Jld | refine Jse ?_ aj.out | refine Jse ?_ ak.out | refine Jse ?_ aD.out | refine Jse ?_ aM.out | refine Jse ?_ bi.out) | exact HB.out))) : w.heap.size ≤ ao)); have bm := JA ((by rw [hg]; exact (Jsz (by repeat (first | (with_reducible first | exact HB.out | apply Jla | apply Jln | apply Jld | refine Jse ?_ aj.out | refine Jse ?_ ak.out | refine Jse ?_ aD.out | refine Jse ?_ aM.out | refine Jse ?_ bi.out) | exact HB.out))) : w.heap.size ≤ ao)); have bo := JA ((by rw [hg]; exact Nat.ne_of_lt (blk_lt (g := ac) (o := .cells #[.int .i64 a0_0, .int .i64 a0_1, .int .i64 a0_2, .int .i64 a0_3, .int .i64 a0_4, .int .i64 a0_5, .int .i64 a0_6, .int .i64 a0_7, .int .i64 a0_8, .int .i64 a0_9, .int .i64 a0_10, .int .i64 a0_11] 23 (0, 0)) (by (with_reducible repeat first | apply Jbn | apply Jbd | apply Jba); exact aa.out)) : ac ≠ ao)); have bp := JA ((by rw [hg]; exact Nat.ne_of_gt (blk_lt (g := ac) (o := .cells #[.int .i64 a0_0, .int .i64 a0_1, .int .i64 a0_2, .int .i64 a0_3, .int .i64 a0_4, .int .i64 a0_5, .int .i64 a0_6, .int .i64 a0_7, .int .i64 a0_8, .int .i64 a0_9, .int .i64 a0_10, .int .i64 a0_11] 23 (0, 0)) (by (with_reducible repeat first | apply Jbn | apply Jbd | apply Jba); exact aa.out)) : ao ≠ ac)); have bq := JA ((by rw [hg]; exact Nat.ne_of_lt (blk_lt (g := ae) (o := .cells #[.int .i64 a1_0, .slice A1_1 l1_1.length c1_1, .int .i64 a1_2, .int .i64 a1_3] 26 (0, 0)) (by (with_reducible repeat first | apply Jbn | apply Jbd | apply Jba); exact ab.out)) : ae ≠ ao)); have bK := JA ((by rw [hg]; exact Nat.ne_of_gt (blk_lt (g := ae) (o := .cells #[.int .i64 a1_0, .slice A1_1 l1_1.length c1_1, .int .i64 a1_2, .int .i64 a1_3] 26 (0, 0)) (by (with_reducible repeat first | apply Jbn | apply Jbd | apply Jba); exact ab.out)) : ao ≠ ae)); have bL := JA ((by rw [hg]; exact Nat.ne_of_lt (blk_lt (g := ag) (o := .cells #[.int .i64 aC, .slice aP aw.length aQ, .int .i64 aK, .int .i64 aN] 26 (0, 0)) (by (with_reducible repeat first | apply Jbn | apply Jbd | apply Jba); exact ad.out)) : ag ≠ ao)); have bM := JA ((by rw [hg]; exact Nat.ne_of_gt (blk_lt (g := ag) (o := .cells #[.int .i64 aC, .slice aP aw.length aQ, .int .i64 aK, .int .i64 aN] 26 (0, 0)) (by (with_reducible repeat first | apply Jbn | apply Jbd | apply Jba); exact ad.out)) : ao ≠ ag)); have bN := JA ((by rw [hg]; exact Nat.ne_of_lt (blk_lt (g := an) (o := .cells #[.int .i64 bc, .bool bh] 31 (0, 0)) (by (with_reducible repeat first | apply Jbn | apply Jbd | apply Jba); exact am.out)) : an ≠ ao)); have fc := JA ((by rw [hg]; exact Nat.ne_of_gt (blk_lt (g := an) (o := .cells #[.int .i64 bc, .bool bh] 31 (0, 0)) (by (with_reducible repeat first | apply Jbn | apply Jbd | apply Jba); exact am.out)) : ao ≠ an)); have fd := JA ((by rw [hg]; exact Nat.ne_of_lt (blk_lt (g := ah) (o := .cells #[.int .i64 0, .slice none 0 0, .int .i64 0, .int .i64 0] 26 (0, 0)) (by (with_reducible repeat first | apply Jbn | apply Jbd | apply Jba); exact af.out)) : ah ≠ ao)); have fe := JA ((by rw [hg]; exact Nat.ne_of_gt (blk_lt (g := ah) (o := .cells #[.int .i64 0, .slice none 0 0, .int .i64 0, .int .i64 0] 26 (0, 0)) (by (with_reducible repeat first | apply Jbn | apply Jbd | apply Jba); exact af.out)) : ao ≠ ah)); clear aB; clear bg; clear aa; clear ab; clear ad; clear am; clear af; clear HB; have aB := n0_; have bg := n1_; have aa := n2_; have ab := n3_; have ad := n4_; have am := n5_; have af := n6_; have HB := n7_; have aG := n8_; have hM := n9_; have bu := bm; have aR := bo; have bD := bp; have aS := bq; have bE := bK; have aH := bL; have bb := bM; have aT := bN; have bF := fc; have aI := fd; have av := fe; clear n0_ n1_ n2_ n3_ n4_ n5_ n6_ n7_ n8_ n9_ bm bo bp bq bK bL bM bN fc fd fe; clear hb hbox hg; have hN := aX.out; have hO := ap.out; have hP := aY.out; have hQ := aq.out; have hR := aZ.out; have hS := ar.out; have hT := ba.out; have hU := au.out; have hV := aI.out; have hW := av.out; have dF : br.cell? ⟨ah, 0, none⟩ = some (.int .i64 0) := (Jbc af.out 0).trans rfl; have dG : br.cell? ⟨ah, 1, none⟩ = some (.slice none 0 0) := (Jbc af.out 1).trans rfl; have dH : br.cell? ⟨ah, 2, none⟩ = some (.int .i64 0) := (Jbc af.out 2).trans rfl; have dI : br.cell? ⟨ah, 3, none⟩ = some (.int .i64 0) := (Jbc af.out 3).trans rfl; have dJ := blk_frozen af.out 0; have dK := blk_frozen af.out 1; have dL := blk_frozen af.out 2; have dM := blk_frozen af.out 3; obtain ⟨bk, bl, g3, _⟩ := Kd.Q_slice bg.out; subst g3; have hX := bD.out; have hY := aR.out; have hZ := bE.out; have h0 := aS.out; have h1 := bb.out; have h2 := aH.out; have h3 := bF.out; have h4 := aT.out; have dN : br.cell? ⟨ao, 0, none⟩ = some (.int .i64 0) := (Jbc aG.out 0).trans rfl; have dO : br.cell? ⟨ao, 1, none⟩ = some (.bool false) := (Jbc aG.out 1).trans rfl; have dP := blk_frozen aG.out 0; have dQ := blk_frozen aG.out 1))
    repeat (go_quiet (first | (go_at_call 21; (with_reducible refine (plant_All.calls cn a1_0 _ _ l1_1 a1_2 a1_3 aJ _ ?side1 ?side2 jn.out).mono ?_); (case side1 => repeat (first | exact (Kd.C_below bI.out HB.out) | (with_reducible refine Kd.C_alloc ?_ _) | (with_reducible refine Kd.C_drewN ?_ _) | (with_reducible refine Kd.C_drew ?_))); (case side2 => exact bJ.out); rintro e bs ⟨rfl, hb⟩; have n0_ := JA (Jbb (g := ac) (o := .cells #[.int .i64 a0_0, .int .i64 a0_1, .int .i64 a0_2, .int .i64 a0_3, .int .i64 a0_4, .int .i64 a0_5, .int .i64 a0_6, .int .i64 a0_7, .int .i64 a0_8, .int .i64 a0_9, .int .i64 a0_10, .int .i64 a0_11] 23 (0, 0)) (by (with_reducible repeat first | apply Jbn | apply Jbd | apply Jba); exact aa.out) hb); have n1_ := JA (Jbb (g := ae) (o := .cells #[.int .i64 a1_0, .slice A1_1 l1_1.length c1_1, .int .i64 a1_2, .int .i64 a1_3] 26 (0, 0)) (by (with_reducible repeat first | apply Jbn | apply Jbd | apply Jba); exact ab.out) hb); have n2_ := JA (Jst (by repeat (first | (with_reducible first | exact HB.out | apply Jla | apply Jln | apply Jld | refine Jse ?_ aj.out | refine Jse ?_ ak.out) | exact HB.out)) hb); clear aa; clear ab; clear HB; have aa := n0_; have ab := n1_; have HB := n2_; clear n0_ n1_ n2_; (try clear hb); (try clear bV); (try clear hk); (try clear hi); have co : bs.cell? ⟨ac, 0, none⟩ = some (.int .i64 a0_0) := (Jbc aa.out 0).trans rfl; have cp : bs.cell? ⟨ac, 1, none⟩ = some (.int .i64 a0_1) := (Jbc aa.out 1).trans rfl; have cq : bs.cell? ⟨ac, 2, none⟩ = some (.int .i64 a0_2) := (Jbc aa.out 2).trans rfl; have cr : bs.cell? ⟨ac, 3, none⟩ = some (.int .i64 a0_3) := (Jbc aa.out 3).trans rfl; have ct : bs.cell? ⟨ac, 4, none⟩ = some (.int .i64 a0_4) := (Jbc aa.out 4).trans rfl; have cu : bs.cell? ⟨ac, 5, none⟩ = some (.int .i64 a0_5) := (Jbc aa.out 5).trans rfl; have cv : bs.cell? ⟨ac, 6, none⟩ = some (.int .i64 a0_6) := (Jbc aa.out 6).trans rfl; have cw : bs.cell? ⟨ac, 7, none⟩ = some (.int .i64 a0_7) := (Jbc aa.out 7).trans rfl; have cx : bs.cell? ⟨ac, 8, none⟩ = some (.int .i64 a0_8) := (Jbc aa.out 8).trans rfl; have cy : bs.cell? ⟨ac, 9, none⟩ = some (.int .i64 a0_9) := (Jbc aa.out 9).trans rfl; have cc : bs.cell? ⟨ac, 10, none⟩ = some (.int .i64 a0_10) := (Jbc aa.out 10).trans rfl; have cd : bs.cell? ⟨ac, 11, none⟩ = some (.int .i64 a0_11) := (Jbc aa.out 11).trans rfl; have cz := blk_frozen aa.out 0; have cA := blk_frozen aa.out 1; have cB := blk_frozen aa.out 2; have cC := blk_frozen aa.out 3; have cD := blk_frozen aa.out 4; have cE := blk_frozen aa.out 5; have cF := blk_frozen aa.out 6; have cG := blk_frozen aa.out 7; have cH := blk_frozen aa.out 8; have cI := blk_frozen aa.out 9; have ce := blk_frozen aa.out 10; have cf := blk_frozen aa.out 11; have cJ : bs.cell? ⟨ae, 0, none⟩ = some (.int .i64 a1_0) := (Jbc ab.out 0).trans rfl; have cK : bs.cell? ⟨ae, 1, none⟩ = some (.slice A1_1 l1_1.length c1_1) := (Jbc ab.out 1).trans rfl; have cL : bs.cell? ⟨ae, 2, none⟩ = some (.int .i64 a1_2) := (Jbc ab.out 2).trans rfl; have cM : bs.cell? ⟨ae, 3, none⟩ = some (.int .i64 a1_3) := (Jbc ab.out 3).trans rfl; have cN := blk_frozen ab.out 0; have cO := blk_frozen ab.out 1; have cP := blk_frozen ab.out 2; have cQ := blk_frozen ab.out 3) | (go_at_call 18; (with_reducible refine (plant_Step.calls a0_0 a0_1 a0_2 a0_3 a0_4 a0_5 a0_6 a0_7 a0_8 a0_9 a0_10 a0_11 a1_0 _ _ l1_1 a1_2 a1_3 aJ 0 aC aw aK aN bc bh _ ?side1 ?side2 jo.out).mono ?_); (case side1 => repeat (first | exact (Kd.C_below bI.out HB.out) | (with_reducible refine Kd.C_alloc ?_ _) | (with_reducible refine Kd.C_drewN ?_ _) | (with_reducible refine Kd.C_drew ?_))); (case side2 => exact bJ.out); rintro e lf ⟨iy, rfl, d7, hb⟩; have n0_ := JA (Kd.Q_lower d7 (Jsz (by repeat (first | (with_reducible first | exact HB.out | apply Jla | apply Jln | apply Jld | refine Jse ?_ aj.out | refine Jse ?_ ak.out) | exact HB.out)))); have n1_ := JA (Jbb (g := ac) (o := .cells #[.int .i64 a0_0, .int .i64 a0_1, .int .i64 a0_2, .int .i64 a0_3, .int .i64 a0_4, .int .i64 a0_5, .int .i64 a0_6, .int .i64 a0_7, .int .i64 a0_8, .int .i64 a0_9, .int .i64 a0_10, .int .i64 a0_11] 23 (0, 0)) (by (with_reducible repeat first | apply Jbn | apply Jbd | apply Jba); exact aa.out) hb); have n2_ := JA (Jbb (g := ae) (o := .cells #[.int .i64 a1_0, .slice A1_1 l1_1.length c1_1, .int .i64 a1_2, .int .i64 a1_3] 26 (0, 0)) (by (with_reducible repeat first | apply Jbn | apply Jbd | apply Jba); exact ab.out) hb); have n3_ := JA (Jst (by repeat (first | (with_reducible first | exact HB.out | apply Jla | apply Jln | apply Jld | refine Jse ?_ aj.out | refine Jse ?_ ak.out) | exact HB.out)) hb); clear aa; clear ab; clear HB; have aB := n0_; have aa := n1_; have ab := n2_; have HB := n3_; clear n0_ n1_ n2_ n3_; (try clear hb); (try clear bV); (try clear hk); (try clear hi); (try clear d7)) | ((with_reducible refine gate_dst (N := 9) rfl ?_); (try (refine gate_guard (by rfl) ?_; dsimp only)); refine box_event ?hg (N := 9) ?hd (cs := #[.int .i64 0, .slice none 0 0, .int .i64 0, .int .i64 0]) (t := 26) ?hr ?_; (case hd => rfl); (case hg => rfl); (case hr => first | (go_simp; done) | (go_simp; rfl)); intro ag hg lg hbox hb; have n0_ := JA (Kd.Q_below (by (with_reducible repeat (first | apply Kd.Q_alloc | apply Kd.Q_drewN | apply Kd.Q_drew)); exact aB.out) hb); have n1_ := JA (Jbb (g := ac) (o := .cells #[.int .i64 a0_0, .int .i64 a0_1, .int .i64 a0_2, .int .i64 a0_3, .int .i64 a0_4, .int .i64 a0_5, .int .i64 a0_6, .int .i64 a0_7, .int .i64 a0_8, .int .i64 a0_9, .int .i64 a0_10, .int .i64 a0_11] 23 (0, 0)) (by (with_reducible repeat first | apply Jbn | apply Jbd | apply Jba); exact aa.out) hb); have n2_ := JA (Jbb (g := ae) (o := .cells #[.int .i64 a1_0, .slice A1_1 l1_1.length c1_1, .int .i64 a1_2, .int .i64 a1_3] 26 (0, 0)) (by (with_reducible repeat first | apply Jbn | apply Jbd | apply Jba); exact ab.out) hb); have n3_ := JA (Jst (by repeat (first | (with_reducible first | exact HB.out | apply Jla | apply Jln | apply Jld | refine Jse ?_ aj.out | refine Jse ?_ ak.out) | exact HB.out)) hb); have n4_ := JA (hbox); have n5_ := JA ((by rw [hg]; exact (Jsz (by repeat (first | (with_reducible first | exact HB.out | apply Jla | apply Jln | apply Jld | refine Jse ?_ aj.out | refine Jse ?_ ak.out) | exact HB.out))) : w.heap.size ≤ ag)); have n6_ := JA ((by rw [hg]; exact (Jsz (by repeat (first | (with_reducible first | exact HB.out | apply Jla | apply Jln | apply Jld | refine Jse ?_ aj.out | refine Jse ?_ ak.out) | exact HB.out))) : w.heap.size ≤ ag)); have n7_ := JA ((by rw [hg]; exact Nat.ne_of_lt (blk_lt (g := ac) (o := .cells #[.int .i64 a0_0, .int .i64 a0_1, .int .i64 a0_2, .int .i64 a0_3, .int .i64 a0_4, .int .i64 a0_5, .int .i64 a0_6, .int .i64 a0_7, .int .i64 a0_8, .int .i64 a0_9, .int .i64 a0_10, .int .i64 a0_11] 23 (0, 0)) (by (with_reducible repeat first | apply Jbn | apply Jbd | apply Jba); exact aa.out)) : ac ≠ ag)); have n8_ := JA ((by rw [hg]; exact Nat.ne_of_gt (blk_lt (g := ac) (o := .cells #[.int .i64 a0_0, .int .i64 a0_1, .int .i64 a0_2, .int .i64 a0_3, .int .i64 a0_4, .int .i64 a0_5, .int .i64 a0_6, .int .i64 a0_7, .int .i64 a0_8, .int .i64 a0_9, .int .i64 a0_10, .int .i64 a0_11] 23 (0, 0)) (by (with_reducible repeat first | apply Jbn | apply Jbd | apply Jba); exact aa.out)) : ag ≠ ac)); have n9_ := JA ((by rw [hg]; exact Nat.ne_of_lt (blk_lt (g := ae) (o := .cells #[.int .i64 a1_0, .slice A1_1 l1_1.length c1_1, .int .i64 a1_2, .int .i64 a1_3] 26 (0, 0)) (by (with_reducible repeat first | apply Jbn | apply Jbd | apply Jba); exact ab.out)) : ae ≠ ag)); have bm := JA ((by rw [hg]; exact Nat.ne_of_gt (blk_lt (g := ae) (o := .cells #[.int .i64 a1_0, .slice A1_1 l1_1.length c1_1, .int .i64 a1_2, .int .i64 a1_3] 26 (0, 0)) (by (with_reducible repeat first | apply Jbn | apply Jbd | apply Jba); exact ab.out)) : ag ≠ ae)); clear aB; clear aa; clear ab; clear HB; have aB := n0_; have aa := n1_; have ab := n2_; have HB := n3_; have ad := n4_; have hz := n5_; have aD := n6_; have ay := n7_; have aV := n8_; have az := n9_; have aW := bm; clear n0_ n1_ n2_ n3_ n4_ n5_ n6_ n7_ n8_ n9_ bm; clear hb hbox hg) | ((with_reducible refine gate_dst (N := 10) rfl ?_); (try (refine gate_guard (by rfl) ?_; dsimp only)); refine box_event ?hg (N := 10) ?hd (cs := #[.int .i64 0, .bool false]) (t := 31) ?hr ?_; (case hd => rfl); (case hg => rfl); (case hr => first | (go_simp; done) | (go_simp; rfl)); intro an hg bn hbox hb; have n0_ := JA (Kd.Q_below (by (with_reducible repeat (first | apply Kd.Q_alloc | apply Kd.Q_drewN | apply Kd.Q_drew)); exact aB.out) hb); have n1_ := JA (Jbb (g := ac) (o := .cells #[.int .i64 a0_0, .int .i64 a0_1, .int .i64 a0_2, .int .i64 a0_3, .int .i64 a0_4, .int .i64 a0_5, .int .i64 a0_6, .int .i64 a0_7, .int .i64 a0_8, .int .i64 a0_9, .int .i64 a0_10, .int .i64 a0_11] 23 (0, 0)) (by (with_reducible repeat first | apply Jbn | apply Jbd | apply Jba); exact aa.out) hb); have n2_ := JA (Jbb (g := ae) (o := .cells #[.int .i64 a1_0, .slice A1_1 l1_1.length c1_1, .int .i64 a1_2, .int .i64 a1_3] 26 (0, 0)) (by (with_reducible repeat first | apply Jbn | apply Jbd | apply Jba); exact ab.out) hb); have n3_ := JA (Jbb (g := ag) (o := .cells #[.int .i64 0, .slice none 0 0, .int .i64 0, .int .i64 0] 26 (0, 0)) (by (with_reducible repeat first | apply Jbn | apply Jbd | apply Jba); exact ad.out) hb); have n4_ := JA (Jst (by repeat (first | (with_reducible first | exact HB.out | apply Jla | apply Jln | apply Jld | refine Jse ?_ aj.out | refine Jse ?_ ak.out | refine Jse ?_ aD.out) | exact HB.out)) hb); have n5_ := JA (hbox); have n6_ := JA ((by rw [hg]; exact (Jsz (by repeat (first | (with_reducible first | exact HB.out | apply Jla | apply Jln | apply Jld | refine Jse ?_ aj.out | refine Jse ?_ ak.out | refine Jse ?_ aD.out) | exact HB.out))) : w.heap.size ≤ an)); have n7_ := JA ((by rw [hg]; exact (Jsz (by repeat (first | (with_reducible first | exact HB.out | apply Jla | apply Jln | apply Jld | refine Jse ?_ aj.out | refine Jse ?_ ak.out | refine Jse ?_ aD.out) | exact HB.out))) : w.heap.size ≤ an)); have n8_ := JA ((by rw [hg]; exact Nat.ne_of_lt (blk_lt (g := ac) (o := .cells #[.int .i64 a0_0, .int .i64 a0_1, .int .i64 a0_2, .int .i64 a0_3, .int .i64 a0_4, .int .i64 a0_5, .int .i64 a0_6, .int .i64 a0_7, .int .i64 a0_8, .int .i64 a0_9, .int .i64 a0_10, .int .i64 a0_11] 23 (0, 0)) (by (with_reducible repeat first | apply Jbn | apply Jbd | apply Jba); exact aa.out)) : ac ≠ an)); have n9_ := JA ((by rw [hg]; exact Nat.ne_of_gt (blk_lt (g := ac) (o := .cells #[.int .i64 a0_0, .int .i64 a0_1, .int .i64 a0_2, .int .i64 a0_3, .int .i64 a0_4, .int .i64 a0_5, .int .i64 a0_6, .int .i64 a0_7, .int .i64 a0_8, .int .i64 a0_9, .int .i64 a0_10, .int .i64 a0_11] 23 (0, 0)) (by (with_reducible repeat first | apply Jbn | apply Jbd | apply Jba); exact aa.out)) : an ≠ ac)); have bm := JA ((by rw [hg]; exact Nat.ne_of_lt (blk_lt (g := ae) (o := .cells #[.int .i64 a1_0, .slice A1_1 l1_1.length c1_1, .int .i64 a1_2, .int .i64 a1_3] 26 (0, 0)) (by (with_reducible repeat first | apply Jbn | apply Jbd | apply Jba); exact ab.out)) : ae ≠ an)); have bo := JA ((by rw [hg]; exact Nat.ne_of_gt (blk_lt (g := ae) (o := .cells #[.int .i64 a1_0, .slice A1_1 l1_1.length c1_1, .int .i64 a1_2, .int .i64 a1_3] 26 (0, 0)) (by (with_reducible repeat first | apply Jbn | apply Jbd | apply Jba); exact ab.out)) : an ≠ ae)); have bp := JA ((by rw [hg]; exact Nat.ne_of_lt (blk_lt (g := ag) (o := .cells #[.int .i64 0, .slice none 0 0, .int .i64 0, .int .i64 0] 26 (0, 0)) (by (with_reducible repeat first | apply Jbn | apply Jbd | apply Jba); exact ad.out)) : ag ≠ an)); have bq := JA ((by rw [hg]; exact Nat.ne_of_gt (blk_lt (g := ag) (o := .cells #[.int .i64 0, .slice none 0 0, .int .i64 0, .int .i64 0] 26 (0, 0)) (by (with_reducible repeat first | apply Jbn | apply Jbd | apply Jba); exact ad.out)) : an ≠ ag)); clear aB; clear aa; clear ab; clear ad; clear HB; have aB := n0_; have aa := n1_; have ab := n2_; have ad := n3_; have HB := n4_; have am := n5_; have hA := n6_; have aM := n7_; have be := n8_; have bB := n9_; have bf := bm; have bC := bo; have aL := bp; have aA := bq; clear n0_ n1_ n2_ n3_ n4_ n5_ n6_ n7_ n8_ n9_ bm bo bp bq; clear hb hbox hg; have hB := aV.out; have hC := ay.out; have hD := aW.out; have hE := az.out; have hF := aL.out; have hG := aA.out; have cR : bn.cell? ⟨ag, 0, none⟩ = some (.int .i64 0) := (Jbc ad.out 0).trans rfl; have cS : bn.cell? ⟨ag, 1, none⟩ = some (.slice none 0 0) := (Jbc ad.out 1).trans rfl; have cT : bn.cell? ⟨ag, 2, none⟩ = some (.int .i64 0) := (Jbc ad.out 2).trans rfl; have cU : bn.cell? ⟨ag, 3, none⟩ = some (.int .i64 0) := (Jbc ad.out 3).trans rfl; have cV := blk_frozen ad.out 0; have cW := blk_frozen ad.out 1; have cX := blk_frozen ad.out 2; have cY := blk_frozen ad.out 3; obtain ⟨aP, aQ, g2, _⟩ := Kd.Q_slice aB.out; subst g2; have hH := bB.out; have hI := be.out; have hJ := bC.out; have hK := bf.out; have cZ : bn.cell? ⟨an, 0, none⟩ = some (.int .i64 0) := (Jbc am.out 0).trans rfl; have c0 : bn.cell? ⟨an, 1, none⟩ = some (.bool false) := (Jbc am.out 1).trans rfl; have da := blk_frozen am.out 0; have db := blk_frozen am.out 1; have dc : bn.cell? ⟨ac, 0, none⟩ = some (.int .i64 a0_0) := (Jbc aa.out 0).trans rfl; have dd : bn.cell? ⟨ac, 1, none⟩ = some (.int .i64 a0_1) := (Jbc aa.out 1).trans rfl; have de : bn.cell? ⟨ac, 2, none⟩ = some (.int .i64 a0_2) := (Jbc aa.out 2).trans rfl; have df : bn.cell? ⟨ac, 3, none⟩ = some (.int .i64 a0_3) := (Jbc aa.out 3).trans rfl; have dg : bn.cell? ⟨ac, 4, none⟩ = some (.int .i64 a0_4) := (Jbc aa.out 4).trans rfl; have dh : bn.cell? ⟨ac, 5, none⟩ = some (.int .i64 a0_5) := (Jbc aa.out 5).trans rfl; have di : bn.cell? ⟨ac, 6, none⟩ = some (.int .i64 a0_6) := (Jbc aa.out 6).trans rfl; have dj : bn.cell? ⟨ac, 7, none⟩ = some (.int .i64 a0_7) := (Jbc aa.out 7).trans rfl; have dk : bn.cell? ⟨ac, 8, none⟩ = some (.int .i64 a0_8) := (Jbc aa.out 8).trans rfl; have dl : bn.cell? ⟨ac, 9, none⟩ = some (.int .i64 a0_9) := (Jbc aa.out 9).trans rfl; have cg : bn.cell? ⟨ac, 10, none⟩ = some (.int .i64 a0_10) := (Jbc aa.out 10).trans rfl; have ch : bn.cell? ⟨ac, 11, none⟩ = some (.int .i64 a0_11) := (Jbc aa.out 11).trans rfl; have dm := blk_frozen aa.out 0; have dn := blk_frozen aa.out 1; have dp := blk_frozen aa.out 2; have dq := blk_frozen aa.out 3; have dr := blk_frozen aa.out 4; have ds := blk_frozen aa.out 5; have dt := blk_frozen aa.out 6; have du := blk_frozen aa.out 7; have dv := blk_frozen aa.out 8; have dw := blk_frozen aa.out 9; have ci := blk_frozen aa.out 10; have cj := blk_frozen aa.out 11; have dx : bn.cell? ⟨ae, 0, none⟩ = some (.int .i64 a1_0) := (Jbc ab.out 0).trans rfl; have dy : bn.cell? ⟨ae, 1, none⟩ = some (.slice A1_1 l1_1.length c1_1) := (Jbc ab.out 1).trans rfl; have dz : bn.cell? ⟨ae, 2, none⟩ = some (.int .i64 a1_2) := (Jbc ab.out 2).trans rfl; have dA : bn.cell? ⟨ae, 3, none⟩ = some (.int .i64 a1_3) := (Jbc ab.out 3).trans rfl; have dB := blk_frozen ab.out 0; have dC := blk_frozen ab.out 1; have dD := blk_frozen ab.out 2; have dE := blk_frozen ab.out 3) | (go_at_call 18; (with_reducible refine (plant_Step.calls a0_0 a0_1 a0_2 a0_3 a0_4 a0_5 a0_6 a0_7 a0_8 a0_9 a0_10 a0_11 a1_0 _ _ l1_1 a1_2 a1_3 bG 0 aO aE bd bj bz bH _ ?side1 ?side2 jA.out).mono ?_); (case side1 => exact Kd.C_below bI.out (by repeat (first | (with_reducible first | exact HB.out | apply Jla | apply Jln | apply Jld | refine Jse ?_ aj.out | refine Jse ?_ ak.out | refine Jse ?_ aD.out | refine Jse ?_ aM.out) | exact HB.out))); (case side2 => exact bJ.out); rintro e lh ⟨iz, rfl, d7, hb⟩; have n0_ := JA (Kd.Q_elder' (by (with_reducible repeat (first | apply Kd.Q_alloc | apply Kd.Q_drewN | apply Kd.Q_drew)); exact (Kd.Q_mono (Kd.Q_mono (Kd.Q_far (p := ⟨an, 1, none⟩) (Kd.Q_far (p := ⟨an, 0, none⟩) (Kd.Q_far (p := ⟨ag, 3, none⟩) (Kd.Q_far (p := ⟨ag, 2, none⟩) (Kd.Q_far (p := ⟨ag, 1, none⟩) (Kd.Q_far (p := ⟨ag, 0, none⟩) (Kd.Q_types (Kd.Q_types aB.out ad.out (by decide)) am.out (by decide)) (fun _ hk => hk.1.2) (.int .i64 aC)) (fun _ hk => hk.1.2) (.slice aP aw.length aQ)) (fun _ hk => hk.1.2) (.int .i64 aK)) (fun _ hk => hk.1.2) (.int .i64 aN)) (fun _ hk => hk.2) (.int .i64 bc)) (fun _ hk => hk.2) (.bool bh)) (fun _ h_ => h_.1)) (fun _ h_ => h_.1))) (Kd.Q_base d7) hb); have n1_ := JA (Kd.Q_lower (Kd.Q_new' d7 (Kd.Q_lt (by (with_reducible repeat (first | apply Kd.Q_alloc | apply Kd.Q_drewN | apply Kd.Q_drew)); exact (Kd.Q_mono (Kd.Q_mono (Kd.Q_far (p := ⟨an, 1, none⟩) (Kd.Q_far (p := ⟨an, 0, none⟩) (Kd.Q_far (p := ⟨ag, 3, none⟩) (Kd.Q_far (p := ⟨ag, 2, none⟩) (Kd.Q_far (p := ⟨ag, 1, none⟩) (Kd.Q_far (p := ⟨ag, 0, none⟩) (Kd.Q_types (Kd.Q_types aB.out ad.out (by decide)) am.out (by decide)) (fun _ hk => hk.1.2) (.int .i64 aC)) (fun _ hk => hk.1.2) (.slice aP aw.length aQ)) (fun _ hk => hk.1.2) (.int .i64 aK)) (fun _ hk => hk.1.2) (.int .i64 aN)) (fun _ hk => hk.2) (.int .i64 bc)) (fun _ hk => hk.2) (.bool bh)) (fun _ h_ => h_.1)) (fun _ h_ => h_.1))))) (Jsz (by repeat (first | (with_reducible first | exact HB.out | apply Jla | apply Jln | apply Jld | refine Jse ?_ aj.out | refine Jse ?_ ak.out | refine Jse ?_ aD.out | refine Jse ?_ aM.out) | exact HB.out)))); have n2_ := JA (Jbb (g := ac) (o := .cells #[.int .i64 a0_0, .int .i64 a0_1, .int .i64 a0_2, .int .i64 a0_3, .int .i64 a0_4, .int .i64 a0_5, .int .i64 a0_6, .int .i64 a0_7, .int .i64 a0_8, .int .i64 a0_9, .int .i64 a0_10, .int .i64 a0_11] 23 (0, 0)) (by (with_reducible repeat first | apply Jbn | apply Jbd | apply Jba); refine blk_far ?_ be.out _; (with_reducible repeat first | apply Jbn | apply Jbd | apply Jba); refine blk_far ?_ be.out _; (with_reducible repeat first | apply Jbn | apply Jbd | apply Jba); refine blk_far ?_ ay.out _; (with_reducible repeat first | apply Jbn | apply Jbd | apply Jba); refine blk_far ?_ ay.out _; (with_reducible repeat first | apply Jbn | apply Jbd | apply Jba); refine blk_far ?_ ay.out _; (with_reducible repeat first | apply Jbn | apply Jbd | apply Jba); refine blk_far ?_ ay.out _; (with_reducible repeat first | apply Jbn | apply Jbd | apply Jba); exact aa.out) hb); have n3_ := JA (Jbb (g := ae) (o := .cells #[.int .i64 a1_0, .slice A1_1 l1_1.length c1_1, .int .i64 a1_2, .int .i64 a1_3] 26 (0, 0)) (by (with_reducible repeat first | apply Jbn | apply Jbd | apply Jba); refine blk_far ?_ bf.out _; (with_reducible repeat first | apply Jbn | apply Jbd | apply Jba); refine blk_far ?_ bf.out _; (with_reducible repeat first | apply Jbn | apply Jbd | apply Jba); refine blk_far ?_ az.out _; (with_reducible repeat first | apply Jbn | apply Jbd | apply Jba); refine blk_far ?_ az.out _; (with_reducible repeat first | apply Jbn | apply Jbd | apply Jba); refine blk_far ?_ az.out _; (with_reducible repeat first | apply Jbn | apply Jbd | apply Jba); refine blk_far ?_ az.out _; (with_reducible repeat first | apply Jbn | apply Jbd | apply Jba); exact ab.out) hb); have n4_ := JA (Jbb (g := ag) (o := .cells #[.int .i64 aC, .slice aP aw.length aQ, .int .i64 aK, .int .i64 aN] 26 (0, 0)) (by (with_reducible repeat first | apply Jbn | apply Jbd | apply Jba); refine blk_far ?_ aL.out _; (with_reducible repeat first | apply Jbn | apply Jbd | apply Jba); refine blk_far ?_ aL.out _; (with_reducible repeat first | apply Jbn | apply Jbd | apply Jba); refine blk_put (cs := #[.int .i64 aC, .slice aP aw.length aQ, .int .i64 aK, .int .i64 0]) ?_ 3 _ rfl; (with_reducible repeat first | apply Jbn | apply Jbd | apply Jba); refine blk_put (cs := #[.int .i64 aC, .slice aP aw.length aQ, .int .i64 0, .int .i64 0]) ?_ 2 _ rfl; (with_reducible repeat first | apply Jbn | apply Jbd | apply Jba); refine blk_put (cs := #[.int .i64 aC, .slice none 0 0, .int .i64 0, .int .i64 0]) ?_ 1 _ rfl; (with_reducible repeat first | apply Jbn | apply Jbd | apply Jba); refine blk_put (cs := #[.int .i64 0, .slice none 0 0, .int .i64 0, .int .i64 0]) ?_ 0 _ rfl; (with_reducible repeat first | apply Jbn | apply Jbd | apply Jba); exact ad.out) hb); have n5_ := JA (Jbb (g := an) (o := .cells #[.int .i64 bc, .bool bh] 31 (0, 0)) (by (with_reducible repeat first | apply Jbn | apply Jbd | apply Jba); refine blk_put (cs := #[.int .i64 bc, .bool false]) ?_ 1 _ rfl; (with_reducible repeat first | apply Jbn | apply Jbd | apply Jba); refine blk_put (cs := #[.int .i64 0, .bool false]) ?_ 0 _ rfl; (with_reducible repeat first | apply Jbn | apply Jbd | apply Jba); refine blk_far ?_ aA.out _; (with_reducible repeat first | apply Jbn | apply Jbd | apply Jba); refine blk_far ?_ aA.out _; (with_reducible repeat first | apply Jbn | apply Jbd | apply Jba); refine blk_far ?_ aA.out _; (with_reducible repeat first | apply Jbn | apply Jbd | apply Jba); refine blk_far ?_ aA.out _; (with_reducible repeat first | apply Jbn | apply Jbd | apply Jba); exact am.out) hb); have n6_ := JA (Jst (by repeat (first | (with_reducible first | exact HB.out | apply Jla | apply Jln | apply Jld | refine Jse ?_ aj.out | refine Jse ?_ ak.out | refine Jse ?_ aD.out | refine Jse ?_ aM.out) | exact HB.out)) hb); clear aB; clear aa; clear ab; clear ad; clear am; clear HB; have aB := n0_; have bg := n1_; have aa := n2_; have ab := n3_; have ad := n4_; have am := n5_; have HB := n6_; clear n0_ n1_ n2_ n3_ n4_ n5_ n6_; (try clear hb); (try clear bV); (try clear hk); (try clear hi); (try clear d7)) | ((with_reducible refine gate_dst (N := 12) rfl ?_); (try (refine gate_guard (by rfl) ?_; dsimp only)); refine box_event ?hg (N := 12) ?hd (cs := #[.int .i64 0, .slice none 0 0, .int .i64 0, .int .i64 0]) (t := 26) ?hr ?_; (case hd => rfl); (case hg => rfl); (case hr => first | (go_simp; done) | (go_simp; rfl)); intro ah hg li hbox hb; have n0_ := JA (Kd.Q_below (by (with_reducible repeat (first | apply Kd.Q_alloc | apply Kd.Q_drewN | apply Kd.Q_drew)); exact aB.out) hb); have n1_ := JA (Kd.Q_below (by (with_reducible repeat (first | apply Kd.Q_alloc | apply Kd.Q_drewN | apply Kd.Q_drew)); exact bg.out) hb); have n2_ := JA (Jbb (g := ac) (o := .cells #[.int .i64 a0_0, .int .i64 a0_1, .int .i64 a0_2, .int .i64 a0_3, .int .i64 a0_4, .int .i64 a0_5, .int .i64 a0_6, .int .i64 a0_7, .int .i64 a0_8, .int .i64 a0_9, .int .i64 a0_10, .int .i64 a0_11] 23 (0, 0)) (by (with_reducible repeat first | apply Jbn | apply Jbd | apply Jba); exact aa.out) hb); have n3_ := JA (Jbb (g := ae) (o := .cells #[.int .i64 a1_0, .slice A1_1 l1_1.length c1_1, .int .i64 a1_2, .int .i64 a1_3] 26 (0, 0)) (by (with_reducible repeat first | apply Jbn | apply Jbd | apply Jba); exact ab.out) hb); have n4_ := JA (Jbb (g := ag) (o := .cells #[.int .i64 aC, .slice aP aw.length aQ, .int .i64 aK, .int .i64 aN] 26 (0, 0)) (by (with_reducible repeat first | apply Jbn | apply Jbd | apply Jba); exact ad.out) hb); have n5_ := JA (Jbb (g := an) (o := .cells #[.int .i64 bc, .bool bh] 31 (0, 0)) (by (with_reducible repeat first | apply Jbn | apply Jbd | apply Jba); exact am.out) hb); have n6_ := JA (Jst (by repeat (first | (with_reducible first | exact HB.out | apply Jla | apply Jln | apply Jld | refine Jse ?_ aj.out | refine Jse ?_ ak.out | refine Jse ?_ aD.out | refine Jse ?_ aM.out) | exact HB.out)) hb); have n7_ := JA (hbox); have n8_ := JA ((by rw [hg]; exact (Jsz (by repeat (first | (with_reducible first | exact HB.out | apply Jla | apply Jln | apply Jld | refine Jse ?_ aj.out | refine Jse ?_ ak.out | refine Jse ?_ aD.out | refine Jse ?_ aM.out) | exact HB.out))) : w.heap.size ≤ ah)); have n9_ := JA ((by rw [hg]; exact (Jsz (by repeat (first | (with_reducible first | exact HB.out | apply Jla | apply Jln | apply Jld | refine Jse ?_ aj.out | refine Jse ?_ ak.out | refine Jse ?_ aD.out | refine Jse ?_ aM.out) | exact HB.out))) : w.heap.size ≤ ah)); have bm := JA ((by rw [hg]; exact Nat.ne_of_lt (blk_lt (g := ac) (o := .cells #[.int .i64 a0_0, .int .i64 a0_1, .int .i64 a0_2, .int .i64 a0_3, .int .i64 a0_4, .int .i64 a0_5, .int .i64 a0_6, .int .i64 a0_7, .int .i64 a0_8, .int .i64 a0_9, .int .i64 a0_10, .int .i64 a0_11] 23 (0, 0)) (by (with_reducible repeat first | apply Jbn | apply Jbd | apply Jba); exact aa.out)) : ac ≠ ah)); have bo := JA ((by rw [hg]; exact Nat.ne_of_gt (blk_lt (g := ac) (o := .cells #[.int .i64 a0_0, .int .i64 a0_1, .int .i64 a0_2, .int .i64 a0_3, .int .i64 a0_4, .int .i64 a0_5, .int .i64 a0_6, .int .i64 a0_7, .int .i64 a0_8, .int .i64 a0_9, .int .i64 a0_10, .int .i64 a0_11] 23 (0, 0)) (by (with_reducible repeat first | apply Jbn | apply Jbd | apply Jba); exact aa.out)) : ah ≠ ac)); have bp := JA ((by rw [hg]; exact Nat.ne_of_lt (blk_lt (g := ae) (o := .cells #[.int .i64 a1_0, .slice A1_1 l1_1.length c1_1, .int .i64 a1_2, .int .i64 a1_3] 26 (0, 0)) (by (with_reducible repeat first | apply Jbn | apply Jbd | apply Jba); exact ab.out)) : ae ≠ ah)); have bq := JA ((by rw [hg]; exact Nat.ne_of_gt (blk_lt (g := ae) (o := .cells #[.int .i64 a1_0, .slice A1_1 l1_1.length c1_1, .int .i64 a1_2, .int .i64 a1_3] 26 (0, 0)) (by (with_reducible repeat first | apply Jbn | apply Jbd | apply Jba); exact ab.out)) : ah ≠ ae)); have bK := JA ((by rw [hg]; exact Nat.ne_of_lt (blk_lt (g := ag) (o := .cells #[.int .i64 aC, .slice aP aw.length aQ, .int .i64 aK, .int .i64 aN] 26 (0, 0)) (by (with_reducible repeat first | apply Jbn | apply Jbd | apply Jba); exact ad.out)) : ag ≠ ah)); have bL := JA ((by rw [hg]; exact Nat.ne_of_gt (blk_lt (g := ag) (o := .cells #[.int .i64 aC, .slice aP aw.length aQ, .int .i64 aK, .int .i64 aN] 26 (0, 0)) (by (with_reducible repeat first | apply Jbn | apply Jbd | apply Jba); exact ad.out)) : ah ≠ ag)); have bM := JA ((by rw [hg]; exact Nat.ne_of_lt (blk_lt (g := an) (o := .cells #[.int .i64 bc, .bool bh] 31 (0, 0)) (by (with_reducible repeat first | apply Jbn | apply Jbd | apply Jba); exact am.out)) : an ≠ ah)); have bN := JA ((by rw [hg]; exact Nat.ne_of_gt (blk_lt (g := an) (o := .cells #[.int .i64 bc, .bool bh] 31 (0, 0)) (by (with_reducible repeat first | apply Jbn | apply Jbd | apply Jba); exact am.out)) : ah ≠ an)); clear aB; clear bg; clear aa; clear ab; clear ad; clear am; clear HB; have aB := n0_; have bg := n1_; have aa := n2_; have ab := n3_; have ad := n4_; have am := n5_; have HB := n6_; have af := n7_; have hL := n8_; have bi := n9_; have ap := bm; have aX := bo; have aq := bp; have aY := bq; have ar := bK; have aZ := bL; have au := bM; have ba := bN; clear n0_ n1_ n2_ n3_ n4_ n5_ n6_ n7_ n8_ n9_ bm bo bp bq bK bL bM bN; clear hb hbox hg) | ((with_reducible refine gate_dst (N := 13) rfl ?_); (try (refine gate_guard (by rfl) ?_; dsimp only)); refine box_event ?hg (N := 13) ?hd (cs := #[.int .i64 0, .bool false]) (t := 31) ?hr ?_; (case hd => rfl); (case hg => rfl); (case hr => first | (go_simp; done) | (go_simp; rfl)); intro ao hg br hbox hb; have n0_ := JA (Kd.Q_below (by (with_reducible repeat (first | apply Kd.Q_alloc | apply Kd.Q_drewN | apply Kd.Q_drew)); exact aB.out) hb); have n1_ := JA (Kd.Q_below (by (with_reducible repeat (first | apply Kd.Q_alloc | apply Kd.Q_drewN | apply Kd.Q_drew)); exact bg.out) hb); have n2_ := JA (Jbb (g := ac) (o := .cells #[.int .i64 a0_0, .int .i64 a0_1, .int .i64 a0_2, .int .i64 a0_3, .int .i64 a0_4, .int .i64 a0_5, .int .i64 a0_6, .int .i64 a0_7, .int .i64 a0_8, .int .i64 a0_9, .int .i64 a0_10, .int .i64 a0_11] 23 (0, 0)) (by (with_reducible repeat first | apply Jbn | apply Jbd | apply Jba); exact aa.out) hb); have n3_ := JA (Jbb (g := ae) (o := .cells #[.int .i64 a1_0, .slice A1_1 l1_1.length c1_1, .int .i64 a1_2, .int .i64 a1_3] 26 (0, 0)) (by (with_reducible repeat first | apply Jbn | apply Jbd | apply Jba); exact ab.out) hb); have n4_ := JA (Jbb (g := ag) (o := .cells #[.int .i64 aC, .slice aP aw.length aQ, .int .i64 aK, .int .i64 aN] 26 (0, 0)) (by (with_reducible repeat first | apply Jbn | apply Jbd | apply Jba); exact ad.out) hb); have n5_ := JA (Jbb (g := an) (o := .cells #[.int .i64 bc, .bool bh] 31 (0, 0)) (by (with_reducible repeat first | apply Jbn | apply Jbd | apply Jba); exact am.out) hb); have n6_ := JA (Jbb (g := ah) (o := .cells #[.int .i64 0, .slice none 0 0, .int .i64 0, .int .i64 0] 26 (0, 0)) (by (with_reducible repeat first | apply Jbn | apply Jbd | apply Jba); exact af.out) hb); have n7_ := JA (Jst (by repeat (first | (with_reducible first | exact HB.out | apply Jla | apply Jln | apply Jld | refine Jse ?_ aj.out | refine Jse ?_ ak.out | refine Jse ?_ aD.out | refine Jse ?_ aM.out | refine Jse ?_ bi.out) | exact HB.out)) hb); have n8_ := JA (hbox); have n9_ := JA ((by rw [hg]; exact (Jsz (by repeat (first | (with_reducible first | exact HB.out | apply Jla | apply Jln | apply Jld | refine Jse ?_ aj.out | refine Jse ?_ ak.out | refine Jse ?_ aD.out | refine Jse ?_ aM.out | refine Jse ?_ bi.out) | exact HB.out))) : w.heap.size ≤ ao)); have bm := JA ((by rw [hg]; exact (Jsz (by repeat (first | (with_reducible first | exact HB.out | apply Jla | apply Jln | apply Jld | refine Jse ?_ aj.out | refine Jse ?_ ak.out | refine Jse ?_ aD.out | refine Jse ?_ aM.out | refine Jse ?_ bi.out) | exact HB.out))) : w.heap.size ≤ ao)); have bo := JA ((by rw [hg]; exact Nat.ne_of_lt (blk_lt (g := ac) (o := .cells #[.int .i64 a0_0, .int .i64 a0_1, .int .i64 a0_2, .int .i64 a0_3, .int .i64 a0_4, .int .i64 a0_5, .int .i64 a0_6, .int .i64 a0_7, .int .i64 a0_8, .int .i64 a0_9, .int .i64 a0_10, .int .i64 a0_11] 23 (0, 0)) (by (with_reducible repeat first | apply Jbn | apply Jbd | apply Jba); exact aa.out)) : ac ≠ ao)); have bp := JA ((by rw [hg]; exact Nat.ne_of_gt (blk_lt (g := ac) (o := .cells #[.int .i64 a0_0, .int .i64 a0_1, .int .i64 a0_2, .int .i64 a0_3, .int .i64 a0_4, .int .i64 a0_5, .int .i64 a0_6, .int .i64 a0_7, .int .i64 a0_8, .int .i64 a0_9, .int .i64 a0_10, .int .i64 a0_11] 23 (0, 0)) (by (with_reducible repeat first | apply Jbn | apply Jbd | apply Jba); exact aa.out)) : ao ≠ ac)); have bq := JA ((by rw [hg]; exact Nat.ne_of_lt (blk_lt (g := ae) (o := .cells #[.int .i64 a1_0, .slice A1_1 l1_1.length c1_1, .int .i64 a1_2, .int .i64 a1_3] 26 (0, 0)) (by (with_reducible repeat first | apply Jbn | apply Jbd | apply Jba); exact ab.out)) : ae ≠ ao)); have bK := JA ((by rw [hg]; exact Nat.ne_of_gt (blk_lt (g := ae) (o := .cells #[.int .i64 a1_0, .slice A1_1 l1_1.length c1_1, .int .i64 a1_2, .int .i64 a1_3] 26 (0, 0)) (by (with_reducible repeat first | apply Jbn | apply Jbd | apply Jba); exact ab.out)) : ao ≠ ae)); have bL := JA ((by rw [hg]; exact Nat.ne_of_lt (blk_lt (g := ag) (o := .cells #[.int .i64 aC, .slice aP aw.length aQ, .int .i64 aK, .int .i64 aN] 26 (0, 0)) (by (with_reducible repeat first | apply Jbn | apply Jbd | apply Jba); exact ad.out)) : ag ≠ ao)); have bM := JA ((by rw [hg]; exact Nat.ne_of_gt (blk_lt (g := ag) (o := .cells #[.int .i64 aC, .slice aP aw.length aQ, .int .i64 aK, .int .i64 aN] 26 (0, 0)) (by (with_reducible repeat first | apply Jbn | apply Jbd | apply Jba); exact ad.out)) : ao ≠ ag)); have bN := JA ((by rw [hg]; exact Nat.ne_of_lt (blk_lt (g := an) (o := .cells #[.int .i64 bc, .bool bh] 31 (0, 0)) (by (with_reducible repeat first | apply Jbn | apply Jbd | apply Jba); exact am.out)) : an ≠ ao)); have fc := JA ((by rw [hg]; exact Nat.ne_of_gt (blk_lt (g := an) (o := .cells #[.int .i64 bc, .bool bh] 31 (0, 0)) (by (with_reducible repeat first | apply Jbn | apply Jbd | apply Jba); exact am.out)) : ao ≠ an)); have fd := JA ((by rw [hg]; exact Nat.ne_of_lt (blk_lt (g := ah) (o := .cells #[.int .i64 0, .slice none 0 0, .int .i64 0, .int .i64 0] 26 (0, 0)) (by (with_reducible repeat first | apply Jbn | apply Jbd | apply Jba); exact af.out)) : ah ≠ ao)); have fe := JA ((by rw [hg]; exact Nat.ne_of_gt (blk_lt (g := ah) (o := .cells #[.int .i64 0, .slice none 0 0, .int .i64 0, .int .i64 0] 26 (0, 0)) (by (with_reducible repeat first | apply Jbn | apply Jbd | apply Jba); exact af.out)) : ao ≠ ah)); clear aB; clear bg; clear aa; clear ab; clear ad; clear am; clear af; clear HB; have aB := n0_; have bg := n1_; have aa := n2_; have ab := n3_; have ad := n4_; have am := n5_; have af := n6_; have HB := n7_; have aG := n8_; have hM := n9_; have bu := bm; have aR := bo; have bD := bp; have aS := bq; have bE := bK; have aH := bL; have bb := bM; have aT := bN; have bF := fc; have aI := fd; have av := fe; clear n0_ n1_ n2_ n3_ n4_ n5_ n6_ n7_ n8_ n9_ bm bo bp bq bK bL bM bN fc fd fe; clear hb hbox hg; have hN := aX.out; have hO := ap.out; have hP := aY.out; have hQ := aq.out; have hR := aZ.out; have hS := ar.out; have hT := ba.out; have hU := au.out; have hV := aI.out; have hW := av.out; have dF : br.cell? ⟨ah, 0, none⟩ = some (.int .i64 0) := (Jbc af.out 0).trans rfl; have dG : br.cell? ⟨ah, 1, none⟩ = some (.slice none 0 0) := (Jbc af.out 1).trans rfl; have dH : br.cell? ⟨ah, 2, none⟩ = some (.int .i64 0) := (Jbc af.out 2).trans rfl; have dI : br.cell? ⟨ah, 3, none⟩ = some (.int .i64 0) := (Jbc af.out 3).trans rfl; have dJ := blk_frozen af.out 0; have dK := blk_frozen af.out 1; have dL := blk_frozen af.out 2; have dM := blk_frozen af.out 3; obtain ⟨bk, bl, g3, _⟩ := Kd.Q_slice bg.out; subst g3; have hX := bD.out; have hY := aR.out; have hZ := bE.out; have h0 := aS.out; have h1 := bb.out; have h2 := aH.out; have h3 := bF.out; have h4 := aT.out; have dN : br.cell? ⟨ao, 0, none⟩ = some (.int .i64 0) := (Jbc aG.out 0).trans rfl; have dO : br.cell? ⟨ao, 1, none⟩ = some (.bool false) := (Jbc aG.out 1).trans rfl; have dP := blk_frozen aG.out 0; have dQ := blk_frozen aG.out 1)); go_upto_region 8 with (first | (go_at_call 21; (with_reducible refine (plant_All.calls cn a1_0 _ _ l1_1 a1_2 a1_3 aJ _ ?side1 ?side2 jn.out).mono ?_); (case side1 => repeat (first | exact (Kd.C_below bI.out HB.out) | (with_reducible refine Kd.C_alloc ?_ _) | (with_reducible refine Kd.C_drewN ?_ _) | (with_reducible refine Kd.C_drew ?_))); (case side2 => exact bJ.out); rintro e bs ⟨rfl, hb⟩; have n0_ := JA (Jbb (g := ac) (o := .cells #[.int .i64 a0_0, .int .i64 a0_1, .int .i64 a0_2, .int .i64 a0_3, .int .i64 a0_4, .int .i64 a0_5, .int .i64 a0_6, .int .i64 a0_7, .int .i64 a0_8, .int .i64 a0_9, .int .i64 a0_10, .int .i64 a0_11] 23 (0, 0)) (by (with_reducible repeat first | apply Jbn | apply Jbd | apply Jba); exact aa.out) hb); have n1_ := JA (Jbb (g := ae) (o := .cells #[.int .i64 a1_0, .slice A1_1 l1_1.length c1_1, .int .i64 a1_2, .int .i64 a1_3] 26 (0, 0)) (by (with_reducible repeat first | apply Jbn | apply Jbd | apply Jba); exact ab.out) hb); have n2_ := JA (Jst (by repeat (first | (with_reducible first | exact HB.out | apply Jla | apply Jln | apply Jld | refine Jse ?_ aj.out | refine Jse ?_ ak.out) | exact HB.out)) hb); clear aa; clear ab; clear HB; have aa := n0_; have ab := n1_; have HB := n2_; clear n0_ n1_ n2_; (try clear hb); (try clear bV); (try clear hk); (try clear hi); have co : bs.cell? ⟨ac, 0, none⟩ = some (.int .i64 a0_0) := (Jbc aa.out 0).trans rfl; have cp : bs.cell? ⟨ac, 1, none⟩ = some (.int .i64 a0_1) := (Jbc aa.out 1).trans rfl; have cq : bs.cell? ⟨ac, 2, none⟩ = some (.int .i64 a0_2) := (Jbc aa.out 2).trans rfl; have cr : bs.cell? ⟨ac, 3, none⟩ = some (.int .i64 a0_3) := (Jbc aa.out 3).trans rfl; have ct : bs.cell? ⟨ac, 4, none⟩ = some (.int .i64 a0_4) := (Jbc aa.out 4).trans rfl; have cu : bs.cell? ⟨ac, 5, none⟩ = some (.int .i64 a0_5) := (Jbc aa.out 5).trans rfl; have cv : bs.cell? ⟨ac, 6, none⟩ = some (.int .i64 a0_6) := (Jbc aa.out 6).trans rfl; have cw : bs.cell? ⟨ac, 7, none⟩ = some (.int .i64 a0_7) := (Jbc aa.out 7).trans rfl; have cx : bs.cell? ⟨ac, 8, none⟩ = some (.int .i64 a0_8) := (Jbc aa.out 8).trans rfl; have cy : bs.cell? ⟨ac, 9, none⟩ = some (.int .i64 a0_9) := (Jbc aa.out 9).trans rfl; have cc : bs.cell? ⟨ac, 10, none⟩ = some (.int .i64 a0_10) := (Jbc aa.out 10).trans rfl; have cd : bs.cell? ⟨ac, 11, none⟩ = some (.int .i64 a0_11) := (Jbc aa.out 11).trans rfl; have cz := blk_frozen aa.out 0; have cA := blk_frozen aa.out 1; have cB := blk_frozen aa.out 2; have cC := blk_frozen aa.out 3; have cD := blk_frozen aa.out 4; have cE := blk_frozen aa.out 5; have cF := blk_frozen aa.out 6; have cG := blk_frozen aa.out 7; have cH := blk_frozen aa.out 8; have cI := blk_frozen aa.out 9; have ce := blk_frozen aa.out 10; have cf := blk_frozen aa.out 11; have cJ : bs.cell? ⟨ae, 0, none⟩ = some (.int .i64 a1_0) := (Jbc ab.out 0).trans rfl; have cK : bs.cell? ⟨ae, 1, none⟩ = some (.slice A1_1 l1_1.length c1_1) := (Jbc ab.out 1).trans rfl; have cL : bs.cell? ⟨ae, 2, none⟩ = some (.int .i64 a1_2) := (Jbc ab.out 2).trans rfl; have cM : bs.cell? ⟨ae, 3, none⟩ = some (.int .i64 a1_3) := (Jbc ab.out 3).trans rfl; have cN := blk_frozen ab.out 0; have cO := blk_frozen ab.out 1; have cP := blk_frozen ab.out 2; have cQ := blk_frozen ab.out 3) | (go_at_call 18; (with_reducible refine (plant_Step.calls a0_0 a0_1 a0_2 a0_3 a0_4 a0_5 a0_6 a0_7 a0_8 a0_9 a0_10 a0_11 a1_0 _ _ l1_1 a1_2 a1_3 aJ 0 aC aw aK aN bc bh _ ?side1 ?side2 jo.out).mono ?_); (case side1 => repeat (first | exact (Kd.C_below bI.out HB.out) | (with_reducible refine Kd.C_alloc ?_ _) | (with_reducible refine Kd.C_drewN ?_ _) | (with_reducible refine Kd.C_drew ?_))); (case side2 => exact bJ.out); rintro e lf ⟨iy, rfl, d7, hb⟩; have n0_ := JA (Kd.Q_lower d7 (Jsz (by repeat (first | (with_reducible first | exact HB.out | apply Jla | apply Jln | apply Jld | refine Jse ?_ aj.out | refine Jse ?_ ak.out) | exact HB.out)))); have n1_ := JA (Jbb (g := ac) (o := .cells #[.int .i64 a0_0, .int .i64 a0_1, .int .i64 a0_2, .int .i64 a0_3, .int .i64 a0_4, .int .i64 a0_5, .int .i64 a0_6, .int .i64 a0_7, .int .i64 a0_8, .int .i64 a0_9, .int .i64 a0_10, .int .i64 a0_11] 23 (0, 0)) (by (with_reducible repeat first | apply Jbn | apply Jbd | apply Jba); exact aa.out) hb); have n2_ := JA (Jbb (g := ae) (o := .cells #[.int .i64 a1_0, .slice A1_1 l1_1.length c1_1, .int .i64 a1_2, .int .i64 a1_3] 26 (0, 0)) (by (with_reducible repeat first | apply Jbn | apply Jbd | apply Jba); exact ab.out) hb); have n3_ := JA (Jst (by repeat (first | (with_reducible first | exact HB.out | apply Jla | apply Jln | apply Jld | refine Jse ?_ aj.out | refine Jse ?_ ak.out) | exact HB.out)) hb); clear aa; clear ab; clear HB; have aB := n0_; have aa := n1_; have ab := n2_; have HB := n3_; clear n0_ n1_ n2_ n3_; (try clear hb); (try clear bV); (try clear hk); (try clear hi); (try clear d7)) | ((with_reducible refine gate_dst (N := 9) rfl ?_); (try (refine gate_guard (by rfl) ?_; dsimp only)); refine box_event ?hg (N := 9) ?hd (cs := #[.int .i64 0, .slice none 0 0, .int .i64 0, .int .i64 0]) (t := 26) ?hr ?_; (case hd => rfl); (case hg => rfl); (case hr => first | (go_simp; done) | (go_simp; rfl)); intro ag hg lg hbox hb; have n0_ := JA (Kd.Q_below (by (with_reducible repeat (first | apply Kd.Q_alloc | apply Kd.Q_drewN | apply Kd.Q_drew)); exact aB.out) hb); have n1_ := JA (Jbb (g := ac) (o := .cells #[.int .i64 a0_0, .int .i64 a0_1, .int .i64 a0_2, .int .i64 a0_3, .int .i64 a0_4, .int .i64 a0_5, .int .i64 a0_6, .int .i64 a0_7, .int .i64 a0_8, .int .i64 a0_9, .int .i64 a0_10, .int .i64 a0_11] 23 (0, 0)) (by (with_reducible repeat first | apply Jbn | apply Jbd | apply Jba); exact aa.out) hb); have n2_ := JA (Jbb (g := ae) (o := .cells #[.int .i64 a1_0, .slice A1_1 l1_1.length c1_1, .int .i64 a1_2, .int .i64 a1_3] 26 (0, 0)) (by (with_reducible repeat first | apply Jbn | apply Jbd | apply Jba); exact ab.out) hb); have n3_ := JA (Jst (by repeat (first | (with_reducible first | exact HB.out | apply Jla | apply Jln | apply Jld | refine Jse ?_ aj.out | refine Jse ?_ ak.out) | exact HB.out)) hb); have n4_ := JA (hbox); have n5_ := JA ((by rw [hg]; exact (Jsz (by repeat (first | (with_reducible first | exact HB.out | apply Jla | apply Jln | apply Jld | refine Jse ?_ aj.out | refine Jse ?_ ak.out) | exact HB.out))) : w.heap.size ≤ ag)); have n6_ := JA ((by rw [hg]; exact (Jsz (by repeat (first | (with_reducible first | exact HB.out | apply Jla | apply Jln | apply Jld | refine Jse ?_ aj.out | refine Jse ?_ ak.out) | exact HB.out))) : w.heap.size ≤ ag)); have n7_ := JA ((by rw [hg]; exact Nat.ne_of_lt (blk_lt (g := ac) (o := .cells #[.int .i64 a0_0, .int .i64 a0_1, .int .i64 a0_2, .int .i64 a0_3, .int .i64 a0_4, .int .i64 a0_5, .int .i64 a0_6, .int .i64 a0_7, .int .i64 a0_8, .int .i64 a0_9, .int .i64 a0_10, .int .i64 a0_11] 23 (0, 0)) (by (with_reducible repeat first | apply Jbn | apply Jbd | apply Jba); exact aa.out)) : ac ≠ ag)); have n8_ := JA ((by rw [hg]; exact Nat.ne_of_gt (blk_lt (g := ac) (o := .cells #[.int .i64 a0_0, .int .i64 a0_1, .int .i64 a0_2, .int .i64 a0_3, .int .i64 a0_4, .int .i64 a0_5, .int .i64 a0_6, .int .i64 a0_7, .int .i64 a0_8, .int .i64 a0_9, .int .i64 a0_10, .int .i64 a0_11] 23 (0, 0)) (by (with_reducible repeat first | apply Jbn | apply Jbd | apply Jba); exact aa.out)) : ag ≠ ac)); have n9_ := JA ((by rw [hg]; exact Nat.ne_of_lt (blk_lt (g := ae) (o := .cells #[.int .i64 a1_0, .slice A1_1 l1_1.length c1_1, .int .i64 a1_2, .int .i64 a1_3] 26 (0, 0)) (by (with_reducible repeat first | apply Jbn | apply Jbd | apply Jba); exact ab.out)) : ae ≠ ag)); have bm := JA ((by rw [hg]; exact Nat.ne_of_gt (blk_lt (g := ae) (o := .cells #[.int .i64 a1_0, .slice A1_1 l1_1.length c1_1, .int .i64 a1_2, .int .i64 a1_3] 26 (0, 0)) (by (with_reducible repeat first | apply Jbn | apply Jbd | apply Jba); exact ab.out)) : ag ≠ ae)); clear aB; clear aa; clear ab; clear HB; have aB := n0_; have aa := n1_; have ab := n2_; have HB := n3_; have ad := n4_; have hz := n5_; have aD := n6_; have ay := n7_; have aV := n8_; have az := n9_; have aW := bm; clear n0_ n1_ n2_ n3_ n4_ n5_ n6_ n7_ n8_ n9_ bm; clear hb hbox hg) | ((with_reducible refine gate_dst (N := 10) rfl ?_); (try (refine gate_guard (by rfl) ?_; dsimp only)); refine box_event ?hg (N := 10) ?hd (cs := #[.int .i64 0, .bool false]) (t := 31) ?hr ?_; (case hd => rfl); (case hg => rfl); (case hr => first | (go_simp; done) | (go_simp; rfl)); intro an hg bn hbox hb; have n0_ := JA (Kd.Q_below (by (with_reducible repeat (first | apply Kd.Q_alloc | apply Kd.Q_drewN | apply Kd.Q_drew)); exact aB.out) hb); have n1_ := JA (Jbb (g := ac) (o := .cells #[.int .i64 a0_0, .int .i64 a0_1, .int .i64 a0_2, .int .i64 a0_3, .int .i64 a0_4, .int .i64 a0_5, .int .i64 a0_6, .int .i64 a0_7, .int .i64 a0_8, .int .i64 a0_9, .int .i64 a0_10, .int .i64 a0_11] 23 (0, 0)) (by (with_reducible repeat first | apply Jbn | apply Jbd | apply Jba); exact aa.out) hb); have n2_ := JA (Jbb (g := ae) (o := .cells #[.int .i64 a1_0, .slice A1_1 l1_1.length c1_1, .int .i64 a1_2, .int .i64 a1_3] 26 (0, 0)) (by (with_reducible repeat first | apply Jbn | apply Jbd | apply Jba); exact ab.out) hb); have n3_ := JA (Jbb (g := ag) (o := .cells #[.int .i64 0, .slice none 0 0, .int .i64 0, .int .i64 0] 26 (0, 0)) (by (with_reducible repeat first | apply Jbn | apply Jbd | apply Jba); exact ad.out) hb); have n4_ := JA (Jst (by repeat (first | (with_reducible first | exact HB.out | apply Jla | apply Jln | apply Jld | refine Jse ?_ aj.out | refine Jse ?_ ak.out | refine Jse ?_ aD.out) | exact HB.out)) hb); have n5_ := JA (hbox); have n6_ := JA ((by rw [hg]; exact (Jsz (by repeat (first | (with_reducible first | exact HB.out | apply Jla | apply Jln | apply Jld | refine Jse ?_ aj.out | refine Jse ?_ ak.out | refine Jse ?_ aD.out) | exact HB.out))) : w.heap.size ≤ an)); have n7_ := JA ((by rw [hg]; exact (Jsz (by repeat (first | (with_reducible first | exact HB.out | apply Jla | apply Jln | apply Jld | refine Jse ?_ aj.out | refine Jse ?_ ak.out | refine Jse ?_ aD.out) | exact HB.out))) : w.heap.size ≤ an)); have n8_ := JA ((by rw [hg]; exact Nat.ne_of_lt (blk_lt (g := ac) (o := .cells #[.int .i64 a0_0, .int .i64 a0_1, .int .i64 a0_2, .int .i64 a0_3, .int .i64 a0_4, .int .i64 a0_5, .int .i64 a0_6, .int .i64 a0_7, .int .i64 a0_8, .int .i64 a0_9, .int .i64 a0_10, .int .i64 a0_11] 23 (0, 0)) (by (with_reducible repeat first | apply Jbn | apply Jbd | apply Jba); exact aa.out)) : ac ≠ an)); have n9_ := JA ((by rw [hg]; exact Nat.ne_of_gt (blk_lt (g := ac) (o := .cells #[.int .i64 a0_0, .int .i64 a0_1, .int .i64 a0_2, .int .i64 a0_3, .int .i64 a0_4, .int .i64 a0_5, .int .i64 a0_6, .int .i64 a0_7, .int .i64 a0_8, .int .i64 a0_9, .int .i64 a0_10, .int .i64 a0_11] 23 (0, 0)) (by (with_reducible repeat first | apply Jbn | apply Jbd | apply Jba); exact aa.out)) : an ≠ ac)); have bm := JA ((by rw [hg]; exact Nat.ne_of_lt (blk_lt (g := ae) (o := .cells #[.int .i64 a1_0, .slice A1_1 l1_1.length c1_1, .int .i64 a1_2, .int .i64 a1_3] 26 (0, 0)) (by (with_reducible repeat first | apply Jbn | apply Jbd | apply Jba); exact ab.out)) : ae ≠ an)); have bo := JA ((by rw [hg]; exact Nat.ne_of_gt (blk_lt (g := ae) (o := .cells #[.int .i64 a1_0, .slice A1_1 l1_1.length c1_1, .int .i64 a1_2, .int .i64 a1_3] 26 (0, 0)) (by (with_reducible repeat first | apply Jbn | apply Jbd | apply Jba); exact ab.out)) : an ≠ ae)); have bp := JA ((by rw [hg]; exact Nat.ne_of_lt (blk_lt (g := ag) (o := .cells #[.int .i64 0, .slice none 0 0, .int .i64 0, .int .i64 0] 26 (0, 0)) (by (with_reducible repeat first | apply Jbn | apply Jbd | apply Jba); exact ad.out)) : ag ≠ an)); have bq := JA ((by rw [hg]; exact Nat.ne_of_gt (blk_lt (g := ag) (o := .cells #[.int .i64 0, .slice none 0 0, .int .i64 0, .int .i64 0] 26 (0, 0)) (by (with_reducible repeat first | apply Jbn | apply Jbd | apply Jba); exact ad.out)) : an ≠ ag)); clear aB; clear aa; clear ab; clear ad; clear HB; have aB := n0_; have aa := n1_; have ab := n2_; have ad := n3_; have HB := n4_; have am := n5_; have hA := n6_; have aM := n7_; have be := n8_; have bB := n9_; have bf := bm; have bC := bo; have aL := bp; have aA := bq; clear n0_ n1_ n2_ n3_ n4_ n5_ n6_ n7_ n8_ n9_ bm bo bp bq; clear hb hbox hg; have hB := aV.out; have hC := ay.out; have hD := aW.out; have hE := az.out; have hF := aL.out; have hG := aA.out; have cR : bn.cell? ⟨ag, 0, none⟩ = some (.int .i64 0) := (Jbc ad.out 0).trans rfl; have cS : bn.cell? ⟨ag, 1, none⟩ = some (.slice none 0 0) := (Jbc ad.out 1).trans rfl; have cT : bn.cell? ⟨ag, 2, none⟩ = some (.int .i64 0) := (Jbc ad.out 2).trans rfl; have cU : bn.cell? ⟨ag, 3, none⟩ = some (.int .i64 0) := (Jbc ad.out 3).trans rfl; have cV := blk_frozen ad.out 0; have cW := blk_frozen ad.out 1; have cX := blk_frozen ad.out 2; have cY := blk_frozen ad.out 3; obtain ⟨aP, aQ, g2, _⟩ := Kd.Q_slice aB.out; subst g2; have hH := bB.out; have hI := be.out; have hJ := bC.out; have hK := bf.out; have cZ : bn.cell? ⟨an, 0, none⟩ = some (.int .i64 0) := (Jbc am.out 0).trans rfl; have c0 : bn.cell? ⟨an, 1, none⟩ = some (.bool false) := (Jbc am.out 1).trans rfl; have da := blk_frozen am.out 0; have db := blk_frozen am.out 1; have dc : bn.cell? ⟨ac, 0, none⟩ = some (.int .i64 a0_0) := (Jbc aa.out 0).trans rfl; have dd : bn.cell? ⟨ac, 1, none⟩ = some (.int .i64 a0_1) := (Jbc aa.out 1).trans rfl; have de : bn.cell? ⟨ac, 2, none⟩ = some (.int .i64 a0_2) := (Jbc aa.out 2).trans rfl; have df : bn.cell? ⟨ac, 3, none⟩ = some (.int .i64 a0_3) := (Jbc aa.out 3).trans rfl; have dg : bn.cell? ⟨ac, 4, none⟩ = some (.int .i64 a0_4) := (Jbc aa.out 4).trans rfl; have dh : bn.cell? ⟨ac, 5, none⟩ = some (.int .i64 a0_5) := (Jbc aa.out 5).trans rfl; have di : bn.cell? ⟨ac, 6, none⟩ = some (.int .i64 a0_6) := (Jbc aa.out 6).trans rfl; have dj : bn.cell? ⟨ac, 7, none⟩ = some (.int .i64 a0_7) := (Jbc aa.out 7).trans rfl; have dk : bn.cell? ⟨ac, 8, none⟩ = some (.int .i64 a0_8) := (Jbc aa.out 8).trans rfl; have dl : bn.cell? ⟨ac, 9, none⟩ = some (.int .i64 a0_9) := (Jbc aa.out 9).trans rfl; have cg : bn.cell? ⟨ac, 10, none⟩ = some (.int .i64 a0_10) := (Jbc aa.out 10).trans rfl; have ch : bn.cell? ⟨ac, 11, none⟩ = some (.int .i64 a0_11) := (Jbc aa.out 11).trans rfl; have dm := blk_frozen aa.out 0; have dn := blk_frozen aa.out 1; have dp := blk_frozen aa.out 2; have dq := blk_frozen aa.out 3; have dr := blk_frozen aa.out 4; have ds := blk_frozen aa.out 5; have dt := blk_frozen aa.out 6; have du := blk_frozen aa.out 7; have dv := blk_frozen aa.out 8; have dw := blk_frozen aa.out 9; have ci := blk_frozen aa.out 10; have cj := blk_frozen aa.out 11; have dx : bn.cell? ⟨ae, 0, none⟩ = some (.int .i64 a1_0) := (Jbc ab.out 0).trans rfl; have dy : bn.cell? ⟨ae, 1, none⟩ = some (.slice A1_1 l1_1.length c1_1) := (Jbc ab.out 1).trans rfl; have dz : bn.cell? ⟨ae, 2, none⟩ = some (.int .i64 a1_2) := (Jbc ab.out 2).trans rfl; have dA : bn.cell? ⟨ae, 3, none⟩ = some (.int .i64 a1_3) := (Jbc ab.out 3).trans rfl; have dB := blk_frozen ab.out 0; have dC := blk_frozen ab.out 1; have dD := blk_frozen ab.out 2; have dE := blk_frozen ab.out 3) | (go_at_call 18; (with_reducible refine (plant_Step.calls a0_0 a0_1 a0_2 a0_3 a0_4 a0_5 a0_6 a0_7 a0_8 a0_9 a0_10 a0_11 a1_0 _ _ l1_1 a1_2 a1_3 bG 0 aO aE bd bj bz bH _ ?side1 ?side2 jA.out).mono ?_); (case side1 => exact Kd.C_below bI.out (by repeat (first | (with_reducible first | exact HB.out | apply Jla | apply Jln | apply Jld | refine Jse ?_ aj.out | refine Jse ?_ ak.out | refine Jse ?_ aD.out | refine Jse ?_ aM.out) | exact HB.out))); (case side2 => exact bJ.out); rintro e lh ⟨iz, rfl, d7, hb⟩; have n0_ := JA (Kd.Q_elder' (by (with_reducible repeat (first | apply Kd.Q_alloc | apply Kd.Q_drewN | apply Kd.Q_drew)); exact (Kd.Q_mono (Kd.Q_mono (Kd.Q_far (p := ⟨an, 1, none⟩) (Kd.Q_far (p := ⟨an, 0, none⟩) (Kd.Q_far (p := ⟨ag, 3, none⟩) (Kd.Q_far (p := ⟨ag, 2, none⟩) (Kd.Q_far (p := ⟨ag, 1, none⟩) (Kd.Q_far (p := ⟨ag, 0, none⟩) (Kd.Q_types (Kd.Q_types aB.out ad.out (by decide)) am.out (by decide)) (fun _ hk => hk.1.2) (.int .i64 aC)) (fun _ hk => hk.1.2) (.slice aP aw.length aQ)) (fun _ hk => hk.1.2) (.int .i64 aK)) (fun _ hk => hk.1.2) (.int .i64 aN)) (fun _ hk => hk.2) (.int .i64 bc)) (fun _ hk => hk.2) (.bool bh)) (fun _ h_ => h_.1)) (fun _ h_ => h_.1))) (Kd.Q_base d7) hb); have n1_ := JA (Kd.Q_lower (Kd.Q_new' d7 (Kd.Q_lt (by (with_reducible repeat (first | apply Kd.Q_alloc | apply Kd.Q_drewN | apply Kd.Q_drew)); exact (Kd.Q_mono (Kd.Q_mono (Kd.Q_far (p := ⟨an, 1, none⟩) (Kd.Q_far (p := ⟨an, 0, none⟩) (Kd.Q_far (p := ⟨ag, 3, none⟩) (Kd.Q_far (p := ⟨ag, 2, none⟩) (Kd.Q_far (p := ⟨ag, 1, none⟩) (Kd.Q_far (p := ⟨ag, 0, none⟩) (Kd.Q_types (Kd.Q_types aB.out ad.out (by decide)) am.out (by decide)) (fun _ hk => hk.1.2) (.int .i64 aC)) (fun _ hk => hk.1.2) (.slice aP aw.length aQ)) (fun _ hk => hk.1.2) (.int .i64 aK)) (fun _ hk => hk.1.2) (.int .i64 aN)) (fun _ hk => hk.2) (.int .i64 bc)) (fun _ hk => hk.2) (.bool bh)) (fun _ h_ => h_.1)) (fun _ h_ => h_.1))))) (Jsz (by repeat (first | (with_reducible first | exact HB.out | apply Jla | apply Jln | apply Jld | refine Jse ?_ aj.out | refine Jse ?_ ak.out | refine Jse ?_ aD.out | refine Jse ?_ aM.out) | exact HB.out)))); have n2_ := JA (Jbb (g := ac) (o := .cells #[.int .i64 a0_0, .int .i64 a0_1, .int .i64 a0_2, .int .i64 a0_3, .int .i64 a0_4, .int .i64 a0_5, .int .i64 a0_6, .int .i64 a0_7, .int .i64 a0_8, .int .i64 a0_9, .int .i64 a0_10, .int .i64 a0_11] 23 (0, 0)) (by (with_reducible repeat first | apply Jbn | apply Jbd | apply Jba); refine blk_far ?_ be.out _; (with_reducible repeat first | apply Jbn | apply Jbd | apply Jba); refine blk_far ?_ be.out _; (with_reducible repeat first | apply Jbn | apply Jbd | apply Jba); refine blk_far ?_ ay.out _; (with_reducible repeat first | apply Jbn | apply Jbd | apply Jba); refine blk_far ?_ ay.out _; (with_reducible repeat first | apply Jbn | apply Jbd | apply Jba); refine blk_far ?_ ay.out _; (with_reducible repeat first | apply Jbn | apply Jbd | apply Jba); refine blk_far ?_ ay.out _; (with_reducible repeat first | apply Jbn | apply Jbd | apply Jba); exact aa.out) hb); have n3_ := JA (Jbb (g := ae) (o := .cells #[.int .i64 a1_0, .slice A1_1 l1_1.length c1_1, .int .i64 a1_2, .int .i64 a1_3] 26 (0, 0)) (by (with_reducible repeat first | apply Jbn | apply Jbd | apply Jba); refine blk_far ?_ bf.out _; (with_reducible repeat first | apply Jbn | apply Jbd | apply Jba); refine blk_far ?_ bf.out _; (with_reducible repeat first | apply Jbn | apply Jbd | apply Jba); refine blk_far ?_ az.out _; (with_reducible repeat first | apply Jbn | apply Jbd | apply Jba); refine blk_far ?_ az.out _; (with_reducible repeat first | apply Jbn | apply Jbd | apply Jba); refine blk_far ?_ az.out _; (with_reducible repeat first | apply Jbn | apply Jbd | apply Jba); refine blk_far ?_ az.out _; (with_reducible repeat first | apply Jbn | apply Jbd | apply Jba); exact ab.out) hb); have n4_ := JA (Jbb (g := ag) (o := .cells #[.int .i64 aC, .slice aP aw.length aQ, .int .i64 aK, .int .i64 aN] 26 (0, 0)) (by (with_reducible repeat first | apply Jbn | apply Jbd | apply Jba); refine blk_far ?_ aL.out _; (with_reducible repeat first | apply Jbn | apply Jbd | apply Jba); refine blk_far ?_ aL.out _; (with_reducible repeat first | apply Jbn | apply Jbd | apply Jba); refine blk_put (cs := #[.int .i64 aC, .slice aP aw.length aQ, .int .i64 aK, .int .i64 0]) ?_ 3 _ rfl; (with_reducible repeat first | apply Jbn | apply Jbd | apply Jba); refine blk_put (cs := #[.int .i64 aC, .slice aP aw.length aQ, .int .i64 0, .int .i64 0]) ?_ 2 _ rfl; (with_reducible repeat first | apply Jbn | apply Jbd | apply Jba); refine blk_put (cs := #[.int .i64 aC, .slice none 0 0, .int .i64 0, .int .i64 0]) ?_ 1 _ rfl; (with_reducible repeat first | apply Jbn | apply Jbd | apply Jba); refine blk_put (cs := #[.int .i64 0, .slice none 0 0, .int .i64 0, .int .i64 0]) ?_ 0 _ rfl; (with_reducible repeat first | apply Jbn | apply Jbd | apply Jba); exact ad.out) hb); have n5_ := JA (Jbb (g := an) (o := .cells #[.int .i64 bc, .bool bh] 31 (0, 0)) (by (with_reducible repeat first | apply Jbn | apply Jbd | apply Jba); refine blk_put (cs := #[.int .i64 bc, .bool false]) ?_ 1 _ rfl; (with_reducible repeat first | apply Jbn | apply Jbd | apply Jba); refine blk_put (cs := #[.int .i64 0, .bool false]) ?_ 0 _ rfl; (with_reducible repeat first | apply Jbn | apply Jbd | apply Jba); refine blk_far ?_ aA.out _; (with_reducible repeat first | apply Jbn | apply Jbd | apply Jba); refine blk_far ?_ aA.out _; (with_reducible repeat first | apply Jbn | apply Jbd | apply Jba); refine blk_far ?_ aA.out _; (with_reducible repeat first | apply Jbn | apply Jbd | apply Jba); refine blk_far ?_ aA.out _; (with_reducible repeat first | apply Jbn | apply Jbd | apply Jba); exact am.out) hb); have n6_ := JA (Jst (by repeat (first | (with_reducible first | exact HB.out | apply Jla | apply Jln | apply Jld | refine Jse ?_ aj.out | refine Jse ?_ ak.out | refine Jse ?_ aD.out | refine Jse ?_ aM.out) | exact HB.out)) hb); clear aB; clear aa; clear ab; clear ad; clear am; clear HB; have aB := n0_; have bg := n1_; have aa := n2_; have ab := n3_; have ad := n4_; have am := n5_; have HB := n6_; clear n0_ n1_ n2_ n3_ n4_ n5_ n6_; (try clear hb); (try clear bV); (try clear hk); (try clear hi); (try clear d7)) | ((with_reducible refine gate_dst (N := 12) rfl ?_); (try (refine gate_guard (by rfl) ?_; dsimp only)); refine box_event ?hg (N := 12) ?hd (cs := #[.int .i64 0, .slice none 0 0, .int .i64 0, .int .i64 0]) (t := 26) ?hr ?_; (case hd => rfl); (case hg => rfl); (case hr => first | (go_simp; done) | (go_simp; rfl)); intro ah hg li hbox hb; have n0_ := JA (Kd.Q_below (by (with_reducible repeat (first | apply Kd.Q_alloc | apply Kd.Q_drewN | apply Kd.Q_drew)); exact aB.out) hb); have n1_ := JA (Kd.Q_below (by (with_reducible repeat (first | apply Kd.Q_alloc | apply Kd.Q_drewN | apply Kd.Q_drew)); exact bg.out) hb); have n2_ := JA (Jbb (g := ac) (o := .cells #[.int .i64 a0_0, .int .i64 a0_1, .int .i64 a0_2, .int .i64 a0_3, .int .i64 a0_4, .int .i64 a0_5, .int .i64 a0_6, .int .i64 a0_7, .int .i64 a0_8, .int .i64 a0_9, .int .i64 a0_10, .int .i64 a0_11] 23 (0, 0)) (by (with_reducible repeat first | apply Jbn | apply Jbd | apply Jba); exact aa.out) hb); have n3_ := JA (Jbb (g := ae) (o := .cells #[.int .i64 a1_0, .slice A1_1 l1_1.length c1_1, .int .i64 a1_2, .int .i64 a1_3] 26 (0, 0)) (by (with_reducible repeat first | apply Jbn | apply Jbd | apply Jba); exact ab.out) hb); have n4_ := JA (Jbb (g := ag) (o := .cells #[.int .i64 aC, .slice aP aw.length aQ, .int .i64 aK, .int .i64 aN] 26 (0, 0)) (by (with_reducible repeat first | apply Jbn | apply Jbd | apply Jba); exact ad.out) hb); have n5_ := JA (Jbb (g := an) (o := .cells #[.int .i64 bc, .bool bh] 31 (0, 0)) (by (with_reducible repeat first | apply Jbn | apply Jbd | apply Jba); exact am.out) hb); have n6_ := JA (Jst (by repeat (first | (with_reducible first | exact HB.out | apply Jla | apply Jln | apply Jld | refine Jse ?_ aj.out | refine Jse ?_ ak.out | refine Jse ?_ aD.out | refine Jse ?_ aM.out) | exact HB.out)) hb); have n7_ := JA (hbox); have n8_ := JA ((by rw [hg]; exact (Jsz (by repeat (first | (with_reducible first | exact HB.out | apply Jla | apply Jln | apply Jld | refine Jse ?_ aj.out | refine Jse ?_ ak.out | refine Jse ?_ aD.out | refine Jse ?_ aM.out) | exact HB.out))) : w.heap.size ≤ ah)); have n9_ := JA ((by rw [hg]; exact (Jsz (by repeat (first | (with_reducible first | exact HB.out | apply Jla | apply Jln | apply Jld | refine Jse ?_ aj.out | refine Jse ?_ ak.out | refine Jse ?_ aD.out | refine Jse ?_ aM.out) | exact HB.out))) : w.heap.size ≤ ah)); have bm := JA ((by rw [hg]; exact Nat.ne_of_lt (blk_lt (g := ac) (o := .cells #[.int .i64 a0_0, .int .i64 a0_1, .int .i64 a0_2, .int .i64 a0_3, .int .i64 a0_4, .int .i64 a0_5, .int .i64 a0_6, .int .i64 a0_7, .int .i64 a0_8, .int .i64 a0_9, .int .i64 a0_10, .int .i64 a0_11] 23 (0, 0)) (by (with_reducible repeat first | apply Jbn | apply Jbd | apply Jba); exact aa.out)) : ac ≠ ah)); have bo := JA ((by rw [hg]; exact Nat.ne_of_gt (blk_lt (g := ac) (o := .cells #[.int .i64 a0_0, .int .i64 a0_1, .int .i64 a0_2, .int .i64 a0_3, .int .i64 a0_4, .int .i64 a0_5, .int .i64 a0_6, .int .i64 a0_7, .int .i64 a0_8, .int .i64 a0_9, .int .i64 a0_10, .int .i64 a0_11] 23 (0, 0)) (by (with_reducible repeat first | apply Jbn | apply Jbd | apply Jba); exact aa.out)) : ah ≠ ac)); have bp := JA ((by rw [hg]; exact Nat.ne_of_lt (blk_lt (g := ae) (o := .cells #[.int .i64 a1_0, .slice A1_1 l1_1.length c1_1, .int .i64 a1_2, .int .i64 a1_3] 26 (0, 0)) (by (with_reducible repeat first | apply Jbn | apply Jbd | apply Jba); exact ab.out)) : ae ≠ ah)); have bq := JA ((by rw [hg]; exact Nat.ne_of_gt (blk_lt (g := ae) (o := .cells #[.int .i64 a1_0, .slice A1_1 l1_1.length c1_1, .int .i64 a1_2, .int .i64 a1_3] 26 (0, 0)) (by (with_reducible repeat first | apply Jbn | apply Jbd | apply Jba); exact ab.out)) : ah ≠ ae)); have bK := JA ((by rw [hg]; exact Nat.ne_of_lt (blk_lt (g := ag) (o := .cells #[.int .i64 aC, .slice aP aw.length aQ, .int .i64 aK, .int .i64 aN] 26 (0, 0)) (by (with_reducible repeat first | apply Jbn | apply Jbd | apply Jba); exact ad.out)) : ag ≠ ah)); have bL := JA ((by rw [hg]; exact Nat.ne_of_gt (blk_lt (g := ag) (o := .cells #[.int .i64 aC, .slice aP aw.length aQ, .int .i64 aK, .int .i64 aN] 26 (0, 0)) (by (with_reducible repeat first | apply Jbn | apply Jbd | apply Jba); exact ad.out)) : ah ≠ ag)); have bM := JA ((by rw [hg]; exact Nat.ne_of_lt (blk_lt (g := an) (o := .cells #[.int .i64 bc, .bool bh] 31 (0, 0)) (by (with_reducible repeat first | apply Jbn | apply Jbd | apply Jba); exact am.out)) : an ≠ ah)); have bN := JA ((by rw [hg]; exact Nat.ne_of_gt (blk_lt (g := an) (o := .cells #[.int .i64 bc, .bool bh] 31 (0, 0)) (by (with_reducible repeat first | apply Jbn | apply Jbd | apply Jba); exact am.out)) : ah ≠ an)); clear aB; clear bg; clear aa; clear ab; clear ad; clear am; clear HB; have aB := n0_; have bg := n1_; have aa := n2_; have ab := n3_; have ad := n4_; have am := n5_; have HB := n6_; have af := n7_; have hL := n8_; have bi := n9_; have ap := bm; have aX := bo; have aq := bp; have aY := bq; have ar := bK; have aZ := bL; have au := bM; have ba := bN; clear n0_ n1_ n2_ n3_ n4_ n5_ n6_ n7_ n8_ n9_ bm bo bp bq bK bL bM bN; clear hb hbox hg) | ((with_reducible refine gate_dst (N := 13) rfl ?_); (try (refine gate_guard (by rfl) ?_; dsimp only)); refine box_event ?hg (N := 13) ?hd (cs := #[.int .i64 0, .bool false]) (t := 31) ?hr ?_; (case hd => rfl); (case hg => rfl); (case hr => first | (go_simp; done) | (go_simp; rfl)); intro ao hg br hbox hb; have n0_ := JA (Kd.Q_below (by (with_reducible repeat (first | apply Kd.Q_alloc | apply Kd.Q_drewN | apply Kd.Q_drew)); exact aB.out) hb); have n1_ := JA (Kd.Q_below (by (with_reducible repeat (first | apply Kd.Q_alloc | apply Kd.Q_drewN | apply Kd.Q_drew)); exact bg.out) hb); have n2_ := JA (Jbb (g := ac) (o := .cells #[.int .i64 a0_0, .int .i64 a0_1, .int .i64 a0_2, .int .i64 a0_3, .int .i64 a0_4, .int .i64 a0_5, .int .i64 a0_6, .int .i64 a0_7, .int .i64 a0_8, .int .i64 a0_9, .int .i64 a0_10, .int .i64 a0_11] 23 (0, 0)) (by (with_reducible repeat first | apply Jbn | apply Jbd | apply Jba); exact aa.out) hb); have n3_ := JA (Jbb (g := ae) (o := .cells #[.int .i64 a1_0, .slice A1_1 l1_1.length c1_1, .int .i64 a1_2, .int .i64 a1_3] 26 (0, 0)) (by (with_reducible repeat first | apply Jbn | apply Jbd | apply Jba); exact ab.out) hb); have n4_ := JA (Jbb (g := ag) (o := .cells #[.int .i64 aC, .slice aP aw.length aQ, .int .i64 aK, .int .i64 aN] 26 (0, 0)) (by (with_reducible repeat first | apply Jbn | apply Jbd | apply Jba); exact ad.out) hb); have n5_ := JA (Jbb (g := an) (o := .cells #[.int .i64 bc, .bool bh] 31 (0, 0)) (by (with_reducible repeat first | apply Jbn | apply Jbd | apply Jba); exact am.out) hb); have n6_ := JA (Jbb (g := ah) (o := .cells #[.int .i64 0, .slice none 0 0, .int .i64 0, .int .i64 0] 26 (0, 0)) (by (with_reducible repeat first | apply Jbn | apply Jbd | apply Jba); exact af.out) hb); have n7_ := JA (Jst (by repeat (first | (with_reducible first | exact HB.out | apply Jla | apply Jln | apply Jld | refine Jse ?_ aj.out | refine Jse ?_ ak.out | refine Jse ?_ aD.out | refine Jse ?_ aM.out | refine Jse ?_ bi.out) | exact HB.out)) hb); have n8_ := JA (hbox); have n9_ := JA ((by rw [hg]; exact (Jsz (by repeat (first | (with_reducible first | exact HB.out | apply Jla | apply Jln | apply Jld | refine Jse ?_ aj.out | refine Jse ?_ ak.out | refine Jse ?_ aD.out | refine Jse ?_ aM.out | refine Jse ?_ bi.out) | exact HB.out))) : w.heap.size ≤ ao)); have bm := JA ((by rw [hg]; exact (Jsz (by repeat (first | (with_reducible first | exact HB.out | apply Jla | apply Jln | apply Jld | refine Jse ?_ aj.out | refine Jse ?_ ak.out | refine Jse ?_ aD.out | refine Jse ?_ aM.out | refine Jse ?_ bi.out) | exact HB.out))) : w.heap.size ≤ ao)); have bo := JA ((by rw [hg]; exact Nat.ne_of_lt (blk_lt (g := ac) (o := .cells #[.int .i64 a0_0, .int .i64 a0_1, .int .i64 a0_2, .int .i64 a0_3, .int .i64 a0_4, .int .i64 a0_5, .int .i64 a0_6, .int .i64 a0_7, .int .i64 a0_8, .int .i64 a0_9, .int .i64 a0_10, .int .i64 a0_11] 23 (0, 0)) (by (with_reducible repeat first | apply Jbn | apply Jbd | apply Jba); exact aa.out)) : ac ≠ ao)); have bp := JA ((by rw [hg]; exact Nat.ne_of_gt (blk_lt (g := ac) (o := .cells #[.int .i64 a0_0, .int .i64 a0_1, .int .i64 a0_2, .int .i64 a0_3, .int .i64 a0_4, .int .i64 a0_5, .int .i64 a0_6, .int .i64 a0_7, .int .i64 a0_8, .int .i64 a0_9, .int .i64 a0_10, .int .i64 a0_11] 23 (0, 0)) (by (with_reducible repeat first | apply Jbn | apply Jbd | apply Jba); exact aa.out)) : ao ≠ ac)); have bq := JA ((by rw [hg]; exact Nat.ne_of_lt (blk_lt (g := ae) (o := .cells #[.int .i64 a1_0, .slice A1_1 l1_1.length c1_1, .int .i64 a1_2, .int .i64 a1_3] 26 (0, 0)) (by (with_reducible repeat first | apply Jbn | apply Jbd | apply Jba); exact ab.out)) : ae ≠ ao)); have bK := JA ((by rw [hg]; exact Nat.ne_of_gt (blk_lt (g := ae) (o := .cells #[.int .i64 a1_0, .slice A1_1 l1_1.length c1_1, .int .i64 a1_2, .int .i64 a1_3] 26 (0, 0)) (by (with_reducible repeat first | apply Jbn | apply Jbd | apply Jba); exact ab.out)) : ao ≠ ae)); have bL := JA ((by rw [hg]; exact Nat.ne_of_lt (blk_lt (g := ag) (o := .cells #[.int .i64 aC, .slice aP aw.length aQ, .int .i64 aK, .int .i64 aN] 26 (0, 0)) (by (with_reducible repeat first | apply Jbn | apply Jbd | apply Jba); exact ad.out)) : ag ≠ ao)); have bM := JA ((by rw [hg]; exact Nat.ne_of_gt (blk_lt (g := ag) (o := .cells #[.int .i64 aC, .slice aP aw.length aQ, .int .i64 aK, .int .i64 aN] 26 (0, 0)) (by (with_reducible repeat first | apply Jbn | apply Jbd | apply Jba); exact ad.out)) : ao ≠ ag)); have bN := JA ((by rw [hg]; exact Nat.ne_of_lt (blk_lt (g := an) (o := .cells #[.int .i64 bc, .bool bh] 31 (0, 0)) (by (with_reducible repeat first | apply Jbn | apply Jbd | apply Jba); exact am.out)) : an ≠ ao)); have fc := JA ((by rw [hg]; exact Nat.ne_of_gt (blk_lt (g := an) (o := .cells #[.int .i64 bc, .bool bh] 31 (0, 0)) (by (with_reducible repeat first | apply Jbn | apply Jbd | apply Jba); exact am.out)) : ao ≠ an)); have fd := JA ((by rw [hg]; exact Nat.ne_of_lt (blk_lt (g := ah) (o := .cells #[.int .i64 0, .slice none 0 0, .int .i64 0, .int .i64 0] 26 (0, 0)) (by (with_reducible repeat first | apply Jbn | apply Jbd | apply Jba); exact af.out)) : ah ≠ ao)); have fe := JA ((by rw [hg]; exact Nat.ne_of_gt (blk_lt (g := ah) (o := .cells #[.int .i64 0, .slice none 0 0, .int .i64 0, .int .i64 0] 26 (0, 0)) (by (with_reducible repeat first | apply Jbn | apply Jbd | apply Jba); exact af.out)) : ao ≠ ah)); clear aB; clear bg; clear aa; clear ab; clear ad; clear am; clear af; clear HB; have aB := n0_; have bg := n1_; have aa := n2_; have ab := n3_; have ad := n4_; have am := n5_; have af := n6_; have HB := n7_; have aG := n8_; have hM := n9_; have bu := bm; have aR := bo; have bD := bp; have aS := bq; have bE := bK; have aH := bL; have bb := bM; have aT := bN; have bF := fc; have aI := fd; have av := fe; clear n0_ n1_ n2_ n3_ n4_ n5_ n6_ n7_ n8_ n9_ bm bo bp bq bK bL bM bN fc fd fe; clear hb hbox hg; have hN := aX.out; have hO := ap.out; have hP := aY.out; have hQ := aq.out; have hR := aZ.out; have hS := ar.out; have hT := ba.out; have hU := au.out; have hV := aI.out; have hW := av.out; have dF : br.cell? ⟨ah, 0, none⟩ = some (.int .i64 0) := (Jbc af.out 0).trans rfl; have dG : br.cell? ⟨ah, 1, none⟩ = some (.slice none 0 0) := (Jbc af.out 1).trans rfl; have dH : br.cell? ⟨ah, 2, none⟩ = some (.int .i64 0) := (Jbc af.out 2).trans rfl; have dI : br.cell? ⟨ah, 3, none⟩ = some (.int .i64 0) := (Jbc af.out 3).trans rfl; have dJ := blk_frozen af.out 0; have dK := blk_frozen af.out 1; have dL := blk_frozen af.out 2; have dM := blk_frozen af.out 3; obtain ⟨bk, bl, g3, _⟩ := Kd.Q_slice bg.out; subst g3; have hX := bD.out; have hY := aR.out; have hZ := bE.out; have h0 := aS.out; have h1 := bb.out; have h2 := aH.out; have h3 := bF.out; have h4 := aT.out; have dN : br.cell? ⟨ao, 0, none⟩ = some (.int .i64 0) := (Jbc aG.out 0).trans rfl; have dO : br.cell? ⟨ao, 1, none⟩ = some (.bool false) := (Jbc aG.out 1).trans rfl; have dP := blk_frozen aG.out 0; have dQ := blk_frozen aG.out 1)))
    (try simp only [Act.put, Js1, Js2, Js3])
    go_cut [78] (fun mg wc => ∃ (kq : Nat) (fa : Bool), mg = .bool fa ∧ Aside0 (governorlaw16_PlantLess.j1 kq aU aJ bG fa aC aw aK aN aO aE bd bj = some r) ∧ Aside0 (kq ≤ cn) ∧ Aside0 (Kd.Q (Kd.int .i64) 3 wc w.heap.size (fun k_ => some k_ ≠ ((.slice bk aE.length bl) : Value).ownBlock) (.slice aP aw.length aQ) aw) ∧ Aside0 (Kd.Q (Kd.int .i64) 3 wc w.heap.size (fun k_ => some k_ ≠ ((.slice aP aw.length aQ) : Value).ownBlock) (.slice bk aE.length bl) aE) ∧ Aside0 (wc.heap[ac]? = some (.cells #[.int .i64 a0_0, .int .i64 a0_1, .int .i64 a0_2, .int .i64 a0_3, .int .i64 a0_4, .int .i64 a0_5, .int .i64 a0_6, .int .i64 a0_7, .int .i64 a0_8, .int .i64 a0_9, .int .i64 a0_10, .int .i64 a0_11] 23 (0, 0))) ∧ Aside0 (wc.heap[ae]? = some (.cells #[.int .i64 a1_0, (.slice A1_1 l1_1.length c1_1), .int .i64 a1_2, .int .i64 a1_3] 26 (0, 0))) ∧ Aside0 (wc.heap[ag]? = some (.cells #[.int .i64 aC, (.slice aP aw.length aQ), .int .i64 aK, .int .i64 aN] 26 (0, 0))) ∧ Aside0 (wc.heap[an]? = some (.cells #[.int .i64 bc, .bool bh] 31 (0, 0))) ∧ Aside0 (wc.heap[ah]? = some (.cells #[.int .i64 aO, (.slice bk aE.length bl), .int .i64 bd, .int .i64 bj] 26 (0, 0))) ∧ Aside0 (wc.heap[ao]? = some (.cells #[.int .i64 bz, .bool bH] 31 (0, 0))) ∧ Aside0 (Below w.heap.size w wc))
    case first =>
     have H := ib.out
     clear ib
     by_cases h5 : aO > aC
     ·rw [if_pos h5] at H
      have d3 : decide (aC < aO) = true := decide_eq_true h5
      clear h5
      (first | rw [d3] | rw [g4] | (simp only [i64_w, i32_w]; rw [d3]) | skip)
      have H' := JA H
      clear H
      have lj := aX.out
      have lk := ap.out
      have ll := aY.out
      have lm := aq.out
      have ln := aZ.out
      have lo := ar.out
      have lp := ba.out
      have lq := au.out
      have lr := aI.out
      have ls := av.out
      have f9 : br.cell? ⟨ah, 0, none⟩ = some (.int .i64 0) := (Jbc af.out 0).trans rfl
      have ga : br.cell? ⟨ah, 1, none⟩ = some (.slice none 0 0) := (Jbc af.out 1).trans rfl
      have gb : br.cell? ⟨ah, 2, none⟩ = some (.int .i64 0) := (Jbc af.out 2).trans rfl
      have gc : br.cell? ⟨ah, 3, none⟩ = some (.int .i64 0) := (Jbc af.out 3).trans rfl
      have gd := blk_frozen af.out 0
      have ge := blk_frozen af.out 1
      have gf := blk_frozen af.out 2
      have gg := blk_frozen af.out 3
      have lt := aV.out
      have lu := ay.out
      have lv := aW.out
      have lw := az.out
      have lx := aL.out
      have ly := aA.out
      have lz := aH.out
      have lA := bb.out
      have gh : br.cell? ⟨ag, 0, none⟩ = some (.int .i64 aC) := (Jbc ad.out 0).trans rfl
      have gi : br.cell? ⟨ag, 1, none⟩ = some (.slice aP aw.length aQ) := (Jbc ad.out 1).trans rfl
      have gj : br.cell? ⟨ag, 2, none⟩ = some (.int .i64 aK) := (Jbc ad.out 2).trans rfl
      have gl : br.cell? ⟨ag, 3, none⟩ = some (.int .i64 aN) := (Jbc ad.out 3).trans rfl
      have gm := blk_frozen ad.out 0
      have gn := blk_frozen ad.out 1
      have go := blk_frozen ad.out 2
      have gp := blk_frozen ad.out 3
      go_wp2
      repeat (go_quiet (fail); try go_wp2)
      go_meet
      case rel => exact ⟨_, (true), (by first | rfl | (simp; done) | (simp [*]; done)), H', ⟨by have := hy.out; first | omega | exact Nat.le_refl _⟩, ⟨by (with_reducible repeat (first | apply Kd.Q_alloc | apply Kd.Q_drewN | apply Kd.Q_drew)); exact Kd.Q_mono (Kd.Q_far (p := ⟨ao, 1, none⟩) (Kd.Q_far (p := ⟨ao, 0, none⟩) (Kd.Q_far (p := ⟨ah, 3, none⟩) (Kd.Q_far (p := ⟨ah, 2, none⟩) (Kd.Q_far (p := ⟨ah, 1, none⟩) (Kd.Q_far (p := ⟨ah, 0, none⟩) (Kd.Q_types (Kd.Q_types aB.out af.out (by decide)) aG.out (by decide)) (fun _ hk => hk.1.2) (.int .i64 aO)) (fun _ hk => hk.1.2) (.slice bk aE.length bl)) (fun _ hk => hk.1.2) (.int .i64 bd)) (fun _ hk => hk.1.2) (.int .i64 bj)) (fun _ hk => hk.2) (.int .i64 bz)) (fun _ hk => hk.2) (.bool bH)) (fun _ hk => hk.1.1.2)⟩, ⟨by (with_reducible repeat (first | apply Kd.Q_alloc | apply Kd.Q_drewN | apply Kd.Q_drew)); exact Kd.Q_mono (Kd.Q_far (p := ⟨ao, 1, none⟩) (Kd.Q_far (p := ⟨ao, 0, none⟩) (Kd.Q_far (p := ⟨ah, 3, none⟩) (Kd.Q_far (p := ⟨ah, 2, none⟩) (Kd.Q_far (p := ⟨ah, 1, none⟩) (Kd.Q_far (p := ⟨ah, 0, none⟩) (Kd.Q_types (Kd.Q_types bg.out af.out (by decide)) aG.out (by decide)) (fun _ hk => hk.1.2) (.int .i64 aO)) (fun _ hk => hk.1.2) (.slice bk aE.length bl)) (fun _ hk => hk.1.2) (.int .i64 bd)) (fun _ hk => hk.1.2) (.int .i64 bj)) (fun _ hk => hk.2) (.int .i64 bz)) (fun _ hk => hk.2) (.bool bH)) (fun _ hk => hk.1.1.2)⟩, ⟨by (with_reducible repeat first | apply Jbn | apply Jbd | apply Jba); refine blk_far ?_ aR.out _; (with_reducible repeat first | apply Jbn | apply Jbd | apply Jba); refine blk_far ?_ aR.out _; (with_reducible repeat first | apply Jbn | apply Jbd | apply Jba); refine blk_far ?_ ap.out _; (with_reducible repeat first | apply Jbn | apply Jbd | apply Jba); refine blk_far ?_ ap.out _; (with_reducible repeat first | apply Jbn | apply Jbd | apply Jba); refine blk_far ?_ ap.out _; (with_reducible repeat first | apply Jbn | apply Jbd | apply Jba); refine blk_far ?_ ap.out _; (with_reducible repeat first | apply Jbn | apply Jbd | apply Jba); exact aa.out⟩, ⟨by (with_reducible repeat first | apply Jbn | apply Jbd | apply Jba); refine blk_far ?_ aS.out _; (with_reducible repeat first | apply Jbn | apply Jbd | apply Jba); refine blk_far ?_ aS.out _; (with_reducible repeat first | apply Jbn | apply Jbd | apply Jba); refine blk_far ?_ aq.out _; (with_reducible repeat first | apply Jbn | apply Jbd | apply Jba); refine blk_far ?_ aq.out _; (with_reducible repeat first | apply Jbn | apply Jbd | apply Jba); refine blk_far ?_ aq.out _; (with_reducible repeat first | apply Jbn | apply Jbd | apply Jba); refine blk_far ?_ aq.out _; (with_reducible repeat first | apply Jbn | apply Jbd | apply Jba); exact ab.out⟩, ⟨by (with_reducible repeat first | apply Jbn | apply Jbd | apply Jba); refine blk_far ?_ aH.out _; (with_reducible repeat first | apply Jbn | apply Jbd | apply Jba); refine blk_far ?_ aH.out _; (with_reducible repeat first | apply Jbn | apply Jbd | apply Jba); refine blk_far ?_ ar.out _; (with_reducible repeat first | apply Jbn | apply Jbd | apply Jba); refine blk_far ?_ ar.out _; (with_reducible repeat first | apply Jbn | apply Jbd | apply Jba); refine blk_far ?_ ar.out _; (with_reducible repeat first | apply Jbn | apply Jbd | apply Jba); refine blk_far ?_ ar.out _; (with_reducible repeat first | apply Jbn | apply Jbd | apply Jba); exact ad.out⟩, ⟨by (with_reducible repeat first | apply Jbn | apply Jbd | apply Jba); refine blk_far ?_ aT.out _; (with_reducible repeat first | apply Jbn | apply Jbd | apply Jba); refine blk_far ?_ aT.out _; (with_reducible repeat first | apply Jbn | apply Jbd | apply Jba); refine blk_far ?_ au.out _; (with_reducible repeat first | apply Jbn | apply Jbd | apply Jba); refine blk_far ?_ au.out _; (with_reducible repeat first | apply Jbn | apply Jbd | apply Jba); refine blk_far ?_ au.out _; (with_reducible repeat first | apply Jbn | apply Jbd | apply Jba); refine blk_far ?_ au.out _; (with_reducible repeat first | apply Jbn | apply Jbd | apply Jba); exact am.out⟩, ⟨by (with_reducible repeat first | apply Jbn | apply Jbd | apply Jba); refine blk_far ?_ aI.out _; (with_reducible repeat first | apply Jbn | apply Jbd | apply Jba); refine blk_far ?_ aI.out _; (with_reducible repeat first | apply Jbn | apply Jbd | apply Jba); refine blk_put (cs := #[.int .i64 aO, .slice bk aE.length bl, .int .i64 bd, .int .i64 0]) ?_ 3 _ rfl; (with_reducible repeat first | apply Jbn | apply Jbd | apply Jba); refine blk_put (cs := #[.int .i64 aO, .slice bk aE.length bl, .int .i64 0, .int .i64 0]) ?_ 2 _ rfl; (with_reducible repeat first | apply Jbn | apply Jbd | apply Jba); refine blk_put (cs := #[.int .i64 aO, .slice none 0 0, .int .i64 0, .int .i64 0]) ?_ 1 _ rfl; (with_reducible repeat first | apply Jbn | apply Jbd | apply Jba); refine blk_put (cs := #[.int .i64 0, .slice none 0 0, .int .i64 0, .int .i64 0]) ?_ 0 _ rfl; (with_reducible repeat first | apply Jbn | apply Jbd | apply Jba); exact af.out⟩, ⟨by (with_reducible repeat first | apply Jbn | apply Jbd | apply Jba); refine blk_put (cs := #[.int .i64 bz, .bool false]) ?_ 1 _ rfl; (with_reducible repeat first | apply Jbn | apply Jbd | apply Jba); refine blk_put (cs := #[.int .i64 0, .bool false]) ?_ 0 _ rfl; (with_reducible repeat first | apply Jbn | apply Jbd | apply Jba); refine blk_far ?_ av.out _; (with_reducible repeat first | apply Jbn | apply Jbd | apply Jba); refine blk_far ?_ av.out _; (with_reducible repeat first | apply Jbn | apply Jbd | apply Jba); refine blk_far ?_ av.out _; (with_reducible repeat first | apply Jbn | apply Jbd | apply Jba); refine blk_far ?_ av.out _; (with_reducible repeat first | apply Jbn | apply Jbd | apply Jba); exact aG.out⟩, ⟨by repeat (first | (with_reducible first | exact HB.out | apply Jla | apply Jln | apply Jld | refine Jse ?_ aj.out | refine Jse ?_ ak.out | refine Jse ?_ aD.out | refine Jse ?_ aM.out | refine Jse ?_ bi.out | refine Jse ?_ bu.out) | exact HB.out)⟩⟩
     ·rw [if_neg h5] at H
      have d3 : decide (aC < aO) = false := decide_eq_false h5
      clear h5
      (first | rw [d3] | rw [g4] | (simp only [i64_w, i32_w]; rw [d3]) | skip)
      by_cases h6 : aO < aC
      ·rw [if_pos h6] at H
       have g5 : decide (aO < aC) = true := decide_eq_true h6
       clear h6
       by_cases h7 : (aE.length : Int) > 0
       ·rw [if_pos h7] at H
        have g6 : decide (0 < (aE.length : Int)) = true := decide_eq_true h7
        have g7 : decide (0 < aE.length) = true := decide_eq_true (by omega)
        clear h7
        have H' := JA H
        clear H
        have lB := aX.out
        have lC := ap.out
        have lD := aY.out
        have lE := aq.out
        have lF := aZ.out
        have lG := ar.out
        have lH := ba.out
        have lI := au.out
        have lJ := aI.out
        have lK := av.out
        have gq : br.cell? ⟨ah, 0, none⟩ = some (.int .i64 0) := (Jbc af.out 0).trans rfl
        have gr : br.cell? ⟨ah, 1, none⟩ = some (.slice none 0 0) := (Jbc af.out 1).trans rfl
        have gs : br.cell? ⟨ah, 2, none⟩ = some (.int .i64 0) := (Jbc af.out 2).trans rfl
        have gt : br.cell? ⟨ah, 3, none⟩ = some (.int .i64 0) := (Jbc af.out 3).trans rfl
        have gu := blk_frozen af.out 0
        have gv := blk_frozen af.out 1
        have gw := blk_frozen af.out 2
        have gx := blk_frozen af.out 3
        have lL := aV.out
        have lM := ay.out
        have lN := aW.out
        have lO := az.out
        have lP := aL.out
        have lQ := aA.out
        have lR := aH.out
        have lS := bb.out
        have gy : br.cell? ⟨ag, 0, none⟩ = some (.int .i64 aC) := (Jbc ad.out 0).trans rfl
        have gz : br.cell? ⟨ag, 1, none⟩ = some (.slice aP aw.length aQ) := (Jbc ad.out 1).trans rfl
        have gA : br.cell? ⟨ag, 2, none⟩ = some (.int .i64 aK) := (Jbc ad.out 2).trans rfl
        have gB : br.cell? ⟨ag, 3, none⟩ = some (.int .i64 aN) := (Jbc ad.out 3).trans rfl
        have gC := blk_frozen ad.out 0
        have gD := blk_frozen ad.out 1
        have gE := blk_frozen ad.out 2
        have gF := blk_frozen ad.out 3
        go_wp2
        repeat (go_quiet (fail); try go_wp2)
        go_meet
        case rel => exact ⟨_, (true), (by first | rfl | (simp; done) | (simp [*]; done)), H', ⟨by have := hy.out; first | omega | exact Nat.le_refl _⟩, ⟨by (with_reducible repeat (first | apply Kd.Q_alloc | apply Kd.Q_drewN | apply Kd.Q_drew)); exact Kd.Q_mono (Kd.Q_far (p := ⟨ao, 1, none⟩) (Kd.Q_far (p := ⟨ao, 0, none⟩) (Kd.Q_far (p := ⟨ah, 3, none⟩) (Kd.Q_far (p := ⟨ah, 2, none⟩) (Kd.Q_far (p := ⟨ah, 1, none⟩) (Kd.Q_far (p := ⟨ah, 0, none⟩) (Kd.Q_types (Kd.Q_types aB.out af.out (by decide)) aG.out (by decide)) (fun _ hk => hk.1.2) (.int .i64 aO)) (fun _ hk => hk.1.2) (.slice bk aE.length bl)) (fun _ hk => hk.1.2) (.int .i64 bd)) (fun _ hk => hk.1.2) (.int .i64 bj)) (fun _ hk => hk.2) (.int .i64 bz)) (fun _ hk => hk.2) (.bool bH)) (fun _ hk => hk.1.1.2)⟩, ⟨by (with_reducible repeat (first | apply Kd.Q_alloc | apply Kd.Q_drewN | apply Kd.Q_drew)); exact Kd.Q_mono (Kd.Q_far (p := ⟨ao, 1, none⟩) (Kd.Q_far (p := ⟨ao, 0, none⟩) (Kd.Q_far (p := ⟨ah, 3, none⟩) (Kd.Q_far (p := ⟨ah, 2, none⟩) (Kd.Q_far (p := ⟨ah, 1, none⟩) (Kd.Q_far (p := ⟨ah, 0, none⟩) (Kd.Q_types (Kd.Q_types bg.out af.out (by decide)) aG.out (by decide)) (fun _ hk => hk.1.2) (.int .i64 aO)) (fun _ hk => hk.1.2) (.slice bk aE.length bl)) (fun _ hk => hk.1.2) (.int .i64 bd)) (fun _ hk => hk.1.2) (.int .i64 bj)) (fun _ hk => hk.2) (.int .i64 bz)) (fun _ hk => hk.2) (.bool bH)) (fun _ hk => hk.1.1.2)⟩, ⟨by (with_reducible repeat first | apply Jbn | apply Jbd | apply Jba); refine blk_far ?_ aR.out _; (with_reducible repeat first | apply Jbn | apply Jbd | apply Jba); refine blk_far ?_ aR.out _; (with_reducible repeat first | apply Jbn | apply Jbd | apply Jba); refine blk_far ?_ ap.out _; (with_reducible repeat first | apply Jbn | apply Jbd | apply Jba); refine blk_far ?_ ap.out _; (with_reducible repeat first | apply Jbn | apply Jbd | apply Jba); refine blk_far ?_ ap.out _; (with_reducible repeat first | apply Jbn | apply Jbd | apply Jba); refine blk_far ?_ ap.out _; (with_reducible repeat first | apply Jbn | apply Jbd | apply Jba); exact aa.out⟩, ⟨by (with_reducible repeat first | apply Jbn | apply Jbd | apply Jba); refine blk_far ?_ aS.out _; (with_reducible repeat first | apply Jbn | apply Jbd | apply Jba); refine blk_far ?_ aS.out _; (with_reducible repeat first | apply Jbn | apply Jbd | apply Jba); refine blk_far ?_ aq.out _; (with_reducible repeat first | apply Jbn | apply Jbd | apply Jba); refine blk_far ?_ aq.out _; (with_reducible repeat first | apply Jbn | apply Jbd | apply Jba); refine blk_far ?_ aq.out _; (with_reducible repeat first | apply Jbn | apply Jbd | apply Jba); refine blk_far ?_ aq.out _; (with_reducible repeat first | apply Jbn | apply Jbd | apply Jba); exact ab.out⟩, ⟨by (with_reducible repeat first | apply Jbn | apply Jbd | apply Jba); refine blk_far ?_ aH.out _; (with_reducible repeat first | apply Jbn | apply Jbd | apply Jba); refine blk_far ?_ aH.out _; (with_reducible repeat first | apply Jbn | apply Jbd | apply Jba); refine blk_far ?_ ar.out _; (with_reducible repeat first | apply Jbn | apply Jbd | apply Jba); refine blk_far ?_ ar.out _; (with_reducible repeat first | apply Jbn | apply Jbd | apply Jba); refine blk_far ?_ ar.out _; (with_reducible repeat first | apply Jbn | apply Jbd | apply Jba); refine blk_far ?_ ar.out _; (with_reducible repeat first | apply Jbn | apply Jbd | apply Jba); exact ad.out⟩, ⟨by (with_reducible repeat first | apply Jbn | apply Jbd | apply Jba); refine blk_far ?_ aT.out _; (with_reducible repeat first | apply Jbn | apply Jbd | apply Jba); refine blk_far ?_ aT.out _; (with_reducible repeat first | apply Jbn | apply Jbd | apply Jba); refine blk_far ?_ au.out _; (with_reducible repeat first | apply Jbn | apply Jbd | apply Jba); refine blk_far ?_ au.out _; (with_reducible repeat first | apply Jbn | apply Jbd | apply Jba); refine blk_far ?_ au.out _; (with_reducible repeat first | apply Jbn | apply Jbd | apply Jba); refine blk_far ?_ au.out _; (with_reducible repeat first | apply Jbn | apply Jbd | apply Jba); exact am.out⟩, ⟨by (with_reducible repeat first | apply Jbn | apply Jbd | apply Jba); refine blk_far ?_ aI.out _; (with_reducible repeat first | apply Jbn | apply Jbd | apply Jba); refine blk_far ?_ aI.out _; (with_reducible repeat first | apply Jbn | apply Jbd | apply Jba); refine blk_put (cs := #[.int .i64 aO, .slice bk aE.length bl, .int .i64 bd, .int .i64 0]) ?_ 3 _ rfl; (with_reducible repeat first | apply Jbn | apply Jbd | apply Jba); refine blk_put (cs := #[.int .i64 aO, .slice bk aE.length bl, .int .i64 0, .int .i64 0]) ?_ 2 _ rfl; (with_reducible repeat first | apply Jbn | apply Jbd | apply Jba); refine blk_put (cs := #[.int .i64 aO, .slice none 0 0, .int .i64 0, .int .i64 0]) ?_ 1 _ rfl; (with_reducible repeat first | apply Jbn | apply Jbd | apply Jba); refine blk_put (cs := #[.int .i64 0, .slice none 0 0, .int .i64 0, .int .i64 0]) ?_ 0 _ rfl; (with_reducible repeat first | apply Jbn | apply Jbd | apply Jba); exact af.out⟩, ⟨by (with_reducible repeat first | apply Jbn | apply Jbd | apply Jba); refine blk_put (cs := #[.int .i64 bz, .bool false]) ?_ 1 _ rfl; (with_reducible repeat first | apply Jbn | apply Jbd | apply Jba); refine blk_put (cs := #[.int .i64 0, .bool false]) ?_ 0 _ rfl; (with_reducible repeat first | apply Jbn | apply Jbd | apply Jba); refine blk_far ?_ av.out _; (with_reducible repeat first | apply Jbn | apply Jbd | apply Jba); refine blk_far ?_ av.out _; (with_reducible repeat first | apply Jbn | apply Jbd | apply Jba); refine blk_far ?_ av.out _; (with_reducible repeat first | apply Jbn | apply Jbd | apply Jba); refine blk_far ?_ av.out _; (with_reducible repeat first | apply Jbn | apply Jbd | apply Jba); exact aG.out⟩, ⟨by repeat (first | (with_reducible first | exact HB.out | apply Jla | apply Jln | apply Jld | refine Jse ?_ aj.out | refine Jse ?_ ak.out | refine Jse ?_ aD.out | refine Jse ?_ aM.out | refine Jse ?_ bi.out | refine Jse ?_ bu.out) | exact HB.out)⟩⟩
       ·rw [if_neg h7] at H
        have g6 : decide (0 < (aE.length : Int)) = false := decide_eq_false h7
        have g7 : decide (0 < aE.length) = false := decide_eq_false (by omega)
        clear h7
        have H' := JA H
        clear H
        have lT := aX.out
        have lU := ap.out
        have lV := aY.out
        have lW := aq.out
        have lX := aZ.out
        have lY := ar.out
        have lZ := ba.out
        have l1 := au.out
        have l2 := aI.out
        have l3 := av.out
        have gG : br.cell? ⟨ah, 0, none⟩ = some (.int .i64 0) := (Jbc af.out 0).trans rfl
        have gH : br.cell? ⟨ah, 1, none⟩ = some (.slice none 0 0) := (Jbc af.out 1).trans rfl
        have gI : br.cell? ⟨ah, 2, none⟩ = some (.int .i64 0) := (Jbc af.out 2).trans rfl
        have gJ : br.cell? ⟨ah, 3, none⟩ = some (.int .i64 0) := (Jbc af.out 3).trans rfl
        have gK := blk_frozen af.out 0
        have gL := blk_frozen af.out 1
        have gM := blk_frozen af.out 2
        have gN := blk_frozen af.out 3
        have l4 := aV.out
        have l5 := ay.out
        have l6 := aW.out
        have l7 := az.out
        have l8 := aL.out
        have l9 := aA.out
        have ma := aH.out
        have mb := bb.out
        have gO : br.cell? ⟨ag, 0, none⟩ = some (.int .i64 aC) := (Jbc ad.out 0).trans rfl
        have gP : br.cell? ⟨ag, 1, none⟩ = some (.slice aP aw.length aQ) := (Jbc ad.out 1).trans rfl
        have gQ : br.cell? ⟨ag, 2, none⟩ = some (.int .i64 aK) := (Jbc ad.out 2).trans rfl
        have gR : br.cell? ⟨ag, 3, none⟩ = some (.int .i64 aN) := (Jbc ad.out 3).trans rfl
        have gS := blk_frozen ad.out 0
        have gT := blk_frozen ad.out 1
        have gU := blk_frozen ad.out 2
        have gV := blk_frozen ad.out 3
        go_wp2
        repeat (go_quiet (fail); try go_wp2)
        go_meet
        case rel => exact ⟨_, (decide ((aE.length : Int) > (aw.length : Int))), (by first | rfl | (simp; done) | (simp [*]; done)), H', ⟨by have := hy.out; first | omega | exact Nat.le_refl _⟩, ⟨by (with_reducible repeat (first | apply Kd.Q_alloc | apply Kd.Q_drewN | apply Kd.Q_drew)); exact Kd.Q_mono (Kd.Q_far (p := ⟨ao, 1, none⟩) (Kd.Q_far (p := ⟨ao, 0, none⟩) (Kd.Q_far (p := ⟨ah, 3, none⟩) (Kd.Q_far (p := ⟨ah, 2, none⟩) (Kd.Q_far (p := ⟨ah, 1, none⟩) (Kd.Q_far (p := ⟨ah, 0, none⟩) (Kd.Q_types (Kd.Q_types aB.out af.out (by decide)) aG.out (by decide)) (fun _ hk => hk.1.2) (.int .i64 aO)) (fun _ hk => hk.1.2) (.slice bk aE.length bl)) (fun _ hk => hk.1.2) (.int .i64 bd)) (fun _ hk => hk.1.2) (.int .i64 bj)) (fun _ hk => hk.2) (.int .i64 bz)) (fun _ hk => hk.2) (.bool bH)) (fun _ hk => hk.1.1.2)⟩, ⟨by (with_reducible repeat (first | apply Kd.Q_alloc | apply Kd.Q_drewN | apply Kd.Q_drew)); exact Kd.Q_mono (Kd.Q_far (p := ⟨ao, 1, none⟩) (Kd.Q_far (p := ⟨ao, 0, none⟩) (Kd.Q_far (p := ⟨ah, 3, none⟩) (Kd.Q_far (p := ⟨ah, 2, none⟩) (Kd.Q_far (p := ⟨ah, 1, none⟩) (Kd.Q_far (p := ⟨ah, 0, none⟩) (Kd.Q_types (Kd.Q_types bg.out af.out (by decide)) aG.out (by decide)) (fun _ hk => hk.1.2) (.int .i64 aO)) (fun _ hk => hk.1.2) (.slice bk aE.length bl)) (fun _ hk => hk.1.2) (.int .i64 bd)) (fun _ hk => hk.1.2) (.int .i64 bj)) (fun _ hk => hk.2) (.int .i64 bz)) (fun _ hk => hk.2) (.bool bH)) (fun _ hk => hk.1.1.2)⟩, ⟨by (with_reducible repeat first | apply Jbn | apply Jbd | apply Jba); refine blk_far ?_ aR.out _; (with_reducible repeat first | apply Jbn | apply Jbd | apply Jba); refine blk_far ?_ aR.out _; (with_reducible repeat first | apply Jbn | apply Jbd | apply Jba); refine blk_far ?_ ap.out _; (with_reducible repeat first | apply Jbn | apply Jbd | apply Jba); refine blk_far ?_ ap.out _; (with_reducible repeat first | apply Jbn | apply Jbd | apply Jba); refine blk_far ?_ ap.out _; (with_reducible repeat first | apply Jbn | apply Jbd | apply Jba); refine blk_far ?_ ap.out _; (with_reducible repeat first | apply Jbn | apply Jbd | apply Jba); exact aa.out⟩, ⟨by (with_reducible repeat first | apply Jbn | apply Jbd | apply Jba); refine blk_far ?_ aS.out _; (with_reducible repeat first | apply Jbn | apply Jbd | apply Jba); refine blk_far ?_ aS.out _; (with_reducible repeat first | apply Jbn | apply Jbd | apply Jba); refine blk_far ?_ aq.out _; (with_reducible repeat first | apply Jbn | apply Jbd | apply Jba); refine blk_far ?_ aq.out _; (with_reducible repeat first | apply Jbn | apply Jbd | apply Jba); refine blk_far ?_ aq.out _; (with_reducible repeat first | apply Jbn | apply Jbd | apply Jba); refine blk_far ?_ aq.out _; (with_reducible repeat first | apply Jbn | apply Jbd | apply Jba); exact ab.out⟩, ⟨by (with_reducible repeat first | apply Jbn | apply Jbd | apply Jba); refine blk_far ?_ aH.out _; (with_reducible repeat first | apply Jbn | apply Jbd | apply Jba); refine blk_far ?_ aH.out _; (with_reducible repeat first | apply Jbn | apply Jbd | apply Jba); refine blk_far ?_ ar.out _; (with_reducible repeat first | apply Jbn | apply Jbd | apply Jba); refine blk_far ?_ ar.out _; (with_reducible repeat first | apply Jbn | apply Jbd | apply Jba); refine blk_far ?_ ar.out _; (with_reducible repeat first | apply Jbn | apply Jbd | apply Jba); refine blk_far ?_ ar.out _; (with_reducible repeat first | apply Jbn | apply Jbd | apply Jba); exact ad.out⟩, ⟨by (with_reducible repeat first | apply Jbn | apply Jbd | apply Jba); refine blk_far ?_ aT.out _; (with_reducible repeat first | apply Jbn | apply Jbd | apply Jba); refine blk_far ?_ aT.out _; (with_reducible repeat first | apply Jbn | apply Jbd | apply Jba); refine blk_far ?_ au.out _; (with_reducible repeat first | apply Jbn | apply Jbd | apply Jba); refine blk_far ?_ au.out _; (with_reducible repeat first | apply Jbn | apply Jbd | apply Jba); refine blk_far ?_ au.out _; (with_reducible repeat first | apply Jbn | apply Jbd | apply Jba); refine blk_far ?_ au.out _; (with_reducible repeat first | apply Jbn | apply Jbd | apply Jba); exact am.out⟩, ⟨by (with_reducible repeat first | apply Jbn | apply Jbd | apply Jba); refine blk_far ?_ aI.out _; (with_reducible repeat first | apply Jbn | apply Jbd | apply Jba); refine blk_far ?_ aI.out _; (with_reducible repeat first | apply Jbn | apply Jbd | apply Jba); refine blk_put (cs := #[.int .i64 aO, .slice bk aE.length bl, .int .i64 bd, .int .i64 0]) ?_ 3 _ rfl; (with_reducible repeat first | apply Jbn | apply Jbd | apply Jba); refine blk_put (cs := #[.int .i64 aO, .slice bk aE.length bl, .int .i64 0, .int .i64 0]) ?_ 2 _ rfl; (with_reducible repeat first | apply Jbn | apply Jbd | apply Jba); refine blk_put (cs := #[.int .i64 aO, .slice none 0 0, .int .i64 0, .int .i64 0]) ?_ 1 _ rfl; (with_reducible repeat first | apply Jbn | apply Jbd | apply Jba); refine blk_put (cs := #[.int .i64 0, .slice none 0 0, .int .i64 0, .int .i64 0]) ?_ 0 _ rfl; (with_reducible repeat first | apply Jbn | apply Jbd | apply Jba); exact af.out⟩, ⟨by (with_reducible repeat first | apply Jbn | apply Jbd | apply Jba); refine blk_put (cs := #[.int .i64 bz, .bool false]) ?_ 1 _ rfl; (with_reducible repeat first | apply Jbn | apply Jbd | apply Jba); refine blk_put (cs := #[.int .i64 0, .bool false]) ?_ 0 _ rfl; (with_reducible repeat first | apply Jbn | apply Jbd | apply Jba); refine blk_far ?_ av.out _; (with_reducible repeat first | apply Jbn | apply Jbd | apply Jba); refine blk_far ?_ av.out _; (with_reducible repeat first | apply Jbn | apply Jbd | apply Jba); refine blk_far ?_ av.out _; (with_reducible repeat first | apply Jbn | apply Jbd | apply Jba); refine blk_far ?_ av.out _; (with_reducible repeat first | apply Jbn | apply Jbd | apply Jba); exact aG.out⟩, ⟨by repeat (first | (with_reducible first | exact HB.out | apply Jla | apply Jln | apply Jld | refine Jse ?_ aj.out | refine Jse ?_ ak.out | refine Jse ?_ aD.out | refine Jse ?_ aM.out | refine Jse ?_ bi.out | refine Jse ?_ bu.out) | exact HB.out)⟩⟩
      ·rw [if_neg h6] at H
       have g5 : decide (aO < aC) = false := decide_eq_false h6
       clear h6
       have H' := JA H
       clear H
       have jB := aX.out
       have jC := ap.out
       have jD := aY.out
       have jE := aq.out
       have jF := aZ.out
       have jG := ar.out
       have jH := ba.out
       have jI := au.out
       have jJ := aI.out
       have jK := av.out
       have ff : br.cell? ⟨ah, 0, none⟩ = some (.int .i64 0) := (Jbc af.out 0).trans rfl
       have fg : br.cell? ⟨ah, 1, none⟩ = some (.slice none 0 0) := (Jbc af.out 1).trans rfl
       have fh : br.cell? ⟨ah, 2, none⟩ = some (.int .i64 0) := (Jbc af.out 2).trans rfl
       have fi : br.cell? ⟨ah, 3, none⟩ = some (.int .i64 0) := (Jbc af.out 3).trans rfl
       have fj := blk_frozen af.out 0
       have fk := blk_frozen af.out 1
       have fl := blk_frozen af.out 2
       have fm := blk_frozen af.out 3
       have jL := aV.out
       have jM := ay.out
       have jN := aW.out
       have jO := az.out
       have jP := aL.out
       have jQ := aA.out
       have jR := aH.out
       have jS := bb.out
       have fn : br.cell? ⟨ag, 0, none⟩ = some (.int .i64 aC) := (Jbc ad.out 0).trans rfl
       have fo : br.cell? ⟨ag, 1, none⟩ = some (.slice aP aw.length aQ) := (Jbc ad.out 1).trans rfl
       have fp : br.cell? ⟨ag, 2, none⟩ = some (.int .i64 aK) := (Jbc ad.out 2).trans rfl
       have fq : br.cell? ⟨ag, 3, none⟩ = some (.int .i64 aN) := (Jbc ad.out 3).trans rfl
       have fr := blk_frozen ad.out 0
       have fs := blk_frozen ad.out 1
       have ft := blk_frozen ad.out 2
       have fu := blk_frozen ad.out 3
       go_wp2
       repeat (go_quiet (fail); try go_wp2)
       go_meet
       case rel => exact ⟨_, (decide ((aE.length : Int) > (aw.length : Int))), (by first | rfl | (simp; done) | (simp [*]; done)), H', ⟨by have := hy.out; first | omega | exact Nat.le_refl _⟩, ⟨by (with_reducible repeat (first | apply Kd.Q_alloc | apply Kd.Q_drewN | apply Kd.Q_drew)); exact Kd.Q_mono (Kd.Q_far (p := ⟨ao, 1, none⟩) (Kd.Q_far (p := ⟨ao, 0, none⟩) (Kd.Q_far (p := ⟨ah, 3, none⟩) (Kd.Q_far (p := ⟨ah, 2, none⟩) (Kd.Q_far (p := ⟨ah, 1, none⟩) (Kd.Q_far (p := ⟨ah, 0, none⟩) (Kd.Q_types (Kd.Q_types aB.out af.out (by decide)) aG.out (by decide)) (fun _ hk => hk.1.2) (.int .i64 aO)) (fun _ hk => hk.1.2) (.slice bk aE.length bl)) (fun _ hk => hk.1.2) (.int .i64 bd)) (fun _ hk => hk.1.2) (.int .i64 bj)) (fun _ hk => hk.2) (.int .i64 bz)) (fun _ hk => hk.2) (.bool bH)) (fun _ hk => hk.1.1.2)⟩, ⟨by (with_reducible repeat (first | apply Kd.Q_alloc | apply Kd.Q_drewN | apply Kd.Q_drew)); exact Kd.Q_mono (Kd.Q_far (p := ⟨ao, 1, none⟩) (Kd.Q_far (p := ⟨ao, 0, none⟩) (Kd.Q_far (p := ⟨ah, 3, none⟩) (Kd.Q_far (p := ⟨ah, 2, none⟩) (Kd.Q_far (p := ⟨ah, 1, none⟩) (Kd.Q_far (p := ⟨ah, 0, none⟩) (Kd.Q_types (Kd.Q_types bg.out af.out (by decide)) aG.out (by decide)) (fun _ hk => hk.1.2) (.int .i64 aO)) (fun _ hk => hk.1.2) (.slice bk aE.length bl)) (fun _ hk => hk.1.2) (.int .i64 bd)) (fun _ hk => hk.1.2) (.int .i64 bj)) (fun _ hk => hk.2) (.int .i64 bz)) (fun _ hk => hk.2) (.bool bH)) (fun _ hk => hk.1.1.2)⟩, ⟨by (with_reducible repeat first | apply Jbn | apply Jbd | apply Jba); refine blk_far ?_ aR.out _; (with_reducible repeat first | apply Jbn | apply Jbd | apply Jba); refine blk_far ?_ aR.out _; (with_reducible repeat first | apply Jbn | apply Jbd | apply Jba); refine blk_far ?_ ap.out _; (with_reducible repeat first | apply Jbn | apply Jbd | apply Jba); refine blk_far ?_ ap.out _; (with_reducible repeat first | apply Jbn | apply Jbd | apply Jba); refine blk_far ?_ ap.out _; (with_reducible repeat first | apply Jbn | apply Jbd | apply Jba); refine blk_far ?_ ap.out _; (with_reducible repeat first | apply Jbn | apply Jbd | apply Jba); exact aa.out⟩, ⟨by (with_reducible repeat first | apply Jbn | apply Jbd | apply Jba); refine blk_far ?_ aS.out _; (with_reducible repeat first | apply Jbn | apply Jbd | apply Jba); refine blk_far ?_ aS.out _; (with_reducible repeat first | apply Jbn | apply Jbd | apply Jba); refine blk_far ?_ aq.out _; (with_reducible repeat first | apply Jbn | apply Jbd | apply Jba); refine blk_far ?_ aq.out _; (with_reducible repeat first | apply Jbn | apply Jbd | apply Jba); refine blk_far ?_ aq.out _; (with_reducible repeat first | apply Jbn | apply Jbd | apply Jba); refine blk_far ?_ aq.out _; (with_reducible repeat first | apply Jbn | apply Jbd | apply Jba); exact ab.out⟩, ⟨by (with_reducible repeat first | apply Jbn | apply Jbd | apply Jba); refine blk_far ?_ aH.out _; (with_reducible repeat first | apply Jbn | apply Jbd | apply Jba); refine blk_far ?_ aH.out _; (with_reducible repeat first | apply Jbn | apply Jbd | apply Jba); refine blk_far ?_ ar.out _; (with_reducible repeat first | apply Jbn | apply Jbd | apply Jba); refine blk_far ?_ ar.out _; (with_reducible repeat first | apply Jbn | apply Jbd | apply Jba); refine blk_far ?_ ar.out _; (with_reducible repeat first | apply Jbn | apply Jbd | apply Jba); refine blk_far ?_ ar.out _; (with_reducible repeat first | apply Jbn | apply Jbd | apply Jba); exact ad.out⟩, ⟨by (with_reducible repeat first | apply Jbn | apply Jbd | apply Jba); refine blk_far ?_ aT.out _; (with_reducible repeat first | apply Jbn | apply Jbd | apply Jba); refine blk_far ?_ aT.out _; (with_reducible repeat first | apply Jbn | apply Jbd | apply Jba); refine blk_far ?_ au.out _; (with_reducible repeat first | apply Jbn | apply Jbd | apply Jba); refine blk_far ?_ au.out _; (with_reducible repeat first | apply Jbn | apply Jbd | apply Jba); refine blk_far ?_ au.out _; (with_reducible repeat first | apply Jbn | apply Jbd | apply Jba); refine blk_far ?_ au.out _; (with_reducible repeat first | apply Jbn | apply Jbd | apply Jba); exact am.out⟩, ⟨by (with_reducible repeat first | apply Jbn | apply Jbd | apply Jba); refine blk_far ?_ aI.out _; (with_reducible repeat first | apply Jbn | apply Jbd | apply Jba); refine blk_far ?_ aI.out _; (with_reducible repeat first | apply Jbn | apply Jbd | apply Jba); refine blk_put (cs := #[.int .i64 aO, .slice bk aE.length bl, .int .i64 bd, .int .i64 0]) ?_ 3 _ rfl; (with_reducible repeat first | apply Jbn | apply Jbd | apply Jba); refine blk_put (cs := #[.int .i64 aO, .slice bk aE.length bl, .int .i64 0, .int .i64 0]) ?_ 2 _ rfl; (with_reducible repeat first | apply Jbn | apply Jbd | apply Jba); refine blk_put (cs := #[.int .i64 aO, .slice none 0 0, .int .i64 0, .int .i64 0]) ?_ 1 _ rfl; (with_reducible repeat first | apply Jbn | apply Jbd | apply Jba); refine blk_put (cs := #[.int .i64 0, .slice none 0 0, .int .i64 0, .int .i64 0]) ?_ 0 _ rfl; (with_reducible repeat first | apply Jbn | apply Jbd | apply Jba); exact af.out⟩, ⟨by (with_reducible repeat first | apply Jbn | apply Jbd | apply Jba); refine blk_put (cs := #[.int .i64 bz, .bool false]) ?_ 1 _ rfl; (with_reducible repeat first | apply Jbn | apply Jbd | apply Jba); refine blk_put (cs := #[.int .i64 0, .bool false]) ?_ 0 _ rfl; (with_reducible repeat first | apply Jbn | apply Jbd | apply Jba); refine blk_far ?_ av.out _; (with_reducible repeat first | apply Jbn | apply Jbd | apply Jba); refine blk_far ?_ av.out _; (with_reducible repeat first | apply Jbn | apply Jbd | apply Jba); refine blk_far ?_ av.out _; (with_reducible repeat first | apply Jbn | apply Jbd | apply Jba); refine blk_far ?_ av.out _; (with_reducible repeat first | apply Jbn | apply Jbd | apply Jba); exact aG.out⟩, ⟨by repeat (first | (with_reducible first | exact HB.out | apply Jla | apply Jln | apply Jld | refine Jse ?_ aj.out | refine Jse ?_ ak.out | refine Jse ?_ aD.out | refine Jse ?_ aM.out | refine Jse ?_ bi.out | refine Jse ?_ bu.out) | exact HB.out)⟩⟩
    case rest =>
     clear ib
     try clear c1
     try clear c2
     try clear p2
     try clear c3
     try clear c4
     try clear c5
     try clear c6
     try clear p6
     try clear c7
     try clear c8
     try clear c9
     try clear ia
     try clear hm
     try clear cm
     try clear d5
     try clear la
     try clear lb
     try clear lc
     try clear ir
     try clear mh
     try clear mi
     try clear mj
     try clear mk
     try clear ml
     try clear mm
     try clear mo
     try clear mq
     try clear mr
     try clear ms
     try clear mt
     try clear mu
     try clear mv
     try clear mw
     try clear my
     try clear h5
     try clear d3
     try clear g4
     try clear mc
     try clear mz
     try clear mA
     try clear mB
     try clear mC
     try clear mD
     try clear mE
     try clear mF
     try clear mG
     try clear mH
     try clear h6
     try clear g5
     try clear h7
     try clear g6
     try clear g7
     try clear mI
     try clear mJ
     try clear mK
     try clear mL
     try clear mM
     try clear mN
     try clear mO
     try clear mP
     try clear mQ
     try clear mR
     try clear mS
     try clear mT
     try clear mU
     try clear mV
     try clear mW
     try clear mX
     try clear mY
     try clear mZ
     try clear jT
     try clear jU
     try clear jV
     try clear jW
     try clear jX
     try clear jY
     try clear jZ
     try clear j2
     try clear j3
     try clear ff
     try clear fg
     try clear fh
     try clear fi
     try clear fn
     try clear fo
     try clear fp
     try clear fq
     try clear ec
     try clear ed
     try clear dR
     try clear dS
     try clear ee
     try clear ef
     try clear eg
     try clear eh
     try clear ei
     try clear ej
     try clear ek
     try clear el
     try clear bW
     try clear bX
     try clear bY
     try clear bZ
     try clear ew
     try clear ex
     try clear dV
     try clear dW
     try clear ey
     try clear ez
     try clear eA
     try clear eB
     try clear eC
     try clear eD
     try clear eE
     try clear eF
     try clear b4
     try clear b5
     try clear b6
     try clear b7
     try clear eQ
     try clear eR
     try clear dZ
     try clear d0
     try clear eS
     try clear eT
     try clear eU
     try clear eV
     try clear eW
     try clear eX
     try clear eY
     try clear eZ
     try clear f1
     try clear f2
     try clear f3
     try clear f4
     try clear co
     try clear cp
     try clear cc
     try clear cd
     try clear cq
     try clear cr
     try clear ct
     try clear cu
     try clear cv
     try clear cw
     try clear cx
     try clear cy
     try clear cJ
     try clear cK
     try clear cL
     try clear cM
     try clear cR
     try clear cS
     try clear cT
     try clear cU
     try clear cZ
     try clear c0
     try clear dc
     try clear dd
     try clear cg
     try clear ch
     try clear de
     try clear df
     try clear dg
     try clear dh
     try clear di
     try clear dj
     try clear dk
     try clear dl
     try clear dx
     try clear dy
     try clear dz
     try clear dA
     try clear dF
     try clear dG
     try clear dH
     try clear dI
     try clear dN
     try clear dO
     try clear f9
     try clear ga
     try clear gb
     try clear gc
     try clear gh
     try clear gi
     try clear gj
     try clear gl
     try clear gq
     try clear gr
     try clear gs
     try clear gt
     try clear gy
     try clear gz
     try clear gA
     try clear gB
     try clear gG
     try clear gH
     try clear gI
     try clear gJ
     try clear gO
     try clear gP
     try clear gQ
     try clear gR
     try clear fj
     try clear fk
     try clear fl
     try clear fm
     try clear fr
     try clear fs
     try clear ft
     try clear fu
     try clear em
     try clear en
     try clear dT
     try clear dU
     try clear eo
     try clear ep
     try clear eq
     try clear er
     try clear es
     try clear et
     try clear eu
     try clear ev
     try clear b0
     try clear b1
     try clear b2
     try clear b3
     try clear eG
     try clear eH
     try clear dX
     try clear dY
     try clear eI
     try clear eJ
     try clear eK
     try clear eL
     try clear eM
     try clear eN
     try clear eO
     try clear eP
     try clear b8
     try clear b9
     try clear ca
     try clear cb
     try clear e0
     try clear e1
     try clear d1
     try clear d2
     try clear e2
     try clear e3
     try clear e4
     try clear e5
     try clear e6
     try clear e7
     try clear e8
     try clear e9
     try clear f5
     try clear f6
     try clear f7
     try clear f8
     try clear cz
     try clear cA
     try clear ce
     try clear cf
     try clear cB
     try clear cC
     try clear cD
     try clear cE
     try clear cF
     try clear cG
     try clear cH
     try clear cI
     try clear cN
     try clear cO
     try clear cP
     try clear cQ
     try clear cV
     try clear cW
     try clear cX
     try clear cY
     try clear da
     try clear db
     try clear dm
     try clear dn
     try clear ci
     try clear cj
     try clear dp
     try clear dq
     try clear dr
     try clear ds
     try clear dt
     try clear du
     try clear dv
     try clear dw
     try clear dB
     try clear dC
     try clear dD
     try clear dE
     try clear dJ
     try clear dK
     try clear dL
     try clear dM
     try clear dP
     try clear dQ
     try clear gd
     try clear ge
     try clear gf
     try clear gg
     try clear gm
     try clear gn
     try clear go
     try clear gp
     try clear gu
     try clear gv
     try clear gw
     try clear gx
     try clear gC
     try clear gD
     try clear gE
     try clear gF
     try clear gK
     try clear gL
     try clear gM
     try clear gN
     try clear gS
     try clear gT
     try clear gU
     try clear gV
     try clear p2
     obtain ⟨kq, fa, rfl, HA, hn, HO_354001, HO_364001, aa, ab, ad, am, af, aG, HB⟩ := hcut
     cases kq with
     | zero => exact absurd HA.out (by simp [governorlaw16_PlantLess.j1])
     | succ ic =>
      have H := HA.out
      clear HA
      simp only [governorlaw16_PlantLess.j1] at H
      by_cases g8 : fa = true
      ·subst g8
       have H1 : (some false) = some r := by rw [if_pos rfl] at H; exact H
       clear H
       have H := H1
       clear H1
       exact absurd (Option.some.inj H) (by rw [HRT.out]; decide)
      ·replace g8 := Bool.eq_false_iff.mpr g8
       subst g8
       have H1 : (governorlaw16_PlantLess.l0 ic aU aJ bG 0 aC aw aK aN aO aE bd bj) = some r := by rw [if_neg (show ¬ (false = true) by decide)] at H; exact H
       clear H
       have H := H1
       clear H1
       have H' := JA H
       clear H
       go_wp2
       repeat (go_quiet (fail); try go_wp2)
       go_loopg [14] ic (fun kq m0 w' => ∃ (aF : Int), m0 = .int .i64 aF ∧ Aside0 (governorlaw16_PlantLess.l0 kq aU aJ bG aF aC aw aK aN aO aE bd bj = some r) ∧ Aside0 (kq ≤ ic) ∧ Aside0 (Kd.Q (Kd.int .i64) 3 w' w.heap.size (fun k_ => some k_ ≠ ((.slice bk aE.length bl) : Value).ownBlock) (.slice aP aw.length aQ) aw) ∧ Aside0 (Kd.Q (Kd.int .i64) 3 w' w.heap.size (fun k_ => some k_ ≠ ((.slice aP aw.length aQ) : Value).ownBlock) (.slice bk aE.length bl) aE) ∧ Aside0 (w'.heap[ac]? = some (.cells #[.int .i64 a0_0, .int .i64 a0_1, .int .i64 a0_2, .int .i64 a0_3, .int .i64 a0_4, .int .i64 a0_5, .int .i64 a0_6, .int .i64 a0_7, .int .i64 a0_8, .int .i64 a0_9, .int .i64 a0_10, .int .i64 a0_11] 23 (0, 0))) ∧ Aside0 (w'.heap[ae]? = some (.cells #[.int .i64 a1_0, (.slice A1_1 l1_1.length c1_1), .int .i64 a1_2, .int .i64 a1_3] 26 (0, 0))) ∧ Aside0 (w'.heap[ag]? = some (.cells #[.int .i64 aC, (.slice aP aw.length aQ), .int .i64 aK, .int .i64 aN] 26 (0, 0))) ∧ Aside0 (w'.heap[an]? = some (.cells #[.int .i64 bc, .bool bh] 31 (0, 0))) ∧ Aside0 (w'.heap[ah]? = some (.cells #[.int .i64 aO, (.slice bk aE.length bl), .int .i64 bd, .int .i64 bj] 26 (0, 0))) ∧ Aside0 (w'.heap[ao]? = some (.cells #[.int .i64 bz, .bool bH] 31 (0, 0))) ∧ Aside0 (Below w.heap.size w w'))
       case atStart => exact ⟨(0), (by first | rfl | (simp; done) | (simp [*]; done)), H', ⟨Nat.le_refl _⟩, ⟨by (with_reducible repeat (first | apply Kd.Q_alloc | apply Kd.Q_drewN | apply Kd.Q_drew)); exact HO_354001.out⟩, ⟨by (with_reducible repeat (first | apply Kd.Q_alloc | apply Kd.Q_drewN | apply Kd.Q_drew)); exact HO_364001.out⟩, ⟨by (with_reducible repeat first | apply Jbn | apply Jbd | apply Jba); exact aa.out⟩, ⟨by (with_reducible repeat first | apply Jbn | apply Jbd | apply Jba); exact ab.out⟩, ⟨by (with_reducible repeat first | apply Jbn | apply Jbd | apply Jba); exact ad.out⟩, ⟨by (with_reducible repeat first | apply Jbn | apply Jbd | apply Jba); exact am.out⟩, ⟨by (with_reducible repeat first | apply Jbn | apply Jbd | apply Jba); exact af.out⟩, ⟨by (with_reducible repeat first | apply Jbn | apply Jbd | apply Jba); exact aG.out⟩, ⟨by repeat (first | (with_reducible first | exact HB.out | apply Jla | apply Jln | apply Jld | refine Jse ?_ aj.out | refine Jse ?_ ak.out | refine Jse ?_ aD.out | refine Jse ?_ aM.out | refine Jse ?_ bi.out | refine Jse ?_ bu.out) | exact HB.out)⟩⟩
       case round =>
        clear H'
        try clear c1
        try clear c2
        try clear p2
        try clear c3
        try clear c4
        try clear c5
        try clear c6
        try clear p6
        try clear c7
        try clear c8
        try clear c9
        try clear ia
        try clear hm
        try clear cm
        try clear d5
        try clear la
        try clear lb
        try clear lc
        try clear ir
        try clear mh
        try clear mi
        try clear mj
        try clear mk
        try clear ml
        try clear mm
        try clear mo
        try clear mq
        try clear mr
        try clear ms
        try clear mt
        try clear mu
        try clear mv
        try clear mw
        try clear my
        try clear h5
        try clear d3
        try clear g4
        try clear mc
        try clear mz
        try clear mA
        try clear mB
        try clear mC
        try clear mD
        try clear mE
        try clear mF
        try clear mG
        try clear mH
        try clear h6
        try clear g5
        try clear h7
        try clear g6
        try clear g7
        try clear mI
        try clear mJ
        try clear mK
        try clear mL
        try clear mM
        try clear mN
        try clear mO
        try clear mP
        try clear mQ
        try clear mR
        try clear mS
        try clear mT
        try clear mU
        try clear mV
        try clear mW
        try clear mX
        try clear mY
        try clear mZ
        try clear jT
        try clear jU
        try clear jV
        try clear jW
        try clear jX
        try clear jY
        try clear jZ
        try clear j2
        try clear j3
        try clear g8
        try clear ff
        try clear fg
        try clear fh
        try clear fi
        try clear fn
        try clear fo
        try clear fp
        try clear fq
        try clear ec
        try clear ed
        try clear dR
        try clear dS
        try clear ee
        try clear ef
        try clear eg
        try clear eh
        try clear ei
        try clear ej
        try clear ek
        try clear el
        try clear bW
        try clear bX
        try clear bY
        try clear bZ
        try clear ew
        try clear ex
        try clear dV
        try clear dW
        try clear ey
        try clear ez
        try clear eA
        try clear eB
        try clear eC
        try clear eD
        try clear eE
        try clear eF
        try clear b4
        try clear b5
        try clear b6
        try clear b7
        try clear eQ
        try clear eR
        try clear dZ
        try clear d0
        try clear eS
        try clear eT
        try clear eU
        try clear eV
        try clear eW
        try clear eX
        try clear eY
        try clear eZ
        try clear f1
        try clear f2
        try clear f3
        try clear f4
        try clear co
        try clear cp
        try clear cc
        try clear cd
        try clear cq
        try clear cr
        try clear ct
        try clear cu
        try clear cv
        try clear cw
        try clear cx
        try clear cy
        try clear cJ
        try clear cK
        try clear cL
        try clear cM
        try clear cR
        try clear cS
        try clear cT
        try clear cU
        try clear cZ
        try clear c0
        try clear dc
        try clear dd
        try clear cg
        try clear ch
        try clear de
        try clear df
        try clear dg
        try clear dh
        try clear di
        try clear dj
        try clear dk
        try clear dl
        try clear dx
        try clear dy
        try clear dz
        try clear dA
        try clear dF
        try clear dG
        try clear dH
        try clear dI
        try clear dN
        try clear dO
        try clear f9
        try clear ga
        try clear gb
        try clear gc
        try clear gh
        try clear gi
        try clear gj
        try clear gl
        try clear gq
        try clear gr
        try clear gs
        try clear gt
        try clear gy
        try clear gz
        try clear gA
        try clear gB
        try clear gG
        try clear gH
        try clear gI
        try clear gJ
        try clear gO
        try clear gP
        try clear gQ
        try clear gR
        try clear fj
        try clear fk
        try clear fl
        try clear fm
        try clear fr
        try clear fs
        try clear ft
        try clear fu
        try clear em
        try clear en
        try clear dT
        try clear dU
        try clear eo
        try clear ep
        try clear eq
        try clear er
        try clear es
        try clear et
        try clear eu
        try clear ev
        try clear b0
        try clear b1
        try clear b2
        try clear b3
        try clear eG
        try clear eH
        try clear dX
        try clear dY
        try clear eI
        try clear eJ
        try clear eK
        try clear eL
        try clear eM
        try clear eN
        try clear eO
        try clear eP
        try clear b8
        try clear b9
        try clear ca
        try clear cb
        try clear e0
        try clear e1
        try clear d1
        try clear d2
        try clear e2
        try clear e3
        try clear e4
        try clear e5
        try clear e6
        try clear e7
        try clear e8
        try clear e9
        try clear f5
        try clear f6
        try clear f7
        try clear f8
        try clear cz
        try clear cA
        try clear ce
        try clear cf
        try clear cB
        try clear cC
        try clear cD
        try clear cE
        try clear cF
        try clear cG
        try clear cH
        try clear cI
        try clear cN
        try clear cO
        try clear cP
        try clear cQ
        try clear cV
        try clear cW
        try clear cX
        try clear cY
        try clear da
        try clear db
        try clear dm
        try clear dn
        try clear ci
        try clear cj
        try clear dp
        try clear dq
        try clear dr
        try clear ds
        try clear dt
        try clear du
        try clear dv
        try clear dw
        try clear dB
        try clear dC
        try clear dD
        try clear dE
        try clear dJ
        try clear dK
        try clear dL
        try clear dM
        try clear dP
        try clear dQ
        try clear gd
        try clear ge
        try clear gf
        try clear gg
        try clear gm
        try clear gn
        try clear go
        try clear gp
        try clear gu
        try clear gv
        try clear gw
        try clear gx
        try clear gC
        try clear gD
        try clear gE
        try clear gF
        try clear gK
        try clear gL
        try clear gM
        try clear gN
        try clear gS
        try clear gT
        try clear gU
        try clear gV
        try clear p2
        try clear p6
        try clear mc
        obtain ⟨aF, rfl, HA, jp, HO_354001, HO_364001, aa, ab, ad, am, af, aG, HB⟩ := hrel
        cases gk with
        | zero => exact absurd HA.out (by simp [governorlaw16_PlantLess.l0])
        | succ k3 =>
         have H := HA.out
         clear HA
         simp only [governorlaw16_PlantLess.l0] at H
         by_cases gW : aF < (aE.length : Int)
         ·rw [if_pos gW] at H
          have id : decide (aF < (aE.length : Int)) = true := decide_eq_true gW
          clear gW
          by_cases ho : 0 ≤ aF
          ·rw [if_pos ho] at H
           have j4 : decide (0 ≤ aF) = true := decide_eq_true ho
           clear ho
           by_cases hp : aF < (aw.length : Int)
           ·rw [if_pos hp] at H
            have j5 : decide (aF < (aw.length : Int)) = true := decide_eq_true hp
            clear hp
            by_cases gX : (rd aE aF) > (rd aw aF)
            ·rw [if_pos gX] at H
             have ie : decide ((rd aw aF) < (rd aE aF)) = true := decide_eq_true gX
             clear gX
             exact absurd (Option.some.inj H) (by rw [HRT.out]; decide)
            ·rw [if_neg gX] at H
             have ie : decide ((rd aw aF) < (rd aE aF)) = false := decide_eq_false gX
             clear gX
             by_cases gY : (rd aE aF) < (rd aw aF)
             ·rw [if_pos gY] at H
              have ig : decide ((rd aE aF) < (rd aw aF)) = true := decide_eq_true gY
              clear gY
              by_cases gZ : (wrap64 (aF + 1)) < (aE.length : Int)
              ·rw [if_pos gZ] at H
               have ih : decide ((wrap64 (aF + 1)) < (aE.length : Int)) = true := decide_eq_true gZ
               clear gZ
               exact absurd (Option.some.inj H) (by rw [HRT.out]; decide)
              ·rw [if_neg gZ] at H
               have ih : decide ((wrap64 (aF + 1)) < (aE.length : Int)) = false := decide_eq_false gZ
               clear gZ
               have H' := JA H
               clear H
               have j6 := aX.out
               have j7 := ap.out
               have j8 := aY.out
               have j9 := aq.out
               have ka := aZ.out
               have kb := ar.out
               have kc := ba.out
               have kd := au.out
               have ke := aI.out
               have kf := av.out
               have iA : wr.cell? ⟨ah, 0, none⟩ = some (.int .i64 aO) := (Jbc af.out 0).trans rfl
               have iB : wr.cell? ⟨ah, 1, none⟩ = some (.slice bk aE.length bl) := (Jbc af.out 1).trans rfl
               have iC : wr.cell? ⟨ah, 2, none⟩ = some (.int .i64 bd) := (Jbc af.out 2).trans rfl
               have iD : wr.cell? ⟨ah, 3, none⟩ = some (.int .i64 bj) := (Jbc af.out 3).trans rfl
               have iE := blk_frozen af.out 0
               have iF := blk_frozen af.out 1
               have iG := blk_frozen af.out 2
               have iH := blk_frozen af.out 3
               have fD : 0 ≤ (aF : Int) := of_decide_eq_true (by first | (with_reducible assumption) | assumption)
               have fE : aF < (aE.length : Int) := of_decide_eq_true (by first | (with_reducible assumption) | assumption)
               obtain ⟨g9, ii, hq⟩ := Kd.at_int (Kd.Q_reads' HO_364001.out).2.2 aF fD fE
               cases ii
               replace fD := eq_true fD
               replace fE := eq_true fE
               have kg := aV.out
               have kh := ay.out
               have ki := aW.out
               have kj := az.out
               have kk := aL.out
               have kl := aA.out
               have km := aH.out
               have kn := bb.out
               have iI : wr.cell? ⟨ag, 0, none⟩ = some (.int .i64 aC) := (Jbc ad.out 0).trans rfl
               have iJ : wr.cell? ⟨ag, 1, none⟩ = some (.slice aP aw.length aQ) := (Jbc ad.out 1).trans rfl
               have iK : wr.cell? ⟨ag, 2, none⟩ = some (.int .i64 aK) := (Jbc ad.out 2).trans rfl
               have iL : wr.cell? ⟨ag, 3, none⟩ = some (.int .i64 aN) := (Jbc ad.out 3).trans rfl
               have iM := blk_frozen ad.out 0
               have iN := blk_frozen ad.out 1
               have iO := blk_frozen ad.out 2
               have iP := blk_frozen ad.out 3
               have fF : 0 ≤ (aF : Int) := of_decide_eq_true (by first | (with_reducible assumption) | assumption)
               have fG : aF < (aw.length : Int) := of_decide_eq_true (by first | (with_reducible assumption) | assumption)
               obtain ⟨ha, ij, hs⟩ := Kd.at_int (Kd.Q_reads' HO_354001.out).2.2 aF fF fG
               cases ij
               replace fF := eq_true fF
               replace fG := eq_true fG
               have fH : 0 ≤ (aF : Int) := of_decide_eq_true (by first | (with_reducible assumption) | assumption)
               have fI : aF < (aE.length : Int) := of_decide_eq_true (by first | (with_reducible assumption) | assumption)
               obtain ⟨hc, ik, ht⟩ := Kd.at_int (Kd.Q_reads' HO_364001.out).2.2 aF fH fI
               obtain rfl : g9 = hc := (by injection ik)
               replace fH := eq_true fH
               replace fI := eq_true fI
               have fJ : 0 ≤ (aF : Int) := of_decide_eq_true (by first | (with_reducible assumption) | assumption)
               have fK : aF < (aw.length : Int) := of_decide_eq_true (by first | (with_reducible assumption) | assumption)
               obtain ⟨he, il, hu⟩ := Kd.at_int (Kd.Q_reads' HO_354001.out).2.2 aF fJ fK
               obtain rfl : ha = he := (by injection il)
               replace fJ := eq_true fJ
               replace fK := eq_true fK
               go_wp2
               repeat (go_quiet (fail); try go_wp2)
               go_roundg k3
               case measure => have := hy.out; have := hn.out; have := jp.out; omega
               case rel => exact ⟨(wrap64 (aF + 1)), (by first | rfl | (simp; done) | (simp [*]; done)), H', ⟨by have := hy.out; have := hn.out; have := jp.out; omega⟩, ⟨by (with_reducible repeat (first | apply Kd.Q_alloc | apply Kd.Q_drewN | apply Kd.Q_drew)); exact HO_354001.out⟩, ⟨by (with_reducible repeat (first | apply Kd.Q_alloc | apply Kd.Q_drewN | apply Kd.Q_drew)); exact HO_364001.out⟩, ⟨by (with_reducible repeat first | apply Jbn | apply Jbd | apply Jba); exact aa.out⟩, ⟨by (with_reducible repeat first | apply Jbn | apply Jbd | apply Jba); exact ab.out⟩, ⟨by (with_reducible repeat first | apply Jbn | apply Jbd | apply Jba); exact ad.out⟩, ⟨by (with_reducible repeat first | apply Jbn | apply Jbd | apply Jba); exact am.out⟩, ⟨by (with_reducible repeat first | apply Jbn | apply Jbd | apply Jba); exact af.out⟩, ⟨by (with_reducible repeat first | apply Jbn | apply Jbd | apply Jba); exact aG.out⟩, ⟨by repeat (first | (with_reducible first | exact HB.out | apply Jla | apply Jln | apply Jld | refine Jse ?_ aj.out | refine Jse ?_ ak.out | refine Jse ?_ aD.out | refine Jse ?_ aM.out | refine Jse ?_ bi.out | refine Jse ?_ bu.out) | exact HB.out)⟩⟩
             ·rw [if_neg gY] at H
              have ig : decide ((rd aE aF) < (rd aw aF)) = false := decide_eq_false gY
              clear gY
              have H' := JA H
              clear H
              have ko := aX.out
              have kp := ap.out
              have kr := aY.out
              have ks := aq.out
              have kt := aZ.out
              have ku := ar.out
              have kv := ba.out
              have kw := au.out
              have kx := aI.out
              have ky := av.out
              have iQ : wr.cell? ⟨ah, 0, none⟩ = some (.int .i64 aO) := (Jbc af.out 0).trans rfl
              have iR : wr.cell? ⟨ah, 1, none⟩ = some (.slice bk aE.length bl) := (Jbc af.out 1).trans rfl
              have iS : wr.cell? ⟨ah, 2, none⟩ = some (.int .i64 bd) := (Jbc af.out 2).trans rfl
              have iT : wr.cell? ⟨ah, 3, none⟩ = some (.int .i64 bj) := (Jbc af.out 3).trans rfl
              have iU := blk_frozen af.out 0
              have iV := blk_frozen af.out 1
              have iW := blk_frozen af.out 2
              have iX := blk_frozen af.out 3
              have fD : 0 ≤ (aF : Int) := of_decide_eq_true (by first | (with_reducible assumption) | assumption)
              have fE : aF < (aE.length : Int) := of_decide_eq_true (by first | (with_reducible assumption) | assumption)
              obtain ⟨g9, ii, hq⟩ := Kd.at_int (Kd.Q_reads' HO_364001.out).2.2 aF fD fE
              cases ii
              replace fD := eq_true fD
              replace fE := eq_true fE
              have kz := aV.out
              have kA := ay.out
              have kB := aW.out
              have kC := az.out
              have kD := aL.out
              have kE := aA.out
              have kF := aH.out
              have kG := bb.out
              have iY : wr.cell? ⟨ag, 0, none⟩ = some (.int .i64 aC) := (Jbc ad.out 0).trans rfl
              have iZ : wr.cell? ⟨ag, 1, none⟩ = some (.slice aP aw.length aQ) := (Jbc ad.out 1).trans rfl
              have i0 : wr.cell? ⟨ag, 2, none⟩ = some (.int .i64 aK) := (Jbc ad.out 2).trans rfl
              have i1 : wr.cell? ⟨ag, 3, none⟩ = some (.int .i64 aN) := (Jbc ad.out 3).trans rfl
              have i2 := blk_frozen ad.out 0
              have i3 := blk_frozen ad.out 1
              have i4 := blk_frozen ad.out 2
              have i5 := blk_frozen ad.out 3
              have fF : 0 ≤ (aF : Int) := of_decide_eq_true (by first | (with_reducible assumption) | assumption)
              have fG : aF < (aw.length : Int) := of_decide_eq_true (by first | (with_reducible assumption) | assumption)
              obtain ⟨ha, ij, hs⟩ := Kd.at_int (Kd.Q_reads' HO_354001.out).2.2 aF fF fG
              cases ij
              replace fF := eq_true fF
              replace fG := eq_true fG
              have fH : 0 ≤ (aF : Int) := of_decide_eq_true (by first | (with_reducible assumption) | assumption)
              have fI : aF < (aE.length : Int) := of_decide_eq_true (by first | (with_reducible assumption) | assumption)
              obtain ⟨hc, ik, ht⟩ := Kd.at_int (Kd.Q_reads' HO_364001.out).2.2 aF fH fI
              obtain rfl : g9 = hc := (by injection ik)
              replace fH := eq_true fH
              replace fI := eq_true fI
              have fJ : 0 ≤ (aF : Int) := of_decide_eq_true (by first | (with_reducible assumption) | assumption)
              have fK : aF < (aw.length : Int) := of_decide_eq_true (by first | (with_reducible assumption) | assumption)
              obtain ⟨he, il, hu⟩ := Kd.at_int (Kd.Q_reads' HO_354001.out).2.2 aF fJ fK
              obtain rfl : ha = he := (by injection il)
              replace fJ := eq_true fJ
              replace fK := eq_true fK
              go_wp2
              repeat (go_quiet (fail); try go_wp2)
              go_roundg k3
              case measure => have := hy.out; have := hn.out; have := jp.out; omega
              case rel => exact ⟨(wrap64 (aF + 1)), (by first | rfl | (simp; done) | (simp [*]; done)), H', ⟨by have := hy.out; have := hn.out; have := jp.out; omega⟩, ⟨by (with_reducible repeat (first | apply Kd.Q_alloc | apply Kd.Q_drewN | apply Kd.Q_drew)); exact HO_354001.out⟩, ⟨by (with_reducible repeat (first | apply Kd.Q_alloc | apply Kd.Q_drewN | apply Kd.Q_drew)); exact HO_364001.out⟩, ⟨by (with_reducible repeat first | apply Jbn | apply Jbd | apply Jba); exact aa.out⟩, ⟨by (with_reducible repeat first | apply Jbn | apply Jbd | apply Jba); exact ab.out⟩, ⟨by (with_reducible repeat first | apply Jbn | apply Jbd | apply Jba); exact ad.out⟩, ⟨by (with_reducible repeat first | apply Jbn | apply Jbd | apply Jba); exact am.out⟩, ⟨by (with_reducible repeat first | apply Jbn | apply Jbd | apply Jba); exact af.out⟩, ⟨by (with_reducible repeat first | apply Jbn | apply Jbd | apply Jba); exact aG.out⟩, ⟨by repeat (first | (with_reducible first | exact HB.out | apply Jla | apply Jln | apply Jld | refine Jse ?_ aj.out | refine Jse ?_ ak.out | refine Jse ?_ aD.out | refine Jse ?_ aM.out | refine Jse ?_ bi.out | refine Jse ?_ bu.out) | exact HB.out)⟩⟩
           ·rw [if_neg hp] at H
            exact absurd H (by simp)
          ·rw [if_neg ho] at H
           exact absurd H (by simp)
         ·rw [if_neg gW] at H
          have id : decide (aF < (aE.length : Int)) = false := decide_eq_false gW
          clear gW
          by_cases hv : aU = true
          ·subst hv
           have H1 : ((plant_All.f k3 aC aw aK aN).bind fun cl => (if cl = aJ then ((plant_All.f k3 aO aE bd bj).bind fun d4 => (some (d4 == bG))) else (some false))) = some r := by rw [if_pos rfl] at H; exact H
           clear H
           have H := H1
           clear H1
           replace H := Option.bind_eq_some_iff.mp H
           obtain ⟨cl, h8, H⟩ := H
           replace H : (if cl = aJ then ((plant_All.f k3 aO aE bd bj).bind fun d4 => (some (d4 == bG))) else (some false)) = some r := H
           have im := JA h8
           clear h8
           by_cases fL : cl = aJ
           ·rw [if_pos fL] at H
            have io : (cl == aJ) = true := beq_iff_eq.mpr fL
            have ip : (cl != aJ) = false := bne_eq_false_iff_eq.mpr fL
            clear fL
            replace H := Option.bind_eq_some_iff.mp H
            obtain ⟨d4, h9, H⟩ := H
            replace H : (some (d4 == bG)) = some r := H
            have iq := JA h9
            clear h9
            obtain rfl := Option.some.inj H
            have kH := aX.out
            have kI := ap.out
            have kJ := aY.out
            have kK := aq.out
            have kL := aZ.out
            have kM := ar.out
            have kN := ba.out
            have kO := au.out
            have kP := aI.out
            have kQ := av.out
            have i6 : wr.cell? ⟨ah, 0, none⟩ = some (.int .i64 aO) := (Jbc af.out 0).trans rfl
            have i7 : wr.cell? ⟨ah, 1, none⟩ = some (.slice bk aE.length bl) := (Jbc af.out 1).trans rfl
            have i8 : wr.cell? ⟨ah, 2, none⟩ = some (.int .i64 bd) := (Jbc af.out 2).trans rfl
            have i9 : wr.cell? ⟨ah, 3, none⟩ = some (.int .i64 bj) := (Jbc af.out 3).trans rfl
            have ja := blk_frozen af.out 0
            have jb := blk_frozen af.out 1
            have jc := blk_frozen af.out 2
            have jd := blk_frozen af.out 3
            have kR := aV.out
            have kS := ay.out
            have kT := aW.out
            have kU := az.out
            have kV := aL.out
            have kW := aA.out
            have kX := aH.out
            have kY := bb.out
            have je : wr.cell? ⟨ag, 0, none⟩ = some (.int .i64 aC) := (Jbc ad.out 0).trans rfl
            have jf : wr.cell? ⟨ag, 1, none⟩ = some (.slice aP aw.length aQ) := (Jbc ad.out 1).trans rfl
            have jg : wr.cell? ⟨ag, 2, none⟩ = some (.int .i64 aK) := (Jbc ad.out 2).trans rfl
            have jh : wr.cell? ⟨ag, 3, none⟩ = some (.int .i64 aN) := (Jbc ad.out 3).trans rfl
            have ji := blk_frozen ad.out 0
            have jj := blk_frozen ad.out 1
            have jk := blk_frozen ad.out 2
            have jl := blk_frozen ad.out 3
            go_wp2_with (first | (go_at_call 21; (with_reducible refine (plant_All.calls k3 aC _ _ aw aK aN cl _ ?side1 ?side2 im.out).mono ?_); (case side1 => repeat (first | exact (Kd.Q_reads' HO_354001.out).2.2 | (with_reducible refine Kd.C_alloc ?_ _) | (with_reducible refine Kd.C_drewN ?_ _) | (with_reducible refine Kd.C_drew ?_))); (case side2 => exact (Kd.Q_reads' HO_354001.out).2.1); rintro e ck ⟨rfl, hb⟩; have n0_ := JA (Kd.Q_below (by (with_reducible repeat (first | apply Kd.Q_alloc | apply Kd.Q_drewN | apply Kd.Q_drew)); exact HO_354001.out) hb); have n1_ := JA (Kd.Q_below (by (with_reducible repeat (first | apply Kd.Q_alloc | apply Kd.Q_drewN | apply Kd.Q_drew)); exact HO_364001.out) hb); have n2_ := JA (Jbb (g := ac) (o := .cells #[.int .i64 a0_0, .int .i64 a0_1, .int .i64 a0_2, .int .i64 a0_3, .int .i64 a0_4, .int .i64 a0_5, .int .i64 a0_6, .int .i64 a0_7, .int .i64 a0_8, .int .i64 a0_9, .int .i64 a0_10, .int .i64 a0_11] 23 (0, 0)) (by (with_reducible repeat first | apply Jbn | apply Jbd | apply Jba); exact aa.out) hb); have n3_ := JA (Jbb (g := ae) (o := .cells #[.int .i64 a1_0, .slice A1_1 l1_1.length c1_1, .int .i64 a1_2, .int .i64 a1_3] 26 (0, 0)) (by (with_reducible repeat first | apply Jbn | apply Jbd | apply Jba); exact ab.out) hb); have n4_ := JA (Jbb (g := ag) (o := .cells #[.int .i64 aC, .slice aP aw.length aQ, .int .i64 aK, .int .i64 aN] 26 (0, 0)) (by (with_reducible repeat first | apply Jbn | apply Jbd | apply Jba); exact ad.out) hb); have n5_ := JA (Jbb (g := an) (o := .cells #[.int .i64 bc, .bool bh] 31 (0, 0)) (by (with_reducible repeat first | apply Jbn | apply Jbd | apply Jba); exact am.out) hb); have n6_ := JA (Jbb (g := ah) (o := .cells #[.int .i64 aO, .slice bk aE.length bl, .int .i64 bd, .int .i64 bj] 26 (0, 0)) (by (with_reducible repeat first | apply Jbn | apply Jbd | apply Jba); exact af.out) hb); have n7_ := JA (Jbb (g := ao) (o := .cells #[.int .i64 bz, .bool bH] 31 (0, 0)) (by (with_reducible repeat first | apply Jbn | apply Jbd | apply Jba); exact aG.out) hb); have n8_ := JA (Jst (by repeat (first | (with_reducible first | exact HB.out | apply Jla | apply Jln | apply Jld | refine Jse ?_ aj.out | refine Jse ?_ ak.out | refine Jse ?_ aD.out | refine Jse ?_ aM.out | refine Jse ?_ bi.out | refine Jse ?_ bu.out) | exact HB.out)) hb); clear HO_354001; clear HO_364001; clear aa; clear ab; clear ad; clear am; clear af; clear aG; clear HB; have HO_354001 := n0_; have HO_364001 := n1_; have aa := n2_; have ab := n3_; have ad := n4_; have am := n5_; have af := n6_; have aG := n7_; have HB := n8_; clear n0_ n1_ n2_ n3_ n4_ n5_ n6_ n7_ n8_; (try clear hb); (try clear bV); (try clear hk); (try clear hi); have fv : ck.cell? ⟨ah, 0, none⟩ = some (.int .i64 aO) := (Jbc af.out 0).trans rfl; have fw : ck.cell? ⟨ah, 1, none⟩ = some (.slice bk aE.length bl) := (Jbc af.out 1).trans rfl; have fx : ck.cell? ⟨ah, 2, none⟩ = some (.int .i64 bd) := (Jbc af.out 2).trans rfl; have fy : ck.cell? ⟨ah, 3, none⟩ = some (.int .i64 bj) := (Jbc af.out 3).trans rfl; have fz := blk_frozen af.out 0; have fA := blk_frozen af.out 1; have fB := blk_frozen af.out 2; have fC := blk_frozen af.out 3) | (go_at_call 21; (with_reducible refine (plant_All.calls k3 aO _ _ aE bd bj d4 _ ?side1 ?side2 iq.out).mono ?_); (case side1 => repeat (first | exact (Kd.Q_reads' HO_364001.out).2.2 | (with_reducible refine Kd.C_alloc ?_ _) | (with_reducible refine Kd.C_drewN ?_ _) | (with_reducible refine Kd.C_drew ?_))); (case side2 => exact (Kd.Q_reads' HO_364001.out).2.1); rintro e jm ⟨rfl, hb⟩; have n0_ := JA (Kd.Q_below (by (with_reducible repeat (first | apply Kd.Q_alloc | apply Kd.Q_drewN | apply Kd.Q_drew)); exact HO_354001.out) hb); have n1_ := JA (Kd.Q_below (by (with_reducible repeat (first | apply Kd.Q_alloc | apply Kd.Q_drewN | apply Kd.Q_drew)); exact HO_364001.out) hb); have n2_ := JA (Jbb (g := ac) (o := .cells #[.int .i64 a0_0, .int .i64 a0_1, .int .i64 a0_2, .int .i64 a0_3, .int .i64 a0_4, .int .i64 a0_5, .int .i64 a0_6, .int .i64 a0_7, .int .i64 a0_8, .int .i64 a0_9, .int .i64 a0_10, .int .i64 a0_11] 23 (0, 0)) (by (with_reducible repeat first | apply Jbn | apply Jbd | apply Jba); exact aa.out) hb); have n3_ := JA (Jbb (g := ae) (o := .cells #[.int .i64 a1_0, .slice A1_1 l1_1.length c1_1, .int .i64 a1_2, .int .i64 a1_3] 26 (0, 0)) (by (with_reducible repeat first | apply Jbn | apply Jbd | apply Jba); exact ab.out) hb); have n4_ := JA (Jbb (g := ag) (o := .cells #[.int .i64 aC, .slice aP aw.length aQ, .int .i64 aK, .int .i64 aN] 26 (0, 0)) (by (with_reducible repeat first | apply Jbn | apply Jbd | apply Jba); exact ad.out) hb); have n5_ := JA (Jbb (g := an) (o := .cells #[.int .i64 bc, .bool bh] 31 (0, 0)) (by (with_reducible repeat first | apply Jbn | apply Jbd | apply Jba); exact am.out) hb); have n6_ := JA (Jbb (g := ah) (o := .cells #[.int .i64 aO, .slice bk aE.length bl, .int .i64 bd, .int .i64 bj] 26 (0, 0)) (by (with_reducible repeat first | apply Jbn | apply Jbd | apply Jba); exact af.out) hb); have n7_ := JA (Jbb (g := ao) (o := .cells #[.int .i64 bz, .bool bH] 31 (0, 0)) (by (with_reducible repeat first | apply Jbn | apply Jbd | apply Jba); exact aG.out) hb); have n8_ := JA (Jst (by repeat (first | (with_reducible first | exact HB.out | apply Jla | apply Jln | apply Jld | refine Jse ?_ aj.out | refine Jse ?_ ak.out | refine Jse ?_ aD.out | refine Jse ?_ aM.out | refine Jse ?_ bi.out | refine Jse ?_ bu.out) | exact HB.out)) hb); clear HO_354001; clear HO_364001; clear aa; clear ab; clear ad; clear am; clear af; clear aG; clear HB; have HO_354001 := n0_; have HO_364001 := n1_; have aa := n2_; have ab := n3_; have ad := n4_; have am := n5_; have af := n6_; have aG := n7_; have HB := n8_; clear n0_ n1_ n2_ n3_ n4_ n5_ n6_ n7_ n8_; (try clear hb); (try clear bV); (try clear hk); (try clear hi)))
            repeat (go_quiet (first | (go_at_call 21; (with_reducible refine (plant_All.calls k3 aC _ _ aw aK aN cl _ ?side1 ?side2 im.out).mono ?_); (case side1 => repeat (first | exact (Kd.Q_reads' HO_354001.out).2.2 | (with_reducible refine Kd.C_alloc ?_ _) | (with_reducible refine Kd.C_drewN ?_ _) | (with_reducible refine Kd.C_drew ?_))); (case side2 => exact (Kd.Q_reads' HO_354001.out).2.1); rintro e ck ⟨rfl, hb⟩; have n0_ := JA (Kd.Q_below (by (with_reducible repeat (first | apply Kd.Q_alloc | apply Kd.Q_drewN | apply Kd.Q_drew)); exact HO_354001.out) hb); have n1_ := JA (Kd.Q_below (by (with_reducible repeat (first | apply Kd.Q_alloc | apply Kd.Q_drewN | apply Kd.Q_drew)); exact HO_364001.out) hb); have n2_ := JA (Jbb (g := ac) (o := .cells #[.int .i64 a0_0, .int .i64 a0_1, .int .i64 a0_2, .int .i64 a0_3, .int .i64 a0_4, .int .i64 a0_5, .int .i64 a0_6, .int .i64 a0_7, .int .i64 a0_8, .int .i64 a0_9, .int .i64 a0_10, .int .i64 a0_11] 23 (0, 0)) (by (with_reducible repeat first | apply Jbn | apply Jbd | apply Jba); exact aa.out) hb); have n3_ := JA (Jbb (g := ae) (o := .cells #[.int .i64 a1_0, .slice A1_1 l1_1.length c1_1, .int .i64 a1_2, .int .i64 a1_3] 26 (0, 0)) (by (with_reducible repeat first | apply Jbn | apply Jbd | apply Jba); exact ab.out) hb); have n4_ := JA (Jbb (g := ag) (o := .cells #[.int .i64 aC, .slice aP aw.length aQ, .int .i64 aK, .int .i64 aN] 26 (0, 0)) (by (with_reducible repeat first | apply Jbn | apply Jbd | apply Jba); exact ad.out) hb); have n5_ := JA (Jbb (g := an) (o := .cells #[.int .i64 bc, .bool bh] 31 (0, 0)) (by (with_reducible repeat first | apply Jbn | apply Jbd | apply Jba); exact am.out) hb); have n6_ := JA (Jbb (g := ah) (o := .cells #[.int .i64 aO, .slice bk aE.length bl, .int .i64 bd, .int .i64 bj] 26 (0, 0)) (by (with_reducible repeat first | apply Jbn | apply Jbd | apply Jba); exact af.out) hb); have n7_ := JA (Jbb (g := ao) (o := .cells #[.int .i64 bz, .bool bH] 31 (0, 0)) (by (with_reducible repeat first | apply Jbn | apply Jbd | apply Jba); exact aG.out) hb); have n8_ := JA (Jst (by repeat (first | (with_reducible first | exact HB.out | apply Jla | apply Jln | apply Jld | refine Jse ?_ aj.out | refine Jse ?_ ak.out | refine Jse ?_ aD.out | refine Jse ?_ aM.out | refine Jse ?_ bi.out | refine Jse ?_ bu.out) | exact HB.out)) hb); clear HO_354001; clear HO_364001; clear aa; clear ab; clear ad; clear am; clear af; clear aG; clear HB; have HO_354001 := n0_; have HO_364001 := n1_; have aa := n2_; have ab := n3_; have ad := n4_; have am := n5_; have af := n6_; have aG := n7_; have HB := n8_; clear n0_ n1_ n2_ n3_ n4_ n5_ n6_ n7_ n8_; (try clear hb); (try clear bV); (try clear hk); (try clear hi); have fv : ck.cell? ⟨ah, 0, none⟩ = some (.int .i64 aO) := (Jbc af.out 0).trans rfl; have fw : ck.cell? ⟨ah, 1, none⟩ = some (.slice bk aE.length bl) := (Jbc af.out 1).trans rfl; have fx : ck.cell? ⟨ah, 2, none⟩ = some (.int .i64 bd) := (Jbc af.out 2).trans rfl; have fy : ck.cell? ⟨ah, 3, none⟩ = some (.int .i64 bj) := (Jbc af.out 3).trans rfl; have fz := blk_frozen af.out 0; have fA := blk_frozen af.out 1; have fB := blk_frozen af.out 2; have fC := blk_frozen af.out 3) | (go_at_call 21; (with_reducible refine (plant_All.calls k3 aO _ _ aE bd bj d4 _ ?side1 ?side2 iq.out).mono ?_); (case side1 => repeat (first | exact (Kd.Q_reads' HO_364001.out).2.2 | (with_reducible refine Kd.C_alloc ?_ _) | (with_reducible refine Kd.C_drewN ?_ _) | (with_reducible refine Kd.C_drew ?_))); (case side2 => exact (Kd.Q_reads' HO_364001.out).2.1); rintro e jm ⟨rfl, hb⟩; have n0_ := JA (Kd.Q_below (by (with_reducible repeat (first | apply Kd.Q_alloc | apply Kd.Q_drewN | apply Kd.Q_drew)); exact HO_354001.out) hb); have n1_ := JA (Kd.Q_below (by (with_reducible repeat (first | apply Kd.Q_alloc | apply Kd.Q_drewN | apply Kd.Q_drew)); exact HO_364001.out) hb); have n2_ := JA (Jbb (g := ac) (o := .cells #[.int .i64 a0_0, .int .i64 a0_1, .int .i64 a0_2, .int .i64 a0_3, .int .i64 a0_4, .int .i64 a0_5, .int .i64 a0_6, .int .i64 a0_7, .int .i64 a0_8, .int .i64 a0_9, .int .i64 a0_10, .int .i64 a0_11] 23 (0, 0)) (by (with_reducible repeat first | apply Jbn | apply Jbd | apply Jba); exact aa.out) hb); have n3_ := JA (Jbb (g := ae) (o := .cells #[.int .i64 a1_0, .slice A1_1 l1_1.length c1_1, .int .i64 a1_2, .int .i64 a1_3] 26 (0, 0)) (by (with_reducible repeat first | apply Jbn | apply Jbd | apply Jba); exact ab.out) hb); have n4_ := JA (Jbb (g := ag) (o := .cells #[.int .i64 aC, .slice aP aw.length aQ, .int .i64 aK, .int .i64 aN] 26 (0, 0)) (by (with_reducible repeat first | apply Jbn | apply Jbd | apply Jba); exact ad.out) hb); have n5_ := JA (Jbb (g := an) (o := .cells #[.int .i64 bc, .bool bh] 31 (0, 0)) (by (with_reducible repeat first | apply Jbn | apply Jbd | apply Jba); exact am.out) hb); have n6_ := JA (Jbb (g := ah) (o := .cells #[.int .i64 aO, .slice bk aE.length bl, .int .i64 bd, .int .i64 bj] 26 (0, 0)) (by (with_reducible repeat first | apply Jbn | apply Jbd | apply Jba); exact af.out) hb); have n7_ := JA (Jbb (g := ao) (o := .cells #[.int .i64 bz, .bool bH] 31 (0, 0)) (by (with_reducible repeat first | apply Jbn | apply Jbd | apply Jba); exact aG.out) hb); have n8_ := JA (Jst (by repeat (first | (with_reducible first | exact HB.out | apply Jla | apply Jln | apply Jld | refine Jse ?_ aj.out | refine Jse ?_ ak.out | refine Jse ?_ aD.out | refine Jse ?_ aM.out | refine Jse ?_ bi.out | refine Jse ?_ bu.out) | exact HB.out)) hb); clear HO_354001; clear HO_364001; clear aa; clear ab; clear ad; clear am; clear af; clear aG; clear HB; have HO_354001 := n0_; have HO_364001 := n1_; have aa := n2_; have ab := n3_; have ad := n4_; have am := n5_; have af := n6_; have aG := n7_; have HB := n8_; clear n0_ n1_ n2_ n3_ n4_ n5_ n6_ n7_ n8_; (try clear hb); (try clear bV); (try clear hk); (try clear hi))); try go_wp2_with (first | (go_at_call 21; (with_reducible refine (plant_All.calls k3 aC _ _ aw aK aN cl _ ?side1 ?side2 im.out).mono ?_); (case side1 => repeat (first | exact (Kd.Q_reads' HO_354001.out).2.2 | (with_reducible refine Kd.C_alloc ?_ _) | (with_reducible refine Kd.C_drewN ?_ _) | (with_reducible refine Kd.C_drew ?_))); (case side2 => exact (Kd.Q_reads' HO_354001.out).2.1); rintro e ck ⟨rfl, hb⟩; have n0_ := JA (Kd.Q_below (by (with_reducible repeat (first | apply Kd.Q_alloc | apply Kd.Q_drewN | apply Kd.Q_drew)); exact HO_354001.out) hb); have n1_ := JA (Kd.Q_below (by (with_reducible repeat (first | apply Kd.Q_alloc | apply Kd.Q_drewN | apply Kd.Q_drew)); exact HO_364001.out) hb); have n2_ := JA (Jbb (g := ac) (o := .cells #[.int .i64 a0_0, .int .i64 a0_1, .int .i64 a0_2, .int .i64 a0_3, .int .i64 a0_4, .int .i64 a0_5, .int .i64 a0_6, .int .i64 a0_7, .int .i64 a0_8, .int .i64 a0_9, .int .i64 a0_10, .int .i64 a0_11] 23 (0, 0)) (by (with_reducible repeat first | apply Jbn | apply Jbd | apply Jba); exact aa.out) hb); have n3_ := JA (Jbb (g := ae) (o := .cells #[.int .i64 a1_0, .slice A1_1 l1_1.length c1_1, .int .i64 a1_2, .int .i64 a1_3] 26 (0, 0)) (by (with_reducible repeat first | apply Jbn | apply Jbd | apply Jba); exact ab.out) hb); have n4_ := JA (Jbb (g := ag) (o := .cells #[.int .i64 aC, .slice aP aw.length aQ, .int .i64 aK, .int .i64 aN] 26 (0, 0)) (by (with_reducible repeat first | apply Jbn | apply Jbd | apply Jba); exact ad.out) hb); have n5_ := JA (Jbb (g := an) (o := .cells #[.int .i64 bc, .bool bh] 31 (0, 0)) (by (with_reducible repeat first | apply Jbn | apply Jbd | apply Jba); exact am.out) hb); have n6_ := JA (Jbb (g := ah) (o := .cells #[.int .i64 aO, .slice bk aE.length bl, .int .i64 bd, .int .i64 bj] 26 (0, 0)) (by (with_reducible repeat first | apply Jbn | apply Jbd | apply Jba); exact af.out) hb); have n7_ := JA (Jbb (g := ao) (o := .cells #[.int .i64 bz, .bool bH] 31 (0, 0)) (by (with_reducible repeat first | apply Jbn | apply Jbd | apply Jba); exact aG.out) hb); have n8_ := JA (Jst (by repeat (first | (with_reducible first | exact HB.out | apply Jla | apply Jln | apply Jld | refine Jse ?_ aj.out | refine Jse ?_ ak.out | refine Jse ?_ aD.out | refine Jse ?_ aM.out | refine Jse ?_ bi.out | refine Jse ?_ bu.out) | exact HB.out)) hb); clear HO_354001; clear HO_364001; clear aa; clear ab; clear ad; clear am; clear af; clear aG; clear HB; have HO_354001 := n0_; have HO_364001 := n1_; have aa := n2_; have ab := n3_; have ad := n4_; have am := n5_; have af := n6_; have aG := n7_; have HB := n8_; clear n0_ n1_ n2_ n3_ n4_ n5_ n6_ n7_ n8_; (try clear hb); (try clear bV); (try clear hk); (try clear hi); have fv : ck.cell? ⟨ah, 0, none⟩ = some (.int .i64 aO) := (Jbc af.out 0).trans rfl; have fw : ck.cell? ⟨ah, 1, none⟩ = some (.slice bk aE.length bl) := (Jbc af.out 1).trans rfl; have fx : ck.cell? ⟨ah, 2, none⟩ = some (.int .i64 bd) := (Jbc af.out 2).trans rfl; have fy : ck.cell? ⟨ah, 3, none⟩ = some (.int .i64 bj) := (Jbc af.out 3).trans rfl; have fz := blk_frozen af.out 0; have fA := blk_frozen af.out 1; have fB := blk_frozen af.out 2; have fC := blk_frozen af.out 3) | (go_at_call 21; (with_reducible refine (plant_All.calls k3 aO _ _ aE bd bj d4 _ ?side1 ?side2 iq.out).mono ?_); (case side1 => repeat (first | exact (Kd.Q_reads' HO_364001.out).2.2 | (with_reducible refine Kd.C_alloc ?_ _) | (with_reducible refine Kd.C_drewN ?_ _) | (with_reducible refine Kd.C_drew ?_))); (case side2 => exact (Kd.Q_reads' HO_364001.out).2.1); rintro e jm ⟨rfl, hb⟩; have n0_ := JA (Kd.Q_below (by (with_reducible repeat (first | apply Kd.Q_alloc | apply Kd.Q_drewN | apply Kd.Q_drew)); exact HO_354001.out) hb); have n1_ := JA (Kd.Q_below (by (with_reducible repeat (first | apply Kd.Q_alloc | apply Kd.Q_drewN | apply Kd.Q_drew)); exact HO_364001.out) hb); have n2_ := JA (Jbb (g := ac) (o := .cells #[.int .i64 a0_0, .int .i64 a0_1, .int .i64 a0_2, .int .i64 a0_3, .int .i64 a0_4, .int .i64 a0_5, .int .i64 a0_6, .int .i64 a0_7, .int .i64 a0_8, .int .i64 a0_9, .int .i64 a0_10, .int .i64 a0_11] 23 (0, 0)) (by (with_reducible repeat first | apply Jbn | apply Jbd | apply Jba); exact aa.out) hb); have n3_ := JA (Jbb (g := ae) (o := .cells #[.int .i64 a1_0, .slice A1_1 l1_1.length c1_1, .int .i64 a1_2, .int .i64 a1_3] 26 (0, 0)) (by (with_reducible repeat first | apply Jbn | apply Jbd | apply Jba); exact ab.out) hb); have n4_ := JA (Jbb (g := ag) (o := .cells #[.int .i64 aC, .slice aP aw.length aQ, .int .i64 aK, .int .i64 aN] 26 (0, 0)) (by (with_reducible repeat first | apply Jbn | apply Jbd | apply Jba); exact ad.out) hb); have n5_ := JA (Jbb (g := an) (o := .cells #[.int .i64 bc, .bool bh] 31 (0, 0)) (by (with_reducible repeat first | apply Jbn | apply Jbd | apply Jba); exact am.out) hb); have n6_ := JA (Jbb (g := ah) (o := .cells #[.int .i64 aO, .slice bk aE.length bl, .int .i64 bd, .int .i64 bj] 26 (0, 0)) (by (with_reducible repeat first | apply Jbn | apply Jbd | apply Jba); exact af.out) hb); have n7_ := JA (Jbb (g := ao) (o := .cells #[.int .i64 bz, .bool bH] 31 (0, 0)) (by (with_reducible repeat first | apply Jbn | apply Jbd | apply Jba); exact aG.out) hb); have n8_ := JA (Jst (by repeat (first | (with_reducible first | exact HB.out | apply Jla | apply Jln | apply Jld | refine Jse ?_ aj.out | refine Jse ?_ ak.out | refine Jse ?_ aD.out | refine Jse ?_ aM.out | refine Jse ?_ bi.out | refine Jse ?_ bu.out) | exact HB.out)) hb); clear HO_354001; clear HO_364001; clear aa; clear ab; clear ad; clear am; clear af; clear aG; clear HB; have HO_354001 := n0_; have HO_364001 := n1_; have aa := n2_; have ab := n3_; have ad := n4_; have am := n5_; have af := n6_; have aG := n7_; have HB := n8_; clear n0_ n1_ n2_ n3_ n4_ n5_ n6_ n7_ n8_; (try clear hb); (try clear bV); (try clear hk); (try clear hi))))
            go_ret
            exact ⟨by first | rfl | (simp [errW_none, errW_some] <;> rfl) | (simp only [← d6]; first | rfl | (simp [errW_none, errW_some] <;> rfl)) | (simp [*, errW_none, errW_some] <;> rfl), by repeat (first | (with_reducible first | exact HB.out | apply Jla | apply Jln | apply Jld | refine Jse ?_ aj.out | refine Jse ?_ ak.out | refine Jse ?_ aD.out | refine Jse ?_ aM.out | refine Jse ?_ bi.out | refine Jse ?_ bu.out) | exact HB.out)⟩
           ·rw [if_neg fL] at H
            have io : (cl == aJ) = false := beq_eq_false_iff_ne.mpr fL
            have ip : (cl != aJ) = true := bne_iff_ne.mpr fL
            exact absurd (Option.some.inj H) (by rw [HRT.out]; decide)
          ·replace hv := Bool.eq_false_iff.mpr hv
           subst hv
           have H1 : (some false) = some r := by rw [if_neg (show ¬ (false = true) by decide)] at H; exact H
           clear H
           have H := H1
           clear H1
           exact absurd (Option.some.inj H) (by rw [HRT.out]; decide)

end Go.Proofs.Ytgeldfjpafimpaa.PAll
