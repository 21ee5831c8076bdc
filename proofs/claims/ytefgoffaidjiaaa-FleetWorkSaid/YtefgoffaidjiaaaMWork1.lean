/- The law FleetWork (P18.1): of two sims that are alike but for what waits, the one of which less waits has no more wait behind a step; for every configuration, sim, demand and time. -/
import Derived.Test.YtefgoffaidjiaaaMcA5
namespace Go.Proofs.Ytefgoffaidjiaaa.PAll
open Go.RowKit Go.Proofs.YtefgoffaidjiaaaW.PrintWords Go.Proofs.YtefgoffaidjiaaaW.PrintLast Go.Proofs.YtefgoffaidjiaaaW.PrintMore
set_option linter.unusedVariables false
set_option linter.unusedSimpArgs false
attribute [local go_sem] max2_int min2_int max_two min_two
attribute [local go_sem high] eqH31
set_option maxHeartbeats 8000000 in
set_option maxRecDepth 100000 in
theorem governorlaw18_FleetWork.walk2 (w : World) (cs0 : Array Value) (x0 : S23) (g0 : k23.K w x0 cs0.toList) (o0 : ok23 x0) (cs1 : Array Value) (x1 : S37) (g1 : k37.K w x1 cs1.toList) (o1 : ok37 x1) (x2 : Int) (o2 : (Lit.int .u32 x2).wf = true) (x3 : Int) (o3 : (Lit.int .i64 x3).wf = true) (x4 : Int) (o4 : (Lit.int .i64 x4).wf = true) :
    Calls Try.prog 8 #[.agg cs0, .agg cs1, .int .u32 x2, .int .i64 x3, .int .i64 x4] w fun e w' => e = .returned (.bool true) ∧ Below w.heap.size w w' := by
  have hu0 := Try.underlying69
  have hu1 := Try.underlying37
  have hu2 := Try.underlying27
  have hu3 := Try.underlying29
  have hu4 := Try.underlying23
  have hu5 := Try.underlying31
  have hu6 := Try.underlying34
  have hu7 := Try.underlying52
  have ec := k23_open g0
  obtain rfl : cs0 = #[.int .i64 x0.f0, .int .i64 x0.f1, .int .i64 x0.f2, .int .i64 x0.f3, .int .i64 x0.f4, .int .i64 x0.f5, .int .i64 x0.f6, .int .i64 x0.f7, .int .i64 x0.f8, .int .i64 x0.f9, .int .i64 x0.f10, .int .i64 x0.f11] := by cases cs0; simpa using ec
  clear ec
  have HK1 := Aside0.mk g1
  obtain ⟨A2, c2, A7, c7, A15, c15, A18, c18, e1, l2, r2, l7, r7, l15, r15, l18, r18⟩ := k37_open g1
  have ecs : cs1 = #[.int .i64 x1.f0.f0, .int .i64 x1.f0.f1, .slice A2 x1.f0.f2.length c2, .int .i64 x1.f0.f3, .int .i64 x1.f0.f4, .int .i64 x1.f0.f5, .int .i64 x1.f0.f6, .slice A7 x1.f0.f7.length c7, .int .i64 x1.f1.f0, .int .i64 x1.f1.f1, .bool x1.f1.f2, .int .i64 x1.f2.f0, .int .i64 x1.f2.f1, .bool x1.f2.f2, .int .i64 x1.f3.f0, .slice A15 x1.f3.f1.length c15, .int .i64 x1.f3.f2, .int .i64 x1.f3.f3, .slice A18 x1.f4.length c18] := by cases cs1; simpa using e1
  clear e1 l2 r2 l7 r7 l15 r15 l18 r18
  have hx0 := HK1.out
  rw [ecs] at hx0 ⊢
  go_enter Try.func8, Try.ntmps8
  go_upto_region 1 with (fail)
  have ht := ctx_mk w #[.int .i64 x0.f0, .int .i64 x0.f1, .int .i64 x0.f2, .int .i64 x0.f3, .int .i64 x0.f4, .int .i64 x0.f5, .int .i64 x0.f6, .int .i64 x0.f7, .int .i64 x0.f8, .int .i64 x0.f9, .int .i64 x0.f10, .int .i64 x0.f11] _ x1 hx0
  generalize (w.alloc _).alloc _ = W at ht ⊢
  rw [← ecs] at ht
  have HX := Aside0.mk ht
  have HE := Aside0.mk ecs
  clear ht hx0 ecs g1
  have xc := blk_cell HX.out.hC
  go_upto_region 2 with (go_at_call 9; refine (governorlaw18_head.calls true _ rfl).mono ?_; rintro e_ w1 ⟨rfl, hb⟩; replace HX := Aside0.mk (HX.out.below hb); clear hb xc; have xc := blk_cell HX.out.hC)
  obtain ⟨r, hr, hP⟩ := right_tells x1 20 (Nat.le_refl _)
  have HR := Aside0.mk hr
  have HP := Aside0.mk (fun h : r = true => hP h)
  have HW2 := Aside0.mk (wfu32 o2)
  clear hr hP o0 o1 o2 o3 o4
  have xk : ∀ W : World, Ctx w W #[.int .i64 x0.f0, .int .i64 x0.f1, .int .i64 x0.f2, .int .i64 x0.f3, .int .i64 x0.f4, .int .i64 x0.f5, .int .i64 x0.f6, .int .i64 x0.f7, .int .i64 x0.f8, .int .i64 x0.f9, .int .i64 x0.f10, .int .i64 x0.f11] [(w.heap.size + 1, x1, cs1)] → W.cell? ⟨w.heap.size + 1, 0, none⟩ = some (.int .i64 x1.f0.f0) := fun W h => by rw [blk_cell (h.heap (g := w.heap.size + 1) (x := x1) (cs := cs1) (by simp)) 0, HE.out]; rfl
  have HXK := Aside0.mk xk
  clear xk
  have hq : confB x0 = false ∨ (confB x0 = true ∧ (r = false ∨ (r = true ∧ (timeB x4 = false ∨ (timeB x4 = true ∧ ((x1.f0.f0 == 4) = false ∨ (x1.f0.f0 == 4) = true)))))) := by cases confB x0 <;> cases r <;> cases timeB x4 <;> cases (x1.f0.f0 == 4) <;> simp
  rcases hq with h1 | ⟨h1, rfl | ⟨rfl, h3 | ⟨h3, h4 | h4⟩⟩⟩
  rotate_right 1
  rotate_left 1
  iterate 4
    · go_wp2_with (first
        | (go_at_call 10; refine (conf_w x0 _).mono ?_; rintro e_ w1 ⟨rfl, hb⟩; replace HX := Aside0.mk (HX.out.below hb); clear hb xc; have xc := blk_cell HX.out.hC)
        | (go_at_call 11; refine (right_w (HX.out.K (g := w.heap.size + 1) (x := x1) (cs := cs1) (by simp)) HR.out).mono ?_; rintro e_ w1 ⟨rfl, hb⟩; replace HX := Aside0.mk (HX.out.below hb); clear hb xc; have xc := blk_cell HX.out.hC; have xk := HXK.out _ HX.out)
        | (go_at_call 12; refine (time_w x4 _).mono ?_; rintro e_ w1 ⟨rfl, hb⟩; replace HX := Aside0.mk (HX.out.below hb); clear hb xc; (try clear xk); have xc := blk_cell HX.out.hC; have xk := HXK.out _ HX.out)
        | ((with_reducible refine gate_dst (N := 20) rfl ?_); (try (refine gate_guard (by rfl) ?_; dsimp only)); refine load_pre rfl 37 (.tmp 6) rfl (w.heap.size + 1) rfl cs1 _ (range_row (HX.out.heap (x := x1) (by simp))) hu1 rfl (k_info (HX.out.K (x := x1) (g := (w.heap.size + 1)) (by simp))) ?_))
      go_ret
      exact ⟨rfl, HX.out.hS.1⟩
  have P := HP.out rfl
  have C := conf_cfg h1
  have T : 0 ≤ x4 ∧ x4 ≤ 1099511627776 := by simpa [timeB] using h3
  have v0 : 0 ≤ mx 0 (x1.f3.f2 - x2) := by unfold mx; omega
  have v1 : mx 0 (x1.f3.f2 - x2) ≤ x1.f3.f2 := by have := P.pl.w0; have := HW2.out; unfold mx; omega
  have HV := Aside0.mk (show wrap64 x2 = x2 ∧ wrap64 (x1.f3.f2 - x2) = x1.f3.f2 - x2 from ⟨wr (by have := HW2.out; omega) (by have := HW2.out; omega), wr (by have := P.pl.w0; have := HW2.out; omega) (by have := P.pl.w1; have := HW2.out; omega)⟩)
  have FA := Aside0.mk (step_tells C P x3 x4 T.1 T.2 20 (Nat.le_refl _))
  have FB := Aside0.mk (step_tells C (wait_sim P v0 v1) x3 x4 T.1 T.2 20 (Nat.le_refl _))
  have FW := Aside0.mk (work_tells C P (by simpa using h4) v0 v1 x3 x4)
  have HSP := Aside0.mk P
  clear P C T v0 v1 HP
  go_upto_region 4 with (first
    | (go_at_call 10; refine (conf_w x0 _).mono ?_; rintro e_ w1 ⟨rfl, hb⟩; replace HX := Aside0.mk (HX.out.below hb); clear hb xc; have xc := blk_cell HX.out.hC)
    | (go_at_call 11; refine (right_w (HX.out.K (g := w.heap.size + 1) (x := x1) (cs := cs1) (by simp)) HR.out).mono ?_; rintro e_ w1 ⟨rfl, hb⟩; replace HX := Aside0.mk (HX.out.below hb); clear hb xc; have xc := blk_cell HX.out.hC; have xk := HXK.out _ HX.out)
    | (go_at_call 12; refine (time_w x4 _).mono ?_; rintro e_ w1 ⟨rfl, hb⟩; replace HX := Aside0.mk (HX.out.below hb); clear hb xc; (try clear xk); have xc := blk_cell HX.out.hC; have xk := HXK.out _ HX.out)
    | ((with_reducible refine gate_dst (N := 20) rfl ?_); (try (refine gate_guard (by rfl) ?_; dsimp only)); refine load_pre rfl 37 (.tmp 6) rfl (w.heap.size + 1) rfl cs1 _ (range_row (HX.out.heap (x := x1) (by simp))) hu1 rfl (k_info (HX.out.K (x := x1) (g := (w.heap.size + 1)) (by simp))) ?_))
  clear HR h1 h3 h4
  (try clear xk)
  clear HXK
  go_cut [12] (fun v wc => ∃ (g b : Nat) (cs : Array Value), v = .pointer (some ⟨g, 0, none⟩) ∧ Ctx w wc #[.int .i64 x0.f0, .int .i64 x0.f1, .int .i64 x0.f2, .int .i64 x0.f3, .int .i64 x0.f4, .int .i64 x0.f5, .int .i64 x0.f6, .int .i64 x0.f7, .int .i64 x0.f8, .int .i64 x0.f9, .int .i64 x0.f10, .int .i64 x0.f11] ((g, x1, cs) :: [(w.heap.size + 1, x1, cs1)]) ∧ OwnX b wc x1 cs ∧ w.heap.size ≤ g ∧ w.heap.size + 1 < g)
  case first =>
    have HLT := Aside0.mk (blk_lt (HX.out.heap (x := x1) (cs := cs1) (g := w.heap.size + 1) (by simp)))
    go_wp2_with (first
      | ((with_reducible refine gate_dst (N := 36) rfl ?_); (try (refine gate_guard (by rfl) ?_; dsimp only)); refine load_pre rfl 37 (.tmp 6) rfl (w.heap.size + 1) rfl cs1 _ (range_row (HX.out.heap (x := x1) (by simp))) hu1 rfl (k_info (HX.out.K (x := x1) (g := (w.heap.size + 1)) (by simp))) ?_)
      | (go_at_call 21; refine (rown_w (HX.out.K (g := w.heap.size + 1) (x := x1) (cs := cs1) (by simp)) HSP.out).mono ?_; rintro e_ w2 ⟨c5, rfl, own, hb⟩; have hsz := k_size own.K; have HO := Aside0.mk own; have HB := Aside0.mk hb; clear own hb xc)
      | ((with_reducible refine gate_dst (N := 12) rfl ?_); refine box_event ?hg (N := 12) ?hd (cs := #[.int .i64 0, .int .i64 0, .slice none 0 0, .int .i64 0, .int .i64 0, .int .i64 0, .int .i64 0, .slice none 0 0, .int .i64 0, .int .i64 0, .bool false, .int .i64 0, .int .i64 0, .bool false, .int .i64 0, .slice none 0 0, .int .i64 0, .int .i64 0, .slice none 0 0]) (t := 37) ?hr ?_; (case hd => rfl); (case hg => rfl); (case hr => first | (go_simp; done) | (go_simp; rfl)); intro g5 hg w_ FZ hb; obtain ⟨hst, hbb, hn⟩ := ctx_store HX.out (below_step HB.out hb) (by rw [hg]; exact (HB.out).size) FZ rfl (HO.out.below hb); have HN := Aside0.mk hn; have HBB := Aside0.mk hbb; have HOC := Aside0.mk ((HO.out.below hb).cells (vs := c5.toList) FZ); have HGE := Aside0.mk (show w.heap.size ≤ g5 ∧ w.heap.size + 1 < g5 by have h1 := HB.out.size; have h2 := HLT.out; have h3 := HX.out.hS.1.size; omega); clear hn hbb FZ hb hg))
    go_meet
    exact ⟨g5, _, c5, rfl, HN.out, HOC.out, HGE.out⟩
  case rest =>
    obtain ⟨g5, b, c5, rfl, hn, own, hge⟩ := hcut
    clear HX xc
    have HX := Aside0.mk hn
    have HO := Aside0.mk own
    have HGE := Aside0.mk hge
    clear hn own hge
    have xw : wc.cell? ⟨w.heap.size + 1, 16, none⟩ = some (.int .i64 x1.f3.f2) := by rw [blk_cell (HX.out.heap (x := x1) (cs := cs1) (g := w.heap.size + 1) (by simp)) 16, HE.out]; rfl
    have yf := blk_frozen (HX.out.heap (x := x1) (cs := c5) (g := g5) (by simp)) 16
    have yw : ∃ u, wc.cell? ⟨g5, 16, none⟩ = some u := ⟨_, by obtain ⟨_, _, _, _, e, _⟩ := HO.out; rw [blk_cell (HX.out.heap (x := x1) (cs := c5) (g := g5) (by simp)) 16, e]; rfl⟩
    obtain ⟨u16, yw⟩ := yw
    have hv := HV.out.1
    have hv2 := HV.out.2
    go_upto_region 5 with (fail)
    go_cut [12] (fun v wr => v = .pointer (some ⟨g5, 0, none⟩) ∧ ∃ c6 : Array Value, Ctx w wr #[.int .i64 x0.f0, .int .i64 x0.f1, .int .i64 x0.f2, .int .i64 x0.f3, .int .i64 x0.f4, .int .i64 x0.f5, .int .i64 x0.f6, .int .i64 x0.f7, .int .i64 x0.f8, .int .i64 x0.f9, .int .i64 x0.f10, .int .i64 x0.f11] [(g5, (waitX x1 (mx 0 (x1.f3.f2 - x2))), c6), (w.heap.size + 1, x1, cs1)])
    case first =>
      have hW : ∀ v : Int, Ctx w (wc.setCell ⟨g5, 16, none⟩ (.int .i64 v)) #[.int .i64 x0.f0, .int .i64 x0.f1, .int .i64 x0.f2, .int .i64 x0.f3, .int .i64 x0.f4, .int .i64 x0.f5, .int .i64 x0.f6, .int .i64 x0.f7, .int .i64 x0.f8, .int .i64 x0.f9, .int .i64 x0.f10, .int .i64 x0.f11] [(g5, waitX x1 v, c5.setIfInBounds 16 (.int .i64 v)), (w.heap.size + 1, x1, cs1)] := fun v => HX.out.wait HK1.out HO.out HGE.out.1 (by have := HGE.out; omega) (by have := HGE.out; omega) v
      replace hW := Aside0.mk hW
      clear HX HO
      by_cases hm : 0 < x1.f3.f2 - x2
      · have HQ := Aside0.mk (show mx 0 (x1.f3.f2 - x2) = x1.f3.f2 - x2 by unfold mx; omega)
        go_wp2
        go_meet
        rw [HQ.out]
        exact ⟨rfl, _, hW.out _⟩
      · have HQ := Aside0.mk (show mx 0 (x1.f3.f2 - x2) = 0 by unfold mx; omega)
        go_wp2
        go_meet
        rw [HQ.out]
        exact ⟨rfl, _, hW.out _⟩
    case rest =>
    obtain ⟨rfl, c6, hn⟩ := hcut
    clear HX HO HV hv hv2 xw yf yw
    have HX := Aside0.mk hn
    clear hn
    have xc := blk_cell HX.out.hC
    go_upto_region 6 with (fail)
    go_cut [13] (fun v wc => ∃ (g : Nat) (cs : Array Value), v = .pointer (some ⟨g, 0, none⟩) ∧ Ctx w wc #[.int .i64 x0.f0, .int .i64 x0.f1, .int .i64 x0.f2, .int .i64 x0.f3, .int .i64 x0.f4, .int .i64 x0.f5, .int .i64 x0.f6, .int .i64 x0.f7, .int .i64 x0.f8, .int .i64 x0.f9, .int .i64 x0.f10, .int .i64 x0.f11] ((g, (stepS x0 x1 x3 x4), cs) :: [(g5, (waitX x1 (mx 0 (x1.f3.f2 - x2))), c6), (w.heap.size + 1, x1, cs1)]))
    case first =>
      go_wp2_with (first
        | ((with_reducible refine gate_dst (N := 48) rfl ?_); (try (refine gate_guard (by rfl) ?_; dsimp only)); refine load_pre rfl 37 (.tmp 6) rfl (w.heap.size + 1) rfl cs1 _ (range_row (HX.out.heap (x := x1) (by simp))) hu1 rfl (k_info (HX.out.K (x := x1) (g := (w.heap.size + 1)) (by simp))) ?_)
        | (go_at_call 14; refine (step_w (k := 20) (c := x0) (x := x1) (y := (stepS x0 x1 x3 x4)) (HX.out.K (g := w.heap.size + 1) (by simp)) FA.out).mono ?_; rintro e_ w2 ⟨ca, rfl, own, hb⟩; have hsz := k_size own.K; have HO := Aside0.mk own; have HB := Aside0.mk hb; clear own hb xc)
        | ((with_reducible refine gate_dst (N := 13) rfl ?_); refine box_event ?hg (N := 13) ?hd (cs := #[.int .i64 0, .int .i64 0, .slice none 0 0, .int .i64 0, .int .i64 0, .int .i64 0, .int .i64 0, .slice none 0 0, .int .i64 0, .int .i64 0, .bool false, .int .i64 0, .int .i64 0, .bool false, .int .i64 0, .slice none 0 0, .int .i64 0, .int .i64 0, .slice none 0 0]) (t := 37) ?hr ?_; (case hd => rfl); (case hg => rfl); (case hr => first | (go_simp; done) | (go_simp; rfl)); intro ga hg w_ FZ hb; obtain ⟨hst, hbb, hn⟩ := ctx_store HX.out (below_step HB.out hb) (by rw [hg]; exact (HB.out).size) FZ rfl (HO.out.below hb); have HN := Aside0.mk hn; have HBB := Aside0.mk hbb; clear hn hbb FZ hb hg))
      go_meet
      exact ⟨ga, ca, rfl, HN.out⟩
    case rest =>
      obtain ⟨ga, ca, rfl, hn⟩ := hcut
      clear HX xc
      have HX := Aside0.mk hn
      clear hn
      have xc := blk_cell HX.out.hC
      go_upto_region 7 with (fail)
      go_cut [14] (fun v wc => ∃ (g : Nat) (cs : Array Value), v = .pointer (some ⟨g, 0, none⟩) ∧ Ctx w wc #[.int .i64 x0.f0, .int .i64 x0.f1, .int .i64 x0.f2, .int .i64 x0.f3, .int .i64 x0.f4, .int .i64 x0.f5, .int .i64 x0.f6, .int .i64 x0.f7, .int .i64 x0.f8, .int .i64 x0.f9, .int .i64 x0.f10, .int .i64 x0.f11] ((g, (stepS x0 (waitX x1 (mx 0 (x1.f3.f2 - x2))) x3 x4), cs) :: ((ga, (stepS x0 x1 x3 x4), ca) :: [(g5, (waitX x1 (mx 0 (x1.f3.f2 - x2))), c6), (w.heap.size + 1, x1, cs1)])))
      case first =>
        go_wp2_with (first
          | ((with_reducible refine gate_dst (N := 53) rfl ?_); (try (refine gate_guard (by rfl) ?_; dsimp only)); refine load_pre rfl 37 (.tmp 12) rfl g5 rfl c6 _ (range_row (HX.out.heap (x := (waitX x1 (mx 0 (x1.f3.f2 - x2)))) (by simp))) hu1 rfl (k_info (HX.out.K (x := (waitX x1 (mx 0 (x1.f3.f2 - x2)))) (g := g5) (by simp))) ?_)
          | (go_at_call 14; refine (step_w (k := 20) (c := x0) (x := (waitX x1 (mx 0 (x1.f3.f2 - x2)))) (y := (stepS x0 (waitX x1 (mx 0 (x1.f3.f2 - x2))) x3 x4)) (HX.out.K (g := g5) (by simp)) FB.out).mono ?_; rintro e_ w2 ⟨cb, rfl, own, hb⟩; have hsz := k_size own.K; have HO := Aside0.mk own; have HB := Aside0.mk hb; clear own hb xc)
          | ((with_reducible refine gate_dst (N := 14) rfl ?_); refine box_event ?hg (N := 14) ?hd (cs := #[.int .i64 0, .int .i64 0, .slice none 0 0, .int .i64 0, .int .i64 0, .int .i64 0, .int .i64 0, .slice none 0 0, .int .i64 0, .int .i64 0, .bool false, .int .i64 0, .int .i64 0, .bool false, .int .i64 0, .slice none 0 0, .int .i64 0, .int .i64 0, .slice none 0 0]) (t := 37) ?hr ?_; (case hd => rfl); (case hg => rfl); (case hr => first | (go_simp; done) | (go_simp; rfl)); intro gb hg w_ FZ hb; obtain ⟨hst, hbb, hn⟩ := ctx_store HX.out (below_step HB.out hb) (by rw [hg]; exact (HB.out).size) FZ rfl (HO.out.below hb); have HN := Aside0.mk hn; have HBB := Aside0.mk hbb; clear hn hbb FZ hb hg))
        go_meet
        exact ⟨gb, cb, rfl, HN.out⟩
      case rest =>
        obtain ⟨gb, cb, rfl, hn⟩ := hcut
        clear HX xc
        have HX := Aside0.mk hn
        clear hn
        have xc := blk_cell HX.out.hC
        have fa := HX.out.heap (g := ga) (x := (stepS x0 x1 x3 x4)) (cs := ca) (by simp)
        have ka := HX.out.K (g := ga) (x := (stepS x0 x1 x3 x4)) (cs := ca) (by simp)
        obtain ⟨A2a, c2a, A7a, c7a, A15a, c15a, A18a, c18a, ea, l2a, r2a, l7a, r7a, l15a, r15a, l18a, r18a⟩ := k37_open ka
        obtain rfl : ca = #[.int .i64 (stepS x0 x1 x3 x4).f0.f0, .int .i64 (stepS x0 x1 x3 x4).f0.f1, .slice A2a (stepS x0 x1 x3 x4).f0.f2.length c2a, .int .i64 (stepS x0 x1 x3 x4).f0.f3, .int .i64 (stepS x0 x1 x3 x4).f0.f4, .int .i64 (stepS x0 x1 x3 x4).f0.f5, .int .i64 (stepS x0 x1 x3 x4).f0.f6, .slice A7a (stepS x0 x1 x3 x4).f0.f7.length c7a, .int .i64 (stepS x0 x1 x3 x4).f1.f0, .int .i64 (stepS x0 x1 x3 x4).f1.f1, .bool (stepS x0 x1 x3 x4).f1.f2, .int .i64 (stepS x0 x1 x3 x4).f2.f0, .int .i64 (stepS x0 x1 x3 x4).f2.f1, .bool (stepS x0 x1 x3 x4).f2.f2, .int .i64 (stepS x0 x1 x3 x4).f3.f0, .slice A15a (stepS x0 x1 x3 x4).f3.f1.length c15a, .int .i64 (stepS x0 x1 x3 x4).f3.f2, .int .i64 (stepS x0 x1 x3 x4).f3.f3, .slice A18a (stepS x0 x1 x3 x4).f4.length c18a] := by cases ca; simpa using ea
        clear ka l2a r2a l7a r7a l15a r15a l18a r18a
        have a11 : wc.cell? ⟨ga, 11, none⟩ = some (.int .i64 (stepS x0 x1 x3 x4).f2.f0) := blk_cell fa 11
        have a12 : wc.cell? ⟨ga, 12, none⟩ = some (.int .i64 (stepS x0 x1 x3 x4).f2.f1) := blk_cell fa 12
        have a13 : wc.cell? ⟨ga, 13, none⟩ = some (.bool (stepS x0 x1 x3 x4).f2.f2) := blk_cell fa 13
        have a14 : wc.cell? ⟨ga, 14, none⟩ = some (.int .i64 (stepS x0 x1 x3 x4).f3.f0) := blk_cell fa 14
        have a16 : wc.cell? ⟨ga, 16, none⟩ = some (.int .i64 (stepS x0 x1 x3 x4).f3.f2) := blk_cell fa 16
        have a17 : wc.cell? ⟨ga, 17, none⟩ = some (.int .i64 (stepS x0 x1 x3 x4).f3.f3) := blk_cell fa 17
        clear fa
        have fb := HX.out.heap (g := gb) (x := (stepS x0 (waitX x1 (mx 0 (x1.f3.f2 - x2))) x3 x4)) (cs := cb) (by simp)
        have kb := HX.out.K (g := gb) (x := (stepS x0 (waitX x1 (mx 0 (x1.f3.f2 - x2))) x3 x4)) (cs := cb) (by simp)
        obtain ⟨A2b, c2b, A7b, c7b, A15b, c15b, A18b, c18b, eb, l2b, r2b, l7b, r7b, l15b, r15b, l18b, r18b⟩ := k37_open kb
        obtain rfl : cb = #[.int .i64 (stepS x0 (waitX x1 (mx 0 (x1.f3.f2 - x2))) x3 x4).f0.f0, .int .i64 (stepS x0 (waitX x1 (mx 0 (x1.f3.f2 - x2))) x3 x4).f0.f1, .slice A2b (stepS x0 (waitX x1 (mx 0 (x1.f3.f2 - x2))) x3 x4).f0.f2.length c2b, .int .i64 (stepS x0 (waitX x1 (mx 0 (x1.f3.f2 - x2))) x3 x4).f0.f3, .int .i64 (stepS x0 (waitX x1 (mx 0 (x1.f3.f2 - x2))) x3 x4).f0.f4, .int .i64 (stepS x0 (waitX x1 (mx 0 (x1.f3.f2 - x2))) x3 x4).f0.f5, .int .i64 (stepS x0 (waitX x1 (mx 0 (x1.f3.f2 - x2))) x3 x4).f0.f6, .slice A7b (stepS x0 (waitX x1 (mx 0 (x1.f3.f2 - x2))) x3 x4).f0.f7.length c7b, .int .i64 (stepS x0 (waitX x1 (mx 0 (x1.f3.f2 - x2))) x3 x4).f1.f0, .int .i64 (stepS x0 (waitX x1 (mx 0 (x1.f3.f2 - x2))) x3 x4).f1.f1, .bool (stepS x0 (waitX x1 (mx 0 (x1.f3.f2 - x2))) x3 x4).f1.f2, .int .i64 (stepS x0 (waitX x1 (mx 0 (x1.f3.f2 - x2))) x3 x4).f2.f0, .int .i64 (stepS x0 (waitX x1 (mx 0 (x1.f3.f2 - x2))) x3 x4).f2.f1, .bool (stepS x0 (waitX x1 (mx 0 (x1.f3.f2 - x2))) x3 x4).f2.f2, .int .i64 (stepS x0 (waitX x1 (mx 0 (x1.f3.f2 - x2))) x3 x4).f3.f0, .slice A15b (stepS x0 (waitX x1 (mx 0 (x1.f3.f2 - x2))) x3 x4).f3.f1.length c15b, .int .i64 (stepS x0 (waitX x1 (mx 0 (x1.f3.f2 - x2))) x3 x4).f3.f2, .int .i64 (stepS x0 (waitX x1 (mx 0 (x1.f3.f2 - x2))) x3 x4).f3.f3, .slice A18b (stepS x0 (waitX x1 (mx 0 (x1.f3.f2 - x2))) x3 x4).f4.length c18b] := by cases cb; simpa using eb
        clear kb l2b r2b l7b r7b l15b r15b l18b r18b
        have b11 : wc.cell? ⟨gb, 11, none⟩ = some (.int .i64 (stepS x0 (waitX x1 (mx 0 (x1.f3.f2 - x2))) x3 x4).f2.f0) := blk_cell fb 11
        have b12 : wc.cell? ⟨gb, 12, none⟩ = some (.int .i64 (stepS x0 (waitX x1 (mx 0 (x1.f3.f2 - x2))) x3 x4).f2.f1) := blk_cell fb 12
        have b13 : wc.cell? ⟨gb, 13, none⟩ = some (.bool (stepS x0 (waitX x1 (mx 0 (x1.f3.f2 - x2))) x3 x4).f2.f2) := blk_cell fb 13
        have b14 : wc.cell? ⟨gb, 14, none⟩ = some (.int .i64 (stepS x0 (waitX x1 (mx 0 (x1.f3.f2 - x2))) x3 x4).f3.f0) := blk_cell fb 14
        have b16 : wc.cell? ⟨gb, 16, none⟩ = some (.int .i64 (stepS x0 (waitX x1 (mx 0 (x1.f3.f2 - x2))) x3 x4).f3.f2) := blk_cell fb 16
        have b17 : wc.cell? ⟨gb, 17, none⟩ = some (.int .i64 (stepS x0 (waitX x1 (mx 0 (x1.f3.f2 - x2))) x3 x4).f3.f3) := blk_cell fb 17
        clear fb
        obtain ⟨w1, w2, w3, w4⟩ := FW.out
        rw [w2] at b11 b12 b13
        rw [w3] at b14
        have d1 := decide_eq_true w1
        have d4 := decide_eq_true w4
        clear w1 w2 w3 w4 FW FA FB HE HK1 HSP xc
        generalize (stepS x0 x1 x3 x4).f2.f0 = u0 at a11 b11
        generalize (stepS x0 x1 x3 x4).f2.f1 = u1 at a12 b12
        generalize (stepS x0 x1 x3 x4).f2.f2 = u2 at a13 b13
        generalize (stepS x0 x1 x3 x4).f3.f0 = u3 at a14 b14
        generalize (stepS x0 x1 x3 x4).f3.f2 = u4 at a16 d1
        generalize (stepS x0 (waitX x1 (mx 0 (x1.f3.f2 - x2))) x3 x4).f3.f2 = u5 at b16 d1
        generalize (stepS x0 x1 x3 x4).f3.f3 = u6 at a17 d4
        generalize (stepS x0 (waitX x1 (mx 0 (x1.f3.f2 - x2))) x3 x4).f3.f3 = u7 at b17 d4
        go_wp2
        go_ret
        exact ⟨rfl, HX.out.hS.1⟩
end Go.Proofs.Ytefgoffaidjiaaa.PAll
namespace Go.Proofs.Ytefgoffaidjiaaa.fleetWork
open Go.ChangeShapes Go.WideShapes Go.ChangeAt Go.RowKit
open Go.ChangeMaps (open_string shut_string)
set_option linter.unusedVariables false
theorem own : ownKnob Try.prog.godebug = none := by kernel_rfl
theorem laidOut : laidOutB Try.prog = true := by kernel_rfl
set_option maxRecDepth 100000 in
theorem lifted (os : Os) (started : os.Started) (H : Type) (enc : TypeId × Value → H) :
    ReturnsInHanded {} Try.checked os 8 .any (Rows.fleetWorkSpec.pre6 enc Try.prog Try.f8 Rows.fleetWorkRow.domain false) (Rows.fleetWorkSpec.post enc Try.prog Try.f8 false true false false) := by
  refine returnsInHanded_of_change_sized (C := Try.checked) own started (by kernel_rfl) Try.func8
    (ChangeSpec.witness6 (enc := enc) (C := Try.checked) false ⟨#[], #[.agg #[.int .i64 0, .int .i64 0, .int .i64 0, .int .i64 0, .int .i64 0, .int .i64 0, .int .i64 0, .int .i64 0, .int .i64 0, .int .i64 0, .int .i64 0, .int .i64 0], .agg #[.int .i64 0, .int .i64 0, .slice none 0 0, .int .i64 0, .int .i64 0, .int .i64 0, .int .i64 0, .slice none 0 0, .int .i64 0, .int .i64 0, .bool false, .int .i64 0, .int .i64 0, .bool false, .int .i64 0, .slice none 0 0, .int .i64 0, .int .i64 0, .slice none 0 0], .int .u32 0, .int .i64 0, .int .i64 0], []⟩ 8 (by kernel_rfl) (by kernel_rfl) (by kernel_rfl) (by kernel_rfl)) ?_
  intro W base args ds gs before hval0 hW hcnd hsz0 _
  have hval : ∀ (j : Nat) t v, Try.f8.params[j]? = some t → args[j]? = some v → Value.okWide Try.prog W .any base t v := hval0
  have hW' := hW
  obtain ⟨p, q, hA0, hV, rfl, hfz, hnd⟩ := hW
  have hA : DataW.TrodAll enc Try.prog W 0 (fun _ => true) true Try.f8.params.toList args.toList ds p := hA0
  rw [Try.params8] at hA hval
  obtain ⟨v0, vs0, d0, ds0, p0, q0, hargs, rfl, rfl, h0, r0⟩ := trodAll_cons hA
  obtain ⟨v1, vs1, d1, ds1, p1, q1, rfl, rfl, rfl, h1, r1⟩ := trodAll_cons r0
  obtain ⟨v2, vs2, d2, ds2, p2, q2, rfl, rfl, rfl, h2, r2⟩ := trodAll_cons r1
  obtain ⟨v3, vs3, d3, ds3, p3, q3, rfl, rfl, rfl, h3, r3⟩ := trodAll_cons r2
  obtain ⟨v4, vs4, d4, ds4, p4, q4, rfl, rfl, rfl, h4, r4⟩ := trodAll_cons r3
  obtain ⟨rfl, rfl, rfl⟩ := trodAll_nil r4
  obtain rfl : args = #[v0, v1, v2, v3, v4] := by cases args; simp_all
  obtain ⟨rfl, rfl⟩ := trodVars_none hV
  have k0 := h0
  have lt0 : ∀ x ∈ p0, x.block < W.heap.size := by obtain ⟨m, hm⟩ := k0; exact DataW.trod_lt m _ _ _ hm
  obtain ⟨cs0, rfl, _⟩ := okWide_struct Try.underlying23 (hval 0 23 v0 rfl rfl)
  obtain ⟨fuel0, hf0⟩ := h0
  obtain ⟨x0, g0, o0⟩ := PAll.rdy23 enc W _ _ _ _ _ _ hf0
  have k1 := h1
  have lt1 : ∀ x ∈ p1, x.block < W.heap.size := by obtain ⟨m, hm⟩ := k1; exact DataW.trod_lt m _ _ _ hm
  obtain ⟨cs1, rfl, _⟩ := okWide_struct Try.underlying37 (hval 1 37 v1 rfl rfl)
  obtain ⟨fuel1, hf1⟩ := h1
  obtain ⟨x1, g1, o1⟩ := PAll.rdy37 enc W _ _ _ _ _ _ hf1
  obtain ⟨a2, rfl, rfl, rfl, w2⟩ := open_int Try.underlying60 (hval 2 60 v2 rfl rfl) h2
  obtain ⟨a3, rfl, rfl, rfl, w3⟩ := open_int Try.underlying2 (hval 3 2 v3 rfl rfl) h3
  obtain ⟨a4, rfl, rfl, rfl, w4⟩ := open_int Try.underlying2 (hval 4 2 v4 rfl rfl) h4
  clear hA0 hval0 hsz0
  refine (PAll.governorlaw18_FleetWork.walk2 W cs0 x0 g0 o0 cs1 x1 g1 o1 a2 w2 a3 w3 a4 w4).mono fun e W' ⟨he, bel⟩ => ?_
  subst he
  exact ⟨_, rfl, _, _, _, [], _, [], hW', trodAll_mk1 (shut_bool Try.underlying4 _), (trodAll_cons_mk (Below.trod laidOut (by kernel_rfl) (of_decide_eq_true (by kernel_rfl)) k0 bel lt0) (trodAll_cons_mk (Below.trod laidOut (by kernel_rfl) (of_decide_eq_true (by kernel_rfl)) k1 bel lt1) (trodAll_cons_mk (shut_int Try.underlying60 w2) (trodAll_cons_mk (shut_int Try.underlying2 w3) (trodAll_cons_mk (shut_int Try.underlying2 w4) trodAll_mk0))))), rfl, bel.frame _, fun h => by cases h⟩
theorem over : Rows.fleetWorkRow.holds Try.pinned (OpenSpec.ofChange Rows.fleetWorkSpec) :=
  OpenClaim.holds_of_wide 8 Try.f8 rfl rfl rfl rfl rfl rfl rfl ⟨rfl, rfl, rfl, rfl, rfl⟩ rfl rfl rfl rfl rfl (by kernel_rfl) Try.func8 (by kernel_rfl)
    (of_decide_eq_true (by kernel_rfl)) (by unfold Func.isWrapper; first | (rw [if_pos (by decide +kernel)]; kernel_rfl) | (rw [if_neg (by decide +kernel)]; exact ⟨rfl, rfl⟩))
    (fun os started H enc _ => lifted os started H enc)
theorem proved : Rows.FleetWorkSaid := over
#print axioms proved
end Go.Proofs.Ytefgoffaidjiaaa.fleetWork
namespace Go.Proofs.Ytefgoffaidjiaaa
/-- The row, under a short name, for the claim. -/
theorem fleetWork_holds : Rows.FleetWorkSaid := fleetWork.proved
end Go.Proofs.Ytefgoffaidjiaaa
