/- The law FleetTells: what any sim that may be is behind a step, and how one begins, are the document's; for every configuration, sim, demand and time. -/
import Derived.Test.YtefgoffaidjiaaaMtA6
namespace Go.Proofs.Ytefgoffaidjiaaa.PAll
open Go.RowKit Go.Proofs.YtefgoffaidjiaaaW.PrintWords Go.Proofs.YtefgoffaidjiaaaW.PrintLast Go.Proofs.YtefgoffaidjiaaaW.PrintMore
set_option linter.unusedVariables false
set_option linter.unusedSimpArgs false
theorem pol_of_sim {W : World} {x : S37} {cs : List Value} (h : k37.K W x cs) : k27.K W x.f0 (cs.take 8) := by
 obtain ⟨l1, l2, rfl, h1, _⟩ := h
 have h8 : l1.length = 8 := k27.K_len h1
 rw [List.take_left' h8]
 exact h1
set_option maxHeartbeats 8000000 in
set_option maxRecDepth 100000 in
theorem governorlaw18_FleetTells.walk2 (w : World) (cs0 : Array Value) (x0 : S23) (g0 : k23.K w x0 cs0.toList) (o0 : ok23 x0) (cs1 : Array Value) (x1 : S37) (g1 : k37.K w x1 cs1.toList) (o1 : ok37 x1) (x2 : Int) (o2 : (Lit.int .i64 x2).wf = true) (x3 : Int) (o3 : (Lit.int .i64 x3).wf = true) :
  Calls Try.prog 3 #[.agg cs0, .agg cs1, .int .i64 x2, .int .i64 x3] w fun e w' => e = .returned (.bool true) ∧ Below w.heap.size w w' := by
 have hu0 := Try.underlying69
 have hu1 := Try.underlying37
 have hu2 := Try.underlying27
 have hu3 := Try.underlying29
 have hu4 := Try.underlying23
 have hu5 := Try.underlying31
 have hu6 := Try.underlying34
 have hu7 := Try.underlying52
 have ec := k23_open g0
 obtain rfl : cs0 = #[.int .i64 x0.f0, .int .i64 x0.f1, .int .i64 x0.f2, .int .i64 x0.f3, .int .i64 x0.f4, .int .i64 x0.f5, .int .i64 x0.f6, .int .i64 x0.f7, .int .i64 x0.f8, .int .i64 x0.f9, .int .i64 x0.f10, .int .i64 x0.f11] := by cases cs0; simpa using ec
 clear ec
 have HK1 := Aside0.mk g1
 obtain ⟨A2, c2, A7, c7, A15, c15, A18, c18, e1, l2, r2, l7, r7, l15, r15, l18, r18⟩ := k37_open g1
 have ecs : cs1 = #[.int .i64 x1.f0.f0, .int .i64 x1.f0.f1, .slice A2 x1.f0.f2.length c2, .int .i64 x1.f0.f3, .int .i64 x1.f0.f4, .int .i64 x1.f0.f5, .int .i64 x1.f0.f6, .slice A7 x1.f0.f7.length c7, .int .i64 x1.f1.f0, .int .i64 x1.f1.f1, .bool x1.f1.f2, .int .i64 x1.f2.f0, .int .i64 x1.f2.f1, .bool x1.f2.f2, .int .i64 x1.f3.f0, .slice A15 x1.f3.f1.length c15, .int .i64 x1.f3.f2, .int .i64 x1.f3.f3, .slice A18 x1.f4.length c18] := by cases cs1; simpa using e1
 clear e1 l2 r2 l7 r7 l15 r15 l18 r18
 have hx0 := HK1.out
 rw [ecs] at hx0 ⊢
 go_enter Try.func3, Try.ntmps3
 go_upto_region 1 with (fail)
 have ht := ctx_mk w #[.int .i64 x0.f0, .int .i64 x0.f1, .int .i64 x0.f2, .int .i64 x0.f3, .int .i64 x0.f4, .int .i64 x0.f5, .int .i64 x0.f6, .int .i64 x0.f7, .int .i64 x0.f8, .int .i64 x0.f9, .int .i64 x0.f10, .int .i64 x0.f11] _ x1 hx0
 generalize (w.alloc _).alloc _ = W at ht ⊢
 rw [← ecs] at ht
 have HX := Aside0.mk ht
 have HE := Aside0.mk ecs
 clear ht hx0 ecs g1
 have xc := blk_cell HX.out.hC
 go_upto_region 2 with (go_at_call 9; refine (governorlaw18_head.calls true _ rfl).mono ?_; rintro e_ w1 ⟨rfl, hb⟩; replace HX := Aside0.mk (HX.out.below hb); clear hb xc; have xc := blk_cell HX.out.hC)
 obtain ⟨r, hr, hP⟩ := right_tells x1 20 (Nat.le_refl _)
 have HR := Aside0.mk hr
 have HP := Aside0.mk (fun h : r = true => hP h)
 clear hr hP o0 o1 o2 o3
 rcases (chN (confB x0) (chN r (Bool.eq_false_or_eq_true (timeB x3)).symm)) with h1 | ⟨h1, rfl | ⟨rfl, h3 | h3⟩⟩
 iterate 3
  ·as_aux_lemma =>
   go_wp2_with (first
    | (go_at_call 10; refine (conf_w x0 _).mono ?_; rintro e_ w1 ⟨rfl, hb⟩; replace HX := Aside0.mk (HX.out.below hb); clear hb xc; have xc := blk_cell HX.out.hC)
    | (go_at_call 11; refine (right_w (HX.out.K (g := w.heap.size + 1) (x := x1) (cs := cs1) (by simp)) HR.out).mono ?_; rintro e_ w1 ⟨rfl, hb⟩; replace HX := Aside0.mk (HX.out.below hb); clear hb xc; have xc := blk_cell HX.out.hC)
    | (go_at_call 12; refine (time_w x3 _).mono ?_; rintro e_ w1 ⟨rfl, hb⟩; replace HX := Aside0.mk (HX.out.below hb); clear hb xc; have xc := blk_cell HX.out.hC)
    | ((with_reducible refine gate_dst (N := 15) rfl ?_); (try (refine gate_guard (by rfl) ?_; dsimp only)); refine load_pre rfl 37 (.tmp 5) rfl (w.heap.size + 1) rfl cs1 _ (range_row (HX.out.heap (x := x1) (by simp))) hu1 rfl (k_info (HX.out.K (x := x1) (g := (w.heap.size + 1)) (by simp))) ?_))
   go_ret
   exact ⟨rfl, HX.out.hS.1⟩
 have P := HP.out rfl
 have C := conf_cfg h1
 have T : 0 ≤ x3 ∧ x3 ≤ 1099511627776 := by simpa [timeB] using h3
 have FS := Aside0.mk (step_tells C P x2 x3 T.1 T.2 20 (Nat.le_refl _))
 have FR := Aside0.mk (rstep_tells C P x2 x3 T.1 T.2 40 (Nat.le_refl _))
 have F1 := Aside0.mk (same_refl (step_sim C P x2 x3 T.1 T.2).1)
 have FO := Aside0.mk (own_tells P)
 have F3 := Aside0.mk (same_refl P)
 have FN := Aside0.mk (new_tells (p := x1.f0) (s := x1.f1) (h := x1.f2) P.pol.b8 P.pol.s8 P.h0 P.h1)
 have FQ := Aside0.mk (rnew_tells (p := x1.f0) (s := x1.f1) (h := x1.f2) P.pol.b8 P.pol.s8 P.h0 P.h1)
 have F2 := Aside0.mk (same_refl (new_sim P))
 clear P C T HP
 go_upto_region 4 with (first
  | (go_at_call 10; refine (conf_w x0 _).mono ?_; rintro e_ w1 ⟨rfl, hb⟩; replace HX := Aside0.mk (HX.out.below hb); clear hb xc; have xc := blk_cell HX.out.hC)
  | (go_at_call 11; refine (right_w (HX.out.K (g := w.heap.size + 1) (x := x1) (cs := cs1) (by simp)) HR.out).mono ?_; rintro e_ w1 ⟨rfl, hb⟩; replace HX := Aside0.mk (HX.out.below hb); clear hb xc; have xc := blk_cell HX.out.hC)
  | (go_at_call 12; refine (time_w x3 _).mono ?_; rintro e_ w1 ⟨rfl, hb⟩; replace HX := Aside0.mk (HX.out.below hb); clear hb xc; have xc := blk_cell HX.out.hC)
  | ((with_reducible refine gate_dst (N := 15) rfl ?_); (try (refine gate_guard (by rfl) ?_; dsimp only)); refine load_pre rfl 37 (.tmp 5) rfl (w.heap.size + 1) rfl cs1 _ (range_row (HX.out.heap (x := x1) (by simp))) hu1 rfl (k_info (HX.out.K (x := x1) (g := (w.heap.size + 1)) (by simp))) ?_))
 clear HR h1 h3
 generalize w1 = W0 at HX xc ⊢
 clear xc
 have FC := HX.out.hC
 have FX := HX.out.heap (g := (w.heap.size + 1)) (x := x1) (cs := cs1) (by simp)
 have HKX := Aside0.mk (HX.out.K (g := (w.heap.size + 1)) (x := x1) (cs := cs1) (by simp))
 have HKP : Aside0 (k27.K W0 x1.f0 (#[.int .i64 x1.f0.f0, .int .i64 x1.f0.f1, .slice A2 x1.f0.f2.length c2, .int .i64 x1.f0.f3, .int .i64 x1.f0.f4, .int .i64 x1.f0.f5, .int .i64 x1.f0.f6, .slice A7 x1.f0.f7.length c7] : Array Value).toList) := ⟨by have h := pol_of_sim HKX.out; rw [HE.out] at h; exact h⟩
 refine start_ (n := 38) (S := fun w' => w'.heap[w.heap.size]? = some (.cells #[.int .i64 x0.f0, .int .i64 x0.f1, .int .i64 x0.f2, .int .i64 x0.f3, .int .i64 x0.f4, .int .i64 x0.f5, .int .i64 x0.f6, .int .i64 x0.f7, .int .i64 x0.f8, .int .i64 x0.f9, .int .i64 x0.f10, .int .i64 x0.f11] 23 (0, 0)) ∧ w'.heap[(w.heap.size + 1)]? = some (.cells cs1 37 (0, 0))) (ds := []) #[false, false, false, false, false, false, false, false, false, false, false, false, false, false, false, false, false, false, false, false, false, false, false, false, false, false, false, false, false, false, false, false, false, false, false, false, false, false] (by kernel_rfl) rfl rfl ⟨FC, FX⟩ (fun hHeld => ?_)
 have FB := below_drew1 (Below.refl W0.heap.size W0)
 replace FC := blk_below FC FB
 replace FX := blk_below FX FB
 generalize W0.drew = w9 at FB FC FX hHeld ⊢
 refine pu_ 0 25 #[true, false, false, false, false, false, false, false, false, false, false, false, false, false, false, false, false, false, false, false, false, false, false, false, false, false, false, false, false, false, false, false, false, false, false, false, false, false] ?_
 refine pu_ 1 26 #[true, true, false, false, false, false, false, false, false, false, false, false, false, false, false, false, false, false, false, false, false, false, false, false, false, false, false, false, false, false, false, false, false, false, false, false, false, false] ?_
 refine ta_ 2 27 #[true, true, true, false, false, false, false, false, false, false, false, false, false, false, false, false, false, false, false, false, false, false, false, false, false, false, false, false, false, false, false, false, false, false, false, false, false, false] hHeld (v := ?_) ?_ ?_
 rotate_left
 ·intro w' hS
  have s := blk_cell hS.1
  clear hS
  go_simp
  with_reducible rfl
 refine take_ (i := 3) (N := some 28) (v := .agg cs1) (a' := ?_) #[true, true, true, true, false, false, false, false, false, false, false, false, false, false, false, false, false, false, false, false, false, false, false, false, false, false, false, false, false, false, false, false, false, false, false, false, false, false] rfl rfl (by kernel_rfl) (fun _ _ _ h => h) (yields_row (by rfl) 37 (.tmp 5) rfl (w.heap.size + 1) rfl cs1 _ (fun w' hS => range_row hS.2) hu1 rfl (k_info HKX.out)) hHeld ?_ ?_
 rotate_left
 ·simp only [Act.put, List.setIfInBounds_toArray, List.set_cons_zero, List.set_cons_succ, i64_w, i32_w]
  rfl
 refine pu_ 4 29 #[true, true, true, true, true, false, false, false, false, false, false, false, false, false, false, false, false, false, false, false, false, false, false, false, false, false, false, false, false, false, false, false, false, false, false, false, false, false] ?_
 refine pu_ 5 30 #[true, true, true, true, true, true, false, false, false, false, false, false, false, false, false, false, false, false, false, false, false, false, false, false, false, false, false, false, false, false, false, false, false, false, false, false, false, false] ?_
 refine ta_ 7 32 #[true, true, true, true, true, true, false, true, false, false, false, false, false, false, false, false, false, false, false, false, false, false, false, false, false, false, false, false, false, false, false, false, false, false, false, false, false, false] hHeld (v := ?_) ?_ ?_
 rotate_left
 ·intro w' hS
  have s := blk_cell hS.1
  clear hS
  go_simp
  with_reducible rfl
 refine take_ (i := 8) (N := some 33) (v := .agg cs1) (a' := ?_) #[true, true, true, true, true, true, false, true, true, false, false, false, false, false, false, false, false, false, false, false, false, false, false, false, false, false, false, false, false, false, false, false, false, false, false, false, false, false] rfl rfl (by kernel_rfl) (fun _ _ _ h => h) (yields_row (by rfl) 37 (.tmp 5) rfl (w.heap.size + 1) rfl cs1 _ (fun w' hS => range_row hS.2) hu1 rfl (k_info HKX.out)) hHeld ?_ ?_
 rotate_left
 ·simp only [Act.put, List.setIfInBounds_toArray, List.set_cons_zero, List.set_cons_succ, i64_w, i32_w]
  rfl
 refine pu_ 9 34 #[true, true, true, true, true, true, false, true, true, true, false, false, false, false, false, false, false, false, false, false, false, false, false, false, false, false, false, false, false, false, false, false, false, false, false, false, false, false] ?_
 refine pu_ 10 35 #[true, true, true, true, true, true, false, true, true, true, true, false, false, false, false, false, false, false, false, false, false, false, false, false, false, false, false, false, false, false, false, false, false, false, false, false, false, false] ?_
 refine one_ (i := 6) (N := some 31) #[true, true, true, true, true, true, true, true, true, true, true, false, false, false, false, false, false, false, false, false, false, false, false, false, false, false, false, false, false, false, false, false, false, false, false, false, false, false] rfl rfl (by kernel_rfl) (by decide) (fun K hK => ?_)
 refine goes_ Try.func14 (by kernel_rfl) rfl #[.agg #[.int .i64 x0.f0, .int .i64 x0.f1, .int .i64 x0.f2, .int .i64 x0.f3, .int .i64 x0.f4, .int .i64 x0.f5, .int .i64 x0.f6, .int .i64 x0.f7, .int .i64 x0.f8, .int .i64 x0.f9, .int .i64 x0.f10, .int .i64 x0.f11], .agg cs1, .int .i64 x2, .int .i64 x3] (by rfl) rfl rfl (by (try simp only [List.map_toArray, List.map_cons, List.map_nil]); first | done | rfl) ?_
 refine (step_w (k := 20) (c := x0) (x := x1) (y := stepS x0 x1 x2 x3) (k37.K_below FB HKX.out) FS.out).mono ?_
 rintro e_ w_ ⟨ca, rfl, Oca, hb⟩
 refine ⟨_, rfl, ?_⟩
 replace FB := below_step FB hb
 replace FC := blk_below FC hb
 replace FX := blk_below FX hb
 clear hb
 refine hK.out _ _ ⟨FC, FX⟩ (fun hHeld => ?_)
 clear hK K
 refine no_ 31 ?_
 refine one_ (i := 11) (N := some 36) #[true, true, true, true, true, true, true, true, true, true, true, true, false, false, false, false, false, false, false, false, false, false, false, false, false, false, false, false, false, false, false, false, false, false, false, false, false, false] rfl rfl (by kernel_rfl) (by decide) (fun K hK => ?_)
 refine goes_ Try.func15 (by kernel_rfl) rfl #[.agg #[.int .i64 x0.f0, .int .i64 x0.f1, .int .i64 x0.f2, .int .i64 x0.f3, .int .i64 x0.f4, .int .i64 x0.f5, .int .i64 x0.f6, .int .i64 x0.f7, .int .i64 x0.f8, .int .i64 x0.f9, .int .i64 x0.f10, .int .i64 x0.f11], .agg cs1, .int .i64 x2, .int .i64 x3] (by rfl) rfl rfl (by (try simp only [List.map_toArray, List.map_cons, List.map_nil]); first | done | rfl) ?_
 refine (rstep_w (k := 40) (c := x0) (x := x1) (y := stepS x0 x1 x2 x3) (k37.K_below FB HKX.out) FR.out).mono ?_
 rintro e_ w_ ⟨cb, rfl, Ocb, hb⟩
 refine ⟨_, rfl, ?_⟩
 replace FB := below_step FB hb
 replace FC := blk_below FC hb
 replace FX := blk_below FX hb
 replace Oca := Oca.below hb
 clear hb
 refine hK.out _ _ ⟨FC, FX⟩ (fun hHeld => ?_)
 clear hK K
 refine no_ 36 ?_
 refine one_ (i := 12) (N := some 37) #[true, true, true, true, true, true, true, true, true, true, true, true, true, false, false, false, false, false, false, false, false, false, false, false, false, false, false, false, false, false, false, false, false, false, false, false, false, false] rfl rfl (by kernel_rfl) (by decide) (fun K hK => ?_)
 refine goes_ Try.func13 (by kernel_rfl) rfl #[.agg ca, .agg cb] (by rfl) rfl rfl (by (try simp only [List.map_toArray, List.map_cons, List.map_nil]); first | done | rfl) ?_
 refine (same_w Oca.K Ocb.K F1.out).mono ?_
 rintro e_ w_ ⟨rfl, hb⟩
 refine ⟨_, rfl, ?_⟩
 replace FB := below_step FB hb
 replace FC := blk_below FC hb
 replace FX := blk_below FX hb
 replace Oca := Oca.below hb
 replace Ocb := Ocb.below hb
 clear hb Oca Ocb
 refine hK.out _ _ ⟨FC, FX⟩ (fun hHeld => ?_)
 clear hK K
 refine no_ 37 ?_
 refine pu_ 13 38 #[true, true, true, true, true, true, true, true, true, true, true, true, true, true, false, false, false, false, false, false, false, false, false, false, false, false, false, false, false, false, false, false, false, false, false, false, false, false] ?_
 refine pu_ 14 39 #[true, true, true, true, true, true, true, true, true, true, true, true, true, true, true, false, false, false, false, false, false, false, false, false, false, false, false, false, false, false, false, false, false, false, false, false, false, false] ?_
 refine pu_ 15 40 #[true, true, true, true, true, true, true, true, true, true, true, true, true, true, true, true, false, false, false, false, false, false, false, false, false, false, false, false, false, false, false, false, false, false, false, false, false, false] ?_
 refine pu_ 17 42 #[true, true, true, true, true, true, true, true, true, true, true, true, true, true, true, true, false, true, false, false, false, false, false, false, false, false, false, false, false, false, false, false, false, false, false, false, false, false] ?_
 refine pu_ 19 44 #[true, true, true, true, true, true, true, true, true, true, true, true, true, true, true, true, false, true, false, true, false, false, false, false, false, false, false, false, false, false, false, false, false, false, false, false, false, false] ?_
 refine pu_ 22 47 #[true, true, true, true, true, true, true, true, true, true, true, true, true, true, true, true, false, true, false, true, false, false, true, false, false, false, false, false, false, false, false, false, false, false, false, false, false, false] ?_
 refine pu_ 24 49 #[true, true, true, true, true, true, true, true, true, true, true, true, true, true, true, true, false, true, false, true, false, false, true, false, true, false, false, false, false, false, false, false, false, false, false, false, false, false] ?_
 refine pu_ 26 51 #[true, true, true, true, true, true, true, true, true, true, true, true, true, true, true, true, false, true, false, true, false, false, true, false, true, false, true, false, false, false, false, false, false, false, false, false, false, false] ?_
 refine ta_ 16 41 #[true, true, true, true, true, true, true, true, true, true, true, true, true, true, true, true, true, true, false, true, false, false, true, false, true, false, true, false, false, false, false, false, false, false, false, false, false, false] hHeld (v := ?_) ?_ ?_
 rotate_left
 ·intro w' hS
  have s := blk_cell hS.2
  rw [HE.out] at s
  clear hS
  go_simp
  with_reducible rfl
 refine ta_ 18 43 #[true, true, true, true, true, true, true, true, true, true, true, true, true, true, true, true, true, true, true, true, false, false, true, false, true, false, true, false, false, false, false, false, false, false, false, false, false, false] hHeld (v := ?_) ?_ ?_
 rotate_left
 ·intro w' hS
  have s := blk_cell hS.2
  rw [HE.out] at s
  clear hS
  go_simp
  with_reducible rfl
 refine ta_ 20 45 #[true, true, true, true, true, true, true, true, true, true, true, true, true, true, true, true, true, true, true, true, true, false, true, false, true, false, true, false, false, false, false, false, false, false, false, false, false, false] hHeld (v := ?_) ?_ ?_
 rotate_left
 ·intro w' hS
  have s := blk_cell hS.2
  rw [HE.out] at s
  clear hS
  go_simp
  with_reducible rfl
 refine ta_ 23 48 #[true, true, true, true, true, true, true, true, true, true, true, true, true, true, true, true, true, true, true, true, true, false, true, true, true, false, true, false, false, false, false, false, false, false, false, false, false, false] hHeld (v := ?_) ?_ ?_
 rotate_left
 ·intro w' hS
  have s := blk_cell hS.2
  rw [HE.out] at s
  clear hS
  go_simp
  with_reducible rfl
 refine ta_ 25 50 #[true, true, true, true, true, true, true, true, true, true, true, true, true, true, true, true, true, true, true, true, true, false, true, true, true, true, true, false, false, false, false, false, false, false, false, false, false, false] hHeld (v := ?_) ?_ ?_
 rotate_left
 ·intro w' hS
  have s := blk_cell hS.2
  rw [HE.out] at s
  clear hS
  go_simp
  with_reducible rfl
 refine ta_ 27 52 #[true, true, true, true, true, true, true, true, true, true, true, true, true, true, true, true, true, true, true, true, true, false, true, true, true, true, true, true, false, false, false, false, false, false, false, false, false, false] hHeld (v := ?_) ?_ ?_
 rotate_left
 ·intro w' hS
  have s := blk_cell hS.2
  rw [HE.out] at s
  clear hS
  go_simp
  with_reducible rfl
 refine one_ (i := 21) (N := some 46) #[true, true, true, true, true, true, true, true, true, true, true, true, true, true, true, true, true, true, true, true, true, true, true, true, true, true, true, true, false, false, false, false, false, false, false, false, false, false] rfl rfl (by kernel_rfl) (by decide) (fun K hK => ?_)
 refine goes_ Try.func16 (by kernel_rfl) rfl #[.agg #[.int .i64 x1.f0.f0, .int .i64 x1.f0.f1, .slice A2 x1.f0.f2.length c2, .int .i64 x1.f0.f3, .int .i64 x1.f0.f4, .int .i64 x1.f0.f5, .int .i64 x1.f0.f6, .slice A7 x1.f0.f7.length c7], .agg #[.int .i64 x1.f1.f0, .int .i64 x1.f1.f1, .bool x1.f1.f2], .agg #[.int .i64 x1.f2.f0, .int .i64 x1.f2.f1, .bool x1.f2.f2]] (by rfl) rfl rfl (by (try simp only [List.map_toArray, List.map_cons, List.map_nil]); first | done | rfl) ?_
 refine (new_w (p := x1.f0) (s := x1.f1) (h := x1.f2) (cp := #[.int .i64 x1.f0.f0, .int .i64 x1.f0.f1, .slice A2 x1.f0.f2.length c2, .int .i64 x1.f0.f3, .int .i64 x1.f0.f4, .int .i64 x1.f0.f5, .int .i64 x1.f0.f6, .slice A7 x1.f0.f7.length c7]) (k27.K_below FB HKP.out) FN.out).mono ?_
 rintro e_ w_ ⟨cc, rfl, Occ, hb⟩
 refine ⟨_, rfl, ?_⟩
 replace FB := below_step FB hb
 replace FC := blk_below FC hb
 replace FX := blk_below FX hb
 clear hb
 refine hK.out _ _ ⟨FC, FX⟩ (fun hHeld => ?_)
 clear hK K
 refine no_ 46 ?_
 refine one_ (i := 28) (N := some 53) #[true, true, true, true, true, true, true, true, true, true, true, true, true, true, true, true, true, true, true, true, true, true, true, true, true, true, true, true, true, false, false, false, false, false, false, false, false, false] rfl rfl (by kernel_rfl) (by decide) (fun K hK => ?_)
 refine goes_ Try.func17 (by kernel_rfl) rfl #[.agg #[.int .i64 x1.f0.f0, .int .i64 x1.f0.f1, .slice A2 x1.f0.f2.length c2, .int .i64 x1.f0.f3, .int .i64 x1.f0.f4, .int .i64 x1.f0.f5, .int .i64 x1.f0.f6, .slice A7 x1.f0.f7.length c7], .agg #[.int .i64 x1.f1.f0, .int .i64 x1.f1.f1, .bool x1.f1.f2], .agg #[.int .i64 x1.f2.f0, .int .i64 x1.f2.f1, .bool x1.f2.f2]] (by rfl) rfl rfl (by (try simp only [List.map_toArray, List.map_cons, List.map_nil]); first | done | rfl) ?_
 refine (rnew_w (p := x1.f0) (s := x1.f1) (h := x1.f2) (cp := #[.int .i64 x1.f0.f0, .int .i64 x1.f0.f1, .slice A2 x1.f0.f2.length c2, .int .i64 x1.f0.f3, .int .i64 x1.f0.f4, .int .i64 x1.f0.f5, .int .i64 x1.f0.f6, .slice A7 x1.f0.f7.length c7]) (k27.K_below FB HKP.out) FQ.out).mono ?_
 rintro e_ w_ ⟨cd, rfl, Ocd, hb⟩
 refine ⟨_, rfl, ?_⟩
 replace FB := below_step FB hb
 replace FC := blk_below FC hb
 replace FX := blk_below FX hb
 replace Occ := Occ.below hb
 clear hb
 refine hK.out _ _ ⟨FC, FX⟩ (fun hHeld => ?_)
 clear hK K
 refine no_ 53 ?_
 refine one_ (i := 29) (N := some 54) #[true, true, true, true, true, true, true, true, true, true, true, true, true, true, true, true, true, true, true, true, true, true, true, true, true, true, true, true, true, true, false, false, false, false, false, false, false, false] rfl rfl (by kernel_rfl) (by decide) (fun K hK => ?_)
 refine goes_ Try.func13 (by kernel_rfl) rfl #[.agg cc, .agg cd] (by rfl) rfl rfl (by (try simp only [List.map_toArray, List.map_cons, List.map_nil]); first | done | rfl) ?_
 refine (same_w Occ.K Ocd.K F2.out).mono ?_
 rintro e_ w_ ⟨rfl, hb⟩
 refine ⟨_, rfl, ?_⟩
 replace FB := below_step FB hb
 replace FC := blk_below FC hb
 replace FX := blk_below FX hb
 replace Occ := Occ.below hb
 replace Ocd := Ocd.below hb
 clear hb Occ Ocd
 refine hK.out _ _ ⟨FC, FX⟩ (fun hHeld => ?_)
 clear hK K
 refine no_ 54 ?_
 refine pu_ 30 55 #[true, true, true, true, true, true, true, true, true, true, true, true, true, true, true, true, true, true, true, true, true, true, true, true, true, true, true, true, true, true, true, false, false, false, false, false, false, false] ?_
 refine pu_ 31 56 #[true, true, true, true, true, true, true, true, true, true, true, true, true, true, true, true, true, true, true, true, true, true, true, true, true, true, true, true, true, true, true, true, false, false, false, false, false, false] ?_
 refine take_ (i := 32) (N := some 57) (v := .agg cs1) (a' := ?_) #[true, true, true, true, true, true, true, true, true, true, true, true, true, true, true, true, true, true, true, true, true, true, true, true, true, true, true, true, true, true, true, true, true, false, false, false, false, false] rfl rfl (by kernel_rfl) (fun _ _ _ h => h) (yields_row (by rfl) 37 (.tmp 5) rfl (w.heap.size + 1) rfl cs1 _ (fun w' hS => range_row hS.2) hu1 rfl (k_info HKX.out)) hHeld ?_ ?_
 rotate_left
 ·simp only [Act.put, List.setIfInBounds_toArray, List.set_cons_zero, List.set_cons_succ, i64_w, i32_w]
  rfl
 refine take_ (i := 34) (N := some 59) (v := .agg cs1) (a' := ?_) #[true, true, true, true, true, true, true, true, true, true, true, true, true, true, true, true, true, true, true, true, true, true, true, true, true, true, true, true, true, true, true, true, true, false, true, false, false, false] rfl rfl (by kernel_rfl) (fun _ _ _ h => h) (yields_row (by rfl) 37 (.tmp 5) rfl (w.heap.size + 1) rfl cs1 _ (fun w' hS => range_row hS.2) hu1 rfl (k_info HKX.out)) hHeld ?_ ?_
 rotate_left
 ·simp only [Act.put, List.setIfInBounds_toArray, List.set_cons_zero, List.set_cons_succ, i64_w, i32_w]
  rfl
 refine one_ (i := 33) (N := some 58) #[true, true, true, true, true, true, true, true, true, true, true, true, true, true, true, true, true, true, true, true, true, true, true, true, true, true, true, true, true, true, true, true, true, true, true, false, false, false] rfl rfl (by kernel_rfl) (by decide) (fun K hK => ?_)
 refine goes_ Try.func18 (by kernel_rfl) rfl #[.agg cs1] (by rfl) rfl rfl (by (try simp only [List.map_toArray, List.map_cons, List.map_nil]); first | done | rfl) ?_
 refine (own_w (k37.K_below FB HKX.out) FO.out).mono ?_
 rintro e_ w_ ⟨ce, rfl, Oce, hb⟩
 refine ⟨_, rfl, ?_⟩
 replace FB := below_step FB hb
 replace FC := blk_below FC hb
 replace FX := blk_below FX hb
 clear hb
 refine hK.out _ _ ⟨FC, FX⟩ (fun hHeld => ?_)
 clear hK K
 refine no_ 58 ?_
 refine one_ (i := 35) (N := some 60) #[true, true, true, true, true, true, true, true, true, true, true, true, true, true, true, true, true, true, true, true, true, true, true, true, true, true, true, true, true, true, true, true, true, true, true, true, false, false] rfl rfl (by kernel_rfl) (by decide) (fun K hK => ?_)
 refine goes_ Try.func13 (by kernel_rfl) rfl #[.agg ce, .agg cs1] (by rfl) rfl rfl (by (try simp only [List.map_toArray, List.map_cons, List.map_nil]); first | done | rfl) ?_
 refine (same_w Oce.K (k37.K_below FB HKX.out) F3.out).mono ?_
 rintro e_ w_ ⟨rfl, hb⟩
 refine ⟨_, rfl, ?_⟩
 replace FB := below_step FB hb
 replace FC := blk_below FC hb
 replace FX := blk_below FX hb
 replace Oce := Oce.below hb
 clear hb Oce
 refine hK.out _ _ ⟨FC, FX⟩ (fun hHeld => ?_)
 clear hK K
 refine no_ 60 ?_
 refine pu_ 36 61 #[true, true, true, true, true, true, true, true, true, true, true, true, true, true, true, true, true, true, true, true, true, true, true, true, true, true, true, true, true, true, true, true, true, true, true, true, true, false] ?_
 refine pu_ 37 8 #[true, true, true, true, true, true, true, true, true, true, true, true, true, true, true, true, true, true, true, true, true, true, true, true, true, true, true, true, true, true, true, true, true, true, true, true, true, true] ?_
 refine done_ (by kernel_rfl) ?_
 have HBB := below_step HX.out.hS.1 FB
 (try go_wp2)
 go_ret
 exact ⟨rfl, HBB⟩
end Go.Proofs.Ytefgoffaidjiaaa.PAll
namespace Go.Proofs.Ytefgoffaidjiaaa.fleetTells
open Go.ChangeShapes Go.WideShapes Go.ChangeAt Go.RowKit
open Go.ChangeMaps (open_string shut_string)
set_option linter.unusedVariables false
theorem own : ownKnob Try.prog.godebug = none := by kernel_rfl
theorem laidOut : laidOutB Try.prog = true := by kernel_rfl
set_option maxRecDepth 100000 in
theorem lifted (os : Os) (started : os.Started) (H : Type) (enc : TypeId × Value → H) :
  ReturnsInHanded {} Try.checked os 3 .any (Rows.fleetTellsSpec.pre6 enc Try.prog Try.f3 Rows.fleetTellsRow.domain false) (Rows.fleetTellsSpec.post enc Try.prog Try.f3 false true false false) := by
 refine returnsInHanded_of_change_sized (C := Try.checked) own started (by kernel_rfl) Try.func3
  (ChangeSpec.witness6 (enc := enc) (C := Try.checked) false ⟨#[], #[.agg #[.int .i64 0, .int .i64 0, .int .i64 0, .int .i64 0, .int .i64 0, .int .i64 0, .int .i64 0, .int .i64 0, .int .i64 0, .int .i64 0, .int .i64 0, .int .i64 0], .agg #[.int .i64 0, .int .i64 0, .slice none 0 0, .int .i64 0, .int .i64 0, .int .i64 0, .int .i64 0, .slice none 0 0, .int .i64 0, .int .i64 0, .bool false, .int .i64 0, .int .i64 0, .bool false, .int .i64 0, .slice none 0 0, .int .i64 0, .int .i64 0, .slice none 0 0], .int .i64 0, .int .i64 0], []⟩ 8 (by kernel_rfl) (by kernel_rfl) (by kernel_rfl) (by kernel_rfl)) ?_
 intro W base args ds gs before hval0 hW hcnd hsz0 _
 have hval : ∀ (j : Nat) t v, Try.f3.params[j]? = some t → args[j]? = some v → Value.okWide Try.prog W .any base t v := hval0
 have hW' := hW
 obtain ⟨p, q, hA0, hV, rfl, hfz, hnd⟩ := hW
 have hA : DataW.TrodAll enc Try.prog W 0 (fun _ => true) true Try.f3.params.toList args.toList ds p := hA0
 rw [Try.params3] at hA hval
 obtain ⟨v0, vs0, d0, ds0, p0, q0, hargs, rfl, rfl, h0, r0⟩ := trodAll_cons hA
 obtain ⟨v1, vs1, d1, ds1, p1, q1, rfl, rfl, rfl, h1, r1⟩ := trodAll_cons r0
 obtain ⟨v2, vs2, d2, ds2, p2, q2, rfl, rfl, rfl, h2, r2⟩ := trodAll_cons r1
 obtain ⟨v3, vs3, d3, ds3, p3, q3, rfl, rfl, rfl, h3, r3⟩ := trodAll_cons r2
 obtain ⟨rfl, rfl, rfl⟩ := trodAll_nil r3
 obtain rfl : args = #[v0, v1, v2, v3] := by cases args; simp_all
 obtain ⟨rfl, rfl⟩ := trodVars_none hV
 have k0 := h0
 have lt0 : ∀ x ∈ p0, x.block < W.heap.size := by obtain ⟨m, hm⟩ := k0; exact DataW.trod_lt m _ _ _ hm
 obtain ⟨cs0, rfl, _⟩ := okWide_struct Try.underlying23 (hval 0 23 v0 rfl rfl)
 obtain ⟨fuel0, hf0⟩ := h0
 obtain ⟨x0, g0, o0⟩ := PAll.rdy23 enc W _ _ _ _ _ _ hf0
 have k1 := h1
 have lt1 : ∀ x ∈ p1, x.block < W.heap.size := by obtain ⟨m, hm⟩ := k1; exact DataW.trod_lt m _ _ _ hm
 obtain ⟨cs1, rfl, _⟩ := okWide_struct Try.underlying37 (hval 1 37 v1 rfl rfl)
 obtain ⟨fuel1, hf1⟩ := h1
 obtain ⟨x1, g1, o1⟩ := PAll.rdy37 enc W _ _ _ _ _ _ hf1
 obtain ⟨a2, rfl, rfl, rfl, w2⟩ := open_int Try.underlying2 (hval 2 2 v2 rfl rfl) h2
 obtain ⟨a3, rfl, rfl, rfl, w3⟩ := open_int Try.underlying2 (hval 3 2 v3 rfl rfl) h3
 clear hA0 hval0 hsz0
 refine (PAll.governorlaw18_FleetTells.walk2 W cs0 x0 g0 o0 cs1 x1 g1 o1 a2 w2 a3 w3).mono fun e W' ⟨he, bel⟩ => ?_
 subst he
 exact ⟨_, rfl, _, _, _, [], _, [], hW', trodAll_mk1 (shut_bool Try.underlying4 _), (trodAll_cons_mk (Below.trod laidOut (by kernel_rfl) (of_decide_eq_true (by kernel_rfl)) k0 bel lt0) (trodAll_cons_mk (Below.trod laidOut (by kernel_rfl) (of_decide_eq_true (by kernel_rfl)) k1 bel lt1) (trodAll_cons_mk (shut_int Try.underlying2 w2) (trodAll_cons_mk (shut_int Try.underlying2 w3) trodAll_mk0)))), rfl, bel.frame _, fun h => by cases h⟩
theorem over : Rows.fleetTellsRow.holds Try.pinned (OpenSpec.ofChange Rows.fleetTellsSpec) :=
 OpenClaim.holds_of_wide 3 Try.f3 rfl rfl rfl rfl rfl rfl rfl ⟨rfl, rfl, rfl, rfl, rfl⟩ rfl rfl rfl rfl rfl (by kernel_rfl) Try.func3 (by kernel_rfl)
  (of_decide_eq_true (by kernel_rfl)) (by unfold Func.isWrapper; first | (rw [if_pos (by decide +kernel)]; kernel_rfl) | (rw [if_neg (by decide +kernel)]; exact ⟨rfl, rfl⟩))
  (fun os started H enc _ => lifted os started H enc)
theorem proved : Rows.FleetTellsSaid := over
#print axioms proved
end Go.Proofs.Ytefgoffaidjiaaa.fleetTells
namespace Go.Proofs.Ytefgoffaidjiaaa
/-- The row, under a short name, for the claim. -/
theorem fleetTells_holds : Rows.FleetTellsSaid := fleetTells.proved
end Go.Proofs.Ytefgoffaidjiaaa
