/- The law FleetBounds (P18.2): a sim that is right is right behind each step, its hold within bounds, its replicas as many, and marked; for every configuration, sim, row of demands and time. -/
import Derived.Test.YtefgoffaidjiaaaMcA5
namespace Go.Proofs.Ytefgoffaidjiaaa.PAll
open Go.RowKit Go.Proofs.YtefgoffaidjiaaaW.PrintWords Go.Proofs.YtefgoffaidjiaaaW.PrintLast Go.Proofs.YtefgoffaidjiaaaW.PrintMore
set_option linter.unusedVariables false
set_option linter.unusedSimpArgs false
set_option maxHeartbeats 8000000 in
set_option maxRecDepth 100000 in
theorem governorlaw18_FleetBounds.walk2 (w : World) (cs0 : Array Value) (x0 : S23) (g0 : k23.K w x0 cs0.toList) (o0 : ok23 x0) (cs1 : Array Value) (x1 : S37) (g1 : k37.K w x1 cs1.toList) (o1 : ok37 x1) (v2 : Value) (x2 : List Int) (g2 : (Kd.slice 2 (Kd.int .i64)).K w x2 [v2]) (o2 : ∀ x ∈ x2, (fun n_ : Int => (Lit.int .i64 n_).wf = true) x) (x3 : Int) (o3 : (Lit.int .u16 x3).wf = true) :
    Calls Try.prog 4 #[.agg cs0, .agg cs1, v2, .int .u16 x3] w fun e w' => e = .returned (.bool true) ∧ Below w.heap.size w w' := by
  obtain ⟨A2, c2, e2, hc2, hr2⟩ := g2
  obtain rfl := List.singleton_inj.1 e2
  have HR2 := Aside0.mk hr2
  clear hr2 hc2 o2
  have hu0 := Try.underlying69
  have hu1 := Try.underlying37
  have hu2 := Try.underlying27
  have hu3 := Try.underlying29
  have hu4 := Try.underlying23
  have hu5 := Try.underlying31
  have hu6 := Try.underlying34
  have hu7 := Try.underlying52
  have ec := k23_open g0
  obtain rfl : cs0 = #[.int .i64 x0.f0, .int .i64 x0.f1, .int .i64 x0.f2, .int .i64 x0.f3, .int .i64 x0.f4, .int .i64 x0.f5, .int .i64 x0.f6, .int .i64 x0.f7, .int .i64 x0.f8, .int .i64 x0.f9, .int .i64 x0.f10, .int .i64 x0.f11] := by cases cs0; simpa using ec
  clear ec
  have HK1 := Aside0.mk g1
  obtain ⟨A2, c2, A7, c7, A15, c15, A18, c18, e1, l2, r2, l7, r7, l15, r15, l18, r18⟩ := k37_open g1
  have ecs : cs1 = #[.int .i64 x1.f0.f0, .int .i64 x1.f0.f1, .slice A2 x1.f0.f2.length c2, .int .i64 x1.f0.f3, .int .i64 x1.f0.f4, .int .i64 x1.f0.f5, .int .i64 x1.f0.f6, .slice A7 x1.f0.f7.length c7, .int .i64 x1.f1.f0, .int .i64 x1.f1.f1, .bool x1.f1.f2, .int .i64 x1.f2.f0, .int .i64 x1.f2.f1, .bool x1.f2.f2, .int .i64 x1.f3.f0, .slice A15 x1.f3.f1.length c15, .int .i64 x1.f3.f2, .int .i64 x1.f3.f3, .slice A18 x1.f4.length c18] := by cases cs1; simpa using e1
  clear e1 l2 r2 l7 r7 l15 r15 l18 r18
  have hx0 := HK1.out
  rw [ecs] at hx0 ⊢
  go_enter Try.func4, Try.ntmps4
  go_upto_region 1 with (fail)
  have ht := ctx_mk w #[.int .i64 x0.f0, .int .i64 x0.f1, .int .i64 x0.f2, .int .i64 x0.f3, .int .i64 x0.f4, .int .i64 x0.f5, .int .i64 x0.f6, .int .i64 x0.f7, .int .i64 x0.f8, .int .i64 x0.f9, .int .i64 x0.f10, .int .i64 x0.f11] _ x1 hx0
  generalize (w.alloc _).alloc _ = W at ht ⊢
  rw [← ecs] at ht
  have HX := Aside0.mk ht
  have HE := Aside0.mk ecs
  clear ht hx0 ecs g1
  have xc := blk_cell HX.out.hC
  go_upto_region 2 with (go_at_call 9; refine (governorlaw18_head.calls true _ rfl).mono ?_; rintro e_ w1 ⟨rfl, hb⟩; replace HX := Aside0.mk (HX.out.below hb); clear hb xc; have xc := blk_cell HX.out.hC)
  obtain ⟨r, hr, hP⟩ := right_tells x1 20 (Nat.le_refl _)
  have HR := Aside0.mk hr
  have HP := Aside0.mk (fun h : r = true => hP h)
  have HW3 := Aside0.mk (wfu16 o3)
  clear hr hP o0 o1 o3
  have hq : confB x0 = false ∨ (confB x0 = true ∧ (r = false ∨ (r = true ∧ (decide (60 < (x2.length : Int)) = true ∨ decide (60 < (x2.length : Int)) = false)))) := by cases confB x0 <;> cases r <;> cases decide (60 < (x2.length : Int)) <;> simp
  rcases hq with h1 | ⟨h1, rfl | ⟨rfl, h3 | h3⟩⟩
  iterate 3
    · as_aux_lemma =>
      go_wp2_with (first
        | (go_at_call 10; refine (conf_w x0 _).mono ?_; rintro e_ w1 ⟨rfl, hb⟩; replace HX := Aside0.mk (HX.out.below hb); clear hb xc; have xc := blk_cell HX.out.hC)
        | (go_at_call 11; refine (right_w (HX.out.K (g := w.heap.size + 1) (x := x1) (cs := cs1) (by simp)) HR.out).mono ?_; rintro e_ w1 ⟨rfl, hb⟩; replace HX := Aside0.mk (HX.out.below hb); clear hb xc; have xc := blk_cell HX.out.hC)
        | ((with_reducible refine gate_dst (N := 19) rfl ?_); (try (refine gate_guard (by rfl) ?_; dsimp only)); refine load_pre rfl 37 (.tmp 5) rfl (w.heap.size + 1) rfl cs1 _ (range_row (HX.out.heap (x := x1) (by simp))) hu1 rfl (k_info (HX.out.K (x := x1) (g := (w.heap.size + 1)) (by simp))) ?_))
      go_ret
      exact ⟨rfl, HX.out.hS.1⟩
  have P := HP.out rfl
  have C := conf_cfg h1
  have HCF := Aside0.mk C
  have HPP := Aside0.mk P
  have HN := Aside0.mk (show (x2.length : Int) ≤ 60 by simpa using h3)
  clear P C HP
  go_upto_region 4 with (first
    | (go_at_call 10; refine (conf_w x0 _).mono ?_; rintro e_ w1 ⟨rfl, hb⟩; replace HX := Aside0.mk (HX.out.below hb); clear hb xc; have xc := blk_cell HX.out.hC)
    | (go_at_call 11; refine (right_w (HX.out.K (g := w.heap.size + 1) (x := x1) (cs := cs1) (by simp)) HR.out).mono ?_; rintro e_ w1 ⟨rfl, hb⟩; replace HX := Aside0.mk (HX.out.below hb); clear hb xc; have xc := blk_cell HX.out.hC)
    | ((with_reducible refine gate_dst (N := 19) rfl ?_); (try (refine gate_guard (by rfl) ?_; dsimp only)); refine load_pre rfl 37 (.tmp 5) rfl (w.heap.size + 1) rfl cs1 _ (range_row (HX.out.heap (x := x1) (by simp))) hu1 rfl (k_info (HX.out.K (x := x1) (g := (w.heap.size + 1)) (by simp))) ?_))
  clear h1 h3
  go_wp2
  go_loopw [10] (fun v wr => ∃ (i : Int) (X : S37) (cX : Array Value), 0 ≤ i ∧ i ≤ (x2.length : Int) ∧ v = .int .i64 i ∧ Aside0 (SimP X ∧ rightF 20 X = some true) ∧ Aside0 (Ctx w wr #[.int .i64 x0.f0, .int .i64 x0.f1, .int .i64 x0.f2, .int .i64 x0.f3, .int .i64 x0.f4, .int .i64 x0.f5, .int .i64 x0.f6, .int .i64 x0.f7, .int .i64 x0.f8, .int .i64 x0.f9, .int .i64 x0.f10, .int .i64 x0.f11] [((w.heap.size + 1), X, cX)])) (fun v _ => ((x2.length : Int) - intOf v).toNat)
  case atStart => exact ⟨0, x1, cs1, Int.le_refl _, by omega, rfl, ⟨HPP.out, HR.out⟩, HX⟩
  case round =>
    clear HX xc HPP HR
    obtain ⟨i, X, cX, h0, hi, rfl, HP, HX⟩ := hrel
    have xc := blk_cell HX.out.hC
    by_cases hlt : i < (x2.length : Int)
    · obtain ⟨ad, e0, hd⟩ := Kd.at_int (Kd.C_below HR2.out HX.out.hS.1) i h0 hlt
      cases e0
      have HD := Aside0.mk hd
      clear hd
      have hv : wrap64 x3 = x3 := wrN (by have := HW3.out; omega) (by have := HW3.out; omega)
      have hv2 : wrap64 (x3 + i) = x3 + i := wrN (by have := HW3.out; omega) (by have := HW3.out; have := HN.out; omega)
      have hu : IntKind.wrap .i64 x3 = x3 := (i64_w _).trans hv
      have hu2 : IntKind.wrap .i64 (x3 + i) = x3 + i := (i64_w _).trans hv2
      have T0 : 0 ≤ x3 + i ∧ x3 + i ≤ 1099511627776 := by have := HW3.out; have := HN.out; omega
      have FS := Aside0.mk (step_tells HCF.out HP.out.1 (rd x2 i) (x3 + i) T0.1 T0.2 20 (Nat.le_refl _))
      have FY := Aside0.mk (step_sim HCF.out HP.out.1 (rd x2 i) (x3 + i) T0.1 T0.2)
      have FSN := Aside0.mk (fun hz : X.f0.f0 ≠ 0 => step_seen HCF.out HP.out.1 hz (rd x2 i) (x3 + i) T0.1 T0.2)
      have FR := Aside0.mk (right_again (Nat.le_refl 20) HP.out.2 FY.out.2 FY.out.1)
      have FP := Aside0.mk (samePol_refl (p := X.f0) HP.out.1.pol.b8 HP.out.1.pol.s8)
      obtain ⟨z, hz, hzi⟩ := zero_tells HP.out.1 HP.out.2
      have FZE := Aside0.mk hz
      have FZI := Aside0.mk hzi
      clear T0 hz hzi
      go_upto_region 7 with (fail)
      generalize wr = W0 at HX HD xc ⊢
      go_cut [11] (fun v wc => ∃ (g b : Nat) (cy : Array Value), v = .pointer (some ⟨g, 0, none⟩) ∧ Ctx w wc #[.int .i64 x0.f0, .int .i64 x0.f1, .int .i64 x0.f2, .int .i64 x0.f3, .int .i64 x0.f4, .int .i64 x0.f5, .int .i64 x0.f6, .int .i64 x0.f7, .int .i64 x0.f8, .int .i64 x0.f9, .int .i64 x0.f10, .int .i64 x0.f11] [(g, (stepS x0 X (rd x2 i) (x3 + i)), cy), ((w.heap.size + 1), X, cX)] ∧ OwnX b wc (stepS x0 X (rd x2 i) (x3 + i)) cy)
      case first => as_aux_lemma =>
        clear xc
        have FC := HX.out.hC
        have FX := HX.out.heap (g := (w.heap.size + 1)) (x := X) (cs := cX) (by simp)
        have HKX := Aside0.mk (HX.out.K (g := (w.heap.size + 1)) (x := X) (cs := cX) (by simp))
        have FD := HD.out
        refine start_ (n := 13) (S := fun w' => w'.heap[w.heap.size]? = some (.cells #[.int .i64 x0.f0, .int .i64 x0.f1, .int .i64 x0.f2, .int .i64 x0.f3, .int .i64 x0.f4, .int .i64 x0.f5, .int .i64 x0.f6, .int .i64 x0.f7, .int .i64 x0.f8, .int .i64 x0.f9, .int .i64 x0.f10, .int .i64 x0.f11] 23 (0, 0)) ∧ w'.heap[(w.heap.size + 1)]? = some (.cells cX 37 (0, 0)) ∧ w'.cell? (ad.add i.toNat) = some (.int .i64 (rd x2 i))) (ds := []) #[false, false, false, false, false, false, false, false, false, false, false, false, false] (by kernel_rfl) rfl rfl ⟨FC, FX, FD⟩ (fun hHeld => ?_)
        have FB := below_drew1 (Below.refl W0.heap.size W0)
        replace FC := blk_below FC FB
        replace FX := blk_below FX FB
        replace FD := (FB.cell (World.block_lt_of_cell? _ _ FD)).trans FD
        generalize W0.drew = w9 at FB FC FX FD hHeld ⊢
        refine take_ (i := 0) (N := some 35) (v := ?_) (a' := ?_) #[true, false, false, false, false, false, false, false, false, false, false, false, false] rfl rfl (by kernel_rfl) (fun _ _ _ h => h) (Or.inl ⟨by rfl, ?_⟩) hHeld ?_ ?_
        rotate_left
        · intro w' hS
          have s := blk_cell hS.1
          clear hS
          go_simp
          with_reducible rfl
        rotate_left
        · simp only [Act.put, List.setIfInBounds_toArray, List.set_cons_zero, List.set_cons_succ, i64_w, i32_w]
          rfl
        refine take_ (i := 1) (N := some 36) (v := .agg cX) (a' := ?_) #[true, true, false, false, false, false, false, false, false, false, false, false, false] rfl rfl (by kernel_rfl) (fun _ _ _ h => h) (yields_row (by rfl) 37 (.tmp 5) rfl (w.heap.size + 1) rfl cX _ (fun w' hS => range_row hS.2.1) hu1 rfl (k_info HKX.out)) hHeld ?_ ?_
        rotate_left
        · simp only [Act.put, List.setIfInBounds_toArray, List.set_cons_zero, List.set_cons_succ, i64_w, i32_w]
          rfl
        refine pure_ (i := 2) (N := some 37) (v := ?_) (a' := ?_) #[true, true, true, false, false, false, false, false, false, false, false, false, false] rfl rfl (by kernel_rfl) (fun _ _ _ h => h) (Or.inl ⟨by rfl, ?_⟩) ?_ ?_
        rotate_left
        · intro w'
          go_simp
          with_reducible rfl
        rotate_left
        · simp only [Act.put, List.setIfInBounds_toArray, List.set_cons_zero, List.set_cons_succ, i64_w, i32_w]
          rfl
        refine pure_ (i := 3) (N := some 38) (v := ?_) (a' := ?_) #[true, true, true, true, false, false, false, false, false, false, false, false, false] rfl rfl (by kernel_rfl) (fun _ _ _ h => h) (Or.inl ⟨by rfl, ?_⟩) ?_ ?_
        rotate_left
        · intro w'
          go_simp
          with_reducible rfl
        rotate_left
        · simp only [Act.put, List.setIfInBounds_toArray, List.set_cons_zero, List.set_cons_succ, i64_w, i32_w]
          rfl
        refine pure_ (i := 6) (N := some 41) (v := ?_) (a' := ?_) #[true, true, true, true, false, false, true, false, false, false, false, false, false] rfl rfl (by kernel_rfl) (fun _ _ _ h => h) (Or.inl ⟨by rfl, ?_⟩) ?_ ?_
        rotate_left
        · intro w'
          go_simp
          with_reducible rfl
        rotate_left
        · simp only [Act.put, List.setIfInBounds_toArray, List.set_cons_zero, List.set_cons_succ, i64_w, i32_w]
          rfl
        refine pure_ (i := 8) (N := some 43) (v := ?_) (a' := ?_) #[true, true, true, true, false, false, true, false, true, false, false, false, false] rfl rfl (by kernel_rfl) (fun _ _ _ h => h) (Or.inl ⟨by rfl, ?_⟩) ?_ ?_
        rotate_left
        · intro w'
          go_simp
          with_reducible rfl
        rotate_left
        · simp only [Act.put, List.setIfInBounds_toArray, List.set_cons_zero, List.set_cons_succ, i64_w, i32_w]
          rfl
        refine pure_ (i := 4) (N := some 39) (v := ?_) (a' := ?_) #[true, true, true, true, true, false, true, false, true, false, false, false, false] rfl rfl (by kernel_rfl) (fun _ _ _ h => h) (Or.inl ⟨by rfl, ?_⟩) ?_ ?_
        rotate_left
        · intro w'
          go_simp
          with_reducible rfl
        rotate_left
        · simp only [Act.put, List.setIfInBounds_toArray, List.set_cons_zero, List.set_cons_succ, i64_w, i32_w]
          rfl
        refine pure_ (i := 7) (N := some 42) (v := ?_) (a' := ?_) #[true, true, true, true, true, false, true, true, true, false, false, false, false] rfl rfl (by kernel_rfl) (fun _ _ _ h => h) (Or.inl ⟨by rfl, ?_⟩) ?_ ?_
        rotate_left
        · intro w'
          go_simp
          with_reducible rfl
        rotate_left
        · simp only [Act.put, List.setIfInBounds_toArray, List.set_cons_zero, List.set_cons_succ, i64_w, i32_w]
          rfl
        refine take_ (i := 5) (N := some 40) (v := ?_) (a' := ?_) #[true, true, true, true, true, true, true, true, true, false, false, false, false] rfl rfl (by kernel_rfl) (fun _ _ _ h => h) (Or.inl ⟨by rfl, ?_⟩) hHeld ?_ ?_
        rotate_left
        · intro w' hS
          have s := hS.2.2
          clear hS
          go_simp
          with_reducible rfl
        rotate_left
        · simp only [Act.put, List.setIfInBounds_toArray, List.set_cons_zero, List.set_cons_succ, i64_w, i32_w]
          rfl
        refine pure_ (i := 9) (N := some 44) (v := ?_) (a' := ?_) #[true, true, true, true, true, true, true, true, true, true, false, false, false] rfl rfl (by kernel_rfl) (fun _ _ _ h => h) (Or.inl ⟨by rfl, ?_⟩) ?_ ?_
        rotate_left
        · intro w'
          go_simp
          with_reducible rfl
        rotate_left
        · simp only [Act.put, List.setIfInBounds_toArray, List.set_cons_zero, List.set_cons_succ, i64_w, i32_w]
          rfl
        refine two_ (i := 10) (j := 11) (Ni := some 45) (Nj := some 11) #[true, true, true, true, true, true, true, true, true, true, true, false, false] #[true, true, true, true, true, true, true, true, true, true, false, true, false] rfl rfl rfl rfl (by kernel_rfl) (by decide) (by decide) (fun K hK => ?_) (fun K hK => ?_)
        · skip
          refine goes_ Try.func14 (by kernel_rfl) rfl #[.agg #[.int .i64 x0.f0, .int .i64 x0.f1, .int .i64 x0.f2, .int .i64 x0.f3, .int .i64 x0.f4, .int .i64 x0.f5, .int .i64 x0.f6, .int .i64 x0.f7, .int .i64 x0.f8, .int .i64 x0.f9, .int .i64 x0.f10, .int .i64 x0.f11], .agg cX, .int .i64 (rd x2 i), .int .i64 (x3 + i)] (by rfl) rfl rfl (by (try simp only [List.map_toArray, List.map_cons, List.map_nil]); first | done | rfl) ?_
          refine (step_w (k := 20) (c := x0) (x := X) (y := (stepS x0 X (rd x2 i) (x3 + i))) (k37.K_below FB HKX.out) FS.out).mono ?_
          rintro e_ w_ ⟨cy, rfl, FO, hb⟩
          refine ⟨_, rfl, ?_⟩
          replace FB := below_step FB hb
          replace FC := blk_below FC hb
          replace FX := blk_below FX hb
          replace FD := (hb.cell (World.block_lt_of_cell? _ _ FD)).trans FD
          clear hb
          refine hK.out _ _ ⟨FC, FX, FD⟩ (fun hHeld => ?_)
          clear hK K
          refine norm_ (a' := ?_) ?_ ?_
          rotate_left
          · show Act.put _ (some 45) _ = _
            simp only [Act.put, List.setIfInBounds_toArray, List.set_cons_zero, List.set_cons_succ, i64_w, i32_w]
            rfl
          refine one_ (i := 11) (N := some 11) #[true, true, true, true, true, true, true, true, true, true, true, true, false] rfl rfl (by kernel_rfl) (by decide) (fun K hK => ?_)
          refine box_step ?hg (N := 11) ?hd (cs := #[.int .i64 0, .int .i64 0, .slice none 0 0, .int .i64 0, .int .i64 0, .int .i64 0, .int .i64 0, .slice none 0 0, .int .i64 0, .int .i64 0, .bool false, .int .i64 0, .int .i64 0, .bool false, .int .i64 0, .slice none 0 0, .int .i64 0, .int .i64 0, .slice none 0 0]) (t := 37) ?hr ?_; (case hd => rfl); (case hg => rfl); (case hr => first | (go_simp; done) | (go_simp; rfl))
          intro g e_ w_ FZ hb
          have hge : W0.heap.size ≤ g := by rw [e_]; exact FB.size
          clear e_
          replace FB := below_step FB hb
          replace FC := blk_below FC hb
          replace FX := blk_below FX hb
          replace FD := (hb.cell (World.block_lt_of_cell? _ _ FD)).trans FD
          replace FO := FO.below hb
          clear hb
          refine hK.out _ _ ⟨FC, FX, FD⟩ (fun hHeld => ?_)
          clear hK K
          refine norm_ (a' := ?_) ?_ ?_
          rotate_left
          · show Act.put _ (some 11) _ = _
            simp only [Act.put, List.setIfInBounds_toArray, List.set_cons_zero, List.set_cons_succ, i64_w, i32_w]
            rfl
          refine one_ (i := 12) (N := none) #[true, true, true, true, true, true, true, true, true, true, true, true, true] rfl rfl (by kernel_rfl) (by decide) (fun K hK => ?_)
          obtain ⟨hst, _, hn⟩ := ctx_store HX.out FB hge FZ rfl FO
          have HN := Aside0.mk hn
          have HOC := Aside0.mk (FO.cells (vs := cy.toList) FZ)
          have hsz := k_size FO.K
          have HBB := Aside0.mk (below_cells (vs := cy.toList) FB hge)
          replace FD := (HBB.out.cell (World.block_lt_of_cell? _ _ HD.out)).trans HD.out
          refine skip_ (w1 := ?_) (by rfl) rfl ?_ ?_
          rotate_left
          · go_simp
            rfl
          clear hst FZ FO FB hsz
          replace FX := HN.out.heap (g := (w.heap.size + 1)) (x := X) (cs := cX) (by simp)
          replace FC := HN.out.hC
          refine hK.out _ _ ⟨FC, FX, FD⟩ (fun hHeld => ?_)
          clear hK K
          refine done_ (by kernel_rfl) ?_
          (try go_wp2)
          go_meet
          exact ⟨g, _, cy, rfl, HN.out, HOC.out⟩
        · skip
          refine box_step ?hg (N := 11) ?hd (cs := #[.int .i64 0, .int .i64 0, .slice none 0 0, .int .i64 0, .int .i64 0, .int .i64 0, .int .i64 0, .slice none 0 0, .int .i64 0, .int .i64 0, .bool false, .int .i64 0, .int .i64 0, .bool false, .int .i64 0, .slice none 0 0, .int .i64 0, .int .i64 0, .slice none 0 0]) (t := 37) ?hr ?_; (case hd => rfl); (case hg => rfl); (case hr => first | (go_simp; done) | (go_simp; rfl))
          intro g e_ w_ FZ hb
          have hge : W0.heap.size ≤ g := by rw [e_]; exact FB.size
          clear e_
          replace FB := below_step FB hb
          replace FC := blk_below FC hb
          replace FX := blk_below FX hb
          replace FD := (hb.cell (World.block_lt_of_cell? _ _ FD)).trans FD
          clear hb
          refine hK.out _ _ ⟨FC, FX, FD⟩ (fun hHeld => ?_)
          clear hK K
          refine norm_ (a' := ?_) ?_ ?_
          rotate_left
          · show Act.put _ (some 11) _ = _
            simp only [Act.put, List.setIfInBounds_toArray, List.set_cons_zero, List.set_cons_succ, i64_w, i32_w]
            rfl
          refine one_ (i := 10) (N := some 45) #[true, true, true, true, true, true, true, true, true, true, true, true, false] rfl rfl (by kernel_rfl) (by decide) (fun K hK => ?_)
          refine goes_ Try.func14 (by kernel_rfl) rfl #[.agg #[.int .i64 x0.f0, .int .i64 x0.f1, .int .i64 x0.f2, .int .i64 x0.f3, .int .i64 x0.f4, .int .i64 x0.f5, .int .i64 x0.f6, .int .i64 x0.f7, .int .i64 x0.f8, .int .i64 x0.f9, .int .i64 x0.f10, .int .i64 x0.f11], .agg cX, .int .i64 (rd x2 i), .int .i64 (x3 + i)] (by rfl) rfl rfl (by (try simp only [List.map_toArray, List.map_cons, List.map_nil]); first | done | rfl) ?_
          refine (step_w (k := 20) (c := x0) (x := X) (y := (stepS x0 X (rd x2 i) (x3 + i))) (k37.K_below FB HKX.out) FS.out).mono ?_
          rintro e_ w_ ⟨cy, rfl, FO, hb⟩
          refine ⟨_, rfl, ?_⟩
          replace FB := below_step FB hb
          replace FC := blk_below FC hb
          replace FX := blk_below FX hb
          replace FD := (hb.cell (World.block_lt_of_cell? _ _ FD)).trans FD
          replace FZ := blk_below FZ hb
          clear hb
          refine hK.out _ _ ⟨FC, FX, FD⟩ (fun hHeld => ?_)
          clear hK K
          refine norm_ (a' := ?_) ?_ ?_
          rotate_left
          · show Act.put _ (some 45) _ = _
            simp only [Act.put, List.setIfInBounds_toArray, List.set_cons_zero, List.set_cons_succ, i64_w, i32_w]
            rfl
          refine one_ (i := 12) (N := none) #[true, true, true, true, true, true, true, true, true, true, true, true, true] rfl rfl (by kernel_rfl) (by decide) (fun K hK => ?_)
          obtain ⟨hst, _, hn⟩ := ctx_store HX.out FB hge FZ rfl FO
          have HN := Aside0.mk hn
          have HOC := Aside0.mk (FO.cells (vs := cy.toList) FZ)
          have hsz := k_size FO.K
          have HBB := Aside0.mk (below_cells (vs := cy.toList) FB hge)
          replace FD := (HBB.out.cell (World.block_lt_of_cell? _ _ HD.out)).trans HD.out
          refine skip_ (w1 := ?_) (by rfl) rfl ?_ ?_
          rotate_left
          · go_simp
            rfl
          clear hst FZ FO FB hsz
          replace FX := HN.out.heap (g := (w.heap.size + 1)) (x := X) (cs := cX) (by simp)
          replace FC := HN.out.hC
          refine hK.out _ _ ⟨FC, FX, FD⟩ (fun hHeld => ?_)
          clear hK K
          refine done_ (by kernel_rfl) ?_
          (try go_wp2)
          go_meet
          exact ⟨g, _, cy, rfl, HN.out, HOC.out⟩
      case rest =>
        obtain ⟨g, b, cy, rfl, hn, own⟩ := hcut
        clear HX HD xc FS hv hv2 hu hu2
        have HX := Aside0.mk hn
        have HO := Aside0.mk own
        clear hn own
        have HMY : Aside0 ((g, (stepS x0 X (rd x2 i) (x3 + i)), cy) ∈ [(g, (stepS x0 X (rd x2 i) (x3 + i)), cy), ((w.heap.size + 1), X, cX)]) := ⟨by simp⟩
        have HMX : Aside0 (((w.heap.size + 1), X, cX) ∈ [(g, (stepS x0 X (rd x2 i) (x3 + i)), cy), ((w.heap.size + 1), X, cX)]) := ⟨by simp⟩
        obtain ⟨Y, hY⟩ : ∃ Y, Y = (stepS x0 X (rd x2 i) (x3 + i)) := ⟨_, rfl⟩
        rw [← hY] at HX HO FY FSN FR HMY HMX
        have FYE := Aside0.mk (fun hz : X.f0.f0 = 0 => hY.trans (step_zero hz _ _))
        clear hY
        have xc := blk_cell HX.out.hC
        obtain ⟨B2, d2, B7, d7, B15, d15, B18, d18, eY, m2, q2, m7, q7, m15, q15, m18, q18⟩ := k37_open HO.out.K
        have eY' : cy = #[.int .i64 Y.f0.f0, .int .i64 Y.f0.f1, .slice B2 Y.f0.f2.length d2, .int .i64 Y.f0.f3, .int .i64 Y.f0.f4, .int .i64 Y.f0.f5, .int .i64 Y.f0.f6, .slice B7 Y.f0.f7.length d7, .int .i64 Y.f1.f0, .int .i64 Y.f1.f1, .bool Y.f1.f2, .int .i64 Y.f2.f0, .int .i64 Y.f2.f1, .bool Y.f2.f2, .int .i64 Y.f3.f0, .slice B15 Y.f3.f1.length d15, .int .i64 Y.f3.f2, .int .i64 Y.f3.f3, .slice B18 Y.f4.length d18] := by cases cy; simpa using eY
        obtain ⟨C2, k2, C7, k7, C15, k15, C18, k18, eX, n2, p2, n7, p7, n15, p15, n18, p18⟩ := k37_open (HX.out.K HMX.out)
        have eX' : cX = #[.int .i64 X.f0.f0, .int .i64 X.f0.f1, .slice C2 X.f0.f2.length k2, .int .i64 X.f0.f3, .int .i64 X.f0.f4, .int .i64 X.f0.f5, .int .i64 X.f0.f6, .slice C7 X.f0.f7.length k7, .int .i64 X.f1.f0, .int .i64 X.f1.f1, .bool X.f1.f2, .int .i64 X.f2.f0, .int .i64 X.f2.f1, .bool X.f2.f2, .int .i64 X.f3.f0, .slice C15 X.f3.f1.length k15, .int .i64 X.f3.f2, .int .i64 X.f3.f3, .slice C18 X.f4.length k18] := by cases cX; simpa using eX
        have HEY := Aside0.mk eY'
        have HEX := Aside0.mk eX'
        clear eX eX' eY eY'
        have Hq2 := Aside0.mk q2
        have Hm2 := Aside0.mk m2
        have Hq7 := Aside0.mk q7
        have Hm7 := Aside0.mk m7
        have Hq15 := Aside0.mk q15
        have Hm15 := Aside0.mk m15
        have Hq18 := Aside0.mk q18
        have Hm18 := Aside0.mk m18
        have Hp2 := Aside0.mk p2
        have Hn2 := Aside0.mk n2
        have Hp7 := Aside0.mk p7
        have Hn7 := Aside0.mk n7
        have Hp15 := Aside0.mk p15
        have Hn15 := Aside0.mk n15
        have Hp18 := Aside0.mk p18
        have Hn18 := Aside0.mk n18
        clear q2 q7 q15 q18 p2 p7 p15 p18 m2 m7 m15 m18 n2 n7 n15 n18
        have HBW := Aside0.mk (Below.refl wc.heap.size wc)
        have hyc : ∀ W : World, Ctx w W #[.int .i64 x0.f0, .int .i64 x0.f1, .int .i64 x0.f2, .int .i64 x0.f3, .int .i64 x0.f4, .int .i64 x0.f5, .int .i64 x0.f6, .int .i64 x0.f7, .int .i64 x0.f8, .int .i64 x0.f9, .int .i64 x0.f10, .int .i64 x0.f11] [(g, Y, cy), ((w.heap.size + 1), X, cX)] → ∀ j, W.cell? ⟨g, j, none⟩ = #[.int .i64 Y.f0.f0, .int .i64 Y.f0.f1, .slice B2 Y.f0.f2.length d2, .int .i64 Y.f0.f3, .int .i64 Y.f0.f4, .int .i64 Y.f0.f5, .int .i64 Y.f0.f6, .slice B7 Y.f0.f7.length d7, .int .i64 Y.f1.f0, .int .i64 Y.f1.f1, .bool Y.f1.f2, .int .i64 Y.f2.f0, .int .i64 Y.f2.f1, .bool Y.f2.f2, .int .i64 Y.f3.f0, .slice B15 Y.f3.f1.length d15, .int .i64 Y.f3.f2, .int .i64 Y.f3.f3, .slice B18 Y.f4.length d18][j]? := fun W h j => by rw [blk_cell (h.heap HMY.out) j, HEY.out]
        have hxc : ∀ W : World, Ctx w W #[.int .i64 x0.f0, .int .i64 x0.f1, .int .i64 x0.f2, .int .i64 x0.f3, .int .i64 x0.f4, .int .i64 x0.f5, .int .i64 x0.f6, .int .i64 x0.f7, .int .i64 x0.f8, .int .i64 x0.f9, .int .i64 x0.f10, .int .i64 x0.f11] [(g, Y, cy), ((w.heap.size + 1), X, cX)] → ∀ j, W.cell? ⟨(w.heap.size + 1), j, none⟩ = #[.int .i64 X.f0.f0, .int .i64 X.f0.f1, .slice C2 X.f0.f2.length k2, .int .i64 X.f0.f3, .int .i64 X.f0.f4, .int .i64 X.f0.f5, .int .i64 X.f0.f6, .slice C7 X.f0.f7.length k7, .int .i64 X.f1.f0, .int .i64 X.f1.f1, .bool X.f1.f2, .int .i64 X.f2.f0, .int .i64 X.f2.f1, .bool X.f2.f2, .int .i64 X.f3.f0, .slice C15 X.f3.f1.length k15, .int .i64 X.f3.f2, .int .i64 X.f3.f3, .slice C18 X.f4.length k18][j]? := fun W h j => by rw [blk_cell (h.heap HMX.out) j, HEX.out]
        have HYC := Aside0.mk hyc
        have HXC := Aside0.mk hxc
        clear hyc hxc
        have ya := HYC.out _ HX.out
        have xa := HXC.out _ HX.out
        have FPY : Aside0 (governorref09_SamePolicy.f Y.f0.f0 Y.f0.f1 Y.f0.f2 Y.f0.f3 Y.f0.f4 Y.f0.f5 Y.f0.f6 Y.f0.f7 X.f0.f0 X.f0.f1 X.f0.f2 X.f0.f3 X.f0.f4 X.f0.f5 X.f0.f6 X.f0.f7 = some true) := ⟨by rw [FY.out.2]; exact FP.out⟩
        go_upto_region 10 with (first
          | ((with_reducible refine gate_dst (N := 46) rfl ?_); (try (refine gate_guard (by rfl) ?_; dsimp only)); refine load_pre rfl 37 (.tmp 11) rfl g rfl cy _ (range_row (HX.out.heap HMY.out)) hu1 rfl (k_info (HX.out.K HMY.out)) ?_)
          | (go_at_call 11; refine (right_w (HX.out.K HMY.out) FR.out).mono ?_; rintro e_ w1 ⟨rfl, hb⟩; replace HBW := Aside0.mk (below_step HBW.out hb); replace HX := Aside0.mk (HX.out.below hb); replace HO := Aside0.mk (HO.out.below hb); clear hb xc ya xa; have xc := blk_cell HX.out.hC; have ya := HYC.out _ HX.out; have xa := HXC.out _ HX.out)
          | (go_at_call 19; refine (governorref09_SamePolicy.calls _ _ _ _ _ _ _ _ _ _ _ _ _ _ _ _ _ _ _ _ _ _ _ _ _ _ (Kd.C_below Hq2.out HBW.out) Hm2.out (Kd.C_below Hq7.out HBW.out) Hm7.out (Kd.C_below Hp2.out HBW.out) Hn2.out (Kd.C_below Hp7.out HBW.out) Hn7.out FPY.out).mono ?_; rintro e_ w1 ⟨rfl, hb⟩; replace HBW := Aside0.mk (below_step HBW.out hb); replace HX := Aside0.mk (HX.out.below hb); replace HO := Aside0.mk (HO.out.below hb); clear hb xc ya xa; have xc := blk_cell HX.out.hC; have ya := HYC.out _ HX.out; have xa := HXC.out _ HX.out))
        cases z
        rotate_left
        · as_aux_lemma =>
          have hYX := FYE.out (FZI.out.1 rfl)
          have FSM : Aside0 (governorref18_Same.f Y.f0.f0 Y.f0.f1 Y.f0.f2 Y.f0.f3 Y.f0.f4 Y.f0.f5 Y.f0.f6 Y.f0.f7 Y.f1.f0 Y.f1.f1 Y.f1.f2 Y.f2.f0 Y.f2.f1 Y.f2.f2 Y.f3.f0 Y.f3.f1 Y.f3.f2 Y.f3.f3 Y.f4 X.f0.f0 X.f0.f1 X.f0.f2 X.f0.f3 X.f0.f4 X.f0.f5 X.f0.f6 X.f0.f7 X.f1.f0 X.f1.f1 X.f1.f2 X.f2.f0 X.f2.f1 X.f2.f2 X.f3.f0 X.f3.f1 X.f3.f2 X.f3.f3 X.f4 = some true) := ⟨by rw [hYX]; exact same_refl HP.out.1⟩
          clear hYX
          go_wp2_with (first
            | (go_at_call 20; refine (governorref09_Zero.calls _ _ _ _ _ _ _ _ _ _ _ _ _ _ (Kd.C_below Hp2.out HBW.out) Hn2.out (Kd.C_below Hp7.out HBW.out) Hn7.out FZE.out).mono ?_; rintro e_ w1 ⟨rfl, hb⟩; replace HBW := Aside0.mk (below_step HBW.out hb); replace HX := Aside0.mk (HX.out.below hb); replace HO := Aside0.mk (HO.out.below hb); clear hb xc ya xa; have xc := blk_cell HX.out.hC; have ya := HYC.out _ HX.out; have xa := HXC.out _ HX.out)
            | ((with_reducible refine gate_dst (N := 60) rfl ?_); (try (refine gate_guard (by rfl) ?_; dsimp only)); refine load_pre rfl 37 (.tmp 11) rfl g rfl cy _ (range_row (HX.out.heap HMY.out)) hu1 rfl (k_info (HX.out.K HMY.out)) ?_)
            | ((with_reducible refine gate_dst (N := 61) rfl ?_); (try (refine gate_guard (by rfl) ?_; dsimp only)); refine load_pre rfl 37 (.tmp 5) rfl (w.heap.size + 1) rfl cX _ (range_row (HX.out.heap HMX.out)) hu1 rfl (k_info (HX.out.K HMX.out)) ?_)
            | (go_at_call 13; refine (same_w (HX.out.K HMY.out) (HX.out.K HMX.out) FSM.out).mono ?_; rintro e_ w1 ⟨rfl, hb⟩; replace HBW := Aside0.mk (below_step HBW.out hb); replace HX := Aside0.mk (HX.out.below hb); replace HO := Aside0.mk (HO.out.below hb); clear hb xc ya xa; have xc := blk_cell HX.out.hC; have ya := HYC.out _ HX.out; have xa := HXC.out _ HX.out))
          go_roundw
          case measure => have hw := wr_len (n := x2.length) (by have := HN.out; omega) h0 hlt; simp [intOf, hw]; omega
          case rel => exact ⟨i + 1, X, cX, by omega, by omega, by first | rfl | (have hw := wr_len (n := x2.length) (by have := HN.out; omega) h0 hlt; simp [hw]), HP, ⟨HX.out.tail⟩⟩
        obtain ⟨s1, s2, s3, s4, s5⟩ := FSN.out (fun h => by have := FZI.out.2 h; cases this)
        have HS := Aside0.mk (And.intro s1 (And.intro s2 (And.intro s3 (And.intro s4 s5))))
        clear s1 s2 s3 s4 s5
        go_upto_region 14 with (go_at_call 20; refine (governorref09_Zero.calls _ _ _ _ _ _ _ _ _ _ _ _ _ _ (Kd.C_below Hp2.out HBW.out) Hn2.out (Kd.C_below Hp7.out HBW.out) Hn7.out FZE.out).mono ?_; rintro e_ w1 ⟨rfl, hb⟩; replace HBW := Aside0.mk (below_step HBW.out hb); replace HX := Aside0.mk (HX.out.below hb); replace HO := Aside0.mk (HO.out.below hb); clear hb xc ya xa; have xc := blk_cell HX.out.hC; have ya := HYC.out _ HX.out; have xa := HXC.out _ HX.out)
        go_wp2
        go_loopw [12, 13] (fun v12 v13 wl => ∃ s k : Int, 0 ≤ k ∧ k ≤ (Y.f3.f1.length : Int) ∧ v12 = .int .i64 s ∧ v13 = .int .i64 k ∧ Aside0 (allL s (Y.f3.f1.drop k.toNat) = Y.f2.f0) ∧ Aside0 (Ctx w wl #[.int .i64 x0.f0, .int .i64 x0.f1, .int .i64 x0.f2, .int .i64 x0.f3, .int .i64 x0.f4, .int .i64 x0.f5, .int .i64 x0.f6, .int .i64 x0.f7, .int .i64 x0.f8, .int .i64 x0.f9, .int .i64 x0.f10, .int .i64 x0.f11] [(g, Y, cy), ((w.heap.size + 1), X, cX)]) ∧ Aside0 (OwnX b wl Y cy) ∧ Aside0 (Below wc.heap.size wc wl)) (fun _ v _ => ((Y.f3.f1.length : Int) - intOf v).toNat)
        case atStart => exact ⟨_, 0, Int.le_refl _, by omega, rfl, rfl, ⟨HS.out.2.2.1⟩, HX, HO, HBW⟩
        case round =>
          clear HX HO HBW xc ya xa
          obtain ⟨s, k, k0, kl, rfl, rfl, HA, HX, HO, HBW⟩ := hrel
          have ya := HYC.out _ HX.out
          by_cases klt : k < (Y.f3.f1.length : Int)
          · as_aux_lemma =>
            obtain ⟨ad2, e2, u0⟩ := Kd.at_int (Kd.C_below Hq15.out HBW.out) k k0 klt
            cases e2
            have e1 : Y.f3.f1.drop k.toNat = rd Y.f3.f1 k :: Y.f3.f1.drop (k + 1).toNat := by
              rw [List.drop_eq_getElem_cons (show k.toNat < Y.f3.f1.length by omega), show (k + 1).toNat = k.toNat + 1 by omega]
              unfold rd; rw [List.getD_eq_getElem?_getD, List.getElem?_eq_getElem (by omega)]; rfl
            replace HA := Aside0.mk ((congrArg (allL s) e1).symm.trans HA.out)
            have hw := wr_len (n := Y.f3.f1.length) (by have := FY.out.1.pl.len; omega) k0 klt
            clear e1
            go_wp2
            repeat (go_quiet (fail); try go_wp2)
            go_roundw
            case measure => simp [intOf, hw]; omega
            case rel => exact ⟨_, k + 1, by omega, by omega, rfl, by first | rfl | simp [hw], HA, HX, HO, HBW⟩
          · as_aux_lemma =>
            have e1 : Y.f3.f1.drop k.toNat = [] := List.drop_of_length_le (by omega)
            have hs := (congrArg (allL s) e1).symm.trans HA.out
            change s = _ at hs
            subst hs
            clear e1 HA
            have xc := blk_cell HX.out.hC
            have xa := HXC.out _ HX.out
            obtain ⟨s1, s2, s3, s4, s5⟩ := HS.out
            have b1 := HP.out.1.ml
            have b2 := FY.out.1.ml
            have b3 := HCF.out.w1
            have d1 := decide_eq_false (show ¬ Y.f2.f0 < x0.f0 by omega)
            have d2 := decide_eq_false (show ¬ x0.f1 < Y.f2.f0 by omega)
            have L0 : 0 ≤ (Y.f4.length : Int) - 1 := by rw [s4]; unfold mn; split <;> omega
            have L1 : (Y.f4.length : Int) - 1 < (Y.f4.length : Int) := by omega
            have L2 : (Y.f4.length : Int) - 1 ≤ 9223372036854775807 := by omega
            have L3 : -9223372036854775808 ≤ (Y.f4.length : Int) - 1 := by omega
            have L4 : (X.f4.length : Int) + 1 ≤ 9223372036854775807 := by omega
            have L5 : -9223372036854775808 ≤ (X.f4.length : Int) + 1 := by omega
            have L6 : (X.f4.length : Int) ≤ 9223372036854775807 := by omega
            have L7 : -9223372036854775808 ≤ (X.f4.length : Int) := by omega
            have L8 : w.heap.size < w.heap.size + 1 := by omega
            have hcase : (x0.f7 < (X.f4.length : Int) + 1 ∧ (Y.f4.length : Int) = x0.f7) ∨ (¬ x0.f7 < (X.f4.length : Int) + 1 ∧ (Y.f4.length : Int) = (X.f4.length : Int) + 1) := by rw [s4]; unfold mn; split <;> omega
            have mi : (i + 1 : Int) ≤ (x2.length : Int) := by omega
            have mj : (0 : Int) ≤ i + 1 := by omega
            have mk : ((x2.length : Int) - (i + 1)).toNat < ((x2.length : Int) - i).toNat := by omega
            obtain ⟨ad3, e3, u0, u1⟩ := at_T52 (Kd.C_below Hq18.out HBW.out) ((Y.f4.length : Int) - 1) L0 L1
            cases e3
            rw [s5] at u0
            clear s1 s2 s3 s4 s5 u1 b1 b2 b3
            have hw1 := wrN L5 L4
            have hw2 := wrN L3 L2
            have hw3 := wrN L7 L6
            have d5 := L0
            have d6 := L1
            have hwi := wr_len (n := x2.length) (by have := HN.out; clear hw1 hw2 hw3; omega) h0 hlt
            clear L0 L1 L2 L3 L4 L5 L6 L7
            obtain ⟨hst, hn⟩ := HX.out.back HO.out L8 (fun t ht => by cases ht)
            have HN2 := Aside0.mk hn
            have hsz := k_size HO.out.K
            clear hn L8
            rcases hcase with ⟨hm, s4'⟩ | ⟨hm, s4'⟩
            all_goals as_aux_lemma =>
              rw [s4'] at u0 d5 d6 hw2
              have u0b := u0
              (try simp at u0b)
              go_wp2_with ((with_reducible refine gate_dst (N := 130) rfl ?_); (try (refine gate_guard (by rfl) ?_; dsimp only)); refine load_pre rfl 37 (.tmp 11) rfl g rfl cy _ (range_row (HX.out.heap HMY.out)) hu1 rfl (k_info (HX.out.K HMY.out)) ?_)
              go_roundw
              case measure => simp only [intOf, hwi]; exact mk
              case rel => exact ⟨i + 1, Y, cy, mj, mi, by simp only [hwi], ⟨FY.out.1, FR.out⟩, HN2⟩
    · go_wp2
      go_ret
      exact ⟨rfl, HX.out.hS.1⟩
end Go.Proofs.Ytefgoffaidjiaaa.PAll
namespace Go.Proofs.Ytefgoffaidjiaaa.fleetBounds
open Go.ChangeShapes Go.WideShapes Go.ChangeAt Go.RowKit
open Go.ChangeMaps (open_string shut_string)
set_option linter.unusedVariables false
theorem own : ownKnob Try.prog.godebug = none := by kernel_rfl
theorem laidOut : laidOutB Try.prog = true := by kernel_rfl
set_option maxRecDepth 100000 in
theorem lifted (os : Os) (started : os.Started) (H : Type) (enc : TypeId × Value → H) :
    ReturnsInHanded {} Try.checked os 4 .any (Rows.fleetBoundsSpec.pre6 enc Try.prog Try.f4 Rows.fleetBoundsRow.domain false) (Rows.fleetBoundsSpec.post enc Try.prog Try.f4 false true false false) := by
  refine returnsInHanded_of_change_sized (C := Try.checked) own started (by kernel_rfl) Try.func4
    (ChangeSpec.witness6 (enc := enc) (C := Try.checked) false ⟨#[], #[.agg #[.int .i64 0, .int .i64 0, .int .i64 0, .int .i64 0, .int .i64 0, .int .i64 0, .int .i64 0, .int .i64 0, .int .i64 0, .int .i64 0, .int .i64 0, .int .i64 0], .agg #[.int .i64 0, .int .i64 0, .slice none 0 0, .int .i64 0, .int .i64 0, .int .i64 0, .int .i64 0, .slice none 0 0, .int .i64 0, .int .i64 0, .bool false, .int .i64 0, .int .i64 0, .bool false, .int .i64 0, .slice none 0 0, .int .i64 0, .int .i64 0, .slice none 0 0], .slice none 0 0, .int .u16 0], []⟩ 8 (by kernel_rfl) (by kernel_rfl) (by kernel_rfl) (by kernel_rfl)) ?_
  intro W base args ds gs before hval0 hW hcnd hsz0 _
  have hval : ∀ (j : Nat) t v, Try.f4.params[j]? = some t → args[j]? = some v → Value.okWide Try.prog W .any base t v := hval0
  have hW' := hW
  obtain ⟨p, q, hA0, hV, rfl, hfz, hnd⟩ := hW
  have hA : DataW.TrodAll enc Try.prog W 0 (fun _ => true) true Try.f4.params.toList args.toList ds p := hA0
  rw [Try.params4] at hA hval
  obtain ⟨v0, vs0, d0, ds0, p0, q0, hargs, rfl, rfl, h0, r0⟩ := trodAll_cons hA
  obtain ⟨v1, vs1, d1, ds1, p1, q1, rfl, rfl, rfl, h1, r1⟩ := trodAll_cons r0
  obtain ⟨v2, vs2, d2, ds2, p2, q2, rfl, rfl, rfl, h2, r2⟩ := trodAll_cons r1
  obtain ⟨v3, vs3, d3, ds3, p3, q3, rfl, rfl, rfl, h3, r3⟩ := trodAll_cons r2
  obtain ⟨rfl, rfl, rfl⟩ := trodAll_nil r3
  obtain rfl : args = #[v0, v1, v2, v3] := by cases args; simp_all
  obtain ⟨rfl, rfl⟩ := trodVars_none hV
  have k0 := h0
  have lt0 : ∀ x ∈ p0, x.block < W.heap.size := by obtain ⟨m, hm⟩ := k0; exact DataW.trod_lt m _ _ _ hm
  obtain ⟨cs0, rfl, _⟩ := okWide_struct Try.underlying23 (hval 0 23 v0 rfl rfl)
  obtain ⟨fuel0, hf0⟩ := h0
  obtain ⟨x0, g0, o0⟩ := PAll.rdy23 enc W _ _ _ _ _ _ hf0
  have k1 := h1
  have lt1 : ∀ x ∈ p1, x.block < W.heap.size := by obtain ⟨m, hm⟩ := k1; exact DataW.trod_lt m _ _ _ hm
  obtain ⟨cs1, rfl, _⟩ := okWide_struct Try.underlying37 (hval 1 37 v1 rfl rfl)
  obtain ⟨fuel1, hf1⟩ := h1
  obtain ⟨x1, g1, o1⟩ := PAll.rdy37 enc W _ _ _ _ _ _ hf1
  have k2 := h2
  have lt2 : ∀ x ∈ p2, x.block < W.heap.size := by obtain ⟨m, hm⟩ := k2; exact DataW.trod_lt m _ _ _ hm
  obtain ⟨a2, len2, cap2, rfl⟩ := okWide_slice Try.underlying47 (hval 2 47 v2 rfl rfl)
  obtain ⟨fuel2, hf2⟩ := h2
  obtain ⟨x2, g2, o2⟩ := PAll.rdy47 enc W _ _ _ _ _ _ hf2
  obtain ⟨a3, rfl, rfl, rfl, w3⟩ := open_int Try.underlying48 (hval 3 48 v3 rfl rfl) h3
  clear hA0 hval0 hsz0
  refine (PAll.governorlaw18_FleetBounds.walk2 W cs0 x0 g0 o0 cs1 x1 g1 o1 _ x2 g2 o2 a3 w3).mono fun e W' ⟨he, bel⟩ => ?_
  subst he
  exact ⟨_, rfl, _, _, _, [], _, [], hW', trodAll_mk1 (shut_bool Try.underlying4 _), (trodAll_cons_mk (Below.trod laidOut (by kernel_rfl) (of_decide_eq_true (by kernel_rfl)) k0 bel lt0) (trodAll_cons_mk (Below.trod laidOut (by kernel_rfl) (of_decide_eq_true (by kernel_rfl)) k1 bel lt1) (trodAll_cons_mk (Below.trod laidOut (by kernel_rfl) (of_decide_eq_true (by kernel_rfl)) k2 bel lt2) (trodAll_cons_mk (shut_int Try.underlying48 w3) trodAll_mk0)))), rfl, bel.frame _, fun h => by cases h⟩
theorem over : Rows.fleetBoundsRow.holds Try.pinned (OpenSpec.ofChange Rows.fleetBoundsSpec) :=
  OpenClaim.holds_of_wide 4 Try.f4 rfl rfl rfl rfl rfl rfl rfl ⟨rfl, rfl, rfl, rfl, rfl⟩ rfl rfl rfl rfl rfl (by kernel_rfl) Try.func4 (by kernel_rfl)
    (of_decide_eq_true (by kernel_rfl)) (by unfold Func.isWrapper; first | (rw [if_pos (by decide +kernel)]; kernel_rfl) | (rw [if_neg (by decide +kernel)]; exact ⟨rfl, rfl⟩))
    (fun os started H enc _ => lifted os started H enc)
theorem proved : Rows.FleetBoundsSaid := over
#print axioms proved
end Go.Proofs.Ytefgoffaidjiaaa.fleetBounds
namespace Go.Proofs.Ytefgoffaidjiaaa
/-- The row, under a short name, for the claim. -/
theorem fleetBounds_holds : Rows.FleetBoundsSaid := fleetBounds.proved
end Go.Proofs.Ytefgoffaidjiaaa
