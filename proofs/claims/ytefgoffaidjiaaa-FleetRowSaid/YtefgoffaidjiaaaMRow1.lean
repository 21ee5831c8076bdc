/- The law FleetRow (P18.3): what a sim does behind a row of demands is what the document's does, whatever other sim runs beside it; for every configuration, two sims, row of demands and time. -/
import Derived.Test.YtefgoffaidjiaaaMrA6
namespace Go.Proofs.Ytefgoffaidjiaaa.PAll
open Go.RowKit Go.Proofs.YtefgoffaidjiaaaW.PrintWords Go.Proofs.YtefgoffaidjiaaaW.PrintLast Go.Proofs.YtefgoffaidjiaaaW.PrintMore
set_option linter.unusedVariables false
set_option linter.unusedSimpArgs false
/-- A sim's row: as it came in, or the call's own. -/
def Sm (w W : World) (x : S37) (cs : Array Value) : Prop := k37.K w x cs.toList ∨ ∃ b, OwnX b W x cs
theorem Sm.K {w W : World} {x : S37} {cs : Array Value} (h : Sm w W x cs) (hb : Below w.heap.size w W) : k37.K W x cs.toList := by
 rcases h with h | ⟨b, h⟩
 ·exact k37.K_below hb h
 ·exact h.K
theorem Sm.below {w W : World} {x : S37} {cs : Array Value} {W' : World} (h : Sm w W x cs) (hb : Below W.heap.size W W') : Sm w W' x cs := by
 rcases h with h | ⟨b, h⟩
 ·exact .inl h
 ·exact .inr ⟨b, h.below hb⟩
theorem Sm.cells {w W : World} {x : S37} {cs : Array Value} {g : Nat} {old : Array Value} {vs : List Value} (h : Sm w W x cs) (z : W.heap[g]? = some (.cells old 37 (0, 0))) : Sm w (W.setCells g 0 vs) x cs := by
 rcases h with h | ⟨b, h⟩
 ·exact .inl h
 ·exact .inr ⟨b, h.cells z⟩
/-- The configuration's block, and three sims' of their own. -/
structure Trio (w W : World) (cc : Array Value) (a b o : Nat) (A B O : S37) (ca cb co : Array Value) : Prop where
 hB : Below w.heap.size w W
 hC : W.heap[w.heap.size]? = some (.cells cc 23 (0, 0))
 ha : W.heap[a]? = some (.cells ca 37 (0, 0))
 hb : W.heap[b]? = some (.cells cb 37 (0, 0))
 ho : W.heap[o]? = some (.cells co 37 (0, 0))
 sa : Sm w W A ca
 sb : Sm w W B cb
 so : Sm w W O co
 na : w.heap.size < a
 nb : w.heap.size < b
 no : w.heap.size < o
 ab : a ≠ b
 ao : a ≠ o
 bo : b ≠ o
theorem Trio.rot {w W : World} {cc : Array Value} {a b o : Nat} {A B O : S37} {ca cb co : Array Value} (h : Trio w W cc a b o A B O ca cb co) : Trio w W cc b o a B O A cb co ca := ⟨h.hB, h.hC, h.hb, h.ho, h.ha, h.sb, h.so, h.sa, h.nb, h.no, h.na, h.bo, h.ab.symm, h.ao.symm⟩
theorem Trio.below {w W : World} {cc : Array Value} {a b o : Nat} {A B O : S37} {ca cb co : Array Value} {W' : World} (h : Trio w W cc a b o A B O ca cb co) (hb : Below W.heap.size W W') : Trio w W' cc a b o A B O ca cb co := ⟨below_step h.hB hb, blk_below h.hC hb, blk_below h.ha hb, blk_below h.hb hb, blk_below h.ho hb, h.sa.below hb, h.sb.below hb, h.so.below hb, h.na, h.nb, h.no, h.ab, h.ao, h.bo⟩
theorem Trio.store {w W : World} {cc : Array Value} {a b o : Nat} {A B O : S37} {ca cb co : Array Value} {k : Nat} {Y : S37} {cy : Array Value} (h : Trio w W cc a b o A B O ca cb co) (hy : OwnX k W Y cy) :
  (storeCells ⟨a, 0, none⟩ cy.toList).run Try.prog W = .ok () (W.setCells a 0 cy.toList) ∧ Trio w (W.setCells a 0 cy.toList) cc a b o Y B O cy cb co := by
 have cp := cp_row (P := Try.prog) h.ha ((k_size hy.K).trans (k_size (h.sa.K h.hB)).symm) (k37.K_one hy.K)
 have h1 := h.na; have h2 := h.ab; have h3 := h.ao
 exact ⟨cp.1, below_cells (vs := cy.toList) h.hB (by omega), (cp.2.2.1 _ (by omega)).trans h.hC, cp.2.1, (cp.2.2.1 _ h2.symm).trans h.hb, (cp.2.2.1 _ h3.symm).trans h.ho, .inr ⟨k, hy.cells h.ha⟩, h.sb.cells h.ha, h.so.cells h.ha, h.na, h.nb, h.no, h.ab, h.ao, h.bo⟩
theorem ctx_mk3 (w : World) (cc cs cz : Array Value) (x z : S37) (hx : k37.K w x cs.toList) (hz : k37.K w z cz.toList) : Ctx w (((w.alloc (.cells cc 23)).alloc (.cells cs 37)).alloc (.cells cz 37)) cc [(w.heap.size + 1, x, cs), (w.heap.size + 1 + 1, z, cz)] := by
 have h := ctx_mk w cc cs x hx
 have y := blk_new ((w.alloc (.cells cc 23)).alloc (.cells cs 37)) (.cells cz 37)
 rw [World.size_alloc, World.size_alloc] at y
 have hb : Below w.heap.size w (((w.alloc (.cells cc 23)).alloc (.cells cs 37)).alloc (.cells cz 37)) := below_alloc h.hS.1 _
 refine ⟨blk_alloc h.hC _, hb, fun t ht => ?_⟩
 simp only [List.mem_cons, List.not_mem_nil, or_false] at ht
 rcases ht with rfl | rfl
 ·exact ⟨blk_alloc (h.heap (x := x) (cs := cs) (by simp)) _, k37.K_below hb hx⟩
 ·exact ⟨y, k37.K_below hb hz⟩
theorem ctx_put {w W0 W : World} {cc : Array Value} {L : List (Nat × S37 × Array Value)} {g : Nat} {y : S37} {cs z : Array Value} (h : Ctx w W0 cc L) (hb : Below W0.heap.size W0 W) (hg : W0.heap.size ≤ g) (hz : W.heap[g]? = some (.cells z 37 (0, 0))) (hs : z.size = 19) (hy : k37.K w y cs.toList) :
  (storeCells ⟨g, 0, none⟩ cs.toList).run Try.prog W = .ok () (W.setCells g 0 cs.toList) ∧ Ctx w (W.setCells g 0 cs.toList) cc ((g, y, cs) :: L) := by
 have cp := cp_row (P := Try.prog) hz ((k_size hy).trans hs.symm) (k37.K_one hy)
 have hw := below_cells (vs := cs.toList) hb hg
 exact ⟨cp.1, blk_below h.hC hw, (h.hS.below hw).add cp.2.1 (k37.K_below (below_step h.hS.1 hw) hy)⟩
set_option maxHeartbeats 8000000 in
set_option maxRecDepth 100000 in
theorem governorlaw18_FleetRow.walk2 (w : World) (cs0 : Array Value) (x0 : S23) (g0 : k23.K w x0 cs0.toList) (o0 : ok23 x0) (cs1 : Array Value) (x1 : S37) (g1 : k37.K w x1 cs1.toList) (o1 : ok37 x1) (cs2 : Array Value) (x2 : S37) (g2 : k37.K w x2 cs2.toList) (o2 : ok37 x2) (v3 : Value) (x3 : List Int) (g3 : (Kd.slice 2 (Kd.int .i64)).K w x3 [v3]) (o3 : ∀ x ∈ x3, (fun n_ : Int => (Lit.int .i64 n_).wf = true) x) (x4 : Int) (o4 : (Lit.int .u16 x4).wf = true) :
  Calls Try.prog 5 #[.agg cs0, .agg cs1, .agg cs2, v3, .int .u16 x4] w fun e w' => e = .returned (.bool true) ∧ Below w.heap.size w w' := by
 obtain ⟨A3, c3, e3, hc3, hr3⟩ := g3
 obtain rfl := List.singleton_inj.1 e3
 have HR3 := Aside0.mk hr3
 clear hr3 hc3 o3
 have hu0 := Try.underlying69
 have hu1 := Try.underlying37
 have hu2 := Try.underlying27
 have hu3 := Try.underlying29
 have hu4 := Try.underlying23
 have hu5 := Try.underlying31
 have hu6 := Try.underlying34
 have hu7 := Try.underlying52
 have ec := k23_open g0
 obtain rfl : cs0 = #[.int .i64 x0.f0, .int .i64 x0.f1, .int .i64 x0.f2, .int .i64 x0.f3, .int .i64 x0.f4, .int .i64 x0.f5, .int .i64 x0.f6, .int .i64 x0.f7, .int .i64 x0.f8, .int .i64 x0.f9, .int .i64 x0.f10, .int .i64 x0.f11] := by cases cs0; simpa using ec
 clear ec
 have HK1 := Aside0.mk g1
 obtain ⟨A2x1, c2x1, A7x1, c7x1, A15x1, c15x1, A18x1, c18x1, e1, l2, r2, l7, r7, l15, r15, l18, r18⟩ := k37_open g1
 have ecs1 : cs1 = #[.int .i64 x1.f0.f0, .int .i64 x1.f0.f1, .slice A2x1 x1.f0.f2.length c2x1, .int .i64 x1.f0.f3, .int .i64 x1.f0.f4, .int .i64 x1.f0.f5, .int .i64 x1.f0.f6, .slice A7x1 x1.f0.f7.length c7x1, .int .i64 x1.f1.f0, .int .i64 x1.f1.f1, .bool x1.f1.f2, .int .i64 x1.f2.f0, .int .i64 x1.f2.f1, .bool x1.f2.f2, .int .i64 x1.f3.f0, .slice A15x1 x1.f3.f1.length c15x1, .int .i64 x1.f3.f2, .int .i64 x1.f3.f3, .slice A18x1 x1.f4.length c18x1] := by cases cs1; simpa using e1
 clear e1 l2 r2 l7 r7 l15 r15 l18 r18
 have HK2 := Aside0.mk g2
 obtain ⟨A2x2, c2x2, A7x2, c7x2, A15x2, c15x2, A18x2, c18x2, e1, l2, r2, l7, r7, l15, r15, l18, r18⟩ := k37_open g2
 have ecs2 : cs2 = #[.int .i64 x2.f0.f0, .int .i64 x2.f0.f1, .slice A2x2 x2.f0.f2.length c2x2, .int .i64 x2.f0.f3, .int .i64 x2.f0.f4, .int .i64 x2.f0.f5, .int .i64 x2.f0.f6, .slice A7x2 x2.f0.f7.length c7x2, .int .i64 x2.f1.f0, .int .i64 x2.f1.f1, .bool x2.f1.f2, .int .i64 x2.f2.f0, .int .i64 x2.f2.f1, .bool x2.f2.f2, .int .i64 x2.f3.f0, .slice A15x2 x2.f3.f1.length c15x2, .int .i64 x2.f3.f2, .int .i64 x2.f3.f3, .slice A18x2 x2.f4.length c18x2] := by cases cs2; simpa using e1
 clear e1 l2 r2 l7 r7 l15 r15 l18 r18
 have hx1 := HK1.out
 have hx2 := HK2.out
 rw [ecs1] at hx1 ⊢
 rw [ecs2] at hx2 ⊢
 go_enter Try.func5, Try.ntmps5
 go_upto_region 1 with (fail)
 have ht := ctx_mk3 w #[.int .i64 x0.f0, .int .i64 x0.f1, .int .i64 x0.f2, .int .i64 x0.f3, .int .i64 x0.f4, .int .i64 x0.f5, .int .i64 x0.f6, .int .i64 x0.f7, .int .i64 x0.f8, .int .i64 x0.f9, .int .i64 x0.f10, .int .i64 x0.f11] _ _ x1 x2 hx1 hx2
 generalize ((w.alloc _).alloc _).alloc _ = W at ht ⊢
 rw [← ecs1, ← ecs2] at ht
 have HX := Aside0.mk ht
 have HE1 := Aside0.mk ecs1
 have HE2 := Aside0.mk ecs2
 clear ht hx1 hx2 ecs1 ecs2 g1 g2
 have xc := blk_cell HX.out.hC
 go_upto_region 2 with (go_at_call 9; refine (governorlaw18_head.calls true _ rfl).mono ?_; rintro e_ w1 ⟨rfl, hb⟩; replace HX := Aside0.mk (HX.out.below hb); clear hb xc; have xc := blk_cell HX.out.hC)
 obtain ⟨r1, hr1, hP1⟩ := right_tells x1 20 (Nat.le_refl _)
 have HQ1 := Aside0.mk hr1
 have HP1 := Aside0.mk (fun h : r1 = true => hP1 h)
 clear hr1 hP1
 obtain ⟨r2, hr2, hP2⟩ := right_tells x2 20 (Nat.le_refl _)
 have HQ2 := Aside0.mk hr2
 have HP2 := Aside0.mk (fun h : r2 = true => hP2 h)
 clear hr2 hP2
 have HW4 := Aside0.mk (wfu16 o4)
 clear o0 o1 o2 o4
 rcases (chN (confB x0) (chN r1 (chN r2 (Bool.eq_false_or_eq_true (decide (60 < (x3.length : Int))))))) with h1 | ⟨h1, rfl | ⟨rfl, rfl | ⟨rfl, h3 | h3⟩⟩⟩
 iterate 4
  ·as_aux_lemma =>
   go_wp2_with (first
    | (go_at_call 10; refine (conf_w x0 _).mono ?_; rintro e_ w1 ⟨rfl, hb⟩; replace HX := Aside0.mk (HX.out.below hb); clear hb xc; have xc := blk_cell HX.out.hC)
    | (go_at_call 11; (with_reducible refine (right_w (HX.out.K (g := (w.heap.size + 1)) (x := x1) (cs := cs1) (by simp)) HQ1.out).mono ?_); rintro e_ w1 ⟨rfl, hb⟩; replace HX := Aside0.mk (HX.out.below hb); clear hb xc; have xc := blk_cell HX.out.hC)
    | (go_at_call 11; (with_reducible refine (right_w (HX.out.K (g := (w.heap.size + 1 + 1)) (x := x2) (cs := cs2) (by simp)) HQ2.out).mono ?_); rintro e_ w1 ⟨rfl, hb⟩; replace HX := Aside0.mk (HX.out.below hb); clear hb xc; have xc := blk_cell HX.out.hC)
    | ((with_reducible refine gate_dst (N := 22) rfl ?_); (try (refine gate_guard (by rfl) ?_; dsimp only)); refine load_pre rfl 37 (.tmp 6) rfl (w.heap.size + 1) rfl cs1 _ (range_row (HX.out.heap (x := x1) (by simp))) hu1 rfl (k_info (HX.out.K (x := x1) (g := (w.heap.size + 1)) (by simp))) ?_)
    | ((with_reducible refine gate_dst (N := 27) rfl ?_); (try (refine gate_guard (by rfl) ?_; dsimp only)); refine load_pre rfl 37 (.tmp 7) rfl (w.heap.size + 1 + 1) rfl cs2 _ (range_row (HX.out.heap (x := x2) (by simp))) hu1 rfl (k_info (HX.out.K (x := x2) (g := (w.heap.size + 1 + 1)) (by simp))) ?_))
   go_ret
   exact ⟨rfl, HX.out.hS.1⟩
 have HCF := Aside0.mk (conf_cfg h1)
 have HPA := Aside0.mk (HP1.out rfl)
 have HPO := Aside0.mk (HP2.out rfl)
 have HN := Aside0.mk (show (x3.length : Int) ≤ 60 by simpa using h3)
 clear HP1 HP2
 go_upto_region 4 with (first
  | (go_at_call 10; refine (conf_w x0 _).mono ?_; rintro e_ w1 ⟨rfl, hb⟩; replace HX := Aside0.mk (HX.out.below hb); clear hb xc; have xc := blk_cell HX.out.hC)
  | (go_at_call 11; (with_reducible refine (right_w (HX.out.K (g := (w.heap.size + 1)) (x := x1) (cs := cs1) (by simp)) HQ1.out).mono ?_); rintro e_ w1 ⟨rfl, hb⟩; replace HX := Aside0.mk (HX.out.below hb); clear hb xc; have xc := blk_cell HX.out.hC)
  | (go_at_call 11; (with_reducible refine (right_w (HX.out.K (g := (w.heap.size + 1 + 1)) (x := x2) (cs := cs2) (by simp)) HQ2.out).mono ?_); rintro e_ w1 ⟨rfl, hb⟩; replace HX := Aside0.mk (HX.out.below hb); clear hb xc; have xc := blk_cell HX.out.hC)
  | ((with_reducible refine gate_dst (N := 22) rfl ?_); (try (refine gate_guard (by rfl) ?_; dsimp only)); refine load_pre rfl 37 (.tmp 6) rfl (w.heap.size + 1) rfl cs1 _ (range_row (HX.out.heap (x := x1) (by simp))) hu1 rfl (k_info (HX.out.K (x := x1) (g := (w.heap.size + 1)) (by simp))) ?_)
  | ((with_reducible refine gate_dst (N := 27) rfl ?_); (try (refine gate_guard (by rfl) ?_; dsimp only)); refine load_pre rfl 37 (.tmp 7) rfl (w.heap.size + 1 + 1) rfl cs2 _ (range_row (HX.out.heap (x := x2) (by simp))) hu1 rfl (k_info (HX.out.K (x := x2) (g := (w.heap.size + 1 + 1)) (by simp))) ?_))
 clear h1 h3 HQ1 HQ2
 go_cut [12] (fun v wc => ∃ g : Nat, v = .pointer (some ⟨g, 0, none⟩) ∧ Ctx w wc #[.int .i64 x0.f0, .int .i64 x0.f1, .int .i64 x0.f2, .int .i64 x0.f3, .int .i64 x0.f4, .int .i64 x0.f5, .int .i64 x0.f6, .int .i64 x0.f7, .int .i64 x0.f8, .int .i64 x0.f9, .int .i64 x0.f10, .int .i64 x0.f11] ((g, x1, cs1) :: [((w.heap.size + 1), x1, cs1), ((w.heap.size + 1 + 1), x2, cs2)]) ∧ w.heap.size < g)
 case first => as_aux_lemma =>
  have hsz := k_size HK1.out
  go_wp2_with (first
   | ((with_reducible refine gate_dst (N := 37) rfl ?_); (try (refine gate_guard (by rfl) ?_; dsimp only)); refine load_pre rfl 37 (.tmp 6) rfl (w.heap.size + 1) rfl cs1 _ (range_row (HX.out.heap (x := x1) (by simp))) hu1 rfl (k_info (HX.out.K (x := x1) (g := (w.heap.size + 1)) (by simp))) ?_)
   | ((with_reducible refine gate_dst (N := 12) rfl ?_); refine box_event ?hg (N := 12) ?hd (cs := #[.int .i64 0, .int .i64 0, .slice none 0 0, .int .i64 0, .int .i64 0, .int .i64 0, .int .i64 0, .slice none 0 0, .int .i64 0, .int .i64 0, .bool false, .int .i64 0, .int .i64 0, .bool false, .int .i64 0, .slice none 0 0, .int .i64 0, .int .i64 0, .slice none 0 0]) (t := 37) ?hr ?_; (case hd => rfl); (case hg => rfl); (case hr => first | (go_simp; done) | (go_simp; rfl)); intro ga hg w_ FZ hb; obtain ⟨hst, hn⟩ := ctx_put HX.out hb (Nat.le_of_eq hg.symm) FZ rfl HK1.out; have HNN := Aside0.mk hn; have HLT := Aside0.mk (show w.heap.size < ga by have h9 := blk_lt (HX.out.heap (g := (w.heap.size + 1)) (x := x1) (cs := cs1) (by simp)); omega); clear hn FZ hb hg))
  go_meet
  exact ⟨ga, rfl, HNN.out, HLT.out⟩
 case rest =>
 obtain ⟨ga, rfl, hn, hlt_ga⟩ := hcut
 clear HX xc
 have HX := Aside0.mk hn
 have HLga := Aside0.mk hlt_ga
 clear hn hlt_ga
 have xc := blk_cell HX.out.hC
 go_upto_region 5 with (fail)
 go_cut [13] (fun v wc => ∃ g : Nat, v = .pointer (some ⟨g, 0, none⟩) ∧ Ctx w wc #[.int .i64 x0.f0, .int .i64 x0.f1, .int .i64 x0.f2, .int .i64 x0.f3, .int .i64 x0.f4, .int .i64 x0.f5, .int .i64 x0.f6, .int .i64 x0.f7, .int .i64 x0.f8, .int .i64 x0.f9, .int .i64 x0.f10, .int .i64 x0.f11] ((g, x1, cs1) :: (ga, x1, cs1) :: [((w.heap.size + 1), x1, cs1), ((w.heap.size + 1 + 1), x2, cs2)]) ∧ ga < g)
 case first => as_aux_lemma =>
  have hsz := k_size HK1.out
  go_wp2_with (first
   | ((with_reducible refine gate_dst (N := 38) rfl ?_); (try (refine gate_guard (by rfl) ?_; dsimp only)); refine load_pre rfl 37 (.tmp 6) rfl (w.heap.size + 1) rfl cs1 _ (range_row (HX.out.heap (x := x1) (by simp))) hu1 rfl (k_info (HX.out.K (x := x1) (g := (w.heap.size + 1)) (by simp))) ?_)
   | ((with_reducible refine gate_dst (N := 13) rfl ?_); refine box_event ?hg (N := 13) ?hd (cs := #[.int .i64 0, .int .i64 0, .slice none 0 0, .int .i64 0, .int .i64 0, .int .i64 0, .int .i64 0, .slice none 0 0, .int .i64 0, .int .i64 0, .bool false, .int .i64 0, .int .i64 0, .bool false, .int .i64 0, .slice none 0 0, .int .i64 0, .int .i64 0, .slice none 0 0]) (t := 37) ?hr ?_; (case hd => rfl); (case hg => rfl); (case hr => first | (go_simp; done) | (go_simp; rfl)); intro gb hg w_ FZ hb; obtain ⟨hst, hn⟩ := ctx_put HX.out hb (Nat.le_of_eq hg.symm) FZ rfl HK1.out; have HNN := Aside0.mk hn; have HLT := Aside0.mk (show ga < gb by have h9 := blk_lt (HX.out.heap (g := ga) (x := x1) (cs := cs1) (by simp)); omega); clear hn FZ hb hg))
  go_meet
  exact ⟨gb, rfl, HNN.out, HLT.out⟩
 case rest =>
 obtain ⟨gb, rfl, hn, hlt_gb⟩ := hcut
 clear HX xc
 have HX := Aside0.mk hn
 have HLgb := Aside0.mk hlt_gb
 clear hn hlt_gb
 have xc := blk_cell HX.out.hC
 go_upto_region 6 with (fail)
 go_cut [14] (fun v wc => ∃ g : Nat, v = .pointer (some ⟨g, 0, none⟩) ∧ Ctx w wc #[.int .i64 x0.f0, .int .i64 x0.f1, .int .i64 x0.f2, .int .i64 x0.f3, .int .i64 x0.f4, .int .i64 x0.f5, .int .i64 x0.f6, .int .i64 x0.f7, .int .i64 x0.f8, .int .i64 x0.f9, .int .i64 x0.f10, .int .i64 x0.f11] ((g, x2, cs2) :: (gb, x1, cs1) :: (ga, x1, cs1) :: [((w.heap.size + 1), x1, cs1), ((w.heap.size + 1 + 1), x2, cs2)]) ∧ gb < g)
 case first => as_aux_lemma =>
  have hsz := k_size HK2.out
  go_wp2_with (first
   | ((with_reducible refine gate_dst (N := 39) rfl ?_); (try (refine gate_guard (by rfl) ?_; dsimp only)); refine load_pre rfl 37 (.tmp 7) rfl (w.heap.size + 1 + 1) rfl cs2 _ (range_row (HX.out.heap (x := x2) (by simp))) hu1 rfl (k_info (HX.out.K (x := x2) (g := (w.heap.size + 1 + 1)) (by simp))) ?_)
   | ((with_reducible refine gate_dst (N := 14) rfl ?_); refine box_event ?hg (N := 14) ?hd (cs := #[.int .i64 0, .int .i64 0, .slice none 0 0, .int .i64 0, .int .i64 0, .int .i64 0, .int .i64 0, .slice none 0 0, .int .i64 0, .int .i64 0, .bool false, .int .i64 0, .int .i64 0, .bool false, .int .i64 0, .slice none 0 0, .int .i64 0, .int .i64 0, .slice none 0 0]) (t := 37) ?hr ?_; (case hd => rfl); (case hg => rfl); (case hr => first | (go_simp; done) | (go_simp; rfl)); intro gz hg w_ FZ hb; obtain ⟨hst, hn⟩ := ctx_put HX.out hb (Nat.le_of_eq hg.symm) FZ rfl HK2.out; have HNN := Aside0.mk hn; have HLT := Aside0.mk (show gb < gz by have h9 := blk_lt (HX.out.heap (g := gb) (x := x1) (cs := cs1) (by simp)); omega); clear hn FZ hb hg))
  go_meet
  exact ⟨gz, rfl, HNN.out, HLT.out⟩
 case rest =>
 obtain ⟨gz, rfl, hn, hlt_gz⟩ := hcut
 clear HX xc
 have HX := Aside0.mk hn
 have HLgz := Aside0.mk hlt_gz
 clear hn hlt_gz
 have xc := blk_cell HX.out.hC
 have HT : Aside0 (Trio w wc #[.int .i64 x0.f0, .int .i64 x0.f1, .int .i64 x0.f2, .int .i64 x0.f3, .int .i64 x0.f4, .int .i64 x0.f5, .int .i64 x0.f6, .int .i64 x0.f7, .int .i64 x0.f8, .int .i64 x0.f9, .int .i64 x0.f10, .int .i64 x0.f11] ga gb gz x1 x1 x2 cs1 cs1 cs2) := ⟨by
  have h1 := HLga.out
  have h2 := HLgb.out
  have h3 := HLgz.out
  exact ⟨HX.out.hS.1, HX.out.hC, (HX.out.heap (g := ga) (x := x1) (cs := cs1) (by simp)), (HX.out.heap (g := gb) (x := x1) (cs := cs1) (by simp)), (HX.out.heap (g := gz) (x := x2) (cs := cs2) (by simp)), .inl HK1.out, .inl HK1.out, .inl HK2.out, by omega, by omega, by omega, by omega, by omega, by omega⟩⟩
 clear HX xc HLga HLgb HLgz
 go_wp2
 go_loopw [15] (fun v wr => ∃ (i : Int) (X O : S37) (ca cb co : Array Value), 0 ≤ i ∧ i ≤ (x3.length : Int) ∧ v = .int .i64 i ∧ Aside0 (SimP X) ∧ Aside0 (SimP O) ∧ Aside0 (Trio w wr #[.int .i64 x0.f0, .int .i64 x0.f1, .int .i64 x0.f2, .int .i64 x0.f3, .int .i64 x0.f4, .int .i64 x0.f5, .int .i64 x0.f6, .int .i64 x0.f7, .int .i64 x0.f8, .int .i64 x0.f9, .int .i64 x0.f10, .int .i64 x0.f11] ga gb gz X X O ca cb co)) (fun v _ => ((x3.length : Int) - intOf v).toNat)
 case atStart => exact ⟨0, x1, x2, cs1, cs1, cs2, Int.le_refl _, by omega, rfl, HPA, HPO, HT⟩
 case round =>
  clear HT HPA HPO
  obtain ⟨i, X, O, ca, cb, co, h0, hi, rfl, HPA, HPO, HT⟩ := hrel
  by_cases hlt : i < (x3.length : Int)
  ·obtain ⟨ad, e0, hd⟩ := Kd.at_int HR3.out i h0 hlt
   cases e0
   have HD := Aside0.mk hd
   clear hd
   have hv : wrap64 x4 = x4 := wrN (by have := HW4.out; omega) (by have := HW4.out; omega)
   have hv2 : wrap64 (x4 + i) = x4 + i := wrN (by have := HW4.out; omega) (by have := HW4.out; have := HN.out; omega)
   have hu : IntKind.wrap .i64 x4 = x4 := (i64_w _).trans hv
   have hu2 : IntKind.wrap .i64 (x4 + i) = x4 + i := (i64_w _).trans hv2
   have T0 : 0 ≤ x4 + i ∧ x4 + i ≤ 1099511627776 := by have := HW4.out; have := HN.out; omega
   have FS := Aside0.mk (step_tells HCF.out HPA.out (rd x3 i) (x4 + i) T0.1 T0.2 20 (Nat.le_refl _))
   have FR := Aside0.mk (rstep_tells HCF.out HPA.out (rd x3 i) (x4 + i) T0.1 T0.2 40 (Nat.le_refl _))
   have FO := Aside0.mk (step_tells HCF.out HPO.out (wrap64 (rd x3 i + 1)) (x4 + i) T0.1 T0.2 20 (Nat.le_refl _))
   have FY := Aside0.mk (step_sim HCF.out HPA.out (rd x3 i) (x4 + i) T0.1 T0.2).1
   have FZ := Aside0.mk (step_sim HCF.out HPO.out (wrap64 (rd x3 i + 1)) (x4 + i) T0.1 T0.2).1
   have FM := Aside0.mk (same_refl FY.out)
   clear T0
   go_upto_region 11 with (fail)
   generalize wr = W0 at HT ⊢
   clear hv hv2 hu hu2
   go_cut [] (fun wc => ∃ cy : Array Value, Aside0 (Trio w wc #[.int .i64 x0.f0, .int .i64 x0.f1, .int .i64 x0.f2, .int .i64 x0.f3, .int .i64 x0.f4, .int .i64 x0.f5, .int .i64 x0.f6, .int .i64 x0.f7, .int .i64 x0.f8, .int .i64 x0.f9, .int .i64 x0.f10, .int .i64 x0.f11] ga gb gz (stepS x0 X (rd x3 i) (x4 + i)) X O cy cb co))
   case first => as_aux_lemma =>
    have FT := Aside0.mk HT.out
    have HKX := Aside0.mk (FT.out.sa.K FT.out.hB)
    have FD := (FT.out.hB.cell (World.block_lt_of_cell? _ _ HD.out)).trans HD.out
    clear HT
    refine start_ (n := 9) (S := fun w' => w'.heap[w.heap.size]? = some (.cells #[.int .i64 x0.f0, .int .i64 x0.f1, .int .i64 x0.f2, .int .i64 x0.f3, .int .i64 x0.f4, .int .i64 x0.f5, .int .i64 x0.f6, .int .i64 x0.f7, .int .i64 x0.f8, .int .i64 x0.f9, .int .i64 x0.f10, .int .i64 x0.f11] 23 (0, 0)) ∧ w'.heap[ga]? = some (.cells ca 37 (0, 0)) ∧ w'.cell? (ad.add i.toNat) = some (.int .i64 (rd x3 i))) (ds := [8]) #[false, false, false, false, false, false, false, false, false] (by kernel_rfl) rfl rfl ⟨FT.out.hC, FT.out.ha, FD⟩ (fun hHeld => ?_)
    have hb := below_drew1 (Below.refl W0.heap.size W0)
    replace FT := Aside0.mk (FT.out.below hb)
    replace FD := (hb.cell (World.block_lt_of_cell? _ _ FD)).trans FD
    clear hb
    generalize W0.drew = w9 at FT FD hHeld ⊢
    refine ta_ 0 50 #[true, false, false, false, false, false, false, false, false] hHeld (v := ?_) ?_ ?_
    rotate_left
    ·intro w' hS
     have s := blk_cell hS.1
     clear hS
     go_simp
     with_reducible rfl
    refine take_ (i := 1) (N := some 51) (v := .agg ca) (a' := ?_) #[true, true, false, false, false, false, false, false, false] rfl rfl (by kernel_rfl) (fun _ _ _ h => h) (yields_row (by rfl) 37 (.tmp 12) rfl ga rfl ca _ (fun w' hS => range_row hS.2.1) hu1 rfl (k_info HKX.out)) hHeld ?_ ?_
    rotate_left
    ·simp only [Act.put, List.setIfInBounds_toArray, List.set_cons_zero, List.set_cons_succ, i64_w, i32_w]
     rfl
    refine pu_ 2 52 #[true, true, true, false, false, false, false, false, false] ?_
    refine pu_ 3 53 #[true, true, true, true, false, false, false, false, false] ?_
    refine pu_ 6 56 #[true, true, true, true, false, false, true, false, false] ?_
    refine pu_ 4 54 #[true, true, true, true, true, false, true, false, false] ?_
    refine ta_ 5 55 #[true, true, true, true, true, true, true, false, false] hHeld (v := ?_) ?_ ?_
    rotate_left
    ·intro w' hS
     have s := hS.2.2
     clear hS
     go_simp
     with_reducible rfl
    refine one_ (i := 7) (N := some 57) #[true, true, true, true, true, true, true, true, false] rfl rfl (by kernel_rfl) (by decide) (fun K hK => ?_)
    refine goes_ Try.func14 (by kernel_rfl) rfl #[.agg #[.int .i64 x0.f0, .int .i64 x0.f1, .int .i64 x0.f2, .int .i64 x0.f3, .int .i64 x0.f4, .int .i64 x0.f5, .int .i64 x0.f6, .int .i64 x0.f7, .int .i64 x0.f8, .int .i64 x0.f9, .int .i64 x0.f10, .int .i64 x0.f11], .agg ca, .int .i64 (rd x3 i), .int .i64 (x4 + i)] (by rfl) rfl rfl (by (try simp only [List.map_toArray, List.map_cons, List.map_nil]); first | done | rfl) ?_
    refine (step_w (k := 20) (c := x0) (x := X) (y := (stepS x0 X (rd x3 i) (x4 + i))) (FT.out.sa.K FT.out.hB) FS.out).mono ?_
    rintro e_ w_ ⟨cy, rfl, FO, hb⟩
    refine ⟨_, rfl, ?_⟩
    replace FT := Aside0.mk (FT.out.below hb)
    replace FD := (hb.cell (World.block_lt_of_cell? _ _ FD)).trans FD
    clear hb
    refine hK.out _ _ ⟨FT.out.hC, FT.out.ha, FD⟩ (fun hHeld => ?_)
    clear hK K
    refine no_ 57 ?_
    refine last_ (i := 8) (N := none) #[true, true, true, true, true, true, true, true, true] rfl rfl (by kernel_rfl) (by decide) (fun K hK => ?_)
    obtain ⟨hst, hn⟩ := FT.out.store FO
    have HN := Aside0.mk hn
    have hsz := k_size FO.K
    clear hn FT FD
    refine skip_ (w1 := ?_) (by rfl) rfl ?_ ?_
    rotate_left
    ·go_simp
     rfl
    clear hst FO hsz
    refine hK.out _ _ ?_
    clear hK K
    refine done_ (by kernel_rfl) ?_
    have HT := Aside0.mk HN.out
    (try go_wp2)
    go_meet
    exact ⟨cy, HT⟩
   case rest =>
   obtain ⟨ca', HT'⟩ := hcut
   clear HT
   have HT := HT'
   clear HT'
   go_upto_region 12 with (fail)
   generalize wc = W0 at HT ⊢
   go_cut [] (fun wc => ∃ cy : Array Value, Aside0 (Trio w wc #[.int .i64 x0.f0, .int .i64 x0.f1, .int .i64 x0.f2, .int .i64 x0.f3, .int .i64 x0.f4, .int .i64 x0.f5, .int .i64 x0.f6, .int .i64 x0.f7, .int .i64 x0.f8, .int .i64 x0.f9, .int .i64 x0.f10, .int .i64 x0.f11] ga gb gz (stepS x0 X (rd x3 i) (x4 + i)) X (stepS x0 O (wrap64 (rd x3 i + 1)) (x4 + i)) ca' cb cy))
   case first => as_aux_lemma =>
    have FT := Aside0.mk HT.out.rot.rot
    have HKX := Aside0.mk (FT.out.sa.K FT.out.hB)
    have FD := (FT.out.hB.cell (World.block_lt_of_cell? _ _ HD.out)).trans HD.out
    clear HT
    refine start_ (n := 10) (S := fun w' => w'.heap[w.heap.size]? = some (.cells #[.int .i64 x0.f0, .int .i64 x0.f1, .int .i64 x0.f2, .int .i64 x0.f3, .int .i64 x0.f4, .int .i64 x0.f5, .int .i64 x0.f6, .int .i64 x0.f7, .int .i64 x0.f8, .int .i64 x0.f9, .int .i64 x0.f10, .int .i64 x0.f11] 23 (0, 0)) ∧ w'.heap[gz]? = some (.cells co 37 (0, 0)) ∧ w'.cell? (ad.add i.toNat) = some (.int .i64 (rd x3 i))) (ds := [9]) #[false, false, false, false, false, false, false, false, false, false] (by kernel_rfl) rfl rfl ⟨FT.out.hC, FT.out.ha, FD⟩ (fun hHeld => ?_)
    have hb := below_drew1 (Below.refl W0.heap.size W0)
    replace FT := Aside0.mk (FT.out.below hb)
    replace FD := (hb.cell (World.block_lt_of_cell? _ _ FD)).trans FD
    clear hb
    generalize W0.drew = w9 at FT FD hHeld ⊢
    refine ta_ 0 58 #[true, false, false, false, false, false, false, false, false, false] hHeld (v := ?_) ?_ ?_
    rotate_left
    ·intro w' hS
     have s := blk_cell hS.1
     clear hS
     go_simp
     with_reducible rfl
    refine take_ (i := 1) (N := some 59) (v := .agg co) (a' := ?_) #[true, true, false, false, false, false, false, false, false, false] rfl rfl (by kernel_rfl) (fun _ _ _ h => h) (yields_row (by rfl) 37 (.tmp 14) rfl gz rfl co _ (fun w' hS => range_row hS.2.1) hu1 rfl (k_info HKX.out)) hHeld ?_ ?_
    rotate_left
    ·simp only [Act.put, List.setIfInBounds_toArray, List.set_cons_zero, List.set_cons_succ, i64_w, i32_w]
     rfl
    refine pu_ 2 60 #[true, true, true, false, false, false, false, false, false, false] ?_
    refine pu_ 3 61 #[true, true, true, true, false, false, false, false, false, false] ?_
    refine pu_ 7 65 #[true, true, true, true, false, false, false, true, false, false] ?_
    refine pu_ 4 62 #[true, true, true, true, true, false, false, true, false, false] ?_
    refine ta_ 5 63 #[true, true, true, true, true, true, false, true, false, false] hHeld (v := ?_) ?_ ?_
    rotate_left
    ·intro w' hS
     have s := hS.2.2
     clear hS
     go_simp
     with_reducible rfl
    refine pu_ 6 64 #[true, true, true, true, true, true, true, true, false, false] ?_
    refine one_ (i := 8) (N := some 66) #[true, true, true, true, true, true, true, true, true, false] rfl rfl (by kernel_rfl) (by decide) (fun K hK => ?_)
    refine goes_ Try.func14 (by kernel_rfl) rfl #[.agg #[.int .i64 x0.f0, .int .i64 x0.f1, .int .i64 x0.f2, .int .i64 x0.f3, .int .i64 x0.f4, .int .i64 x0.f5, .int .i64 x0.f6, .int .i64 x0.f7, .int .i64 x0.f8, .int .i64 x0.f9, .int .i64 x0.f10, .int .i64 x0.f11], .agg co, .int .i64 (wrap64 (rd x3 i + 1)), .int .i64 (x4 + i)] (by rfl) rfl rfl (by (try simp only [List.map_toArray, List.map_cons, List.map_nil]); first | done | rfl) ?_
    refine (step_w (k := 20) (c := x0) (x := O) (y := (stepS x0 O (wrap64 (rd x3 i + 1)) (x4 + i))) (FT.out.sa.K FT.out.hB) FO.out).mono ?_
    rintro e_ w_ ⟨cy, rfl, FO, hb⟩
    refine ⟨_, rfl, ?_⟩
    replace FT := Aside0.mk (FT.out.below hb)
    replace FD := (hb.cell (World.block_lt_of_cell? _ _ FD)).trans FD
    clear hb
    refine hK.out _ _ ⟨FT.out.hC, FT.out.ha, FD⟩ (fun hHeld => ?_)
    clear hK K
    refine no_ 66 ?_
    refine last_ (i := 9) (N := none) #[true, true, true, true, true, true, true, true, true, true] rfl rfl (by kernel_rfl) (by decide) (fun K hK => ?_)
    obtain ⟨hst, hn⟩ := FT.out.store FO
    have HN := Aside0.mk hn
    have hsz := k_size FO.K
    clear hn FT FD
    refine skip_ (w1 := ?_) (by rfl) rfl ?_ ?_
    rotate_left
    ·go_simp
     rfl
    clear hst FO hsz
    refine hK.out _ _ ?_
    clear hK K
    refine done_ (by kernel_rfl) ?_
    have HT := Aside0.mk HN.out.rot
    (try go_wp2)
    go_meet
    exact ⟨cy, HT⟩
   case rest =>
   obtain ⟨co', HT'⟩ := hcut
   clear HT
   have HT := HT'
   clear HT'
   go_upto_region 13 with (fail)
   generalize wc = W0 at HT ⊢
   go_cut [] (fun wc => ∃ cy : Array Value, Aside0 (Trio w wc #[.int .i64 x0.f0, .int .i64 x0.f1, .int .i64 x0.f2, .int .i64 x0.f3, .int .i64 x0.f4, .int .i64 x0.f5, .int .i64 x0.f6, .int .i64 x0.f7, .int .i64 x0.f8, .int .i64 x0.f9, .int .i64 x0.f10, .int .i64 x0.f11] ga gb gz (stepS x0 X (rd x3 i) (x4 + i)) (stepS x0 X (rd x3 i) (x4 + i)) (stepS x0 O (wrap64 (rd x3 i + 1)) (x4 + i)) ca' cy co'))
   case first => as_aux_lemma =>
    have FT := Aside0.mk HT.out.rot
    have HKX := Aside0.mk (FT.out.sa.K FT.out.hB)
    have FD := (FT.out.hB.cell (World.block_lt_of_cell? _ _ HD.out)).trans HD.out
    clear HT
    refine start_ (n := 9) (S := fun w' => w'.heap[w.heap.size]? = some (.cells #[.int .i64 x0.f0, .int .i64 x0.f1, .int .i64 x0.f2, .int .i64 x0.f3, .int .i64 x0.f4, .int .i64 x0.f5, .int .i64 x0.f6, .int .i64 x0.f7, .int .i64 x0.f8, .int .i64 x0.f9, .int .i64 x0.f10, .int .i64 x0.f11] 23 (0, 0)) ∧ w'.heap[gb]? = some (.cells cb 37 (0, 0)) ∧ w'.cell? (ad.add i.toNat) = some (.int .i64 (rd x3 i))) (ds := [8]) #[false, false, false, false, false, false, false, false, false] (by kernel_rfl) rfl rfl ⟨FT.out.hC, FT.out.ha, FD⟩ (fun hHeld => ?_)
    have hb := below_drew1 (Below.refl W0.heap.size W0)
    replace FT := Aside0.mk (FT.out.below hb)
    replace FD := (hb.cell (World.block_lt_of_cell? _ _ FD)).trans FD
    clear hb
    generalize W0.drew = w9 at FT FD hHeld ⊢
    refine ta_ 0 67 #[true, false, false, false, false, false, false, false, false] hHeld (v := ?_) ?_ ?_
    rotate_left
    ·intro w' hS
     have s := blk_cell hS.1
     clear hS
     go_simp
     with_reducible rfl
    refine take_ (i := 1) (N := some 68) (v := .agg cb) (a' := ?_) #[true, true, false, false, false, false, false, false, false] rfl rfl (by kernel_rfl) (fun _ _ _ h => h) (yields_row (by rfl) 37 (.tmp 13) rfl gb rfl cb _ (fun w' hS => range_row hS.2.1) hu1 rfl (k_info HKX.out)) hHeld ?_ ?_
    rotate_left
    ·simp only [Act.put, List.setIfInBounds_toArray, List.set_cons_zero, List.set_cons_succ, i64_w, i32_w]
     rfl
    refine pu_ 2 69 #[true, true, true, false, false, false, false, false, false] ?_
    refine pu_ 3 70 #[true, true, true, true, false, false, false, false, false] ?_
    refine pu_ 6 73 #[true, true, true, true, false, false, true, false, false] ?_
    refine pu_ 4 71 #[true, true, true, true, true, false, true, false, false] ?_
    refine ta_ 5 72 #[true, true, true, true, true, true, true, false, false] hHeld (v := ?_) ?_ ?_
    rotate_left
    ·intro w' hS
     have s := hS.2.2
     clear hS
     go_simp
     with_reducible rfl
    refine one_ (i := 7) (N := some 74) #[true, true, true, true, true, true, true, true, false] rfl rfl (by kernel_rfl) (by decide) (fun K hK => ?_)
    refine goes_ Try.func15 (by kernel_rfl) rfl #[.agg #[.int .i64 x0.f0, .int .i64 x0.f1, .int .i64 x0.f2, .int .i64 x0.f3, .int .i64 x0.f4, .int .i64 x0.f5, .int .i64 x0.f6, .int .i64 x0.f7, .int .i64 x0.f8, .int .i64 x0.f9, .int .i64 x0.f10, .int .i64 x0.f11], .agg cb, .int .i64 (rd x3 i), .int .i64 (x4 + i)] (by rfl) rfl rfl (by (try simp only [List.map_toArray, List.map_cons, List.map_nil]); first | done | rfl) ?_
    refine (rstep_w (k := 40) (c := x0) (x := X) (y := (stepS x0 X (rd x3 i) (x4 + i))) (FT.out.sa.K FT.out.hB) FR.out).mono ?_
    rintro e_ w_ ⟨cy, rfl, FO, hb⟩
    refine ⟨_, rfl, ?_⟩
    replace FT := Aside0.mk (FT.out.below hb)
    replace FD := (hb.cell (World.block_lt_of_cell? _ _ FD)).trans FD
    clear hb
    refine hK.out _ _ ⟨FT.out.hC, FT.out.ha, FD⟩ (fun hHeld => ?_)
    clear hK K
    refine no_ 74 ?_
    refine last_ (i := 8) (N := none) #[true, true, true, true, true, true, true, true, true] rfl rfl (by kernel_rfl) (by decide) (fun K hK => ?_)
    obtain ⟨hst, hn⟩ := FT.out.store FO
    have HN := Aside0.mk hn
    have hsz := k_size FO.K
    clear hn FT FD
    refine skip_ (w1 := ?_) (by rfl) rfl ?_ ?_
    rotate_left
    ·go_simp
     rfl
    clear hst FO hsz
    refine hK.out _ _ ?_
    clear hK K
    refine done_ (by kernel_rfl) ?_
    have HT := Aside0.mk HN.out.rot.rot
    (try go_wp2)
    go_meet
    exact ⟨cy, HT⟩
   case rest =>
   obtain ⟨cb', HT'⟩ := hcut
   clear HT
   have HT := HT'
   clear HT'
   clear HD FS FR FO
   obtain ⟨Y, hY⟩ : ∃ Y, Y = (stepS x0 X (rd x3 i) (x4 + i)) := ⟨_, rfl⟩
   obtain ⟨Z, hZ⟩ : ∃ Z, Z = (stepS x0 O (wrap64 (rd x3 i + 1)) (x4 + i)) := ⟨_, rfl⟩
   rw [← hY, ← hZ] at HT
   rw [← hY] at FY FM
   rw [← hZ] at FZ
   clear hY hZ
   go_wp2_with (first
    | ((with_reducible refine gate_dst (N := 75) rfl ?_); (try (refine gate_guard (by rfl) ?_; dsimp only)); refine load_pre rfl 37 (.tmp 12) rfl ga rfl ca' _ (range_row HT.out.ha) hu1 rfl (k_info (HT.out.sa.K HT.out.hB)) ?_)
    | ((with_reducible refine gate_dst (N := 76) rfl ?_); (try (refine gate_guard (by rfl) ?_; dsimp only)); refine load_pre rfl 37 (.tmp 13) rfl gb rfl cb' _ (range_row HT.out.hb) hu1 rfl (k_info (HT.out.sb.K HT.out.hB)) ?_)
    | (go_at_call 13; refine (same_w (HT.out.sa.K HT.out.hB) (HT.out.sb.K HT.out.hB) FM.out).mono ?_; rintro e_ w1 ⟨rfl, hb⟩; replace HT := Aside0.mk (HT.out.below hb); clear hb))
   go_roundw
   case measure => have hw := wr_len (n := x3.length) (by have := HN.out; omega) h0 hlt; simp [intOf, hw]; omega
   case rel => exact ⟨i + 1, Y, Z, ca', cb', co', by omega, by omega, by first | rfl | (have hw := wr_len (n := x3.length) (by have := HN.out; omega) h0 hlt; simp [hw]), FY, FZ, HT⟩
  ·go_wp2
   go_ret
   exact ⟨rfl, HT.out.hB⟩
end Go.Proofs.Ytefgoffaidjiaaa.PAll
namespace Go.Proofs.Ytefgoffaidjiaaa.fleetRow
open Go.ChangeShapes Go.WideShapes Go.ChangeAt Go.RowKit
open Go.ChangeMaps (open_string shut_string)
set_option linter.unusedVariables false
theorem own : ownKnob Try.prog.godebug = none := by kernel_rfl
theorem laidOut : laidOutB Try.prog = true := by kernel_rfl
set_option maxRecDepth 100000 in
theorem lifted (os : Os) (started : os.Started) (H : Type) (enc : TypeId × Value → H) :
  ReturnsInHanded {} Try.checked os 5 .any (Rows.fleetRowSpec.pre6 enc Try.prog Try.f5 Rows.fleetRowRow.domain false) (Rows.fleetRowSpec.post enc Try.prog Try.f5 false true false false) := by
 refine returnsInHanded_of_change_sized (C := Try.checked) own started (by kernel_rfl) Try.func5
  (ChangeSpec.witness6 (enc := enc) (C := Try.checked) false ⟨#[], #[.agg #[.int .i64 0, .int .i64 0, .int .i64 0, .int .i64 0, .int .i64 0, .int .i64 0, .int .i64 0, .int .i64 0, .int .i64 0, .int .i64 0, .int .i64 0, .int .i64 0], .agg #[.int .i64 0, .int .i64 0, .slice none 0 0, .int .i64 0, .int .i64 0, .int .i64 0, .int .i64 0, .slice none 0 0, .int .i64 0, .int .i64 0, .bool false, .int .i64 0, .int .i64 0, .bool false, .int .i64 0, .slice none 0 0, .int .i64 0, .int .i64 0, .slice none 0 0], .agg #[.int .i64 0, .int .i64 0, .slice none 0 0, .int .i64 0, .int .i64 0, .int .i64 0, .int .i64 0, .slice none 0 0, .int .i64 0, .int .i64 0, .bool false, .int .i64 0, .int .i64 0, .bool false, .int .i64 0, .slice none 0 0, .int .i64 0, .int .i64 0, .slice none 0 0], .slice none 0 0, .int .u16 0], []⟩ 8 (by kernel_rfl) (by kernel_rfl) (by kernel_rfl) (by kernel_rfl)) ?_
 intro W base args ds gs before hval0 hW hcnd hsz0 _
 have hval : ∀ (j : Nat) t v, Try.f5.params[j]? = some t → args[j]? = some v → Value.okWide Try.prog W .any base t v := hval0
 have hW' := hW
 obtain ⟨p, q, hA0, hV, rfl, hfz, hnd⟩ := hW
 have hA : DataW.TrodAll enc Try.prog W 0 (fun _ => true) true Try.f5.params.toList args.toList ds p := hA0
 rw [Try.params5] at hA hval
 obtain ⟨v0, vs0, d0, ds0, p0, q0, hargs, rfl, rfl, h0, r0⟩ := trodAll_cons hA
 obtain ⟨v1, vs1, d1, ds1, p1, q1, rfl, rfl, rfl, h1, r1⟩ := trodAll_cons r0
 obtain ⟨v2, vs2, d2, ds2, p2, q2, rfl, rfl, rfl, h2, r2⟩ := trodAll_cons r1
 obtain ⟨v3, vs3, d3, ds3, p3, q3, rfl, rfl, rfl, h3, r3⟩ := trodAll_cons r2
 obtain ⟨v4, vs4, d4, ds4, p4, q4, rfl, rfl, rfl, h4, r4⟩ := trodAll_cons r3
 obtain ⟨rfl, rfl, rfl⟩ := trodAll_nil r4
 obtain rfl : args = #[v0, v1, v2, v3, v4] := by cases args; simp_all
 obtain ⟨rfl, rfl⟩ := trodVars_none hV
 have k0 := h0
 have lt0 : ∀ x ∈ p0, x.block < W.heap.size := by obtain ⟨m, hm⟩ := k0; exact DataW.trod_lt m _ _ _ hm
 obtain ⟨cs0, rfl, _⟩ := okWide_struct Try.underlying23 (hval 0 23 v0 rfl rfl)
 obtain ⟨fuel0, hf0⟩ := h0
 obtain ⟨x0, g0, o0⟩ := PAll.rdy23 enc W _ _ _ _ _ _ hf0
 have k1 := h1
 have lt1 : ∀ x ∈ p1, x.block < W.heap.size := by obtain ⟨m, hm⟩ := k1; exact DataW.trod_lt m _ _ _ hm
 obtain ⟨cs1, rfl, _⟩ := okWide_struct Try.underlying37 (hval 1 37 v1 rfl rfl)
 obtain ⟨fuel1, hf1⟩ := h1
 obtain ⟨x1, g1, o1⟩ := PAll.rdy37 enc W _ _ _ _ _ _ hf1
 have k2 := h2
 have lt2 : ∀ x ∈ p2, x.block < W.heap.size := by obtain ⟨m, hm⟩ := k2; exact DataW.trod_lt m _ _ _ hm
 obtain ⟨cs2, rfl, _⟩ := okWide_struct Try.underlying37 (hval 2 37 v2 rfl rfl)
 obtain ⟨fuel2, hf2⟩ := h2
 obtain ⟨x2, g2, o2⟩ := PAll.rdy37 enc W _ _ _ _ _ _ hf2
 have k3 := h3
 have lt3 : ∀ x ∈ p3, x.block < W.heap.size := by obtain ⟨m, hm⟩ := k3; exact DataW.trod_lt m _ _ _ hm
 obtain ⟨a3, len3, cap3, rfl⟩ := okWide_slice Try.underlying47 (hval 3 47 v3 rfl rfl)
 obtain ⟨fuel3, hf3⟩ := h3
 obtain ⟨x3, g3, o3⟩ := PAll.rdy47 enc W _ _ _ _ _ _ hf3
 obtain ⟨a4, rfl, rfl, rfl, w4⟩ := open_int Try.underlying48 (hval 4 48 v4 rfl rfl) h4
 clear hA0 hval0 hsz0
 refine (PAll.governorlaw18_FleetRow.walk2 W cs0 x0 g0 o0 cs1 x1 g1 o1 cs2 x2 g2 o2 _ x3 g3 o3 a4 w4).mono fun e W' ⟨he, bel⟩ => ?_
 subst he
 exact ⟨_, rfl, _, _, _, [], _, [], hW', trodAll_mk1 (shut_bool Try.underlying4 _), (trodAll_cons_mk (Below.trod laidOut (by kernel_rfl) (of_decide_eq_true (by kernel_rfl)) k0 bel lt0) (trodAll_cons_mk (Below.trod laidOut (by kernel_rfl) (of_decide_eq_true (by kernel_rfl)) k1 bel lt1) (trodAll_cons_mk (Below.trod laidOut (by kernel_rfl) (of_decide_eq_true (by kernel_rfl)) k2 bel lt2) (trodAll_cons_mk (Below.trod laidOut (by kernel_rfl) (of_decide_eq_true (by kernel_rfl)) k3 bel lt3) (trodAll_cons_mk (shut_int Try.underlying48 w4) trodAll_mk0))))), rfl, bel.frame _, fun h => by cases h⟩
theorem over : Rows.fleetRowRow.holds Try.pinned (OpenSpec.ofChange Rows.fleetRowSpec) :=
 OpenClaim.holds_of_wide 5 Try.f5 rfl rfl rfl rfl rfl rfl rfl ⟨rfl, rfl, rfl, rfl, rfl⟩ rfl rfl rfl rfl rfl (by kernel_rfl) Try.func5 (by kernel_rfl)
  (of_decide_eq_true (by kernel_rfl)) (by unfold Func.isWrapper; first | (rw [if_pos (by decide +kernel)]; kernel_rfl) | (rw [if_neg (by decide +kernel)]; exact ⟨rfl, rfl⟩))
  (fun os started H enc _ => lifted os started H enc)
theorem proved : Rows.FleetRowSaid := over
#print axioms proved
end Go.Proofs.Ytefgoffaidjiaaa.fleetRow
namespace Go.Proofs.Ytefgoffaidjiaaa
/-- The row, under a short name, for the claim. -/
theorem fleetRow_holds : Rows.FleetRowSaid := fleetRow.proved
end Go.Proofs.Ytefgoffaidjiaaa
