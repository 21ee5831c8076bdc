/- What the laws FleetOwn lean on: the contracts of the functions that they reach, part 5 of 5. -/
import Derived.Test.YtefgoffaidjiaaaMcB4
namespace Go.Proofs.Ytefgoffaidjiaaa.PAll
open Go.RowKit Go.Proofs.YtefgoffaidjiaaaW.PrintWords Go.Proofs.YtefgoffaidjiaaaW.PrintLast Go.Proofs.YtefgoffaidjiaaaW.PrintMore
attribute [local go_sem] max2_int min2_int max_two min_two max_three min_three max_four min_four   -- for this text's walks alone
set_option linter.unusedVariables false
set_option linter.unusedSimpArgs false

/-! ### governorref18_Same: function 13 -/
def governorref18_Same.b (a0_0 : Int) (a0_1 : Int) (l0_2 : List (S56)) (a0_3 : Int) (a0_4 : Int) (a0_5 : Int) (a0_6 : Int) (l0_7 : List (S58)) (a0_8 : Int) (a0_9 : Int) (a0_10 : Bool) (a0_11 : Int) (a0_12 : Int) (a0_13 : Bool) (a0_14 : Int) (l0_15 : List (Int)) (a0_16 : Int) (a0_17 : Int) (l0_18 : List (S52)) (a1_0 : Int) (a1_1 : Int) (l1_2 : List (S56)) (a1_3 : Int) (a1_4 : Int) (a1_5 : Int) (a1_6 : Int) (l1_7 : List (S58)) (a1_8 : Int) (a1_9 : Int) (a1_10 : Bool) (a1_11 : Int) (a1_12 : Int) (a1_13 : Bool) (a1_14 : Int) (l1_15 : List (Int)) (a1_16 : Int) (a1_17 : Int) (l1_18 : List (S52)) : Bool := governorref09_SamePolicy.b a0_0 a0_1 l0_2 a0_3 a0_4 a0_5 a0_6 l0_7 a1_0 a1_1 l1_2 a1_3 a1_4 a1_5 a1_6 l1_7 && ((a0_8 == a1_8 && (a0_9 == a1_9 && (a0_10 == a1_10))) && ((a0_11 == a1_11 && (a0_12 == a1_12 && (a0_13 == a1_13))) && (governorref16_Same.b a0_14 l0_15 a0_16 a0_17 a1_14 l1_15 a1_16 a1_17 && governorref17_Same.b l0_18 l1_18)))
def governorref18_Same.f (a0_0 : Int) (a0_1 : Int) (l0_2 : List (S56)) (a0_3 : Int) (a0_4 : Int) (a0_5 : Int) (a0_6 : Int) (l0_7 : List (S58)) (a0_8 : Int) (a0_9 : Int) (a0_10 : Bool) (a0_11 : Int) (a0_12 : Int) (a0_13 : Bool) (a0_14 : Int) (l0_15 : List (Int)) (a0_16 : Int) (a0_17 : Int) (l0_18 : List (S52)) (a1_0 : Int) (a1_1 : Int) (l1_2 : List (S56)) (a1_3 : Int) (a1_4 : Int) (a1_5 : Int) (a1_6 : Int) (l1_7 : List (S58)) (a1_8 : Int) (a1_9 : Int) (a1_10 : Bool) (a1_11 : Int) (a1_12 : Int) (a1_13 : Bool) (a1_14 : Int) (l1_15 : List (Int)) (a1_16 : Int) (a1_17 : Int) (l1_18 : List (S52)) : Option Bool := if l0_2.length < 140737488355328 ∧ l0_7.length < 140737488355328 ∧ l0_15.length < 140737488355328 ∧ l0_18.length < 140737488355328 then some (governorref18_Same.b a0_0 a0_1 l0_2 a0_3 a0_4 a0_5 a0_6 l0_7 a0_8 a0_9 a0_10 a0_11 a0_12 a0_13 a0_14 l0_15 a0_16 a0_17 l0_18 a1_0 a1_1 l1_2 a1_3 a1_4 a1_5 a1_6 l1_7 a1_8 a1_9 a1_10 a1_11 a1_12 a1_13 a1_14 l1_15 a1_16 a1_17 l1_18) else none
theorem eqH29 (d : Nat) (w : World) (x0 y0 : Int) (x1 y1 : Int) (x2 y2 : Bool) :
    (Op.equalIn (d + 2) 29 (.agg #[.int .i64 x0, .int .i64 x1, .bool x2]) (.agg #[.int .i64 y0, .int .i64 y1, .bool y2])).run Try.prog w = .ok (x0 == y0 && (x1 == y1 && (x2 == y2))) w := by
  refine eqA_of Try.underlying29 (by kernel_rfl) ?_
  refine eqf_cons (by rfl) (by go_simp; rfl) (by go_simp; rfl) (by go_simp) ?_
  refine eqf_cons (by rfl) (by go_simp; rfl) (by go_simp; rfl) (by go_simp) ?_
  exact eqf_last (by rfl) (by go_simp; rfl) (by go_simp; rfl) (by go_simp)
theorem eqH31 (d : Nat) (w : World) (x0 y0 : Int) (x1 y1 : Int) (x2 y2 : Bool) :
    (Op.equalIn (d + 2) 31 (.agg #[.int .i64 x0, .int .i64 x1, .bool x2]) (.agg #[.int .i64 y0, .int .i64 y1, .bool y2])).run Try.prog w = .ok (x0 == y0 && (x1 == y1 && (x2 == y2))) w := by
  refine eqA_of Try.underlying31 (by kernel_rfl) ?_
  refine eqf_cons (by rfl) (by go_simp; rfl) (by go_simp; rfl) (by go_simp) ?_
  refine eqf_cons (by rfl) (by go_simp; rfl) (by go_simp; rfl) (by go_simp) ?_
  exact eqf_last (by rfl) (by go_simp; rfl) (by go_simp; rfl) (by go_simp)
attribute [local go_sem high] eqH29 eqH31
set_option maxHeartbeats 8000000 in
set_option maxRecDepth 100000 in
theorem governorref18_Same.calls (a0_0 : Int) (a0_1 : Int) (A0_2 : Option Addr) (c0_2 : Nat) (l0_2 : List (S56)) (a0_3 : Int) (a0_4 : Int) (a0_5 : Int) (a0_6 : Int) (A0_7 : Option Addr) (c0_7 : Nat) (l0_7 : List (S58)) (a0_8 : Int) (a0_9 : Int) (a0_10 : Bool) (a0_11 : Int) (a0_12 : Int) (a0_13 : Bool) (a0_14 : Int) (A0_15 : Option Addr) (c0_15 : Nat) (l0_15 : List (Int)) (a0_16 : Int) (a0_17 : Int) (A0_18 : Option Addr) (c0_18 : Nat) (l0_18 : List (S52)) (a1_0 : Int) (a1_1 : Int) (A1_2 : Option Addr) (c1_2 : Nat) (l1_2 : List (S56)) (a1_3 : Int) (a1_4 : Int) (a1_5 : Int) (a1_6 : Int) (A1_7 : Option Addr) (c1_7 : Nat) (l1_7 : List (S58)) (a1_8 : Int) (a1_9 : Int) (a1_10 : Bool) (a1_11 : Int) (a1_12 : Int) (a1_13 : Bool) (a1_14 : Int) (A1_15 : Option Addr) (c1_15 : Nat) (l1_15 : List (Int)) (a1_16 : Int) (a1_17 : Int) (A1_18 : Option Addr) (c1_18 : Nat) (l1_18 : List (S52)) (r : Bool) (w : World) (hr0_2 : Kd.C k56 w A0_2 l0_2.length l0_2) (hc0_2 : l0_2.length ≤ c0_2) (hr0_7 : Kd.C k58 w A0_7 l0_7.length l0_7) (hc0_7 : l0_7.length ≤ c0_7) (hr0_15 : Kd.C (Kd.int .i64) w A0_15 l0_15.length l0_15) (hc0_15 : l0_15.length ≤ c0_15) (hr0_18 : Kd.C k52 w A0_18 l0_18.length l0_18) (hc0_18 : l0_18.length ≤ c0_18) (hr1_2 : Kd.C k56 w A1_2 l1_2.length l1_2) (hc1_2 : l1_2.length ≤ c1_2) (hr1_7 : Kd.C k58 w A1_7 l1_7.length l1_7) (hc1_7 : l1_7.length ≤ c1_7) (hr1_15 : Kd.C (Kd.int .i64) w A1_15 l1_15.length l1_15) (hc1_15 : l1_15.length ≤ c1_15) (hr1_18 : Kd.C k52 w A1_18 l1_18.length l1_18) (hc1_18 : l1_18.length ≤ c1_18) (h : governorref18_Same.f a0_0 a0_1 l0_2 a0_3 a0_4 a0_5 a0_6 l0_7 a0_8 a0_9 a0_10 a0_11 a0_12 a0_13 a0_14 l0_15 a0_16 a0_17 l0_18 a1_0 a1_1 l1_2 a1_3 a1_4 a1_5 a1_6 l1_7 a1_8 a1_9 a1_10 a1_11 a1_12 a1_13 a1_14 l1_15 a1_16 a1_17 l1_18 = some r) :
    Calls Try.prog 13 #[.agg #[.int .i64 a0_0, .int .i64 a0_1, .slice A0_2 l0_2.length c0_2, .int .i64 a0_3, .int .i64 a0_4, .int .i64 a0_5, .int .i64 a0_6, .slice A0_7 l0_7.length c0_7, .int .i64 a0_8, .int .i64 a0_9, .bool a0_10, .int .i64 a0_11, .int .i64 a0_12, .bool a0_13, .int .i64 a0_14, .slice A0_15 l0_15.length c0_15, .int .i64 a0_16, .int .i64 a0_17, .slice A0_18 l0_18.length c0_18], .agg #[.int .i64 a1_0, .int .i64 a1_1, .slice A1_2 l1_2.length c1_2, .int .i64 a1_3, .int .i64 a1_4, .int .i64 a1_5, .int .i64 a1_6, .slice A1_7 l1_7.length c1_7, .int .i64 a1_8, .int .i64 a1_9, .bool a1_10, .int .i64 a1_11, .int .i64 a1_12, .bool a1_13, .int .i64 a1_14, .slice A1_15 l1_15.length c1_15, .int .i64 a1_16, .int .i64 a1_17, .slice A1_18 l1_18.length c1_18]] w fun e w' => e = .returned (.bool r) ∧ Below w.heap.size w w' := by
  have hu37 := Try.underlying37
  have hu27 := Try.underlying27
  have hu29 := Try.underlying29
  have hu31 := Try.underlying31
  have hu34 := Try.underlying34
  unfold governorref18_Same.f at h
  by_cases hN : l0_2.length < 140737488355328 ∧ l0_7.length < 140737488355328 ∧ l0_15.length < 140737488355328 ∧ l0_18.length < 140737488355328
  rotate_left
  · rw [if_neg hN] at h; cases h
  rw [if_pos hN] at h
  have hr := Option.some.inj h
  unfold governorref18_Same.b at hr
  have FP : Aside0 (governorref09_SamePolicy.f a0_0 a0_1 l0_2 a0_3 a0_4 a0_5 a0_6 l0_7 a1_0 a1_1 l1_2 a1_3 a1_4 a1_5 a1_6 l1_7 = some (governorref09_SamePolicy.b a0_0 a0_1 l0_2 a0_3 a0_4 a0_5 a0_6 l0_7 a1_0 a1_1 l1_2 a1_3 a1_4 a1_5 a1_6 l1_7)) := ⟨if_pos ⟨hN.1, hN.2.1⟩⟩
  have FL : Aside0 (governorref16_Same.f a0_14 l0_15 a0_16 a0_17 a1_14 l1_15 a1_16 a1_17 = some (governorref16_Same.b a0_14 l0_15 a0_16 a0_17 a1_14 l1_15 a1_16 a1_17)) := ⟨if_pos hN.2.2.1⟩
  have FM : Aside0 (governorref17_Same.f l0_18 l1_18 = some (governorref17_Same.b l0_18 l1_18)) := ⟨if_pos hN.2.2.2⟩
  clear h hN
  generalize governorref09_SamePolicy.b a0_0 a0_1 l0_2 a0_3 a0_4 a0_5 a0_6 l0_7 a1_0 a1_1 l1_2 a1_3 a1_4 a1_5 a1_6 l1_7 = b1 at hr FP
  generalize governorref16_Same.b a0_14 l0_15 a0_16 a0_17 a1_14 l1_15 a1_16 a1_17 = b4 at hr FL
  generalize governorref17_Same.b l0_18 l1_18 = b5 at hr FM
  have HR0_2 := Aside0.mk hr0_2
  have HC0_2 := Aside0.mk hc0_2
  clear hr0_2 hc0_2
  have HR0_7 := Aside0.mk hr0_7
  have HC0_7 := Aside0.mk hc0_7
  clear hr0_7 hc0_7
  have HR0_15 := Aside0.mk hr0_15
  have HC0_15 := Aside0.mk hc0_15
  clear hr0_15 hc0_15
  have HR0_18 := Aside0.mk hr0_18
  have HC0_18 := Aside0.mk hc0_18
  clear hr0_18 hc0_18
  have HR1_2 := Aside0.mk hr1_2
  have HC1_2 := Aside0.mk hc1_2
  clear hr1_2 hc1_2
  have HR1_7 := Aside0.mk hr1_7
  have HC1_7 := Aside0.mk hc1_7
  clear hr1_7 hc1_7
  have HR1_15 := Aside0.mk hr1_15
  have HC1_15 := Aside0.mk hc1_15
  clear hr1_15 hc1_15
  have HR1_18 := Aside0.mk hr1_18
  have HC1_18 := Aside0.mk hc1_18
  clear hr1_18 hc1_18
  go_enter Try.func13, Try.ntmps13
  go_upto_region 1 with (fail)
  have ht := two_mk w #[.int .i64 a0_0, .int .i64 a0_1, .slice A0_2 l0_2.length c0_2, .int .i64 a0_3, .int .i64 a0_4, .int .i64 a0_5, .int .i64 a0_6, .slice A0_7 l0_7.length c0_7, .int .i64 a0_8, .int .i64 a0_9, .bool a0_10, .int .i64 a0_11, .int .i64 a0_12, .bool a0_13, .int .i64 a0_14, .slice A0_15 l0_15.length c0_15, .int .i64 a0_16, .int .i64 a0_17, .slice A0_18 l0_18.length c0_18] #[.int .i64 a1_0, .int .i64 a1_1, .slice A1_2 l1_2.length c1_2, .int .i64 a1_3, .int .i64 a1_4, .int .i64 a1_5, .int .i64 a1_6, .slice A1_7 l1_7.length c1_7, .int .i64 a1_8, .int .i64 a1_9, .bool a1_10, .int .i64 a1_11, .int .i64 a1_12, .bool a1_13, .int .i64 a1_14, .slice A1_15 l1_15.length c1_15, .int .i64 a1_16, .int .i64 a1_17, .slice A1_18 l1_18.length c1_18] 37
  generalize ((w.alloc _).alloc _) = W at ht ⊢
  have xa := blk_cell ht.hA
  have xb := blk_cell ht.hB
  have HT := Aside0.mk ht
  clear ht
  rcases (chN b1 (chN (a0_8 == a1_8 && (a0_9 == a1_9 && (a0_10 == a1_10))) (chN (a0_11 == a1_11 && (a0_12 == a1_12 && (a0_13 == a1_13))) (chN b4 (Bool.eq_false_or_eq_true b5))))) with h1 | ⟨h1, h2 | ⟨h2, h3 | ⟨h3, h4 | ⟨h4, h5 | h5⟩⟩⟩⟩
  all_goals
    simp only [*, Bool.false_and, Bool.true_and] at hr FP FL FM
    replace hr := Aside0.mk hr
    go_wp2_with (first
      | (go_at_call 19; refine (governorref09_SamePolicy.calls _ _ _ _ _ _ _ _ _ _ _ _ _ _ _ _ _ _ _ _ _ _ _ _ _ _ (Kd.C_below HR0_2.out HT.out.hW) HC0_2.out (Kd.C_below HR0_7.out HT.out.hW) HC0_7.out (Kd.C_below HR1_2.out HT.out.hW) HC1_2.out (Kd.C_below HR1_7.out HT.out.hW) HC1_7.out FP.out).mono ?_; rintro e_ w1 ⟨rfl, hb⟩; replace HT := Aside0.mk (HT.out.below (hb)); clear hb xa xb; have xa := blk_cell HT.out.hA; have xb := blk_cell HT.out.hB)
      | (go_at_call 26; refine (governorref16_Same.calls _ _ _ _ _ _ _ _ _ _ _ _ _ _ (Kd.C_below HR0_15.out HT.out.hW) HC0_15.out (Kd.C_below HR1_15.out HT.out.hW) HC1_15.out FL.out).mono ?_; rintro e_ w1 ⟨rfl, hb⟩; replace HT := Aside0.mk (HT.out.below (hb)); clear hb xa xb; have xa := blk_cell HT.out.hA; have xb := blk_cell HT.out.hB)
      | (go_at_call 27; refine (governorref17_Same.calls _ _ _ _ _ _ _ _ (Kd.C_below HR0_18.out HT.out.hW) HC0_18.out (Kd.C_below HR1_18.out HT.out.hW) HC1_18.out FM.out).mono ?_; rintro e_ w1 ⟨rfl, hb⟩; replace HT := Aside0.mk (HT.out.below (hb.below)); clear hb xa xb; have xa := blk_cell HT.out.hA; have xb := blk_cell HT.out.hB))
    go_ret
    exact ⟨by rw [← hr.out]; rfl, HT.out.hW⟩

end Go.Proofs.Ytefgoffaidjiaaa.PAll
namespace Go.Proofs.Ytefgoffaidjiaaa.PAll
open Go.RowKit Go.Proofs.YtefgoffaidjiaaaW.PrintWords Go.Proofs.YtefgoffaidjiaaaW.PrintLast Go.Proofs.YtefgoffaidjiaaaW.PrintMore
attribute [local go_sem] max2_int min2_int max_two min_two max_three min_three max_four min_four   -- for this text's walks alone
set_option linter.unusedVariables false
set_option linter.unusedSimpArgs false

/-! ### governorlaw09_Plain: function 22 -/
def governorlaw09_Plain.f  : Option (Int × Int × Int × Int × Int × Int × Int × Int × Int × Int × Int × Int) := some (1, 20, 4, 3, 100, 1, 50, 4, 2, 1, 3, 1)
set_option maxHeartbeats 8000000 in
set_option maxRecDepth 100000 in
theorem governorlaw09_Plain.calls  (r1 : Int) (r2 : Int) (r3 : Int) (r4 : Int) (r5 : Int) (r6 : Int) (r7 : Int) (r8 : Int) (r9 : Int) (r10 : Int) (r11 : Int) (r12 : Int) (w : World) (h : governorlaw09_Plain.f  = some (r1, r2, r3, r4, r5, r6, r7, r8, r9, r10, r11, r12)) :
    Calls Try.prog 22 #[] w fun e w' => e = .returned (.agg #[.int .i64 r1, .int .i64 r2, .int .i64 r3, .int .i64 r4, .int .i64 r5, .int .i64 r6, .int .i64 r7, .int .i64 r8, .int .i64 r9, .int .i64 r10, .int .i64 r11, .int .i64 r12]) ∧ Below w.heap.size w w' := by
  have hu23 := Try.underlying23
  have HB := Aside0.mk (Below.refl w.heap.size w)
  have H : (some (1, 20, 4, 3, 100, 1, 50, 4, 2, 1, 3, 1)) = some (r1, r2, r3, r4, r5, r6, r7, r8, r9, r10, r11, r12) := h
  clear h
  simp only [Option.some.injEq, Prod.mk.injEq] at H
  obtain ⟨rfl, rfl, rfl, rfl, rfl, rfl, rfl, rfl, rfl, rfl, rfl, rfl⟩ := H
  go_enter Try.func22, Try.ntmps22
  go_wp2_with (first | ((with_reducible refine gate_dst (N := 0) rfl ?_); refine box_event ?hg (N := 0) ?hd (cs := #[.int .i64 0, .int .i64 0, .int .i64 0, .int .i64 0, .int .i64 0, .int .i64 0, .int .i64 0, .int .i64 0, .int .i64 0, .int .i64 0, .int .i64 0, .int .i64 0]) (t := 23) ?hr ?_; (case hd => rfl); (case hg => rfl); (case hr => first | (go_simp; done) | (go_simp; rfl)); intro gb166 hg w1 hbox hb; have n0_ := Aside0.mk (below_step (by repeat (first | (with_reducible first | exact HB.out | apply below_alloc | apply pw_below_drewN | apply below_drew1) | exact HB.out)) hb); have n1_ := Aside0.mk (hbox); have n2_ := Aside0.mk ((by rw [hg]; exact (below_size (by repeat (first | (with_reducible first | exact HB.out | apply below_alloc | apply pw_below_drewN | apply below_drew1) | exact HB.out))) : w.heap.size ≤ gb166)); have n3_ := Aside0.mk ((by rw [hg]; exact (below_size (by repeat (first | (with_reducible first | exact HB.out | apply below_alloc | apply pw_below_drewN | apply below_drew1) | exact HB.out))) : w.heap.size ≤ gb166)); clear HB; have HB := n0_; have BK166 := n1_; have GW166 := n2_; have GE166 := n3_; clear n0_ n1_ n2_ n3_; clear hb hbox hg; have hcz2_0 : w1.cell? ⟨gb166, 0, none⟩ = some (.int .i64 0) := (blk_cell BK166.out 0).trans rfl; have hcz2_1 : w1.cell? ⟨gb166, 1, none⟩ = some (.int .i64 0) := (blk_cell BK166.out 1).trans rfl; have hcz2_2 : w1.cell? ⟨gb166, 2, none⟩ = some (.int .i64 0) := (blk_cell BK166.out 2).trans rfl; have hcz2_3 : w1.cell? ⟨gb166, 3, none⟩ = some (.int .i64 0) := (blk_cell BK166.out 3).trans rfl; have hcz2_4 : w1.cell? ⟨gb166, 4, none⟩ = some (.int .i64 0) := (blk_cell BK166.out 4).trans rfl; have hcz2_5 : w1.cell? ⟨gb166, 5, none⟩ = some (.int .i64 0) := (blk_cell BK166.out 5).trans rfl; have hcz2_6 : w1.cell? ⟨gb166, 6, none⟩ = some (.int .i64 0) := (blk_cell BK166.out 6).trans rfl; have hcz2_7 : w1.cell? ⟨gb166, 7, none⟩ = some (.int .i64 0) := (blk_cell BK166.out 7).trans rfl; have hcz2_8 : w1.cell? ⟨gb166, 8, none⟩ = some (.int .i64 0) := (blk_cell BK166.out 8).trans rfl; have hcz2_9 : w1.cell? ⟨gb166, 9, none⟩ = some (.int .i64 0) := (blk_cell BK166.out 9).trans rfl; have hcz2_10 : w1.cell? ⟨gb166, 10, none⟩ = some (.int .i64 0) := (blk_cell BK166.out 10).trans rfl; have hcz2_11 : w1.cell? ⟨gb166, 11, none⟩ = some (.int .i64 0) := (blk_cell BK166.out 11).trans rfl; have hfz2_0 := blk_frozen BK166.out 0; have hfz2_1 := blk_frozen BK166.out 1; have hfz2_2 := blk_frozen BK166.out 2; have hfz2_3 := blk_frozen BK166.out 3; have hfz2_4 := blk_frozen BK166.out 4; have hfz2_5 := blk_frozen BK166.out 5; have hfz2_6 := blk_frozen BK166.out 6; have hfz2_7 := blk_frozen BK166.out 7; have hfz2_8 := blk_frozen BK166.out 8; have hfz2_9 := blk_frozen BK166.out 9; have hfz2_10 := blk_frozen BK166.out 10; have hfz2_11 := blk_frozen BK166.out 11))
  refine bodyPost_ret (results_cell_row rfl _ _ gb166 23 #[.int .i64 1, .int .i64 20, .int .i64 4, .int .i64 3, .int .i64 100, .int .i64 1, .int .i64 50, .int .i64 4, .int .i64 2, .int .i64 1, .int .i64 3, .int .i64 1] (0, 0) _ rfl (by (with_reducible repeat (first | refine blk_drewN ?_ _ | refine blk_drew ?_ | refine blk_alloc ?_ _)); refine blk_put (cs := #[.int .i64 1, .int .i64 20, .int .i64 4, .int .i64 3, .int .i64 100, .int .i64 1, .int .i64 50, .int .i64 4, .int .i64 2, .int .i64 1, .int .i64 3, .int .i64 0]) ?_ 11 _ rfl; (with_reducible repeat (first | refine blk_drewN ?_ _ | refine blk_drew ?_ | refine blk_alloc ?_ _)); refine blk_put (cs := #[.int .i64 1, .int .i64 20, .int .i64 4, .int .i64 3, .int .i64 100, .int .i64 1, .int .i64 50, .int .i64 4, .int .i64 2, .int .i64 1, .int .i64 0, .int .i64 0]) ?_ 10 _ rfl; (with_reducible repeat (first | refine blk_drewN ?_ _ | refine blk_drew ?_ | refine blk_alloc ?_ _)); refine blk_put (cs := #[.int .i64 1, .int .i64 20, .int .i64 4, .int .i64 3, .int .i64 100, .int .i64 1, .int .i64 50, .int .i64 4, .int .i64 2, .int .i64 0, .int .i64 0, .int .i64 0]) ?_ 9 _ rfl; (with_reducible repeat (first | refine blk_drewN ?_ _ | refine blk_drew ?_ | refine blk_alloc ?_ _)); refine blk_put (cs := #[.int .i64 1, .int .i64 20, .int .i64 4, .int .i64 3, .int .i64 100, .int .i64 1, .int .i64 50, .int .i64 4, .int .i64 0, .int .i64 0, .int .i64 0, .int .i64 0]) ?_ 8 _ rfl; (with_reducible repeat (first | refine blk_drewN ?_ _ | refine blk_drew ?_ | refine blk_alloc ?_ _)); refine blk_put (cs := #[.int .i64 1, .int .i64 20, .int .i64 4, .int .i64 3, .int .i64 100, .int .i64 1, .int .i64 50, .int .i64 0, .int .i64 0, .int .i64 0, .int .i64 0, .int .i64 0]) ?_ 7 _ rfl; (with_reducible repeat (first | refine blk_drewN ?_ _ | refine blk_drew ?_ | refine blk_alloc ?_ _)); refine blk_put (cs := #[.int .i64 1, .int .i64 20, .int .i64 4, .int .i64 3, .int .i64 100, .int .i64 1, .int .i64 0, .int .i64 0, .int .i64 0, .int .i64 0, .int .i64 0, .int .i64 0]) ?_ 6 _ rfl; (with_reducible repeat (first | refine blk_drewN ?_ _ | refine blk_drew ?_ | refine blk_alloc ?_ _)); refine blk_put (cs := #[.int .i64 1, .int .i64 20, .int .i64 4, .int .i64 3, .int .i64 100, .int .i64 0, .int .i64 0, .int .i64 0, .int .i64 0, .int .i64 0, .int .i64 0, .int .i64 0]) ?_ 5 _ rfl; (with_reducible repeat (first | refine blk_drewN ?_ _ | refine blk_drew ?_ | refine blk_alloc ?_ _)); refine blk_put (cs := #[.int .i64 1, .int .i64 20, .int .i64 4, .int .i64 3, .int .i64 0, .int .i64 0, .int .i64 0, .int .i64 0, .int .i64 0, .int .i64 0, .int .i64 0, .int .i64 0]) ?_ 4 _ rfl; (with_reducible repeat (first | refine blk_drewN ?_ _ | refine blk_drew ?_ | refine blk_alloc ?_ _)); refine blk_put (cs := #[.int .i64 1, .int .i64 20, .int .i64 4, .int .i64 0, .int .i64 0, .int .i64 0, .int .i64 0, .int .i64 0, .int .i64 0, .int .i64 0, .int .i64 0, .int .i64 0]) ?_ 3 _ rfl; (with_reducible repeat (first | refine blk_drewN ?_ _ | refine blk_drew ?_ | refine blk_alloc ?_ _)); refine blk_put (cs := #[.int .i64 1, .int .i64 20, .int .i64 0, .int .i64 0, .int .i64 0, .int .i64 0, .int .i64 0, .int .i64 0, .int .i64 0, .int .i64 0, .int .i64 0, .int .i64 0]) ?_ 2 _ rfl; (with_reducible repeat (first | refine blk_drewN ?_ _ | refine blk_drew ?_ | refine blk_alloc ?_ _)); refine blk_put (cs := #[.int .i64 1, .int .i64 0, .int .i64 0, .int .i64 0, .int .i64 0, .int .i64 0, .int .i64 0, .int .i64 0, .int .i64 0, .int .i64 0, .int .i64 0, .int .i64 0]) ?_ 1 _ rfl; (with_reducible repeat (first | refine blk_drewN ?_ _ | refine blk_drew ?_ | refine blk_alloc ?_ _)); refine blk_put (cs := #[.int .i64 0, .int .i64 0, .int .i64 0, .int .i64 0, .int .i64 0, .int .i64 0, .int .i64 0, .int .i64 0, .int .i64 0, .int .i64 0, .int .i64 0, .int .i64 0]) ?_ 0 _ rfl; (with_reducible repeat (first | refine blk_drewN ?_ _ | refine blk_drew ?_ | refine blk_alloc ?_ _)); exact BK166.out) Try.underlying23 rfl (by kernel_rfl)) rfl ?_
  exact ⟨by first | rfl | (simp [errW_none, errW_some] <;> rfl) | (simp [*, errW_none, errW_some] <;> rfl), by repeat (first | (with_reducible first | exact HB.out | apply below_alloc | apply pw_below_drewN | apply below_drew1 | refine below_set ?_ GE166.out) | exact HB.out)⟩

end Go.Proofs.Ytefgoffaidjiaaa.PAll
namespace Go.Proofs.Ytefgoffaidjiaaa.PAll
open Go.RowKit Go.Proofs.YtefgoffaidjiaaaW.PrintWords Go.Proofs.YtefgoffaidjiaaaW.PrintLast Go.Proofs.YtefgoffaidjiaaaW.PrintMore
attribute [local go_sem] max2_int min2_int max_two min_two max_three min_three max_four min_four   -- for this text's walks alone
set_option linter.unusedVariables false
set_option linter.unusedSimpArgs false

/-! ### governorref09_Zero: function 20 -/
def governorref09_Zero.f (a0_0 : Int) (a0_1 : Int) (l0_2 : List (S56)) (a0_3 : Int) (a0_4 : Int) (a0_5 : Int) (a0_6 : Int) (l0_7 : List (S58)) : Option (Bool) := if a0_0 = 0 then ((governorref09_none.f a0_0 a0_1 l0_2 a0_3 a0_4 a0_5 a0_6 l0_7 true true true true).bind fun t168 => (some t168)) else (some false)
set_option maxHeartbeats 8000000 in
set_option maxRecDepth 100000 in
theorem governorref09_Zero.calls (a0_0 : Int) (a0_1 : Int) (A0_2 : Option Addr) (c0_2 : Nat) (l0_2 : List (S56)) (a0_3 : Int) (a0_4 : Int) (a0_5 : Int) (a0_6 : Int) (A0_7 : Option Addr) (c0_7 : Nat) (l0_7 : List (S58)) (r : Bool) (w : World) (hr0_2 : Kd.C k56 w A0_2 l0_2.length l0_2) (hc0_2 : l0_2.length ≤ c0_2) (hr0_7 : Kd.C k58 w A0_7 l0_7.length l0_7) (hc0_7 : l0_7.length ≤ c0_7) (h : governorref09_Zero.f a0_0 a0_1 l0_2 a0_3 a0_4 a0_5 a0_6 l0_7 = some r) :
    Calls Try.prog 20 #[.agg #[.int .i64 a0_0, .int .i64 a0_1, .slice A0_2 l0_2.length c0_2, .int .i64 a0_3, .int .i64 a0_4, .int .i64 a0_5, .int .i64 a0_6, .slice A0_7 l0_7.length c0_7]] w fun e w' => e = .returned (.bool r) ∧ Below w.heap.size w w' := by
  have hu27 := Try.underlying27
  have HR0_2 := Aside0.mk hr0_2
  have HC0_2 := Aside0.mk hc0_2
  clear hr0_2 hc0_2
  have HR0_7 := Aside0.mk hr0_7
  have HC0_7 := Aside0.mk hc0_7
  clear hr0_7 hc0_7
  have HB := Aside0.mk (Below.refl w.heap.size w)
  have H : (if a0_0 = 0 then ((governorref09_none.f a0_0 a0_1 l0_2 a0_3 a0_4 a0_5 a0_6 l0_7 true true true true).bind fun t168 => (some t168)) else (some false)) = some r := h
  clear h
  by_cases c2 : a0_0 = 0
  · rw [if_pos c2] at H
    have c2b0 : (a0_0 == 0) = true := beq_iff_eq.mpr c2
    have c2b1 : (a0_0 != 0) = false := bne_eq_false_iff_eq.mpr c2
    clear c2
    replace H := Option.bind_eq_some_iff.mp H
    obtain ⟨t168, A30, H⟩ := H
    replace H : (some t168) = some r := H
    have A3 := Aside0.mk A30
    clear A30
    obtain rfl := Option.some.inj H
    go_enter Try.func20, Try.ntmps20
    go_wp2_with (first | ((with_reducible refine gate_dst (N := 1) rfl ?_); refine box_event ?hg (N := 1) ?hd (cs := #[.int .i64 a0_0, .int .i64 a0_1, .slice A0_2 l0_2.length c0_2, .int .i64 a0_3, .int .i64 a0_4, .int .i64 a0_5, .int .i64 a0_6, .slice A0_7 l0_7.length c0_7]) (t := 27) ?hr ?_; (case hd => rfl); (case hg => rfl); (case hr => first | (go_simp; done) | (go_simp; rfl)); intro gb167 hg w4 hbox hb; have n0_ := Aside0.mk (below_step (by repeat (first | (with_reducible first | exact HB.out | apply below_alloc | apply pw_below_drewN | apply below_drew1) | exact HB.out)) hb); have n1_ := Aside0.mk (hbox); have n2_ := Aside0.mk ((by rw [hg]; exact (below_size (by repeat (first | (with_reducible first | exact HB.out | apply below_alloc | apply pw_below_drewN | apply below_drew1) | exact HB.out))) : w.heap.size ≤ gb167)); have n3_ := Aside0.mk ((by rw [hg]; exact (below_size (by repeat (first | (with_reducible first | exact HB.out | apply below_alloc | apply pw_below_drewN | apply below_drew1) | exact HB.out))) : w.heap.size ≤ gb167)); clear HB; have HB := n0_; have BK167 := n1_; have GW167 := n2_; have GE167 := n3_; clear n0_ n1_ n2_ n3_; clear hb hbox hg; have hcz5_0 : w4.cell? ⟨gb167, 0, none⟩ = some (.int .i64 a0_0) := (blk_cell BK167.out 0).trans rfl; have hcz5_1 : w4.cell? ⟨gb167, 1, none⟩ = some (.int .i64 a0_1) := (blk_cell BK167.out 1).trans rfl; have hcz5_2 : w4.cell? ⟨gb167, 2, none⟩ = some (.slice A0_2 l0_2.length c0_2) := (blk_cell BK167.out 2).trans rfl; have hcz5_3 : w4.cell? ⟨gb167, 3, none⟩ = some (.int .i64 a0_3) := (blk_cell BK167.out 3).trans rfl; have hcz5_4 : w4.cell? ⟨gb167, 4, none⟩ = some (.int .i64 a0_4) := (blk_cell BK167.out 4).trans rfl; have hcz5_5 : w4.cell? ⟨gb167, 5, none⟩ = some (.int .i64 a0_5) := (blk_cell BK167.out 5).trans rfl; have hcz5_6 : w4.cell? ⟨gb167, 6, none⟩ = some (.int .i64 a0_6) := (blk_cell BK167.out 6).trans rfl; have hcz5_7 : w4.cell? ⟨gb167, 7, none⟩ = some (.slice A0_7 l0_7.length c0_7) := (blk_cell BK167.out 7).trans rfl; have hfz5_0 := blk_frozen BK167.out 0; have hfz5_1 := blk_frozen BK167.out 1; have hfz5_2 := blk_frozen BK167.out 2; have hfz5_3 := blk_frozen BK167.out 3; have hfz5_4 := blk_frozen BK167.out 4; have hfz5_5 := blk_frozen BK167.out 5; have hfz5_6 := blk_frozen BK167.out 6; have hfz5_7 := blk_frozen BK167.out 7) | (go_at_call 43; (with_reducible refine (governorref09_none.calls a0_0 a0_1 _ _ l0_2 a0_3 a0_4 a0_5 a0_6 _ _ l0_7 true true true true t168 _ ?side1 ?side2 ?side3 ?side4 A3.out).mono ?_); (case side1 => repeat (first | exact (Kd.C_below HR0_2.out HB.out) | (with_reducible refine Kd.C_alloc ?_ _) | (with_reducible refine Kd.C_drewN ?_ _) | (with_reducible refine Kd.C_drew ?_))); (case side2 => exact HC0_2.out); (case side3 => repeat (first | exact (Kd.C_below HR0_7.out HB.out) | (with_reducible refine Kd.C_alloc ?_ _) | (with_reducible refine Kd.C_drewN ?_ _) | (with_reducible refine Kd.C_drew ?_))); (case side4 => exact HC0_7.out); rintro e w6 ⟨rfl, hb⟩; have n0_ := Aside0.mk (blk_below (g := gb167) (o := .cells #[.int .i64 a0_0, .int .i64 a0_1, .slice A0_2 l0_2.length c0_2, .int .i64 a0_3, .int .i64 a0_4, .int .i64 a0_5, .int .i64 a0_6, .slice A0_7 l0_7.length c0_7] 27 (0, 0)) (by (with_reducible repeat (first | refine blk_drewN ?_ _ | refine blk_drew ?_ | refine blk_alloc ?_ _)); exact BK167.out) hb); have n1_ := Aside0.mk (below_step (by repeat (first | (with_reducible first | exact HB.out | apply below_alloc | apply pw_below_drewN | apply below_drew1 | refine below_set ?_ GE167.out) | exact HB.out)) hb); clear BK167; clear HB; have BK167 := n0_; have HB := n1_; clear n0_ n1_; (try clear hb); (try clear hb2); (try clear hk); (try clear hi)))
    go_ret
    exact ⟨by first | rfl | (simp [errW_none, errW_some] <;> rfl) | (simp [*, errW_none, errW_some] <;> rfl), by repeat (first | (with_reducible first | exact HB.out | apply below_alloc | apply pw_below_drewN | apply below_drew1 | refine below_set ?_ GE167.out) | exact HB.out)⟩
  · rw [if_neg c2] at H
    have c2b0 : (a0_0 == 0) = false := beq_eq_false_iff_ne.mpr c2
    have c2b1 : (a0_0 != 0) = true := bne_iff_ne.mpr c2
    obtain rfl := Option.some.inj H
    go_enter Try.func20, Try.ntmps20
    go_wp2_with (first | ((with_reducible refine gate_dst (N := 1) rfl ?_); refine box_event ?hg (N := 1) ?hd (cs := #[.int .i64 a0_0, .int .i64 a0_1, .slice A0_2 l0_2.length c0_2, .int .i64 a0_3, .int .i64 a0_4, .int .i64 a0_5, .int .i64 a0_6, .slice A0_7 l0_7.length c0_7]) (t := 27) ?hr ?_; (case hd => rfl); (case hg => rfl); (case hr => first | (go_simp; done) | (go_simp; rfl)); intro gb167 hg w7 hbox hb; have n0_ := Aside0.mk (below_step (by repeat (first | (with_reducible first | exact HB.out | apply below_alloc | apply pw_below_drewN | apply below_drew1) | exact HB.out)) hb); have n1_ := Aside0.mk (hbox); have n2_ := Aside0.mk ((by rw [hg]; exact (below_size (by repeat (first | (with_reducible first | exact HB.out | apply below_alloc | apply pw_below_drewN | apply below_drew1) | exact HB.out))) : w.heap.size ≤ gb167)); have n3_ := Aside0.mk ((by rw [hg]; exact (below_size (by repeat (first | (with_reducible first | exact HB.out | apply below_alloc | apply pw_below_drewN | apply below_drew1) | exact HB.out))) : w.heap.size ≤ gb167)); clear HB; have HB := n0_; have BK167 := n1_; have GW167 := n2_; have GE167 := n3_; clear n0_ n1_ n2_ n3_; clear hb hbox hg; have hcz8_0 : w7.cell? ⟨gb167, 0, none⟩ = some (.int .i64 a0_0) := (blk_cell BK167.out 0).trans rfl; have hcz8_1 : w7.cell? ⟨gb167, 1, none⟩ = some (.int .i64 a0_1) := (blk_cell BK167.out 1).trans rfl; have hcz8_2 : w7.cell? ⟨gb167, 2, none⟩ = some (.slice A0_2 l0_2.length c0_2) := (blk_cell BK167.out 2).trans rfl; have hcz8_3 : w7.cell? ⟨gb167, 3, none⟩ = some (.int .i64 a0_3) := (blk_cell BK167.out 3).trans rfl; have hcz8_4 : w7.cell? ⟨gb167, 4, none⟩ = some (.int .i64 a0_4) := (blk_cell BK167.out 4).trans rfl; have hcz8_5 : w7.cell? ⟨gb167, 5, none⟩ = some (.int .i64 a0_5) := (blk_cell BK167.out 5).trans rfl; have hcz8_6 : w7.cell? ⟨gb167, 6, none⟩ = some (.int .i64 a0_6) := (blk_cell BK167.out 6).trans rfl; have hcz8_7 : w7.cell? ⟨gb167, 7, none⟩ = some (.slice A0_7 l0_7.length c0_7) := (blk_cell BK167.out 7).trans rfl; have hfz8_0 := blk_frozen BK167.out 0; have hfz8_1 := blk_frozen BK167.out 1; have hfz8_2 := blk_frozen BK167.out 2; have hfz8_3 := blk_frozen BK167.out 3; have hfz8_4 := blk_frozen BK167.out 4; have hfz8_5 := blk_frozen BK167.out 5; have hfz8_6 := blk_frozen BK167.out 6; have hfz8_7 := blk_frozen BK167.out 7))
    go_ret
    exact ⟨by first | rfl | (simp [errW_none, errW_some] <;> rfl) | (simp [*, errW_none, errW_some] <;> rfl), by repeat (first | (with_reducible first | exact HB.out | apply below_alloc | apply pw_below_drewN | apply below_drew1 | refine below_set ?_ GE167.out) | exact HB.out)⟩

end Go.Proofs.Ytefgoffaidjiaaa.PAll
namespace Go.Proofs.Ytefgoffaidjiaaa.PAll
open Go.RowKit Go.Proofs.YtefgoffaidjiaaaW.PrintWords Go.Proofs.YtefgoffaidjiaaaW.PrintLast Go.Proofs.YtefgoffaidjiaaaW.PrintMore
attribute [local go_sem] max2_int min2_int max_two min_two max_three min_three max_four min_four   -- for this text's walks alone
set_option linter.unusedVariables false
set_option linter.unusedSimpArgs false

/-! ### governorref16_Right: function 25 -/
/-- What a loop has still to look at. -/
def allAt {α : Type} (p : α → Bool) (l : List α) (i : Int) : Bool := (l.drop i.toNat).all p
theorem allAt_lt {α : Type} (p : α → Bool) (d : α) (l : List α) (i : Int) (h0 : 0 ≤ i) (h : i < (l.length : Int)) : allAt p l i = (p (l.getD i.toNat d) && allAt p l (i + 1)) := by
  unfold allAt
  rw [List.drop_eq_getElem_cons (show i.toNat < l.length by omega), show (i + 1).toNat = i.toNat + 1 by omega, List.all_cons, List.getD_eq_getElem?_getD, List.getElem?_eq_getElem (by omega)]; rfl
theorem allAt_end {α : Type} (p : α → Bool) (l : List α) (i : Int) (hi : i = (l.length : Int)) : allAt p l i = true := by
  unfold allAt
  rw [hi, Int.toNat_natCast, List.drop_length]; rfl
def smI (x : Int) : Bool := decide (0 ≤ x) && decide (x ≤ 1000)
def governorref16_Right.b (a0_0 : Int) (l0_1 : List (Int)) (a0_2 : Int) (a0_3 : Int) : Bool := !(decide (a0_0 < 0) || (decide (1000 < a0_0) || (decide (8 < (l0_1.length : Int)) || (decide (a0_2 < 0) || (decide (1000000000 < a0_2) || (decide (a0_3 < 0) || (decide (1000000000 < a0_3)))))))) && (allAt smI l0_1 0 && decide (allL a0_0 l0_1 ≤ 1000))
def governorref16_Right.f (a0_0 : Int) (l0_1 : List (Int)) (a0_2 : Int) (a0_3 : Int) : Option Bool := if l0_1.length < 140737488355328 then some (governorref16_Right.b a0_0 l0_1 a0_2 a0_3) else none
set_option maxHeartbeats 8000000 in
set_option maxRecDepth 100000 in
theorem governorref16_Right.calls (a0_0 : Int) (A0_1 : Option Addr) (c0_1 : Nat) (l0_1 : List (Int)) (a0_2 : Int) (a0_3 : Int) (r : Bool) (w : World) (hr0_1 : Kd.C (Kd.int .i64) w A0_1 l0_1.length l0_1) (hc0_1 : l0_1.length ≤ c0_1) (h : governorref16_Right.f a0_0 l0_1 a0_2 a0_3 = some r) :
    Calls Try.prog 25 #[.agg #[.int .i64 a0_0, .slice A0_1 l0_1.length c0_1, .int .i64 a0_2, .int .i64 a0_3]] w fun e w' => e = .returned (.bool r) ∧ Below w.heap.size w w' := by
  have hu34 := Try.underlying34
  unfold governorref16_Right.f at h
  by_cases hN : l0_1.length < 140737488355328
  rotate_left
  · rw [if_neg hN] at h; cases h
  rw [if_pos hN] at h
  have hr := Option.some.inj h
  unfold governorref16_Right.b at hr
  have FA : Aside0 (governorref16_All.f a0_0 l0_1 a0_2 a0_3 = some (allL a0_0 l0_1)) := ⟨if_pos hN⟩
  have HN1 := Aside0.mk hN
  have HR0_1 := Aside0.mk hr0_1
  have HC0_1 := Aside0.mk hc0_1
  clear h hN hr0_1 hc0_1
  go_enter Try.func25, Try.ntmps25
  go_upto_region 1 with (fail)
  have ht := one_mk w #[.int .i64 a0_0, .slice A0_1 l0_1.length c0_1, .int .i64 a0_2, .int .i64 a0_3] 34
  generalize w.alloc _ = W at ht ⊢
  have xa := blk_cell ht.hA
  have HT := Aside0.mk ht
  clear ht
  go_cut [37] (fun v wc => v = .bool (decide (a0_0 < 0) || (decide (1000 < a0_0) || (decide (8 < (l0_1.length : Int)) || (decide (a0_2 < 0) || (decide (1000000000 < a0_2) || (decide (a0_3 < 0) || (decide (1000000000 < a0_3)))))))) ∧ W = wc)
  case first =>
    rcases (ch (decide (a0_0 < 0)) (ch (decide (1000 < a0_0)) (ch (decide (8 < (l0_1.length : Int))) (ch (decide (a0_2 < 0)) (ch (decide (1000000000 < a0_2)) (ch (decide (a0_3 < 0)) (Bool.eq_false_or_eq_true (decide (1000000000 < a0_3))))))))) with h0 | ⟨h0, h1 | ⟨h1, h2 | ⟨h2, h3 | ⟨h3, h4 | ⟨h4, h5 | ⟨h5, h6 | h6⟩⟩⟩⟩⟩⟩ <;> (go_wp2; go_meet; exact ⟨by simp [*], rfl⟩)
  case rest =>
    obtain ⟨rfl, rfl⟩ := hcut
    cases hX : (decide (a0_0 < 0) || (decide (1000 < a0_0) || (decide (8 < (l0_1.length : Int)) || (decide (a0_2 < 0) || (decide (1000000000 < a0_2) || (decide (a0_3 < 0) || (decide (1000000000 < a0_3))))))))
    case true => (rw [hX] at hr; replace hr := Aside0.mk hr; go_wp2; go_ret; exact ⟨by rw [← hr.out]; rfl, HT.out.hW⟩)
    case false =>
      rw [hX] at hr
      replace hr := Aside0.mk hr
      clear hX
      go_wp2
      go_loopw [3] (fun v wr => ∃ i : Int, 0 ≤ i ∧ i ≤ (l0_1.length : Int) ∧ v = .int .i64 i ∧ Aside0 ((allAt smI l0_1 i && decide (allL a0_0 l0_1 ≤ 1000)) = r) ∧ Aside0 (One w wr #[.int .i64 a0_0, .slice A0_1 l0_1.length c0_1, .int .i64 a0_2, .int .i64 a0_3] 34)) (fun v _ => ((l0_1.length : Int) - intOf v).toNat)
      case atStart => exact ⟨0, Int.le_refl _, by omega, rfl, hr, HT⟩
      case round =>
        obtain ⟨i, h0, hi, rfl, hr, HT⟩ := hrel
        have xa := blk_cell HT.out.hA
        by_cases hlt : i < (l0_1.length : Int)
        · obtain ⟨ad0, e0, u0⟩ := Kd.at_int (Kd.C_below HR0_1.out HT.out.hW) i h0 hlt
          cases e0
          have hs := allAt_lt smI 0 l0_1 i h0 hlt
          change _ = ((decide (0 ≤ rd l0_1 i) && decide (rd l0_1 i ≤ 1000)) && _) at hs
          have hw := wr_len HN1.out h0 hlt
          rcases (ch (decide (rd l0_1 i < 0)) (Bool.eq_false_or_eq_true (decide (1000 < rd l0_1 i)))) with h1 | ⟨h1, h2 | h2⟩
          · have hq : (decide (0 ≤ rd l0_1 i) && decide (rd l0_1 i ≤ 1000)) = false := by simp only [decide_eq_true_eq, decide_eq_false_iff_not] at h1 ; simp; omega
            rw [hq, Bool.false_and] at hs
            replace hr := Aside0.mk ((congrArg (fun b => b && decide (allL a0_0 l0_1 ≤ 1000)) hs.symm).trans hr.out)
            clear hs hq hw
            go_wp2
            repeat (go_quiet (fail); try go_wp2)
            go_ret
            exact ⟨by rw [← hr.out]; rfl, by first | exact HT.out.hW | exact pw_below_drewN HT.out.hW _⟩
          · have hq : (decide (0 ≤ rd l0_1 i) && decide (rd l0_1 i ≤ 1000)) = false := by simp only [decide_eq_true_eq, decide_eq_false_iff_not] at h1 h2; simp; omega
            rw [hq, Bool.false_and] at hs
            replace hr := Aside0.mk ((congrArg (fun b => b && decide (allL a0_0 l0_1 ≤ 1000)) hs.symm).trans hr.out)
            clear hs hq hw
            go_wp2
            repeat (go_quiet (fail); try go_wp2)
            go_ret
            exact ⟨by rw [← hr.out]; rfl, by first | exact HT.out.hW | exact pw_below_drewN HT.out.hW _⟩
          · have hq : (decide (0 ≤ rd l0_1 i) && decide (rd l0_1 i ≤ 1000)) = true := by simp only [decide_eq_false_iff_not] at h1 h2; simp; omega
            rw [hq, Bool.true_and] at hs
            replace hr := Aside0.mk ((congrArg (fun b => b && decide (allL a0_0 l0_1 ≤ 1000)) hs.symm).trans hr.out)
            clear hs hq
            go_wp2
            repeat (go_quiet (fail); try go_wp2)
            go_roundw
            case measure => simp [intOf, hw]; omega
            case rel => exact ⟨i + 1, by omega, by omega, by first | rfl | simp [hw], hr, by first | exact HT | exact ⟨HT.out.drewN _⟩⟩
        · have hs := allAt_end smI l0_1 i (by omega)
          replace hr := Aside0.mk ((congrArg (fun b => b && decide (allL a0_0 l0_1 ≤ 1000)) hs.symm).trans hr.out)
          clear hs
          go_wp2_with (go_at_call 47; refine (governorref16_All.calls _ _ _ _ _ _ _ _ (Kd.C_below HR0_1.out HT.out.hW) HC0_1.out FA.out).mono ?_; rintro e_ w1 ⟨rfl, hb⟩; replace HT := Aside0.mk (HT.out.below hb); clear hb)
          go_ret
          exact ⟨by rw [← hr.out]; rfl, HT.out.hW⟩

end Go.Proofs.Ytefgoffaidjiaaa.PAll
namespace Go.Proofs.Ytefgoffaidjiaaa.PAll
open Go.RowKit Go.Proofs.YtefgoffaidjiaaaW.PrintWords Go.Proofs.YtefgoffaidjiaaaW.PrintLast Go.Proofs.YtefgoffaidjiaaaW.PrintMore
attribute [local go_sem] max2_int min2_int max_two min_two max_three min_three max_four min_four   -- for this text's walks alone
set_option linter.unusedVariables false
set_option linter.unusedSimpArgs false

/-! ### governorref18_Right: function 11 -/
def mkI (x : S52) : Bool := decide (0 ≤ x.f0) && decide (x.f0 ≤ 1000000000)
def governorref18_Right.b (p z : Bool) (a0_0 : Int) (a0_1 : Int) (l0_2 : List (S56)) (a0_3 : Int) (a0_4 : Int) (a0_5 : Int) (a0_6 : Int) (l0_7 : List (S58)) (a0_8 : Int) (a0_9 : Int) (a0_10 : Bool) (a0_11 : Int) (a0_12 : Int) (a0_13 : Bool) (a0_14 : Int) (l0_15 : List (Int)) (a0_16 : Int) (a0_17 : Int) (l0_18 : List (S52)) : Bool := !((!p && !z) || (decide (8 < (l0_15.length : Int)) || (!(governorref16_Right.b a0_14 l0_15 a0_16 a0_17) || (decide (32 < (l0_18.length : Int)))))) && (allAt mkI l0_18 0 && (decide (0 ≤ a0_11) && (decide (a0_11 ≤ 1000) && (decide (0 ≤ a0_12) && (decide (a0_12 ≤ 1099511627776))))))
def governorref18_Right.f (k : Nat) (a0_0 : Int) (a0_1 : Int) (l0_2 : List (S56)) (a0_3 : Int) (a0_4 : Int) (a0_5 : Int) (a0_6 : Int) (l0_7 : List (S58)) (a0_8 : Int) (a0_9 : Int) (a0_10 : Bool) (a0_11 : Int) (a0_12 : Int) (a0_13 : Bool) (a0_14 : Int) (l0_15 : List (Int)) (a0_16 : Int) (a0_17 : Int) (l0_18 : List (S52)) : Option Bool := if (decide (8 < (l0_2.length : Int)) || decide (8 < (l0_7.length : Int))) = true then some false else (governorref09_Policy.f k a0_0 a0_1 l0_2 a0_3 a0_4 a0_5 a0_6 l0_7).bind fun p => (governorref09_Zero.f a0_0 a0_1 l0_2 a0_3 a0_4 a0_5 a0_6 l0_7).bind fun z => some (governorref18_Right.b p z a0_0 a0_1 l0_2 a0_3 a0_4 a0_5 a0_6 l0_7 a0_8 a0_9 a0_10 a0_11 a0_12 a0_13 a0_14 l0_15 a0_16 a0_17 l0_18)
theorem governorref18_Right.mono : ∀ a0 a1 a2 a3 a4 a5 a6 a7 a8 a9 a10 a11 a12 a13 a14 a15 a16 a17 a18 k, LeO (governorref18_Right.f k a0 a1 a2 a3 a4 a5 a6 a7 a8 a9 a10 a11 a12 a13 a14 a15 a16 a17 a18) (governorref18_Right.f (k + 1) a0 a1 a2 a3 a4 a5 a6 a7 a8 a9 a10 a11 a12 a13 a14 a15 a16 a17 a18) := by
  intro a0 a1 a2 a3 a4 a5 a6 a7 a8 a9 a10 a11 a12 a13 a14 a15 a16 a17 a18 k
  unfold governorref18_Right.f
  repeat' first
      | (with_reducible exact governorref09_Policy.mono _ _ _ _ _ _ _ _ _)
      | (with_reducible exact LeO.refl _)
      | (with_reducible refine LeO.ite ?_ ?_)
      | (with_reducible refine LeO.bind ?_ (fun _ => ?_))
set_option maxHeartbeats 8000000 in
set_option maxRecDepth 100000 in
theorem governorref18_Right.calls (k : Nat) (a0_0 : Int) (a0_1 : Int) (A0_2 : Option Addr) (c0_2 : Nat) (l0_2 : List (S56)) (a0_3 : Int) (a0_4 : Int) (a0_5 : Int) (a0_6 : Int) (A0_7 : Option Addr) (c0_7 : Nat) (l0_7 : List (S58)) (a0_8 : Int) (a0_9 : Int) (a0_10 : Bool) (a0_11 : Int) (a0_12 : Int) (a0_13 : Bool) (a0_14 : Int) (A0_15 : Option Addr) (c0_15 : Nat) (l0_15 : List (Int)) (a0_16 : Int) (a0_17 : Int) (A0_18 : Option Addr) (c0_18 : Nat) (l0_18 : List (S52)) (r : Bool) (w : World) (hr0_2 : Kd.C k56 w A0_2 l0_2.length l0_2) (hc0_2 : l0_2.length ≤ c0_2) (hr0_7 : Kd.C k58 w A0_7 l0_7.length l0_7) (hc0_7 : l0_7.length ≤ c0_7) (hr0_15 : Kd.C (Kd.int .i64) w A0_15 l0_15.length l0_15) (hc0_15 : l0_15.length ≤ c0_15) (hr0_18 : Kd.C k52 w A0_18 l0_18.length l0_18) (hc0_18 : l0_18.length ≤ c0_18) (h : governorref18_Right.f k a0_0 a0_1 l0_2 a0_3 a0_4 a0_5 a0_6 l0_7 a0_8 a0_9 a0_10 a0_11 a0_12 a0_13 a0_14 l0_15 a0_16 a0_17 l0_18 = some r) :
    Calls Try.prog 11 #[.agg #[.int .i64 a0_0, .int .i64 a0_1, .slice A0_2 l0_2.length c0_2, .int .i64 a0_3, .int .i64 a0_4, .int .i64 a0_5, .int .i64 a0_6, .slice A0_7 l0_7.length c0_7, .int .i64 a0_8, .int .i64 a0_9, .bool a0_10, .int .i64 a0_11, .int .i64 a0_12, .bool a0_13, .int .i64 a0_14, .slice A0_15 l0_15.length c0_15, .int .i64 a0_16, .int .i64 a0_17, .slice A0_18 l0_18.length c0_18]] w fun e w' => e = .returned (.bool r) ∧ Below w.heap.size w w' := by
  have hu37 := Try.underlying37
  have hu27 := Try.underlying27
  have hu34 := Try.underlying34
  have hu52 := Try.underlying52
  have hu31 := Try.underlying31
  unfold governorref18_Right.f at h
  have HR0_2 := Aside0.mk hr0_2
  have HC0_2 := Aside0.mk hc0_2
  clear hr0_2 hc0_2
  have HR0_7 := Aside0.mk hr0_7
  have HC0_7 := Aside0.mk hc0_7
  clear hr0_7 hc0_7
  have HR0_15 := Aside0.mk hr0_15
  have HC0_15 := Aside0.mk hc0_15
  clear hr0_15 hc0_15
  have HR0_18 := Aside0.mk hr0_18
  have HC0_18 := Aside0.mk hc0_18
  clear hr0_18 hc0_18
  go_enter Try.func11, Try.ntmps11
  go_upto_region 1 with (fail)
  have ht := one_mk w #[.int .i64 a0_0, .int .i64 a0_1, .slice A0_2 l0_2.length c0_2, .int .i64 a0_3, .int .i64 a0_4, .int .i64 a0_5, .int .i64 a0_6, .slice A0_7 l0_7.length c0_7, .int .i64 a0_8, .int .i64 a0_9, .bool a0_10, .int .i64 a0_11, .int .i64 a0_12, .bool a0_13, .int .i64 a0_14, .slice A0_15 l0_15.length c0_15, .int .i64 a0_16, .int .i64 a0_17, .slice A0_18 l0_18.length c0_18] 37
  generalize w.alloc _ = W at ht ⊢
  have xa := blk_cell ht.hA
  have HT := Aside0.mk ht
  clear ht
  cases hL : (decide (8 < (l0_2.length : Int)) || decide (8 < (l0_7.length : Int)))
  rotate_left
  · rw [hL, if_pos rfl] at h
    cases h
    have hq : decide (8 < (l0_2.length : Int)) = true ∨ (decide (8 < (l0_2.length : Int)) = false ∧ decide (8 < (l0_7.length : Int)) = true) := by revert hL; cases decide (8 < (l0_2.length : Int)) <;> cases decide (8 < (l0_7.length : Int)) <;> simp
    clear hL
    rcases hq with h1 | ⟨h1, h2⟩
    all_goals (go_wp2; go_ret; exact ⟨rfl, HT.out.hW⟩)
  rw [hL, if_neg (by decide)] at h
  rw [Bool.or_eq_false_iff] at hL
  obtain ⟨h1, h2⟩ := hL
  obtain ⟨p, fp, h⟩ := Option.bind_eq_some_iff.1 h
  obtain ⟨z, fz, h⟩ := Option.bind_eq_some_iff.1 h
  have hr := Option.some.inj h
  unfold governorref18_Right.b at hr
  have FB : Aside0 (decide (8 < (l0_15.length : Int)) = false → governorref16_Right.f a0_14 l0_15 a0_16 a0_17 = some (governorref16_Right.b a0_14 l0_15 a0_16 a0_17)) := ⟨fun hc => if_pos (by have := of_decide_eq_false hc; omega)⟩
  generalize governorref16_Right.b a0_14 l0_15 a0_16 a0_17 = b at hr FB
  have FP := Aside0.mk fp
  have FZ := Aside0.mk fz
  clear h fp fz
  go_cut [46] (fun v wc => v = .bool ((!p && !z) || (decide (8 < (l0_15.length : Int)) || (!(b) || (decide (32 < (l0_18.length : Int)))))) ∧ Aside0 (One w wc #[.int .i64 a0_0, .int .i64 a0_1, .slice A0_2 l0_2.length c0_2, .int .i64 a0_3, .int .i64 a0_4, .int .i64 a0_5, .int .i64 a0_6, .slice A0_7 l0_7.length c0_7, .int .i64 a0_8, .int .i64 a0_9, .bool a0_10, .int .i64 a0_11, .int .i64 a0_12, .bool a0_13, .int .i64 a0_14, .slice A0_15 l0_15.length c0_15, .int .i64 a0_16, .int .i64 a0_17, .slice A0_18 l0_18.length c0_18] 37))
  case first =>
    have hq : (p = false ∧ z = false) ∨ ((p = true ∨ (p = false ∧ z = true)) ∧ (decide (8 < (l0_15.length : Int)) = true ∨ (decide (8 < (l0_15.length : Int)) = false ∧ (b = false ∨ (b = true ∧ (decide (32 < (l0_18.length : Int)) = true ∨ decide (32 < (l0_18.length : Int)) = false)))))) := by
      cases decide (8 < (l0_15.length : Int)) <;> cases decide (32 < (l0_18.length : Int)) <;> cases p <;> cases z <;> cases b <;> simp
    rcases hq with ⟨rfl, rfl⟩ | ⟨rfl | ⟨rfl, rfl⟩, h4 | ⟨h4, rfl | ⟨rfl, h6 | h6⟩⟩⟩
    all_goals
      (go_wp2_with (first | (go_at_call 24; refine (governorref09_Policy.calls k _ _ _ _ _ _ _ _ _ _ _ _ _ _ (Kd.C_below HR0_2.out HT.out.hW) HC0_2.out (Kd.C_below HR0_7.out HT.out.hW) HC0_7.out FP.out).mono ?_; rintro e_ w1 ⟨rfl, hb⟩; replace HT := Aside0.mk (HT.out.below hb); clear hb xa; have xa := blk_cell HT.out.hA) | (go_at_call 20; refine (governorref09_Zero.calls _ _ _ _ _ _ _ _ _ _ _ _ _ _ (Kd.C_below HR0_2.out HT.out.hW) HC0_2.out (Kd.C_below HR0_7.out HT.out.hW) HC0_7.out FZ.out).mono ?_; rintro e_ w1 ⟨rfl, hb⟩; replace HT := Aside0.mk (HT.out.below hb); clear hb xa; have xa := blk_cell HT.out.hA) | (go_at_call 25; refine (governorref16_Right.calls _ _ _ _ _ _ _ _ (Kd.C_below HR0_15.out HT.out.hW) HC0_15.out (FB.out h4)).mono ?_; rintro e_ w1 ⟨rfl, hb⟩; replace HT := Aside0.mk (HT.out.below hb); clear hb xa; have xa := blk_cell HT.out.hA)); go_meet; exact ⟨by simp [*], HT⟩)
  case rest =>
    obtain ⟨rfl, HT⟩ := hcut
    have xa := blk_cell HT.out.hA
    clear FP FZ FB h1 h2
    cases hX : ((!p && !z) || (decide (8 < (l0_15.length : Int)) || (!(b) || (decide (32 < (l0_18.length : Int))))))
    case true => (rw [hX] at hr; replace hr := Aside0.mk hr; go_wp2; go_ret; exact ⟨by rw [← hr.out]; rfl, HT.out.hW⟩)
    case false =>
      rw [hX] at hr
      replace hr := Aside0.mk hr
      simp only [Bool.or_eq_false_iff, decide_eq_false_iff_not] at hX
      have HN18 : Aside0 (l0_18.length < 140737488355328) := ⟨by omega⟩
      clear hX
      go_wp2
      go_loopw [3] (fun v wr => ∃ i : Int, 0 ≤ i ∧ i ≤ (l0_18.length : Int) ∧ v = .int .i64 i ∧ Aside0 ((allAt mkI l0_18 i && (decide (0 ≤ a0_11) && (decide (a0_11 ≤ 1000) && (decide (0 ≤ a0_12) && (decide (a0_12 ≤ 1099511627776)))))) = r) ∧ Aside0 (One w wr #[.int .i64 a0_0, .int .i64 a0_1, .slice A0_2 l0_2.length c0_2, .int .i64 a0_3, .int .i64 a0_4, .int .i64 a0_5, .int .i64 a0_6, .slice A0_7 l0_7.length c0_7, .int .i64 a0_8, .int .i64 a0_9, .bool a0_10, .int .i64 a0_11, .int .i64 a0_12, .bool a0_13, .int .i64 a0_14, .slice A0_15 l0_15.length c0_15, .int .i64 a0_16, .int .i64 a0_17, .slice A0_18 l0_18.length c0_18] 37)) (fun v _ => ((l0_18.length : Int) - intOf v).toNat)
      case atStart => exact ⟨0, Int.le_refl _, by omega, rfl, hr, HT⟩
      case round =>
        obtain ⟨i, h0, hi, rfl, hr, HT⟩ := hrel
        have xa := blk_cell HT.out.hA
        by_cases hlt : i < (l0_18.length : Int)
        · obtain ⟨ad0, e0, u0, u1⟩ := at_T52 (Kd.C_below HR0_18.out HT.out.hW) i h0 hlt
          cases e0
          have hs := allAt_lt mkI z52 l0_18 i h0 hlt
          change _ = ((decide (0 ≤ (rd_T52 l0_18 i).f0) && decide ((rd_T52 l0_18 i).f0 ≤ 1000000000)) && _) at hs
          have hw := wr_len HN18.out h0 hlt
          rcases (ch (decide ((rd_T52 l0_18 i).f0 < 0)) (Bool.eq_false_or_eq_true (decide (1000000000 < (rd_T52 l0_18 i).f0)))) with h1 | ⟨h1, h2 | h2⟩
          · have hq : (decide (0 ≤ (rd_T52 l0_18 i).f0) && decide ((rd_T52 l0_18 i).f0 ≤ 1000000000)) = false := by simp only [decide_eq_true_eq, decide_eq_false_iff_not] at h1 ; simp; omega
            rw [hq, Bool.false_and] at hs
            replace hr := Aside0.mk ((congrArg (fun b => b && (decide (0 ≤ a0_11) && (decide (a0_11 ≤ 1000) && (decide (0 ≤ a0_12) && (decide (a0_12 ≤ 1099511627776)))))) hs.symm).trans hr.out)
            clear hs hq hw
            go_wp2
            repeat (go_quiet (fail); try go_wp2)
            go_ret
            exact ⟨by rw [← hr.out]; rfl, by first | exact HT.out.hW | exact pw_below_drewN HT.out.hW _⟩
          · have hq : (decide (0 ≤ (rd_T52 l0_18 i).f0) && decide ((rd_T52 l0_18 i).f0 ≤ 1000000000)) = false := by simp only [decide_eq_true_eq, decide_eq_false_iff_not] at h1 h2; simp; omega
            rw [hq, Bool.false_and] at hs
            replace hr := Aside0.mk ((congrArg (fun b => b && (decide (0 ≤ a0_11) && (decide (a0_11 ≤ 1000) && (decide (0 ≤ a0_12) && (decide (a0_12 ≤ 1099511627776)))))) hs.symm).trans hr.out)
            clear hs hq hw
            go_wp2
            repeat (go_quiet (fail); try go_wp2)
            go_ret
            exact ⟨by rw [← hr.out]; rfl, by first | exact HT.out.hW | exact pw_below_drewN HT.out.hW _⟩
          · have hq : (decide (0 ≤ (rd_T52 l0_18 i).f0) && decide ((rd_T52 l0_18 i).f0 ≤ 1000000000)) = true := by simp only [decide_eq_false_iff_not] at h1 h2; simp; omega
            rw [hq, Bool.true_and] at hs
            replace hr := Aside0.mk ((congrArg (fun b => b && (decide (0 ≤ a0_11) && (decide (a0_11 ≤ 1000) && (decide (0 ≤ a0_12) && (decide (a0_12 ≤ 1099511627776)))))) hs.symm).trans hr.out)
            clear hs hq
            go_wp2
            repeat (go_quiet (fail); try go_wp2)
            go_roundw
            case measure => simp [intOf, hw]; omega
            case rel => exact ⟨i + 1, by omega, by omega, by first | rfl | simp [hw], hr, by first | exact HT | exact ⟨HT.out.drewN _⟩⟩
        · have hs := allAt_end mkI l0_18 i (by omega)
          replace hr := Aside0.mk ((congrArg (fun b => b && (decide (0 ≤ a0_11) && (decide (a0_11 ≤ 1000) && (decide (0 ≤ a0_12) && (decide (a0_12 ≤ 1099511627776)))))) hs.symm).trans hr.out)
          clear hs
          rcases (chN (decide (0 ≤ a0_11)) (chN (decide (a0_11 ≤ 1000)) (chN (decide (0 ≤ a0_12)) (Bool.eq_false_or_eq_true (decide (a0_12 ≤ 1099511627776)))))) with h1 | ⟨h1, h2 | ⟨h2, h3 | ⟨h3, h4 | h4⟩⟩⟩
          all_goals (go_wp2; go_ret; exact ⟨by rw [← hr.out]; simp [*], HT.out.hW⟩)

end Go.Proofs.Ytefgoffaidjiaaa.PAll
namespace Go.Proofs.Ytefgoffaidjiaaa.PAll
open Go.RowKit Go.Proofs.YtefgoffaidjiaaaW.PrintWords Go.Proofs.YtefgoffaidjiaaaW.PrintLast Go.Proofs.YtefgoffaidjiaaaW.PrintMore
attribute [local go_sem] max2_int min2_int max_two min_two max_three min_three max_four min_four   -- for this text's walks alone
set_option linter.unusedVariables false
set_option linter.unusedSimpArgs false

/-! ### governorlaw18_head: function 9 -/
/-- A sim's values in a row. -/
def tup (y : S37) := (y.f0.f0, y.f0.f1, y.f0.f2, y.f0.f3, y.f0.f4, y.f0.f5, y.f0.f6, y.f0.f7, y.f1.f0, y.f1.f1, y.f1.f2, y.f2.f0, y.f2.f1, y.f2.f2, y.f3.f0, y.f3.f1, y.f3.f2, y.f3.f3, y.f4)
theorem k_size {W : World} {x : S37} {cs : Array Value} (h : k37.K W x cs.toList) : cs.size = 19 := by have := k37.K_len h; rw [Array.length_toList] at this; exact this
theorem k_info {W : World} {x : S37} {cs : Array Value} (h : k37.K W x cs.toList) : (Try.prog.info? 37).map (·.size) = some cs.size := by rw [k_size h]; kernel_rfl
/-- A sim whose rows are the call's own. -/
def OwnX (b : Nat) (W : World) (x : S37) (cs : Array Value) : Prop := ∃ v2 v7 v15 v18 : Value, cs = #[.int .i64 x.f0.f0, .int .i64 x.f0.f1, v2, .int .i64 x.f0.f3, .int .i64 x.f0.f4, .int .i64 x.f0.f5, .int .i64 x.f0.f6, v7, .int .i64 x.f1.f0, .int .i64 x.f1.f1, .bool x.f1.f2, .int .i64 x.f2.f0, .int .i64 x.f2.f1, .bool x.f2.f2, .int .i64 x.f3.f0, v15, .int .i64 x.f3.f2, .int .i64 x.f3.f3, v18] ∧ Kd.Q k56 56 W b (fun _ => True) v2 x.f0.f2 ∧ Kd.Q k58 58 W b (fun _ => True) v7 x.f0.f7 ∧ Kd.Q (Kd.int .i64) 3 W b (fun _ => True) v15 x.f3.f1 ∧ Kd.Q k52 52 W b (fun _ => True) v18 x.f4
theorem OwnX.K {b : Nat} {W : World} {x : S37} {cs : Array Value} (h : OwnX b W x cs) : k37.K W x cs.toList := by
  obtain ⟨v2, v7, v15, v18, rfl, q2, q7, q15, q18⟩ := h
  obtain ⟨A2, c2, rfl, l2, g2⟩ := Kd.Q_reads q2
  obtain ⟨A7, c7, rfl, l7, g7⟩ := Kd.Q_reads q7
  obtain ⟨A15, c15, rfl, l15, g15⟩ := Kd.Q_reads q15
  obtain ⟨A18, c18, rfl, l18, g18⟩ := Kd.Q_reads q18
  exact k37_mk W x l2 g2 l7 g7 l15 g15 l18 g18
theorem OwnX.below {b : Nat} {W W' : World} {x : S37} {cs : Array Value} (h : OwnX b W x cs) (hb : Below W.heap.size W W') : OwnX b W' x cs := by
  obtain ⟨v2, v7, v15, v18, rfl, q2, q7, q15, q18⟩ := h
  exact ⟨v2, v7, v15, v18, rfl, Kd.Q_below q2 hb, Kd.Q_below q7 hb, Kd.Q_below q15 hb, Kd.Q_below q18 hb⟩
theorem OwnX.cells {b g : Nat} {W : World} {x : S37} {cs old : Array Value} {vs : List Value} (h : OwnX b W x cs) (z : W.heap[g]? = some (.cells old 37 (0, 0))) : OwnX b (W.setCells g 0 vs) x cs := by
  obtain ⟨v2, v7, v15, v18, rfl, q2, q7, q15, q18⟩ := h
  exact ⟨v2, v7, v15, v18, rfl, Kd.Q_cells q2 z (by decide), Kd.Q_cells q7 z (by decide), Kd.Q_cells q15 z (by decide), Kd.Q_cells q18 z (by decide)⟩
set_option maxHeartbeats 8000000 in
set_option maxRecDepth 100000 in
theorem step_w {k : Nat} {c : S23} {x y : S37} {d n : Int} {cs : Array Value} {w : World} (hx : k37.K w x cs.toList) (h : fleet_Step.f k c.f0 c.f1 c.f2 c.f3 c.f4 c.f5 c.f6 c.f7 c.f8 c.f9 c.f10 c.f11 x.f0.f0 x.f0.f1 x.f0.f2 x.f0.f3 x.f0.f4 x.f0.f5 x.f0.f6 x.f0.f7 x.f1.f0 x.f1.f1 x.f1.f2 x.f2.f0 x.f2.f1 x.f2.f2 x.f3.f0 x.f3.f1 x.f3.f2 x.f3.f3 x.f4 d n = some (tup y)) :
    Calls Try.prog 14 #[.agg #[.int .i64 c.f0, .int .i64 c.f1, .int .i64 c.f2, .int .i64 c.f3, .int .i64 c.f4, .int .i64 c.f5, .int .i64 c.f6, .int .i64 c.f7, .int .i64 c.f8, .int .i64 c.f9, .int .i64 c.f10, .int .i64 c.f11], .agg cs, .int .i64 d, .int .i64 n] w fun e w' => ∃ cs' : Array Value, e = .returned (.agg cs') ∧ OwnX w.heap.size w' y cs' ∧ Below w.heap.size w w' := by
  obtain ⟨A2, c2, A7, c7, A15, c15, A18, c18, e, l2, g2, l7, g7, l15, g15, l18, g18⟩ := k37_open hx
  obtain rfl : cs = #[.int .i64 x.f0.f0, .int .i64 x.f0.f1, .slice A2 x.f0.f2.length c2, .int .i64 x.f0.f3, .int .i64 x.f0.f4, .int .i64 x.f0.f5, .int .i64 x.f0.f6, .slice A7 x.f0.f7.length c7, .int .i64 x.f1.f0, .int .i64 x.f1.f1, .bool x.f1.f2, .int .i64 x.f2.f0, .int .i64 x.f2.f1, .bool x.f2.f2, .int .i64 x.f3.f0, .slice A15 x.f3.f1.length c15, .int .i64 x.f3.f2, .int .i64 x.f3.f3, .slice A18 x.f4.length c18] := by cases cs; simpa using e
  refine (fleet_Step.calls k _ _ _ _ _ _ _ _ _ _ _ _ _ _ _ _ _ _ _ _ _ _ _ _ _ _ _ _ _ _ _ _ _ _ _ _ _ _ _ _ _ _ _ _ _ _ _ _ _ _ _ _ _ _ _ _ _ _ _ _ w g2 l2 g7 l7 g15 l15 g18 l18 h).mono ?_
  rintro e w' ⟨v2, v7, v15, v18, rfl, q2, q7, q15, q18, hb⟩
  exact ⟨_, rfl, ⟨v2, v7, v15, v18, rfl, Kd.Q_of_R q2, Kd.Q_of_R q7, q15, q18⟩, hb⟩
set_option maxHeartbeats 8000000 in
set_option maxRecDepth 100000 in
theorem own_w {x : S37} {cs : Array Value} {w : World} (hx : k37.K w x cs.toList) (h : fleet_Own.f x.f0.f0 x.f0.f1 x.f0.f2 x.f0.f3 x.f0.f4 x.f0.f5 x.f0.f6 x.f0.f7 x.f1.f0 x.f1.f1 x.f1.f2 x.f2.f0 x.f2.f1 x.f2.f2 x.f3.f0 x.f3.f1 x.f3.f2 x.f3.f3 x.f4 = some (tup x)) :
    Calls Try.prog 18 #[.agg cs] w fun e w' => ∃ cs' : Array Value, e = .returned (.agg cs') ∧ OwnX w.heap.size w' x cs' ∧ Below w.heap.size w w' := by
  obtain ⟨A2, c2, A7, c7, A15, c15, A18, c18, e, l2, g2, l7, g7, l15, g15, l18, g18⟩ := k37_open hx
  obtain rfl : cs = #[.int .i64 x.f0.f0, .int .i64 x.f0.f1, .slice A2 x.f0.f2.length c2, .int .i64 x.f0.f3, .int .i64 x.f0.f4, .int .i64 x.f0.f5, .int .i64 x.f0.f6, .slice A7 x.f0.f7.length c7, .int .i64 x.f1.f0, .int .i64 x.f1.f1, .bool x.f1.f2, .int .i64 x.f2.f0, .int .i64 x.f2.f1, .bool x.f2.f2, .int .i64 x.f3.f0, .slice A15 x.f3.f1.length c15, .int .i64 x.f3.f2, .int .i64 x.f3.f3, .slice A18 x.f4.length c18] := by cases cs; simpa using e
  refine (fleet_Own.calls _ _ _ _ _ _ _ _ _ _ _ _ _ _ _ _ _ _ _ _ _ _ _ _ _ _ _ _ _ _ _ _ _ _ _ _ _ _ _ _ _ _ _ _ _ _ w g2 l2 g7 l7 g15 l15 g18 l18 h).mono ?_
  rintro e w' ⟨v2, v7, v15, v18, rfl, q2, q7, q15, q18, hb⟩
  exact ⟨_, rfl, ⟨v2, v7, v15, v18, rfl, Kd.Q_of_R q2, Kd.Q_of_R q7, Kd.Q_of_R q15, Kd.Q_of_R q18⟩, hb⟩
set_option maxHeartbeats 8000000 in
set_option maxRecDepth 100000 in
theorem new_w {p : S27} {s : S29} {h : S31} {y : S37} {cp : Array Value} {w : World} (hp : k27.K w p cp.toList) (hf : fleet_New.f p.f0 p.f1 p.f2 p.f3 p.f4 p.f5 p.f6 p.f7 s.f0 s.f1 s.f2 h.f0 h.f1 h.f2 = some (tup y)) :
    Calls Try.prog 16 #[.agg cp, .agg #[.int .i64 s.f0, .int .i64 s.f1, .bool s.f2], .agg #[.int .i64 h.f0, .int .i64 h.f1, .bool h.f2]] w fun e w' => ∃ cs' : Array Value, e = .returned (.agg cs') ∧ OwnX w.heap.size w' y cs' ∧ Below w.heap.size w w' := by
  obtain ⟨A2, c2, A7, c7, e0, l2, g2, l7, g7⟩ := k27_open hp
  obtain rfl : cp = #[.int .i64 p.f0, .int .i64 p.f1, .slice A2 p.f2.length c2, .int .i64 p.f3, .int .i64 p.f4, .int .i64 p.f5, .int .i64 p.f6, .slice A7 p.f7.length c7] := by cases cp; simpa using e0
  refine (fleet_New.calls _ _ _ _ _ _ _ _ _ _ _ _ _ _ _ _ _ _ _ _ _ _ _ _ _ _ _ _ _ _ _ _ _ _ _ _ _ w g2 l2 g7 l7 hf).mono ?_
  rintro e w' ⟨v2, v7, v15, v18, rfl, q2, q7, q15, q18, hb⟩
  exact ⟨_, rfl, ⟨v2, v7, v15, v18, rfl, Kd.Q_of_R q2, Kd.Q_of_R q7, Kd.Q_of_R q15, Kd.Q_of_R q18⟩, hb⟩
set_option maxHeartbeats 8000000 in
set_option maxRecDepth 100000 in
theorem same_w {x y : S37} {r : Bool} {cs cs' : Array Value} {w : World} (hx : k37.K w x cs.toList) (hy : k37.K w y cs'.toList) (h : governorref18_Same.f x.f0.f0 x.f0.f1 x.f0.f2 x.f0.f3 x.f0.f4 x.f0.f5 x.f0.f6 x.f0.f7 x.f1.f0 x.f1.f1 x.f1.f2 x.f2.f0 x.f2.f1 x.f2.f2 x.f3.f0 x.f3.f1 x.f3.f2 x.f3.f3 x.f4 y.f0.f0 y.f0.f1 y.f0.f2 y.f0.f3 y.f0.f4 y.f0.f5 y.f0.f6 y.f0.f7 y.f1.f0 y.f1.f1 y.f1.f2 y.f2.f0 y.f2.f1 y.f2.f2 y.f3.f0 y.f3.f1 y.f3.f2 y.f3.f3 y.f4 = some r) :
    Calls Try.prog 13 #[.agg cs, .agg cs'] w fun e w' => e = .returned (.bool r) ∧ Below w.heap.size w w' := by
  obtain ⟨A2, c2, A7, c7, A15, c15, A18, c18, e, l2, g2, l7, g7, l15, g15, l18, g18⟩ := k37_open hx
  obtain rfl : cs = #[.int .i64 x.f0.f0, .int .i64 x.f0.f1, .slice A2 x.f0.f2.length c2, .int .i64 x.f0.f3, .int .i64 x.f0.f4, .int .i64 x.f0.f5, .int .i64 x.f0.f6, .slice A7 x.f0.f7.length c7, .int .i64 x.f1.f0, .int .i64 x.f1.f1, .bool x.f1.f2, .int .i64 x.f2.f0, .int .i64 x.f2.f1, .bool x.f2.f2, .int .i64 x.f3.f0, .slice A15 x.f3.f1.length c15, .int .i64 x.f3.f2, .int .i64 x.f3.f3, .slice A18 x.f4.length c18] := by cases cs; simpa using e
  obtain ⟨A2', c2', A7', c7', A15', c15', A18', c18', e', l2', g2', l7', g7', l15', g15', l18', g18'⟩ := k37_open hy
  obtain rfl : cs' = #[.int .i64 y.f0.f0, .int .i64 y.f0.f1, .slice A2' y.f0.f2.length c2', .int .i64 y.f0.f3, .int .i64 y.f0.f4, .int .i64 y.f0.f5, .int .i64 y.f0.f6, .slice A7' y.f0.f7.length c7', .int .i64 y.f1.f0, .int .i64 y.f1.f1, .bool y.f1.f2, .int .i64 y.f2.f0, .int .i64 y.f2.f1, .bool y.f2.f2, .int .i64 y.f3.f0, .slice A15' y.f3.f1.length c15', .int .i64 y.f3.f2, .int .i64 y.f3.f3, .slice A18' y.f4.length c18'] := by cases cs'; simpa using e'
  exact governorref18_Same.calls _ _ _ _ _ _ _ _ _ _ _ _ _ _ _ _ _ _ _ _ _ _ _ _ _ _ _ _ _ _ _ _ _ _ _ _ _ _ _ _ _ _ _ _ _ _ _ _ _ _ _ _ _ _ _ w g2 l2 g7 l7 g15 l15 g18 l18 g2' l2' g7' l7' g15' l15' g18' l18' h
def rightF (k : Nat) (x : S37) : Option Bool := governorref18_Right.f k x.f0.f0 x.f0.f1 x.f0.f2 x.f0.f3 x.f0.f4 x.f0.f5 x.f0.f6 x.f0.f7 x.f1.f0 x.f1.f1 x.f1.f2 x.f2.f0 x.f2.f1 x.f2.f2 x.f3.f0 x.f3.f1 x.f3.f2 x.f3.f3 x.f4
set_option maxHeartbeats 8000000 in
set_option maxRecDepth 100000 in
theorem right_w {k : Nat} {x : S37} {r : Bool} {cs : Array Value} {w : World} (hx : k37.K w x cs.toList) (h : rightF k x = some r) :
    Calls Try.prog 11 #[.agg cs] w fun e w' => e = .returned (.bool r) ∧ Below w.heap.size w w' := by
  obtain ⟨A2, c2, A7, c7, A15, c15, A18, c18, e, l2, g2, l7, g7, l15, g15, l18, g18⟩ := k37_open hx
  obtain rfl : cs = #[.int .i64 x.f0.f0, .int .i64 x.f0.f1, .slice A2 x.f0.f2.length c2, .int .i64 x.f0.f3, .int .i64 x.f0.f4, .int .i64 x.f0.f5, .int .i64 x.f0.f6, .slice A7 x.f0.f7.length c7, .int .i64 x.f1.f0, .int .i64 x.f1.f1, .bool x.f1.f2, .int .i64 x.f2.f0, .int .i64 x.f2.f1, .bool x.f2.f2, .int .i64 x.f3.f0, .slice A15 x.f3.f1.length c15, .int .i64 x.f3.f2, .int .i64 x.f3.f3, .slice A18 x.f4.length c18] := by cases cs; simpa using e
  exact governorref18_Right.calls k _ _ _ _ _ _ _ _ _ _ _ _ _ _ _ _ _ _ _ _ _ _ _ _ _ _ _ _ w g2 l2 g7 l7 g15 l15 g18 l18 h
/-- Sims that lie in memory, each in a block of its own. -/
def Hs (w W : World) (L : List (Nat × S37 × Array Value)) : Prop := Below w.heap.size w W ∧ ∀ t ∈ L, W.heap[t.1]? = some (.cells t.2.2 37 (0, 0)) ∧ k37.K W t.2.1 t.2.2.toList
theorem Hs.below {w W W' : World} {L : List (Nat × S37 × Array Value)} (h : Hs w W L) (hb : Below W.heap.size W W') : Hs w W' L := ⟨below_step h.1 hb, fun t ht => ⟨blk_below (h.2 t ht).1 hb, k37.K_below hb (h.2 t ht).2⟩⟩
theorem Hs.add {w W : World} {L : List (Nat × S37 × Array Value)} {g : Nat} {x : S37} {cs : Array Value} (h : Hs w W L) (hg : W.heap[g]? = some (.cells cs 37 (0, 0))) (hx : k37.K W x cs.toList) : Hs w W ((g, x, cs) :: L) := ⟨h.1, fun t ht => by
  rcases List.mem_cons.1 ht with rfl | ht
  · exact ⟨hg, hx⟩
  · exact h.2 t ht⟩
theorem hs_store {w W0 W : World} {L : List (Nat × S37 × Array Value)} {g b : Nat} {y : S37} {cs z : Array Value} (h : Hs w W0 L) (hb : Below W0.heap.size W0 W) (hg : W0.heap.size ≤ g) (hz : W.heap[g]? = some (.cells z 37 (0, 0))) (hs : z.size = 19) (hy : OwnX b W y cs) :
    (storeCells ⟨g, 0, none⟩ cs.toList).run Try.prog W = .ok () (W.setCells g 0 cs.toList) ∧ Below W0.heap.size W0 (W.setCells g 0 cs.toList) ∧ Hs w (W.setCells g 0 cs.toList) ((g, y, cs) :: L) := by
  have cp := cp_row (P := Try.prog) hz ((k_size hy.K).trans hs.symm) (k37.K_one hy.K)
  exact ⟨cp.1, below_cells (vs := cs.toList) hb hg, (h.below (below_cells (vs := cs.toList) hb hg)).add cp.2.1 (hy.cells hz).K⟩
def sim_x : S37 := ⟨⟨1, 1000, [], 0, 0, 0, 0, []⟩, ⟨0, 0, false⟩, ⟨2, 0, false⟩, ⟨2, [], 0, 0⟩, []⟩
def sim_y : S37 := ⟨⟨1, 1000, [], 0, 0, 0, 0, []⟩, ⟨0, 0, false⟩, ⟨1, 0, false⟩, ⟨1, [], 200, 3000⟩, [⟨1, true⟩]⟩
def sim_z : S37 := ⟨⟨1, 1000, [], 0, 0, 0, 0, []⟩, ⟨0, 0, false⟩, ⟨3, 6, true⟩, ⟨1, [2], 400, 5000⟩, [⟨1, true⟩, ⟨3, true⟩]⟩
def sim_u : S37 := ⟨⟨1, 1000, [], 0, 0, 0, 0, []⟩, ⟨0, 0, false⟩, ⟨7, 7, true⟩, ⟨3, [4], 400, 2333⟩, [⟨1, true⟩, ⟨3, true⟩, ⟨7, true⟩]⟩
def sim_n : S37 := ⟨⟨0, 0, [], 0, 0, 0, 0, []⟩, ⟨0, 0, false⟩, ⟨7, 0, false⟩, ⟨0, [], 0, 0⟩, []⟩
def plainC : S23 := ⟨1, 20, 4, 3, 100, 1, 50, 4, 2, 1, 3, 1⟩
theorem hd_new : fleet_New.f 1 1000 [] 0 0 0 0 [] 0 0 false 2 0 false = some (tup sim_x) := by rfl
theorem hd_y : fleet_Step.f 40 plainC.f0 plainC.f1 plainC.f2 plainC.f3 plainC.f4 plainC.f5 plainC.f6 plainC.f7 plainC.f8 plainC.f9 plainC.f10 plainC.f11 sim_x.f0.f0 sim_x.f0.f1 sim_x.f0.f2 sim_x.f0.f3 sim_x.f0.f4 sim_x.f0.f5 sim_x.f0.f6 sim_x.f0.f7 sim_x.f1.f0 sim_x.f1.f1 sim_x.f1.f2 sim_x.f2.f0 sim_x.f2.f1 sim_x.f2.f2 sim_x.f3.f0 sim_x.f3.f1 sim_x.f3.f2 sim_x.f3.f3 sim_x.f4 300 5 = some (tup sim_y) := by kernel_rfl
theorem hd_z : fleet_Step.f 40 plainC.f0 plainC.f1 plainC.f2 plainC.f3 plainC.f4 plainC.f5 plainC.f6 plainC.f7 plainC.f8 plainC.f9 plainC.f10 plainC.f11 sim_y.f0.f0 sim_y.f0.f1 sim_y.f0.f2 sim_y.f0.f3 sim_y.f0.f4 sim_y.f0.f5 sim_y.f0.f6 sim_y.f0.f7 sim_y.f1.f0 sim_y.f1.f1 sim_y.f1.f2 sim_y.f2.f0 sim_y.f2.f1 sim_y.f2.f2 sim_y.f3.f0 sim_y.f3.f1 sim_y.f3.f2 sim_y.f3.f3 sim_y.f4 300 6 = some (tup sim_z) := by kernel_rfl
theorem hd_u : fleet_Step.f 40 plainC.f0 plainC.f1 plainC.f2 plainC.f3 plainC.f4 plainC.f5 plainC.f6 plainC.f7 plainC.f8 plainC.f9 plainC.f10 plainC.f11 sim_z.f0.f0 sim_z.f0.f1 sim_z.f0.f2 sim_z.f0.f3 sim_z.f0.f4 sim_z.f0.f5 sim_z.f0.f6 sim_z.f0.f7 sim_z.f1.f0 sim_z.f1.f1 sim_z.f1.f2 sim_z.f2.f0 sim_z.f2.f1 sim_z.f2.f2 sim_z.f3.f0 sim_z.f3.f1 sim_z.f3.f2 sim_z.f3.f3 sim_z.f4 300 7 = some (tup sim_u) := by kernel_rfl
theorem hd_n : fleet_Step.f 40 plainC.f0 plainC.f1 plainC.f2 plainC.f3 plainC.f4 plainC.f5 plainC.f6 plainC.f7 plainC.f8 plainC.f9 plainC.f10 plainC.f11 sim_n.f0.f0 sim_n.f0.f1 sim_n.f0.f2 sim_n.f0.f3 sim_n.f0.f4 sim_n.f0.f5 sim_n.f0.f6 sim_n.f0.f7 sim_n.f1.f0 sim_n.f1.f1 sim_n.f1.f2 sim_n.f2.f0 sim_n.f2.f1 sim_n.f2.f2 sim_n.f3.f0 sim_n.f3.f1 sim_n.f3.f2 sim_n.f3.f3 sim_n.f4 300 6 = some (tup sim_n) := by kernel_rfl
theorem hd_same : governorref18_Same.f sim_n.f0.f0 sim_n.f0.f1 sim_n.f0.f2 sim_n.f0.f3 sim_n.f0.f4 sim_n.f0.f5 sim_n.f0.f6 sim_n.f0.f7 sim_n.f1.f0 sim_n.f1.f1 sim_n.f1.f2 sim_n.f2.f0 sim_n.f2.f1 sim_n.f2.f2 sim_n.f3.f0 sim_n.f3.f1 sim_n.f3.f2 sim_n.f3.f3 sim_n.f4 sim_n.f0.f0 sim_n.f0.f1 sim_n.f0.f2 sim_n.f0.f3 sim_n.f0.f4 sim_n.f0.f5 sim_n.f0.f6 sim_n.f0.f7 sim_n.f1.f0 sim_n.f1.f1 sim_n.f1.f2 sim_n.f2.f0 sim_n.f2.f1 sim_n.f2.f2 sim_n.f3.f0 sim_n.f3.f1 sim_n.f3.f2 sim_n.f3.f3 sim_n.f4 = some true := by kernel_rfl
def governorlaw18_head.f : Option Bool := some true
set_option maxHeartbeats 8000000 in
set_option maxRecDepth 100000 in
theorem governorlaw18_head.calls (r : Bool) (w : World) (h : governorlaw18_head.f = some r) :
    Calls Try.prog 9 #[] w fun e w' => e = .returned (.bool r) ∧ Below w.heap.size w w' := by
  obtain rfl := Option.some.inj h
  clear h
  have hu0 := Try.underlying69
  have hu1 := Try.underlying37
  have hu2 := Try.underlying27
  have hu3 := Try.underlying29
  have hu4 := Try.underlying23
  have hu5 := Try.underlying31
  have hu6 := Try.underlying34
  have hu7 := Try.underlying52
  have HS : Aside0 (Hs w w []) := ⟨Below.refl _ _, fun t ht => by cases ht⟩
  obtain ⟨W0, hW0⟩ : ∃ W, W = w := ⟨w, rfl⟩
  go_enter Try.func9, Try.ntmps9
  go_upto_region 1 with (fail)
  go_cut [1] (fun v wc => ∃ (g1 : Nat) (c1 : Array Value), v = .pointer (some ⟨g1, 0, none⟩) ∧ Hs w wc [(g1, sim_x, c1)])
  case first =>
    go_wp2_with (first
      | (go_at_call 16; refine (new_w (p := ⟨1, 1000, [], 0, 0, 0, 0, []⟩) (s := ⟨0, 0, false⟩) (h := ⟨2, 0, false⟩) (cp := #[.int .i64 1, .int .i64 1000, .slice none 0 0, .int .i64 0, .int .i64 0, .int .i64 0, .int .i64 0, .slice none 0 0]) (k27_mk _ _ (A2 := none) (c2 := 0) (Nat.le_refl _) (Kd.C_nil _ _) (A7 := none) (c7 := 0) (Nat.le_refl _) (Kd.C_nil _ _)) hd_new).mono ?_; rintro e_ w1 ⟨c1, rfl, own, hb⟩; have hsz := k_size own.K; have HO := Aside0.mk own; have HB := Aside0.mk hb; clear own hb)
      | ((with_reducible refine gate_dst (N := 1) rfl ?_); refine box_event ?hg (N := 1) ?hd (cs := #[.int .i64 0, .int .i64 0, .slice none 0 0, .int .i64 0, .int .i64 0, .int .i64 0, .int .i64 0, .slice none 0 0, .int .i64 0, .int .i64 0, .bool false, .int .i64 0, .int .i64 0, .bool false, .int .i64 0, .slice none 0 0, .int .i64 0, .int .i64 0, .slice none 0 0]) (t := 37) ?hr ?_; (case hd => rfl); (case hg => rfl); (case hr => first | (go_simp; done) | (go_simp; rfl)); intro g1 hg w2 FZ hb; obtain ⟨hst, _, hn⟩ := hs_store HS.out (below_step HB.out hb) (by rw [hg]; exact HB.out.size) FZ rfl (HO.out.below hb); have HN := Aside0.mk hn; clear hn FZ hb hg))
    go_meet
    exact ⟨g1, c1, rfl, HN.out⟩
  case rest =>
    obtain ⟨g1, c1, rfl, hn⟩ := hcut
    clear HS hW0
    have HS := Aside0.mk hn
    clear hn
    generalize wc = W0 at HS ⊢
    go_upto_region 2 with (fail)
    go_cut [2] (fun v wc => ∃ (g : Nat) (cs : Array Value), v = .pointer (some ⟨g, 0, none⟩) ∧ Hs w wc ((g, sim_y, cs) :: (g1, sim_x, c1) :: []))
    case first =>
      have FX := (HS.out.2 (g1, sim_x, c1) (by simp)).1
      have HX := Aside0.mk (HS.out.2 (g1, sim_x, c1) (by simp)).2
      refine start_ (n := 5) (S := fun w' => w'.heap[g1]? = some (.cells c1 37 (0, 0))) (ds := []) #[false, false, false, false, false] (by kernel_rfl) rfl rfl FX (fun hHeld => ?_)
      have FB := below_drew1 (Below.refl W0.heap.size W0)
      replace FX := blk_below FX FB
      generalize W0.drew = w9 at FB FX hHeld ⊢
      refine take_ (i := 1) (N := some 11) (v := .agg c1) (a' := ?_) #[false, true, false, false, false] rfl rfl (by kernel_rfl) (fun _ _ _ h => h) (yields_row (by rfl) 37 (.tmp 1) rfl g1 rfl c1 _ (fun w' hS => range_row hS) hu1 rfl (k_info HX.out)) hHeld ?_ ?_
      rotate_left
      · simp only [Act.put, List.setIfInBounds_toArray, List.set_cons_zero, List.set_cons_succ, i64_w, i32_w]
        rfl
      refine two_ (i := 0) (j := 3) (Ni := some 10) (Nj := some 2) #[true, true, false, false, false] #[false, true, false, true, false] rfl rfl rfl rfl (by kernel_rfl) (by decide) (by decide) (fun K hK => ?_) (fun K hK => ?_)
      · skip
        refine goes_ Try.func22 (by kernel_rfl) rfl #[] (by rfl) rfl rfl (by (try simp only [List.map_toArray, List.map_cons, List.map_nil]); first | done | rfl) ?_
        refine (governorlaw09_Plain.calls _ _ _ _ _ _ _ _ _ _ _ _ _ rfl).mono ?_
        rintro e_ w_ ⟨rfl, hb⟩
        refine ⟨_, rfl, ?_⟩
        replace FB := below_step FB hb
        replace FX := blk_below FX hb
        clear hb
        refine hK.out _ _ FX (fun hHeld => ?_)
        clear hK K
        refine norm_ (a' := ?_) ?_ ?_
        rotate_left
        · show Act.put _ (some 10) _ = _
          simp only [Act.put, List.setIfInBounds_toArray, List.set_cons_zero, List.set_cons_succ, i64_w, i32_w]
          rfl
        refine two_ (i := 2) (j := 3) (Ni := some 12) (Nj := some 2) #[true, true, true, false, false] #[true, true, false, true, false] rfl rfl rfl rfl (by kernel_rfl) (by decide) (by decide) (fun K hK => ?_) (fun K hK => ?_)
        · skip
          refine goes_ Try.func14 (by kernel_rfl) rfl #[.agg #[.int .i64 1, .int .i64 20, .int .i64 4, .int .i64 3, .int .i64 100, .int .i64 1, .int .i64 50, .int .i64 4, .int .i64 2, .int .i64 1, .int .i64 3, .int .i64 1], .agg c1, .int .i64 300, .int .i64 5] (by rfl) rfl rfl (by (try simp only [List.map_toArray, List.map_cons, List.map_nil]); first | done | rfl) ?_
          refine (step_w (k := 40) (c := plainC) (k37.K_below FB HX.out) hd_y).mono ?_
          rintro e_ w_ ⟨c2, rfl, FO, hb⟩
          refine ⟨_, rfl, ?_⟩
          replace FB := below_step FB hb
          replace FX := blk_below FX hb
          clear hb
          refine hK.out _ _ FX (fun hHeld => ?_)
          clear hK K
          refine norm_ (a' := ?_) ?_ ?_
          rotate_left
          · show Act.put _ (some 12) _ = _
            simp only [Act.put, List.setIfInBounds_toArray, List.set_cons_zero, List.set_cons_succ, i64_w, i32_w]
            rfl
          refine one_ (i := 3) (N := some 2) #[true, true, true, true, false] rfl rfl (by kernel_rfl) (by decide) (fun K hK => ?_)
          refine box_step ?hg (N := 2) ?hd (cs := #[.int .i64 0, .int .i64 0, .slice none 0 0, .int .i64 0, .int .i64 0, .int .i64 0, .int .i64 0, .slice none 0 0, .int .i64 0, .int .i64 0, .bool false, .int .i64 0, .int .i64 0, .bool false, .int .i64 0, .slice none 0 0, .int .i64 0, .int .i64 0, .slice none 0 0]) (t := 37) ?hr ?_; (case hd => rfl); (case hg => rfl); (case hr => first | (go_simp; done) | (go_simp; rfl))
          intro g2 e_ w_ FZ hb
          have hge : W0.heap.size ≤ g2 := by rw [e_]; exact FB.size
          clear e_
          replace FB := below_step FB hb
          replace FX := blk_below FX hb
          replace FO := FO.below hb
          clear hb
          refine hK.out _ _ FX (fun hHeld => ?_)
          clear hK K
          refine norm_ (a' := ?_) ?_ ?_
          rotate_left
          · show Act.put _ (some 2) _ = _
            simp only [Act.put, List.setIfInBounds_toArray, List.set_cons_zero, List.set_cons_succ, i64_w, i32_w]
            rfl
          refine one_ (i := 4) (N := none) #[true, true, true, true, true] rfl rfl (by kernel_rfl) (by decide) (fun K hK => ?_)
          obtain ⟨hst, _, hn⟩ := hs_store HS.out FB hge FZ rfl FO
          have HN := Aside0.mk hn
          clear hn
          have hsz := k_size FO.K
          refine skip_ (w1 := ?_) (by rfl) rfl ?_ ?_
          rotate_left
          · go_simp
            rfl
          clear hst FZ FO FB hsz
          replace FX := (HN.out.2 (g1, sim_x, c1) (by simp)).1
          refine hK.out _ _ FX (fun hHeld => ?_)
          clear hK K
          refine done_ (by kernel_rfl) ?_
          (try go_wp2)
          go_meet
          exact ⟨g2, c2, rfl, HN.out⟩
        · skip
          refine box_step ?hg (N := 2) ?hd (cs := #[.int .i64 0, .int .i64 0, .slice none 0 0, .int .i64 0, .int .i64 0, .int .i64 0, .int .i64 0, .slice none 0 0, .int .i64 0, .int .i64 0, .bool false, .int .i64 0, .int .i64 0, .bool false, .int .i64 0, .slice none 0 0, .int .i64 0, .int .i64 0, .slice none 0 0]) (t := 37) ?hr ?_; (case hd => rfl); (case hg => rfl); (case hr => first | (go_simp; done) | (go_simp; rfl))
          intro g2 e_ w_ FZ hb
          have hge : W0.heap.size ≤ g2 := by rw [e_]; exact FB.size
          clear e_
          replace FB := below_step FB hb
          replace FX := blk_below FX hb
          clear hb
          refine hK.out _ _ FX (fun hHeld => ?_)
          clear hK K
          refine norm_ (a' := ?_) ?_ ?_
          rotate_left
          · show Act.put _ (some 2) _ = _
            simp only [Act.put, List.setIfInBounds_toArray, List.set_cons_zero, List.set_cons_succ, i64_w, i32_w]
            rfl
          refine one_ (i := 2) (N := some 12) #[true, true, true, true, false] rfl rfl (by kernel_rfl) (by decide) (fun K hK => ?_)
          refine goes_ Try.func14 (by kernel_rfl) rfl #[.agg #[.int .i64 1, .int .i64 20, .int .i64 4, .int .i64 3, .int .i64 100, .int .i64 1, .int .i64 50, .int .i64 4, .int .i64 2, .int .i64 1, .int .i64 3, .int .i64 1], .agg c1, .int .i64 300, .int .i64 5] (by rfl) rfl rfl (by (try simp only [List.map_toArray, List.map_cons, List.map_nil]); first | done | rfl) ?_
          refine (step_w (k := 40) (c := plainC) (k37.K_below FB HX.out) hd_y).mono ?_
          rintro e_ w_ ⟨c2, rfl, FO, hb⟩
          refine ⟨_, rfl, ?_⟩
          replace FB := below_step FB hb
          replace FX := blk_below FX hb
          replace FZ := blk_below FZ hb
          clear hb
          refine hK.out _ _ FX (fun hHeld => ?_)
          clear hK K
          refine norm_ (a' := ?_) ?_ ?_
          rotate_left
          · show Act.put _ (some 12) _ = _
            simp only [Act.put, List.setIfInBounds_toArray, List.set_cons_zero, List.set_cons_succ, i64_w, i32_w]
            rfl
          refine one_ (i := 4) (N := none) #[true, true, true, true, true] rfl rfl (by kernel_rfl) (by decide) (fun K hK => ?_)
          obtain ⟨hst, _, hn⟩ := hs_store HS.out FB hge FZ rfl FO
          have HN := Aside0.mk hn
          clear hn
          have hsz := k_size FO.K
          refine skip_ (w1 := ?_) (by rfl) rfl ?_ ?_
          rotate_left
          · go_simp
            rfl
          clear hst FZ FO FB hsz
          replace FX := (HN.out.2 (g1, sim_x, c1) (by simp)).1
          refine hK.out _ _ FX (fun hHeld => ?_)
          clear hK K
          refine done_ (by kernel_rfl) ?_
          (try go_wp2)
          go_meet
          exact ⟨g2, c2, rfl, HN.out⟩
      · skip
        refine box_step ?hg (N := 2) ?hd (cs := #[.int .i64 0, .int .i64 0, .slice none 0 0, .int .i64 0, .int .i64 0, .int .i64 0, .int .i64 0, .slice none 0 0, .int .i64 0, .int .i64 0, .bool false, .int .i64 0, .int .i64 0, .bool false, .int .i64 0, .slice none 0 0, .int .i64 0, .int .i64 0, .slice none 0 0]) (t := 37) ?hr ?_; (case hd => rfl); (case hg => rfl); (case hr => first | (go_simp; done) | (go_simp; rfl))
        intro g2 e_ w_ FZ hb
        have hge : W0.heap.size ≤ g2 := by rw [e_]; exact FB.size
        clear e_
        replace FB := below_step FB hb
        replace FX := blk_below FX hb
        clear hb
        refine hK.out _ _ FX (fun hHeld => ?_)
        clear hK K
        refine norm_ (a' := ?_) ?_ ?_
        rotate_left
        · show Act.put _ (some 2) _ = _
          simp only [Act.put, List.setIfInBounds_toArray, List.set_cons_zero, List.set_cons_succ, i64_w, i32_w]
          rfl
        refine one_ (i := 0) (N := some 10) #[true, true, false, true, false] rfl rfl (by kernel_rfl) (by decide) (fun K hK => ?_)
        refine goes_ Try.func22 (by kernel_rfl) rfl #[] (by rfl) rfl rfl (by (try simp only [List.map_toArray, List.map_cons, List.map_nil]); first | done | rfl) ?_
        refine (governorlaw09_Plain.calls _ _ _ _ _ _ _ _ _ _ _ _ _ rfl).mono ?_
        rintro e_ w_ ⟨rfl, hb⟩
        refine ⟨_, rfl, ?_⟩
        replace FB := below_step FB hb
        replace FX := blk_below FX hb
        replace FZ := blk_below FZ hb
        clear hb
        refine hK.out _ _ FX (fun hHeld => ?_)
        clear hK K
        refine norm_ (a' := ?_) ?_ ?_
        rotate_left
        · show Act.put _ (some 10) _ = _
          simp only [Act.put, List.setIfInBounds_toArray, List.set_cons_zero, List.set_cons_succ, i64_w, i32_w]
          rfl
        refine one_ (i := 2) (N := some 12) #[true, true, true, true, false] rfl rfl (by kernel_rfl) (by decide) (fun K hK => ?_)
        refine goes_ Try.func14 (by kernel_rfl) rfl #[.agg #[.int .i64 1, .int .i64 20, .int .i64 4, .int .i64 3, .int .i64 100, .int .i64 1, .int .i64 50, .int .i64 4, .int .i64 2, .int .i64 1, .int .i64 3, .int .i64 1], .agg c1, .int .i64 300, .int .i64 5] (by rfl) rfl rfl (by (try simp only [List.map_toArray, List.map_cons, List.map_nil]); first | done | rfl) ?_
        refine (step_w (k := 40) (c := plainC) (k37.K_below FB HX.out) hd_y).mono ?_
        rintro e_ w_ ⟨c2, rfl, FO, hb⟩
        refine ⟨_, rfl, ?_⟩
        replace FB := below_step FB hb
        replace FX := blk_below FX hb
        replace FZ := blk_below FZ hb
        clear hb
        refine hK.out _ _ FX (fun hHeld => ?_)
        clear hK K
        refine norm_ (a' := ?_) ?_ ?_
        rotate_left
        · show Act.put _ (some 12) _ = _
          simp only [Act.put, List.setIfInBounds_toArray, List.set_cons_zero, List.set_cons_succ, i64_w, i32_w]
          rfl
        refine one_ (i := 4) (N := none) #[true, true, true, true, true] rfl rfl (by kernel_rfl) (by decide) (fun K hK => ?_)
        obtain ⟨hst, _, hn⟩ := hs_store HS.out FB hge FZ rfl FO
        have HN := Aside0.mk hn
        clear hn
        have hsz := k_size FO.K
        refine skip_ (w1 := ?_) (by rfl) rfl ?_ ?_
        rotate_left
        · go_simp
          rfl
        clear hst FZ FO FB hsz
        replace FX := (HN.out.2 (g1, sim_x, c1) (by simp)).1
        refine hK.out _ _ FX (fun hHeld => ?_)
        clear hK K
        refine done_ (by kernel_rfl) ?_
        (try go_wp2)
        go_meet
        exact ⟨g2, c2, rfl, HN.out⟩
    case rest =>
      obtain ⟨g2, c2, rfl, hn⟩ := hcut
      clear HS
      have HS := Aside0.mk hn
      clear hn
      generalize wc = W0 at HS ⊢
      go_upto_region 3 with (fail)
      go_cut [3] (fun v wc => ∃ (g : Nat) (cs : Array Value), v = .pointer (some ⟨g, 0, none⟩) ∧ Hs w wc ((g, sim_z, cs) :: (g2, sim_y, c2) :: (g1, sim_x, c1) :: []))
      case first =>
        have FX := (HS.out.2 (g2, sim_y, c2) (by simp)).1
        have HX := Aside0.mk (HS.out.2 (g2, sim_y, c2) (by simp)).2
        refine start_ (n := 5) (S := fun w' => w'.heap[g2]? = some (.cells c2 37 (0, 0))) (ds := []) #[false, false, false, false, false] (by kernel_rfl) rfl rfl FX (fun hHeld => ?_)
        have FB := below_drew1 (Below.refl W0.heap.size W0)
        replace FX := blk_below FX FB
        generalize W0.drew = w9 at FB FX hHeld ⊢
        refine take_ (i := 1) (N := some 14) (v := .agg c2) (a' := ?_) #[false, true, false, false, false] rfl rfl (by kernel_rfl) (fun _ _ _ h => h) (yields_row (by rfl) 37 (.tmp 2) rfl g2 rfl c2 _ (fun w' hS => range_row hS) hu1 rfl (k_info HX.out)) hHeld ?_ ?_
        rotate_left
        · simp only [Act.put, List.setIfInBounds_toArray, List.set_cons_zero, List.set_cons_succ, i64_w, i32_w]
          rfl
        refine two_ (i := 0) (j := 3) (Ni := some 13) (Nj := some 3) #[true, true, false, false, false] #[false, true, false, true, false] rfl rfl rfl rfl (by kernel_rfl) (by decide) (by decide) (fun K hK => ?_) (fun K hK => ?_)
        · skip
          refine goes_ Try.func22 (by kernel_rfl) rfl #[] (by rfl) rfl rfl (by (try simp only [List.map_toArray, List.map_cons, List.map_nil]); first | done | rfl) ?_
          refine (governorlaw09_Plain.calls _ _ _ _ _ _ _ _ _ _ _ _ _ rfl).mono ?_
          rintro e_ w_ ⟨rfl, hb⟩
          refine ⟨_, rfl, ?_⟩
          replace FB := below_step FB hb
          replace FX := blk_below FX hb
          clear hb
          refine hK.out _ _ FX (fun hHeld => ?_)
          clear hK K
          refine norm_ (a' := ?_) ?_ ?_
          rotate_left
          · show Act.put _ (some 13) _ = _
            simp only [Act.put, List.setIfInBounds_toArray, List.set_cons_zero, List.set_cons_succ, i64_w, i32_w]
            rfl
          refine two_ (i := 2) (j := 3) (Ni := some 15) (Nj := some 3) #[true, true, true, false, false] #[true, true, false, true, false] rfl rfl rfl rfl (by kernel_rfl) (by decide) (by decide) (fun K hK => ?_) (fun K hK => ?_)
          · skip
            refine goes_ Try.func14 (by kernel_rfl) rfl #[.agg #[.int .i64 1, .int .i64 20, .int .i64 4, .int .i64 3, .int .i64 100, .int .i64 1, .int .i64 50, .int .i64 4, .int .i64 2, .int .i64 1, .int .i64 3, .int .i64 1], .agg c2, .int .i64 300, .int .i64 6] (by rfl) rfl rfl (by (try simp only [List.map_toArray, List.map_cons, List.map_nil]); first | done | rfl) ?_
            refine (step_w (k := 40) (c := plainC) (k37.K_below FB HX.out) hd_z).mono ?_
            rintro e_ w_ ⟨c3, rfl, FO, hb⟩
            refine ⟨_, rfl, ?_⟩
            replace FB := below_step FB hb
            replace FX := blk_below FX hb
            clear hb
            refine hK.out _ _ FX (fun hHeld => ?_)
            clear hK K
            refine norm_ (a' := ?_) ?_ ?_
            rotate_left
            · show Act.put _ (some 15) _ = _
              simp only [Act.put, List.setIfInBounds_toArray, List.set_cons_zero, List.set_cons_succ, i64_w, i32_w]
              rfl
            refine one_ (i := 3) (N := some 3) #[true, true, true, true, false] rfl rfl (by kernel_rfl) (by decide) (fun K hK => ?_)
            refine box_step ?hg (N := 3) ?hd (cs := #[.int .i64 0, .int .i64 0, .slice none 0 0, .int .i64 0, .int .i64 0, .int .i64 0, .int .i64 0, .slice none 0 0, .int .i64 0, .int .i64 0, .bool false, .int .i64 0, .int .i64 0, .bool false, .int .i64 0, .slice none 0 0, .int .i64 0, .int .i64 0, .slice none 0 0]) (t := 37) ?hr ?_; (case hd => rfl); (case hg => rfl); (case hr => first | (go_simp; done) | (go_simp; rfl))
            intro g3 e_ w_ FZ hb
            have hge : W0.heap.size ≤ g3 := by rw [e_]; exact FB.size
            clear e_
            replace FB := below_step FB hb
            replace FX := blk_below FX hb
            replace FO := FO.below hb
            clear hb
            refine hK.out _ _ FX (fun hHeld => ?_)
            clear hK K
            refine norm_ (a' := ?_) ?_ ?_
            rotate_left
            · show Act.put _ (some 3) _ = _
              simp only [Act.put, List.setIfInBounds_toArray, List.set_cons_zero, List.set_cons_succ, i64_w, i32_w]
              rfl
            refine one_ (i := 4) (N := none) #[true, true, true, true, true] rfl rfl (by kernel_rfl) (by decide) (fun K hK => ?_)
            obtain ⟨hst, _, hn⟩ := hs_store HS.out FB hge FZ rfl FO
            have HN := Aside0.mk hn
            clear hn
            have hsz := k_size FO.K
            refine skip_ (w1 := ?_) (by rfl) rfl ?_ ?_
            rotate_left
            · go_simp
              rfl
            clear hst FZ FO FB hsz
            replace FX := (HN.out.2 (g2, sim_y, c2) (by simp)).1
            refine hK.out _ _ FX (fun hHeld => ?_)
            clear hK K
            refine done_ (by kernel_rfl) ?_
            (try go_wp2)
            go_meet
            exact ⟨g3, c3, rfl, HN.out⟩
          · skip
            refine box_step ?hg (N := 3) ?hd (cs := #[.int .i64 0, .int .i64 0, .slice none 0 0, .int .i64 0, .int .i64 0, .int .i64 0, .int .i64 0, .slice none 0 0, .int .i64 0, .int .i64 0, .bool false, .int .i64 0, .int .i64 0, .bool false, .int .i64 0, .slice none 0 0, .int .i64 0, .int .i64 0, .slice none 0 0]) (t := 37) ?hr ?_; (case hd => rfl); (case hg => rfl); (case hr => first | (go_simp; done) | (go_simp; rfl))
            intro g3 e_ w_ FZ hb
            have hge : W0.heap.size ≤ g3 := by rw [e_]; exact FB.size
            clear e_
            replace FB := below_step FB hb
            replace FX := blk_below FX hb
            clear hb
            refine hK.out _ _ FX (fun hHeld => ?_)
            clear hK K
            refine norm_ (a' := ?_) ?_ ?_
            rotate_left
            · show Act.put _ (some 3) _ = _
              simp only [Act.put, List.setIfInBounds_toArray, List.set_cons_zero, List.set_cons_succ, i64_w, i32_w]
              rfl
            refine one_ (i := 2) (N := some 15) #[true, true, true, true, false] rfl rfl (by kernel_rfl) (by decide) (fun K hK => ?_)
            refine goes_ Try.func14 (by kernel_rfl) rfl #[.agg #[.int .i64 1, .int .i64 20, .int .i64 4, .int .i64 3, .int .i64 100, .int .i64 1, .int .i64 50, .int .i64 4, .int .i64 2, .int .i64 1, .int .i64 3, .int .i64 1], .agg c2, .int .i64 300, .int .i64 6] (by rfl) rfl rfl (by (try simp only [List.map_toArray, List.map_cons, List.map_nil]); first | done | rfl) ?_
            refine (step_w (k := 40) (c := plainC) (k37.K_below FB HX.out) hd_z).mono ?_
            rintro e_ w_ ⟨c3, rfl, FO, hb⟩
            refine ⟨_, rfl, ?_⟩
            replace FB := below_step FB hb
            replace FX := blk_below FX hb
            replace FZ := blk_below FZ hb
            clear hb
            refine hK.out _ _ FX (fun hHeld => ?_)
            clear hK K
            refine norm_ (a' := ?_) ?_ ?_
            rotate_left
            · show Act.put _ (some 15) _ = _
              simp only [Act.put, List.setIfInBounds_toArray, List.set_cons_zero, List.set_cons_succ, i64_w, i32_w]
              rfl
            refine one_ (i := 4) (N := none) #[true, true, true, true, true] rfl rfl (by kernel_rfl) (by decide) (fun K hK => ?_)
            obtain ⟨hst, _, hn⟩ := hs_store HS.out FB hge FZ rfl FO
            have HN := Aside0.mk hn
            clear hn
            have hsz := k_size FO.K
            refine skip_ (w1 := ?_) (by rfl) rfl ?_ ?_
            rotate_left
            · go_simp
              rfl
            clear hst FZ FO FB hsz
            replace FX := (HN.out.2 (g2, sim_y, c2) (by simp)).1
            refine hK.out _ _ FX (fun hHeld => ?_)
            clear hK K
            refine done_ (by kernel_rfl) ?_
            (try go_wp2)
            go_meet
            exact ⟨g3, c3, rfl, HN.out⟩
        · skip
          refine box_step ?hg (N := 3) ?hd (cs := #[.int .i64 0, .int .i64 0, .slice none 0 0, .int .i64 0, .int .i64 0, .int .i64 0, .int .i64 0, .slice none 0 0, .int .i64 0, .int .i64 0, .bool false, .int .i64 0, .int .i64 0, .bool false, .int .i64 0, .slice none 0 0, .int .i64 0, .int .i64 0, .slice none 0 0]) (t := 37) ?hr ?_; (case hd => rfl); (case hg => rfl); (case hr => first | (go_simp; done) | (go_simp; rfl))
          intro g3 e_ w_ FZ hb
          have hge : W0.heap.size ≤ g3 := by rw [e_]; exact FB.size
          clear e_
          replace FB := below_step FB hb
          replace FX := blk_below FX hb
          clear hb
          refine hK.out _ _ FX (fun hHeld => ?_)
          clear hK K
          refine norm_ (a' := ?_) ?_ ?_
          rotate_left
          · show Act.put _ (some 3) _ = _
            simp only [Act.put, List.setIfInBounds_toArray, List.set_cons_zero, List.set_cons_succ, i64_w, i32_w]
            rfl
          refine one_ (i := 0) (N := some 13) #[true, true, false, true, false] rfl rfl (by kernel_rfl) (by decide) (fun K hK => ?_)
          refine goes_ Try.func22 (by kernel_rfl) rfl #[] (by rfl) rfl rfl (by (try simp only [List.map_toArray, List.map_cons, List.map_nil]); first | done | rfl) ?_
          refine (governorlaw09_Plain.calls _ _ _ _ _ _ _ _ _ _ _ _ _ rfl).mono ?_
          rintro e_ w_ ⟨rfl, hb⟩
          refine ⟨_, rfl, ?_⟩
          replace FB := below_step FB hb
          replace FX := blk_below FX hb
          replace FZ := blk_below FZ hb
          clear hb
          refine hK.out _ _ FX (fun hHeld => ?_)
          clear hK K
          refine norm_ (a' := ?_) ?_ ?_
          rotate_left
          · show Act.put _ (some 13) _ = _
            simp only [Act.put, List.setIfInBounds_toArray, List.set_cons_zero, List.set_cons_succ, i64_w, i32_w]
            rfl
          refine one_ (i := 2) (N := some 15) #[true, true, true, true, false] rfl rfl (by kernel_rfl) (by decide) (fun K hK => ?_)
          refine goes_ Try.func14 (by kernel_rfl) rfl #[.agg #[.int .i64 1, .int .i64 20, .int .i64 4, .int .i64 3, .int .i64 100, .int .i64 1, .int .i64 50, .int .i64 4, .int .i64 2, .int .i64 1, .int .i64 3, .int .i64 1], .agg c2, .int .i64 300, .int .i64 6] (by rfl) rfl rfl (by (try simp only [List.map_toArray, List.map_cons, List.map_nil]); first | done | rfl) ?_
          refine (step_w (k := 40) (c := plainC) (k37.K_below FB HX.out) hd_z).mono ?_
          rintro e_ w_ ⟨c3, rfl, FO, hb⟩
          refine ⟨_, rfl, ?_⟩
          replace FB := below_step FB hb
          replace FX := blk_below FX hb
          replace FZ := blk_below FZ hb
          clear hb
          refine hK.out _ _ FX (fun hHeld => ?_)
          clear hK K
          refine norm_ (a' := ?_) ?_ ?_
          rotate_left
          · show Act.put _ (some 15) _ = _
            simp only [Act.put, List.setIfInBounds_toArray, List.set_cons_zero, List.set_cons_succ, i64_w, i32_w]
            rfl
          refine one_ (i := 4) (N := none) #[true, true, true, true, true] rfl rfl (by kernel_rfl) (by decide) (fun K hK => ?_)
          obtain ⟨hst, _, hn⟩ := hs_store HS.out FB hge FZ rfl FO
          have HN := Aside0.mk hn
          clear hn
          have hsz := k_size FO.K
          refine skip_ (w1 := ?_) (by rfl) rfl ?_ ?_
          rotate_left
          · go_simp
            rfl
          clear hst FZ FO FB hsz
          replace FX := (HN.out.2 (g2, sim_y, c2) (by simp)).1
          refine hK.out _ _ FX (fun hHeld => ?_)
          clear hK K
          refine done_ (by kernel_rfl) ?_
          (try go_wp2)
          go_meet
          exact ⟨g3, c3, rfl, HN.out⟩
      case rest =>
        obtain ⟨g3, c3, rfl, hn⟩ := hcut
        clear HS
        have HS := Aside0.mk hn
        clear hn
        generalize wc = W0 at HS ⊢
        go_upto_region 4 with (fail)
        go_cut [4] (fun v wc => ∃ (g : Nat) (cs : Array Value), v = .pointer (some ⟨g, 0, none⟩) ∧ Hs w wc ((g, sim_u, cs) :: (g3, sim_z, c3) :: (g2, sim_y, c2) :: (g1, sim_x, c1) :: []))
        case first =>
          have FX := (HS.out.2 (g3, sim_z, c3) (by simp)).1
          have HX := Aside0.mk (HS.out.2 (g3, sim_z, c3) (by simp)).2
          refine start_ (n := 5) (S := fun w' => w'.heap[g3]? = some (.cells c3 37 (0, 0))) (ds := []) #[false, false, false, false, false] (by kernel_rfl) rfl rfl FX (fun hHeld => ?_)
          have FB := below_drew1 (Below.refl W0.heap.size W0)
          replace FX := blk_below FX FB
          generalize W0.drew = w9 at FB FX hHeld ⊢
          refine take_ (i := 1) (N := some 17) (v := .agg c3) (a' := ?_) #[false, true, false, false, false] rfl rfl (by kernel_rfl) (fun _ _ _ h => h) (yields_row (by rfl) 37 (.tmp 3) rfl g3 rfl c3 _ (fun w' hS => range_row hS) hu1 rfl (k_info HX.out)) hHeld ?_ ?_
          rotate_left
          · simp only [Act.put, List.setIfInBounds_toArray, List.set_cons_zero, List.set_cons_succ, i64_w, i32_w]
            rfl
          refine two_ (i := 0) (j := 3) (Ni := some 16) (Nj := some 4) #[true, true, false, false, false] #[false, true, false, true, false] rfl rfl rfl rfl (by kernel_rfl) (by decide) (by decide) (fun K hK => ?_) (fun K hK => ?_)
          · skip
            refine goes_ Try.func22 (by kernel_rfl) rfl #[] (by rfl) rfl rfl (by (try simp only [List.map_toArray, List.map_cons, List.map_nil]); first | done | rfl) ?_
            refine (governorlaw09_Plain.calls _ _ _ _ _ _ _ _ _ _ _ _ _ rfl).mono ?_
            rintro e_ w_ ⟨rfl, hb⟩
            refine ⟨_, rfl, ?_⟩
            replace FB := below_step FB hb
            replace FX := blk_below FX hb
            clear hb
            refine hK.out _ _ FX (fun hHeld => ?_)
            clear hK K
            refine norm_ (a' := ?_) ?_ ?_
            rotate_left
            · show Act.put _ (some 16) _ = _
              simp only [Act.put, List.setIfInBounds_toArray, List.set_cons_zero, List.set_cons_succ, i64_w, i32_w]
              rfl
            refine two_ (i := 2) (j := 3) (Ni := some 18) (Nj := some 4) #[true, true, true, false, false] #[true, true, false, true, false] rfl rfl rfl rfl (by kernel_rfl) (by decide) (by decide) (fun K hK => ?_) (fun K hK => ?_)
            · skip
              refine goes_ Try.func14 (by kernel_rfl) rfl #[.agg #[.int .i64 1, .int .i64 20, .int .i64 4, .int .i64 3, .int .i64 100, .int .i64 1, .int .i64 50, .int .i64 4, .int .i64 2, .int .i64 1, .int .i64 3, .int .i64 1], .agg c3, .int .i64 300, .int .i64 7] (by rfl) rfl rfl (by (try simp only [List.map_toArray, List.map_cons, List.map_nil]); first | done | rfl) ?_
              refine (step_w (k := 40) (c := plainC) (k37.K_below FB HX.out) hd_u).mono ?_
              rintro e_ w_ ⟨c4, rfl, FO, hb⟩
              refine ⟨_, rfl, ?_⟩
              replace FB := below_step FB hb
              replace FX := blk_below FX hb
              clear hb
              refine hK.out _ _ FX (fun hHeld => ?_)
              clear hK K
              refine norm_ (a' := ?_) ?_ ?_
              rotate_left
              · show Act.put _ (some 18) _ = _
                simp only [Act.put, List.setIfInBounds_toArray, List.set_cons_zero, List.set_cons_succ, i64_w, i32_w]
                rfl
              refine one_ (i := 3) (N := some 4) #[true, true, true, true, false] rfl rfl (by kernel_rfl) (by decide) (fun K hK => ?_)
              refine box_step ?hg (N := 4) ?hd (cs := #[.int .i64 0, .int .i64 0, .slice none 0 0, .int .i64 0, .int .i64 0, .int .i64 0, .int .i64 0, .slice none 0 0, .int .i64 0, .int .i64 0, .bool false, .int .i64 0, .int .i64 0, .bool false, .int .i64 0, .slice none 0 0, .int .i64 0, .int .i64 0, .slice none 0 0]) (t := 37) ?hr ?_; (case hd => rfl); (case hg => rfl); (case hr => first | (go_simp; done) | (go_simp; rfl))
              intro g4 e_ w_ FZ hb
              have hge : W0.heap.size ≤ g4 := by rw [e_]; exact FB.size
              clear e_
              replace FB := below_step FB hb
              replace FX := blk_below FX hb
              replace FO := FO.below hb
              clear hb
              refine hK.out _ _ FX (fun hHeld => ?_)
              clear hK K
              refine norm_ (a' := ?_) ?_ ?_
              rotate_left
              · show Act.put _ (some 4) _ = _
                simp only [Act.put, List.setIfInBounds_toArray, List.set_cons_zero, List.set_cons_succ, i64_w, i32_w]
                rfl
              refine one_ (i := 4) (N := none) #[true, true, true, true, true] rfl rfl (by kernel_rfl) (by decide) (fun K hK => ?_)
              obtain ⟨hst, _, hn⟩ := hs_store HS.out FB hge FZ rfl FO
              have HN := Aside0.mk hn
              clear hn
              have hsz := k_size FO.K
              refine skip_ (w1 := ?_) (by rfl) rfl ?_ ?_
              rotate_left
              · go_simp
                rfl
              clear hst FZ FO FB hsz
              replace FX := (HN.out.2 (g3, sim_z, c3) (by simp)).1
              refine hK.out _ _ FX (fun hHeld => ?_)
              clear hK K
              refine done_ (by kernel_rfl) ?_
              (try go_wp2)
              go_meet
              exact ⟨g4, c4, rfl, HN.out⟩
            · skip
              refine box_step ?hg (N := 4) ?hd (cs := #[.int .i64 0, .int .i64 0, .slice none 0 0, .int .i64 0, .int .i64 0, .int .i64 0, .int .i64 0, .slice none 0 0, .int .i64 0, .int .i64 0, .bool false, .int .i64 0, .int .i64 0, .bool false, .int .i64 0, .slice none 0 0, .int .i64 0, .int .i64 0, .slice none 0 0]) (t := 37) ?hr ?_; (case hd => rfl); (case hg => rfl); (case hr => first | (go_simp; done) | (go_simp; rfl))
              intro g4 e_ w_ FZ hb
              have hge : W0.heap.size ≤ g4 := by rw [e_]; exact FB.size
              clear e_
              replace FB := below_step FB hb
              replace FX := blk_below FX hb
              clear hb
              refine hK.out _ _ FX (fun hHeld => ?_)
              clear hK K
              refine norm_ (a' := ?_) ?_ ?_
              rotate_left
              · show Act.put _ (some 4) _ = _
                simp only [Act.put, List.setIfInBounds_toArray, List.set_cons_zero, List.set_cons_succ, i64_w, i32_w]
                rfl
              refine one_ (i := 2) (N := some 18) #[true, true, true, true, false] rfl rfl (by kernel_rfl) (by decide) (fun K hK => ?_)
              refine goes_ Try.func14 (by kernel_rfl) rfl #[.agg #[.int .i64 1, .int .i64 20, .int .i64 4, .int .i64 3, .int .i64 100, .int .i64 1, .int .i64 50, .int .i64 4, .int .i64 2, .int .i64 1, .int .i64 3, .int .i64 1], .agg c3, .int .i64 300, .int .i64 7] (by rfl) rfl rfl (by (try simp only [List.map_toArray, List.map_cons, List.map_nil]); first | done | rfl) ?_
              refine (step_w (k := 40) (c := plainC) (k37.K_below FB HX.out) hd_u).mono ?_
              rintro e_ w_ ⟨c4, rfl, FO, hb⟩
              refine ⟨_, rfl, ?_⟩
              replace FB := below_step FB hb
              replace FX := blk_below FX hb
              replace FZ := blk_below FZ hb
              clear hb
              refine hK.out _ _ FX (fun hHeld => ?_)
              clear hK K
              refine norm_ (a' := ?_) ?_ ?_
              rotate_left
              · show Act.put _ (some 18) _ = _
                simp only [Act.put, List.setIfInBounds_toArray, List.set_cons_zero, List.set_cons_succ, i64_w, i32_w]
                rfl
              refine one_ (i := 4) (N := none) #[true, true, true, true, true] rfl rfl (by kernel_rfl) (by decide) (fun K hK => ?_)
              obtain ⟨hst, _, hn⟩ := hs_store HS.out FB hge FZ rfl FO
              have HN := Aside0.mk hn
              clear hn
              have hsz := k_size FO.K
              refine skip_ (w1 := ?_) (by rfl) rfl ?_ ?_
              rotate_left
              · go_simp
                rfl
              clear hst FZ FO FB hsz
              replace FX := (HN.out.2 (g3, sim_z, c3) (by simp)).1
              refine hK.out _ _ FX (fun hHeld => ?_)
              clear hK K
              refine done_ (by kernel_rfl) ?_
              (try go_wp2)
              go_meet
              exact ⟨g4, c4, rfl, HN.out⟩
          · skip
            refine box_step ?hg (N := 4) ?hd (cs := #[.int .i64 0, .int .i64 0, .slice none 0 0, .int .i64 0, .int .i64 0, .int .i64 0, .int .i64 0, .slice none 0 0, .int .i64 0, .int .i64 0, .bool false, .int .i64 0, .int .i64 0, .bool false, .int .i64 0, .slice none 0 0, .int .i64 0, .int .i64 0, .slice none 0 0]) (t := 37) ?hr ?_; (case hd => rfl); (case hg => rfl); (case hr => first | (go_simp; done) | (go_simp; rfl))
            intro g4 e_ w_ FZ hb
            have hge : W0.heap.size ≤ g4 := by rw [e_]; exact FB.size
            clear e_
            replace FB := below_step FB hb
            replace FX := blk_below FX hb
            clear hb
            refine hK.out _ _ FX (fun hHeld => ?_)
            clear hK K
            refine norm_ (a' := ?_) ?_ ?_
            rotate_left
            · show Act.put _ (some 4) _ = _
              simp only [Act.put, List.setIfInBounds_toArray, List.set_cons_zero, List.set_cons_succ, i64_w, i32_w]
              rfl
            refine one_ (i := 0) (N := some 16) #[true, true, false, true, false] rfl rfl (by kernel_rfl) (by decide) (fun K hK => ?_)
            refine goes_ Try.func22 (by kernel_rfl) rfl #[] (by rfl) rfl rfl (by (try simp only [List.map_toArray, List.map_cons, List.map_nil]); first | done | rfl) ?_
            refine (governorlaw09_Plain.calls _ _ _ _ _ _ _ _ _ _ _ _ _ rfl).mono ?_
            rintro e_ w_ ⟨rfl, hb⟩
            refine ⟨_, rfl, ?_⟩
            replace FB := below_step FB hb
            replace FX := blk_below FX hb
            replace FZ := blk_below FZ hb
            clear hb
            refine hK.out _ _ FX (fun hHeld => ?_)
            clear hK K
            refine norm_ (a' := ?_) ?_ ?_
            rotate_left
            · show Act.put _ (some 16) _ = _
              simp only [Act.put, List.setIfInBounds_toArray, List.set_cons_zero, List.set_cons_succ, i64_w, i32_w]
              rfl
            refine one_ (i := 2) (N := some 18) #[true, true, true, true, false] rfl rfl (by kernel_rfl) (by decide) (fun K hK => ?_)
            refine goes_ Try.func14 (by kernel_rfl) rfl #[.agg #[.int .i64 1, .int .i64 20, .int .i64 4, .int .i64 3, .int .i64 100, .int .i64 1, .int .i64 50, .int .i64 4, .int .i64 2, .int .i64 1, .int .i64 3, .int .i64 1], .agg c3, .int .i64 300, .int .i64 7] (by rfl) rfl rfl (by (try simp only [List.map_toArray, List.map_cons, List.map_nil]); first | done | rfl) ?_
            refine (step_w (k := 40) (c := plainC) (k37.K_below FB HX.out) hd_u).mono ?_
            rintro e_ w_ ⟨c4, rfl, FO, hb⟩
            refine ⟨_, rfl, ?_⟩
            replace FB := below_step FB hb
            replace FX := blk_below FX hb
            replace FZ := blk_below FZ hb
            clear hb
            refine hK.out _ _ FX (fun hHeld => ?_)
            clear hK K
            refine norm_ (a' := ?_) ?_ ?_
            rotate_left
            · show Act.put _ (some 18) _ = _
              simp only [Act.put, List.setIfInBounds_toArray, List.set_cons_zero, List.set_cons_succ, i64_w, i32_w]
              rfl
            refine one_ (i := 4) (N := none) #[true, true, true, true, true] rfl rfl (by kernel_rfl) (by decide) (fun K hK => ?_)
            obtain ⟨hst, _, hn⟩ := hs_store HS.out FB hge FZ rfl FO
            have HN := Aside0.mk hn
            clear hn
            have hsz := k_size FO.K
            refine skip_ (w1 := ?_) (by rfl) rfl ?_ ?_
            rotate_left
            · go_simp
              rfl
            clear hst FZ FO FB hsz
            replace FX := (HN.out.2 (g3, sim_z, c3) (by simp)).1
            refine hK.out _ _ FX (fun hHeld => ?_)
            clear hK K
            refine done_ (by kernel_rfl) ?_
            (try go_wp2)
            go_meet
            exact ⟨g4, c4, rfl, HN.out⟩
        case rest =>
          obtain ⟨g4, c4, rfl, hn⟩ := hcut
          clear HS
          have HS := Aside0.mk hn
          clear hn
          generalize wc = W0 at HS ⊢
          go_upto_region 5 with (fail)
          go_cut [5] (fun v wc => ∃ (g : Nat) (cs : Array Value), v = .pointer (some ⟨g, 0, none⟩) ∧ Hs w wc ((g, sim_n, cs) :: (g4, sim_u, c4) :: (g3, sim_z, c3) :: (g2, sim_y, c2) :: (g1, sim_x, c1) :: []))
          case first =>
            have HB : Aside0 (Below W0.heap.size W0 W0) := ⟨Below.refl _ _⟩
            go_wp2_with (first
              | (go_at_call 22; refine (governorlaw09_Plain.calls _ _ _ _ _ _ _ _ _ _ _ _ _ rfl).mono ?_; rintro e_ w1 ⟨rfl, hb⟩; replace HB := Aside0.mk (below_step HB.out hb); clear hb)
              | (go_at_call 14; refine (step_w (k := 40) (c := plainC) (cs := #[.int .i64 0, .int .i64 0, .slice none 0 0, .int .i64 0, .int .i64 0, .int .i64 0, .int .i64 0, .slice none 0 0, .int .i64 0, .int .i64 0, .bool false, .int .i64 7, .int .i64 0, .bool false, .int .i64 0, .slice none 0 0, .int .i64 0, .int .i64 0, .slice none 0 0]) (k37_mk _ sim_n (A2 := none) (c2 := 0) (Nat.le_refl _) (Kd.C_nil _ _) (A7 := none) (c7 := 0) (Nat.le_refl _) (Kd.C_nil _ _) (A15 := none) (c15 := 0) (Nat.le_refl _) (Kd.C_nil _ _) (A18 := none) (c18 := 0) (Nat.le_refl _) (Kd.C_nil _ _)) hd_n).mono ?_; rintro e_ w2 ⟨c5, rfl, own, hb⟩; have hsz := k_size own.K; have HO := Aside0.mk own; replace HB := Aside0.mk (below_step HB.out hb); clear own hb)
              | ((with_reducible refine gate_dst (N := 5) rfl ?_); refine box_event ?hg (N := 5) ?hd (cs := #[.int .i64 0, .int .i64 0, .slice none 0 0, .int .i64 0, .int .i64 0, .int .i64 0, .int .i64 0, .slice none 0 0, .int .i64 0, .int .i64 0, .bool false, .int .i64 0, .int .i64 0, .bool false, .int .i64 0, .slice none 0 0, .int .i64 0, .int .i64 0, .slice none 0 0]) (t := 37) ?hr ?_; (case hd => rfl); (case hg => rfl); (case hr => first | (go_simp; done) | (go_simp; rfl)); intro g5 hg w3 FZ hb; obtain ⟨hst, _, hn⟩ := hs_store HS.out (below_step HB.out hb) (by rw [hg]; exact HB.out.size) FZ rfl (HO.out.below hb); have HN := Aside0.mk hn; clear hn FZ hb hg))
            go_meet
            exact ⟨g5, c5, rfl, HN.out⟩
          case rest =>
            obtain ⟨g5, c5, rfl, hn⟩ := hcut
            clear HS
            have HS := Aside0.mk hn
            generalize wc = W0 at HS hn ⊢
            obtain ⟨fx, kx⟩ := hn.2 (g1, sim_x, c1) (by simp)
            obtain ⟨A2x, d2x, A7x, d7x, A15x, d15x, A18x, d18x, ex, l2x, r2x, l7x, r7x, l15x, r15x, l18x, r18x⟩ := k37_open kx
            obtain rfl : c1 = #[.int .i64 sim_x.f0.f0, .int .i64 sim_x.f0.f1, .slice A2x sim_x.f0.f2.length d2x, .int .i64 sim_x.f0.f3, .int .i64 sim_x.f0.f4, .int .i64 sim_x.f0.f5, .int .i64 sim_x.f0.f6, .slice A7x sim_x.f0.f7.length d7x, .int .i64 sim_x.f1.f0, .int .i64 sim_x.f1.f1, .bool sim_x.f1.f2, .int .i64 sim_x.f2.f0, .int .i64 sim_x.f2.f1, .bool sim_x.f2.f2, .int .i64 sim_x.f3.f0, .slice A15x sim_x.f3.f1.length d15x, .int .i64 sim_x.f3.f2, .int .i64 sim_x.f3.f3, .slice A18x sim_x.f4.length d18x] := by cases c1; simpa using ex
            have b14_x : W0.cell? ⟨g1, 14, none⟩ = some (.int .i64 2) := blk_cell fx 14
            obtain ⟨fy, ky⟩ := hn.2 (g2, sim_y, c2) (by simp)
            obtain ⟨A2y, d2y, A7y, d7y, A15y, d15y, A18y, d18y, ey, l2y, r2y, l7y, r7y, l15y, r15y, l18y, r18y⟩ := k37_open ky
            obtain rfl : c2 = #[.int .i64 sim_y.f0.f0, .int .i64 sim_y.f0.f1, .slice A2y sim_y.f0.f2.length d2y, .int .i64 sim_y.f0.f3, .int .i64 sim_y.f0.f4, .int .i64 sim_y.f0.f5, .int .i64 sim_y.f0.f6, .slice A7y sim_y.f0.f7.length d7y, .int .i64 sim_y.f1.f0, .int .i64 sim_y.f1.f1, .bool sim_y.f1.f2, .int .i64 sim_y.f2.f0, .int .i64 sim_y.f2.f1, .bool sim_y.f2.f2, .int .i64 sim_y.f3.f0, .slice A15y sim_y.f3.f1.length d15y, .int .i64 sim_y.f3.f2, .int .i64 sim_y.f3.f3, .slice A18y sim_y.f4.length d18y] := by cases c2; simpa using ey
            have b11_y : W0.cell? ⟨g2, 11, none⟩ = some (.int .i64 1) := blk_cell fy 11
            have b16_y : W0.cell? ⟨g2, 16, none⟩ = some (.int .i64 200) := blk_cell fy 16
            have b18_y : W0.cell? ⟨g2, 18, none⟩ = some (.slice A18y 1 d18y) := blk_cell fy 18
            obtain ⟨fz, kz⟩ := hn.2 (g3, sim_z, c3) (by simp)
            obtain ⟨A2z, d2z, A7z, d7z, A15z, d15z, A18z, d18z, ez, l2z, r2z, l7z, r7z, l15z, r15z, l18z, r18z⟩ := k37_open kz
            obtain rfl : c3 = #[.int .i64 sim_z.f0.f0, .int .i64 sim_z.f0.f1, .slice A2z sim_z.f0.f2.length d2z, .int .i64 sim_z.f0.f3, .int .i64 sim_z.f0.f4, .int .i64 sim_z.f0.f5, .int .i64 sim_z.f0.f6, .slice A7z sim_z.f0.f7.length d7z, .int .i64 sim_z.f1.f0, .int .i64 sim_z.f1.f1, .bool sim_z.f1.f2, .int .i64 sim_z.f2.f0, .int .i64 sim_z.f2.f1, .bool sim_z.f2.f2, .int .i64 sim_z.f3.f0, .slice A15z sim_z.f3.f1.length d15z, .int .i64 sim_z.f3.f2, .int .i64 sim_z.f3.f3, .slice A18z sim_z.f4.length d18z] := by cases c3; simpa using ez
            have b11_z : W0.cell? ⟨g3, 11, none⟩ = some (.int .i64 3) := blk_cell fz 11
            have b12_z : W0.cell? ⟨g3, 12, none⟩ = some (.int .i64 6) := blk_cell fz 12
            have b13_z : W0.cell? ⟨g3, 13, none⟩ = some (.bool true) := blk_cell fz 13
            have b16_z : W0.cell? ⟨g3, 16, none⟩ = some (.int .i64 400) := blk_cell fz 16
            obtain ⟨fu, ku⟩ := hn.2 (g4, sim_u, c4) (by simp)
            obtain ⟨A2u, d2u, A7u, d7u, A15u, d15u, A18u, d18u, eu, l2u, r2u, l7u, r7u, l15u, r15u, l18u, r18u⟩ := k37_open ku
            obtain rfl : c4 = #[.int .i64 sim_u.f0.f0, .int .i64 sim_u.f0.f1, .slice A2u sim_u.f0.f2.length d2u, .int .i64 sim_u.f0.f3, .int .i64 sim_u.f0.f4, .int .i64 sim_u.f0.f5, .int .i64 sim_u.f0.f6, .slice A7u sim_u.f0.f7.length d7u, .int .i64 sim_u.f1.f0, .int .i64 sim_u.f1.f1, .bool sim_u.f1.f2, .int .i64 sim_u.f2.f0, .int .i64 sim_u.f2.f1, .bool sim_u.f2.f2, .int .i64 sim_u.f3.f0, .slice A15u sim_u.f3.f1.length d15u, .int .i64 sim_u.f3.f2, .int .i64 sim_u.f3.f3, .slice A18u sim_u.f4.length d18u] := by cases c4; simpa using eu
            have b11_u : W0.cell? ⟨g4, 11, none⟩ = some (.int .i64 7) := blk_cell fu 11
            have b14_u : W0.cell? ⟨g4, 14, none⟩ = some (.int .i64 3) := blk_cell fu 14
            have b18_u : W0.cell? ⟨g4, 18, none⟩ = some (.slice A18u 3 d18u) := blk_cell fu 18
            obtain ⟨ad, e0, u0, u1⟩ := at_T52 r18y (0 : Int) (show (0 : Int) ≤ 0 by decide) (show (0 : Int) < ((sim_y.f4).length : Int) by decide)
            subst e0
            change _ = some (Value.int .i64 1) at u0
            change _ = some (Value.bool true) at u1
            rw [show ad.add ((0 : Int).toNat * 2) = ad by simp [Addr.add]] at u0 u1
            obtain ⟨fn, kn⟩ := hn.2 (g5, sim_n, c5) (by simp)
            have HK := Aside0.mk kn
            have FN := Aside0.mk fn
            clear fx kx fy ky fz kz fu ku fn kn hn l2x r2x l7x r7x l15x r15x l18x r18x l2y r2y l7y r7y l15y r15y l18y r18y l2z r2z l7z r7z l15z r15z l18z r18z l2u r2u l7u r7u l15u r15u l18u r18u
            go_wp2_with (first
              | ((with_reducible refine gate_dst (N := 84) rfl ?_); (try (refine gate_guard (by rfl) ?_; dsimp only)); refine load_pre rfl 37 (.tmp 5) rfl g5 rfl c5 _ (range_row FN.out) hu1 rfl (k_info HK.out) ?_)
              | (go_at_call 13; refine (same_w (x := sim_n) (y := sim_n) (cs' := #[.int .i64 0, .int .i64 0, .slice none 0 0, .int .i64 0, .int .i64 0, .int .i64 0, .int .i64 0, .slice none 0 0, .int .i64 0, .int .i64 0, .bool false, .int .i64 7, .int .i64 0, .bool false, .int .i64 0, .slice none 0 0, .int .i64 0, .int .i64 0, .slice none 0 0]) HK.out (k37_mk _ sim_n (A2 := none) (c2 := 0) (Nat.le_refl _) (Kd.C_nil _ _) (A7 := none) (c7 := 0) (Nat.le_refl _) (Kd.C_nil _ _) (A15 := none) (c15 := 0) (Nat.le_refl _) (Kd.C_nil _ _) (A18 := none) (c18 := 0) (Nat.le_refl _) (Kd.C_nil _ _)) hd_same).mono ?_; rintro e_ w1 ⟨rfl, hb⟩; replace HS := Aside0.mk (HS.out.below hb); clear hb))
            go_ret
            exact ⟨rfl, HS.out.1⟩

end Go.Proofs.Ytefgoffaidjiaaa.PAll
namespace Go.Proofs.Ytefgoffaidjiaaa.PAll
open Go.RowKit Go.Proofs.YtefgoffaidjiaaaW.PrintWords Go.Proofs.YtefgoffaidjiaaaW.PrintLast Go.Proofs.YtefgoffaidjiaaaW.PrintMore
set_option linter.unusedVariables false
set_option linter.unusedSimpArgs false
/-! ### what the guards say, and what a step of a sim is -/
structure CfgP (c : S23) : Prop where
  lim : ConfP c.f0 c.f1 c.f2 c.f3
  pl : CfP c.f5 c.f4 c.f6
  w1 : 1 ≤ c.f7
  w2 : c.f7 ≤ 32
def confB (c : S23) : Bool := cfSize c.f0 c.f1 c.f2 && (cfPlant c.f3 c.f4 c.f5 c.f6 && cfJudge c.f7 c.f8 c.f9 c.f10 c.f11)
theorem conf_cfg {c : S23} (h : confB c = true) : CfgP c := by
  refine ⟨conf_in h, conf_pl h, ?_, ?_⟩
  all_goals
    unfold confB at h
    simp only [cfJudge, Bool.and_eq_true, decide_eq_true_eq] at h
    omega
/-- May a sim be so? -/
structure SimP (x : S37) : Prop where
  pol : PolP x.f0.f0 x.f0.f2 x.f0.f6 x.f0.f7
  pl : PR x.f3.f0 x.f3.f1 x.f3.f2 x.f3.f3
  mks : x.f4.all mkI = true
  ml : x.f4.length ≤ 32
  h0 : 0 ≤ x.f2.f0
  h1 : x.f2.f0 ≤ 1000
  t0 : 0 ≤ x.f2.f1
  t1 : x.f2.f1 ≤ 1099511627776
theorem all_smI (l : List Int) : allAt smI l 0 = true ↔ Small l := by
  unfold allAt smI Small
  simp
theorem rightB_iff {R wt ut : Int} {l : List Int} : governorref16_Right.b R l wt ut = true ↔ PR R l wt ut := by
  unfold governorref16_Right.b
  rw [Bool.and_eq_true, Bool.and_eq_true, all_smI]
  simp only [Bool.not_eq_true', Bool.or_eq_false_iff, decide_eq_false_iff_not, decide_eq_true_eq]
  constructor
  · rintro ⟨⟨h1, h2, h3, h4, h5, h6, h7⟩, hs, ha⟩
    rw [allL_eq hs (by omega) (by omega) (by omega)] at ha
    exact ⟨by omega, by omega, by omega, hs, by omega, by omega, by omega, by omega, ha⟩
  · intro P
    have h0 := P.r0; have h1 := P.r1; have h2 := P.len; have h3 := P.w0; have h4 := P.w1; have h5 := P.u0; have h6 := P.u1
    refine ⟨⟨by omega, by omega, by omega, by omega, by omega, by omega, by omega⟩, P.sm, ?_⟩
    rw [allL_eq P.sm h0 (by omega) (by omega)]
    exact P.all
theorem polOk_tells (p : S27) (k : Nat) (hk : 20 ≤ k) (h8 : p.f2.length ≤ 8) (h9 : p.f7.length ≤ 8) :
    ∃ b z, governorref09_Policy.f k p.f0 p.f1 p.f2 p.f3 p.f4 p.f5 p.f6 p.f7 = some b ∧ governorref09_Zero.f p.f0 p.f1 p.f2 p.f3 p.f4 p.f5 p.f6 p.f7 = some z ∧ ((b = true ∨ z = true) → PolP p.f0 p.f2 p.f6 p.f7) := by
  obtain ⟨b, hb, hP⟩ := policyR_tells p.f0 p.f1 p.f2 p.f3 p.f4 p.f5 p.f6 p.f7 k hk h8 h9
  have hz : ∃ z, governorref09_Zero.f p.f0 p.f1 p.f2 p.f3 p.f4 p.f5 p.f6 p.f7 = some z ∧ (z = true → p.f0 = 0) := by
    unfold governorref09_Zero.f
    by_cases c : p.f0 = 0
    · obtain ⟨r, hr⟩ := none_some p.f0 p.f1 p.f2 p.f3 p.f4 p.f5 p.f6 p.f7 true true true true
      rw [if_pos c, hr]; exact ⟨r, rfl, fun _ => c⟩
    · rw [if_neg c]; exact ⟨false, rfl, fun h => by cases h⟩
  obtain ⟨z, hz, hZ⟩ := hz
  refine ⟨b, z, hb, hz, fun h => ?_⟩
  rcases h with h | h
  · exact ⟨h8, h9, (hP h).1, (hP h).2⟩
  · have := hZ h
    exact ⟨h8, h9, fun e => by omega, fun e => by omega⟩
theorem rightF_eq (k : Nat) (x : S37) (h8 : x.f0.f2.length ≤ 8) (h9 : x.f0.f7.length ≤ 8) (b z : Bool) (hb : governorref09_Policy.f k x.f0.f0 x.f0.f1 x.f0.f2 x.f0.f3 x.f0.f4 x.f0.f5 x.f0.f6 x.f0.f7 = some b) (hz : governorref09_Zero.f x.f0.f0 x.f0.f1 x.f0.f2 x.f0.f3 x.f0.f4 x.f0.f5 x.f0.f6 x.f0.f7 = some z) :
    ∃ r, rightF k x = some r ∧ (r = true ↔ (b = true ∨ z = true) ∧ PR x.f3.f0 x.f3.f1 x.f3.f2 x.f3.f3 ∧ x.f4.all mkI = true ∧ x.f4.length ≤ 32 ∧ (0 ≤ x.f2.f0 ∧ x.f2.f0 ≤ 1000 ∧ 0 ≤ x.f2.f1 ∧ x.f2.f1 ≤ 1099511627776)) := by
  unfold rightF governorref18_Right.f
  rw [if_neg (by simp; omega), hb, hz]
  refine ⟨_, rfl, ?_⟩
  unfold governorref18_Right.b
  rw [show (decide (8 < (x.f3.f1.length : Int)) || (!(governorref16_Right.b x.f3.f0 x.f3.f1 x.f3.f2 x.f3.f3) || (decide (32 < (x.f4.length : Int))))) = (!(governorref16_Right.b x.f3.f0 x.f3.f1 x.f3.f2 x.f3.f3) || decide (32 < (x.f4.length : Int))) by
    cases h : governorref16_Right.b x.f3.f0 x.f3.f1 x.f3.f2 x.f3.f3
    · simp
    · have := (rightB_iff.1 h).len
      rw [decide_eq_false (by omega), Bool.false_or]]
  rw [← rightB_iff, show allAt mkI x.f4 0 = x.f4.all mkI from rfl]
  cases b <;> cases z <;> cases governorref16_Right.b x.f3.f0 x.f3.f1 x.f3.f2 x.f3.f3 <;> cases x.f4.all mkI <;> simp <;> omega
theorem right_tells (x : S37) (k : Nat) (hk : 20 ≤ k) : ∃ r, rightF k x = some r ∧ (r = true → SimP x) := by
  by_cases h8 : x.f0.f2.length ≤ 8 ∧ x.f0.f7.length ≤ 8
  · obtain ⟨b, z, hb, hz, hP⟩ := polOk_tells x.f0 k hk h8.1 h8.2
    obtain ⟨r, hr, hR⟩ := rightF_eq k x h8.1 h8.2 b z hb hz
    refine ⟨r, hr, fun h => ?_⟩
    obtain ⟨h1, h2, h3, h4, h5, h6, h7, h10⟩ := hR.1 h
    exact ⟨hP h1, h2, h3, h4, h5, h6, h7, h10⟩
  · refine ⟨false, ?_, fun h => by cases h⟩
    unfold rightF governorref18_Right.f
    rw [if_pos (by simp; omega)]
/-- Of two sims of one policy: right, if the rest may be. -/
theorem right_again {x y : S37} {k : Nat} (hk : 20 ≤ k) (hx : rightF k x = some true) (e : y.f0 = x.f0) (P : SimP y) : rightF k y = some true := by
  have h8 := P.pol.b8
  have h9 := P.pol.s8
  obtain ⟨b, z, hb, hz, _⟩ := polOk_tells y.f0 k hk h8 h9
  obtain ⟨r, hr, hR⟩ := rightF_eq k y h8 h9 b z hb hz
  rw [e] at hb hz h8 h9
  obtain ⟨r2, hr2, hR2⟩ := rightF_eq k x h8 h9 b z hb hz
  rw [hr2] at hx
  have := hR2.1 (Option.some.inj hx)
  rw [hr, hR.2 ⟨this.1, P.pl, P.mks, P.ml, P.h0, P.h1, P.t0, P.t1⟩]
/-! ### a step -/
def curI (c : S23) (x : S37) : Int := mx c.f0 (mn x.f2.f0 c.f1)
def polS (c : S23) (x : S37) (now : Int) : Int × Int × Bool × Int := polR x.f0.f0 x.f0.f1 x.f0.f2 x.f0.f3 x.f0.f4 x.f0.f5 x.f0.f6 x.f0.f7 x.f1.f0 x.f1.f1 x.f1.f2 (cl0 (curI c x)) x.f3.f3 now
def holdS (c : S23) (x : S37) (want now : Int) : Int × Int × Bool := r15 (mn (mx x.f2.f0 c.f0) c.f1) c.f0 c.f1 c.f2 c.f3 x.f2.f1 want now x.f2.f2
def addM (w : Int) (l : List S52) (m : S52) : List S52 := (l ++ [m]).drop (((l.length : Int) + 1) - w).toNat
def moveS (c : S23) (x : S37) (q : Int × Int × Bool × Int) (h : Int × Int × Bool) (d : Int) : S37 :=
  ⟨x.f0, ⟨q.1, q.2.1, q.2.2.1⟩, ⟨h.1, h.2.1, h.2.2⟩, ⟨(stS x.f3.f0 x.f3.f1 c.f5 h.1).1, trimL (stS x.f3.f0 x.f3.f1 c.f5 h.1).2, waitI x.f3.f0 x.f3.f1 c.f5 h.1 c.f4 x.f3.f2 d, utilI x.f3.f0 x.f3.f1 c.f5 h.1 c.f4 x.f3.f2 d⟩,
    addM c.f7 x.f4 ⟨nW h.1, decide (c.f6 < waitI x.f3.f0 x.f3.f1 c.f5 h.1 c.f4 x.f3.f2 d)⟩⟩
/-- WHAT A STEP LEAVES. -/
def stepS (c : S23) (x : S37) (d now : Int) : S37 := if x.f0.f0 = 0 then x else moveS c x (polS c x now) (holdS c x (polS c x now).2.2.2 now) d
theorem hold_next {c : S23} {x : S37} (C : CfgP c) (P : SimP x) (want now : Int) (n0 : 0 ≤ now) (n1 : now ≤ 1099511627776) :
    limit_Next.f c.f0 c.f1 c.f2 c.f3 c.f4 c.f5 c.f6 c.f7 c.f8 c.f9 c.f10 c.f11 x.f2.f0 x.f2.f1 x.f2.f2 want now = some (holdS c x want now) ∧ c.f0 ≤ (holdS c x want now).1 ∧ (holdS c x want now).1 ≤ c.f1 ∧ 0 ≤ (holdS c x want now).2.1 ∧ (holdS c x want now).2.1 ≤ 1099511627776 := by
  have t0 := P.t0; have t1 := P.t1
  obtain ⟨a, l, g, h1, h2⟩ := limit_next (a4 := c.f4) (a5 := c.f5) (a6 := c.f6) (a7 := c.f7) (a8 := c.f8) (a9 := c.f9) (a10 := c.f10) (a11 := c.f11) (cur := x.f2.f0) (last := x.f2.f1) (grew := x.f2.f2) (want := want) (now := now) C.lim n0 (by omega) t0 (by omega)
  have h3 := ref_next C.lim n0 (by omega) t0 (by omega) h2
  rw [show holdS c x want now = (a, l, g) from h3]
  obtain ⟨q1, q2, q3, q4, q5, q6, q7⟩ := C.lim
  refine ⟨h1, ?_⟩
  obtain ⟨u, n, e1, e2, h⟩ := h2
  have b1 : c.f0 ≤ u ∧ u ≤ c.f1 := by rw [e1]; unfold mx mn; omega
  have b2 : c.f0 ≤ n ∧ n ≤ c.f1 := by rw [e2]; unfold mx mn; omega
  dsimp only
  rcases h with ⟨_, rfl, rfl, _⟩ | ⟨_, _, _, rfl, rfl, _⟩ | ⟨_, _, rfl, rfl, _⟩ <;> omega
theorem add_eq {w : Int} {l : List S52} (h : l.length ≤ 32) (w1 : 1 ≤ w) (w2 : w ≤ 32) (a : Int) (b : Bool) : score_Add.f w l a b = some (addM w l ⟨a, b⟩) := by
  unfold score_Add.f api_Mark.f
  rw [if_pos (by omega)]
  simp only [Option.bind_some]
  rw [if_pos (by simp; omega)]
  simp only [Option.bind_some, List.length_append, List.length_cons, List.length_nil, Nat.zero_add]
  have e : mx 0 (wrap64 (((l.length + 1 : Nat) : Int) - mx 0 w)) = mx 0 ((l.length : Int) + 1 - w) := by
    have e1 : mx 0 w = w := by unfold mx; omega
    rw [e1, wr (by omega) (by omega)]
    congr 1
  rw [e, if_pos (by unfold mx; omega), if_pos (by unfold mx; omega)]
  have e2 : (mx 0 ((l.length : Int) + 1 - w)).toNat = ((l.length : Int) + 1 - w).toNat := by unfold mx; omega
  rw [e2]
  rfl
theorem add_len {w : Int} {l : List S52} (w1 : 1 ≤ w) (m : S52) : ((addM w l m).length : Int) = mn ((l.length : Int) + 1) w := by
  unfold addM
  rw [List.length_drop, List.length_append, List.length_singleton]
  unfold mn
  omega
theorem add_all {w : Int} {l : List S52} {m : S52} (h : l.all mkI = true) (hm : mkI m = true) : (addM w l m).all mkI = true := by
  unfold addM
  rw [List.all_eq_true]
  intro x hx
  have hx := List.mem_of_mem_drop hx
  rcases List.mem_append.1 hx with hx | hx
  · exact List.all_eq_true.1 h x hx
  · rw [List.mem_singleton.1 hx]; exact hm
theorem own_tells {x : S37} (P : SimP x) : fleet_Own.f x.f0.f0 x.f0.f1 x.f0.f2 x.f0.f3 x.f0.f4 x.f0.f5 x.f0.f6 x.f0.f7 x.f1.f0 x.f1.f1 x.f1.f2 x.f2.f0 x.f2.f1 x.f2.f2 x.f3.f0 x.f3.f1 x.f3.f2 x.f3.f3 x.f4 = some (tup x) := by
  have h1 := P.pol.b8; have h2 := P.pol.s8; have h3 := P.pl.len; have h4 := P.ml
  unfold fleet_Own.f
  rw [if_pos ⟨by omega, by omega, by omega, by omega⟩]
  rfl
/-- A sim that begins. -/
def newS (p : S27) (s : S29) (h : S31) : S37 := ⟨p, s, h, ⟨h.f0, [], 0, 0⟩, []⟩
theorem new_tells {p : S27} {s : S29} {h : S31} (h8 : p.f2.length ≤ 8) (h9 : p.f7.length ≤ 8) (h0 : 0 ≤ h.f0) (h1 : h.f0 ≤ 1000) : fleet_New.f p.f0 p.f1 p.f2 p.f3 p.f4 p.f5 p.f6 p.f7 s.f0 s.f1 s.f2 h.f0 h.f1 h.f2 = some (tup (newS p s h)) := by
  unfold fleet_New.f plant_New.f
  simp only [Option.bind_some]
  unfold fleet_Own.f
  rw [if_pos ⟨by omega, by omega, by simp, by simp⟩]
  have e : mx 0 (mn h.f0 1000) = h.f0 := by unfold mx mn; omega
  rw [e]
  rfl
theorem cl0_cur {c : S23} (C : CfgP c) (x : S37) : cl0 (curI c x) = curI c x := by
  obtain ⟨q1, q2, q3, q4, q5, q6, q7⟩ := C.lim
  refine cl0_same ?_ ?_ <;> (unfold curI mx mn; omega)
/-- The step's own text comes to what a step leaves. -/
theorem step_tells {c : S23} {x : S37} (C : CfgP c) (P : SimP x) (d now : Int) (n0 : 0 ≤ now) (n1 : now ≤ 1099511627776) (k : Nat) (hk : 20 ≤ k) :
    fleet_Step.f k c.f0 c.f1 c.f2 c.f3 c.f4 c.f5 c.f6 c.f7 c.f8 c.f9 c.f10 c.f11 x.f0.f0 x.f0.f1 x.f0.f2 x.f0.f3 x.f0.f4 x.f0.f5 x.f0.f6 x.f0.f7 x.f1.f0 x.f1.f1 x.f1.f2 x.f2.f0 x.f2.f1 x.f2.f2 x.f3.f0 x.f3.f1 x.f3.f2 x.f3.f3 x.f4 d now = some (tup (stepS c x d now)) := by
  have h1 := P.pol.b8; have h2 := P.pol.s8; have h3 := P.pl.len; have h4 := P.ml
  unfold fleet_Step.f stepS
  rw [if_pos ⟨by omega, by omega, by omega, by omega⟩]
  by_cases z : x.f0.f0 = 0
  · rw [if_pos (by simpa using z), if_pos z]; rfl
  · rw [if_neg (by simpa using z), if_neg z]
    unfold limit_Into.f
    simp only [Option.bind_some]
    rw [polNext_eq P.pol x.f0.f1 x.f0.f3 x.f0.f4 x.f0.f5 x.f1.f0 x.f1.f1 x.f1.f2 (mx c.f0 (mn x.f2.f0 c.f1)) x.f3.f3 now k hk]
    simp only [Option.bind_some]
    rw [show polR x.f0.f0 x.f0.f1 x.f0.f2 x.f0.f3 x.f0.f4 x.f0.f5 x.f0.f6 x.f0.f7 x.f1.f0 x.f1.f1 x.f1.f2 (cl0 (mx c.f0 (mn x.f2.f0 c.f1))) x.f3.f3 now = polS c x now from rfl]
    rw [(hold_next C P (polS c x now).2.2.2 now n0 n1).1]
    simp only [Option.bind_some]
    rw [step_eq P.pl C.pl]
    simp only [Option.bind_some]
    rw [add_eq h4 C.w1 C.w2]
    rfl
/-- A sim that is right is right behind a step. -/
theorem step_sim {c : S23} {x : S37} (C : CfgP c) (P : SimP x) (d now : Int) (n0 : 0 ≤ now) (n1 : now ≤ 1099511627776) : SimP (stepS c x d now) ∧ (stepS c x d now).f0 = x.f0 := by
  unfold stepS
  by_cases z : x.f0.f0 = 0
  · rw [if_pos z]; exact ⟨P, rfl⟩
  · rw [if_neg z]
    obtain ⟨_, b1, b2, b3, b4⟩ := hold_next C P (polS c x now).2.2.2 now n0 n1
    obtain ⟨q1, q2, q3, q4, q5, q6, q7⟩ := C.lim
    have hn := nW_in (holdS c x (polS c x now).2.2.2 now).1
    refine ⟨⟨P.pol, step_right P.pl C.pl _ _, add_all P.mks ?_, ?_, by show 0 ≤ (holdS _ _ _ _).1; omega, by show (holdS _ _ _ _).1 ≤ 1000; omega, b3, b4⟩, rfl⟩
    · unfold mkI; simp; omega
    · have h := add_len (l := x.f4) C.w1 ⟨nW (holdS c x (polS c x now).2.2.2 now).1, decide (c.f6 < waitI x.f3.f0 x.f3.f1 c.f5 (holdS c x (polS c x now).2.2.2 now).1 c.f4 x.f3.f2 d)⟩
      have h2 := C.w2
      show (addM _ _ _).length ≤ 32
      unfold mn at h
      split at h <;> omega
/-! ### of a sim of which less waits -/
def waitX (x : S37) (v : Int) : S37 := ⟨x.f0, x.f1, x.f2, ⟨x.f3.f0, x.f3.f1, v, x.f3.f3⟩, x.f4⟩
theorem wait_sim {x : S37} (P : SimP x) {v : Int} (v0 : 0 ≤ v) (v1 : v ≤ x.f3.f2) : SimP (waitX x v) :=
  ⟨P.pol, ⟨P.pl.r0, P.pl.r1, P.pl.len, P.pl.sm, v0, by have := P.pl.w1; show v ≤ _; omega, P.pl.u0, P.pl.u1, P.pl.all⟩, P.mks, P.ml, P.h0, P.h1, P.t0, P.t1⟩
theorem util_mono {a b c : Int} (h0 : 0 ≤ a) (h : a ≤ b) (hc : 0 ≤ c) : satI (divI a c) ≤ satI (divI b c) := by
  have k : divI a c ≤ divI b c ∨ (c = 0 ∧ a = 0 ∧ ¬ b = 0) := by
    unfold divI
    by_cases z : c = 0
    · by_cases y : a = 0
      · by_cases y2 : b = 0
        · left; rw [if_pos z, if_pos z, if_pos y, if_pos y2]; omega
        · exact .inr ⟨z, y, y2⟩
      · left; rw [if_pos z, if_pos z, if_neg y, if_neg (by omega)]
        first | omega | (repeat' split) <;> omega
    · left; rw [if_neg z, if_neg z]
      exact tdiv_mono (by omega) (Int.mul_le_mul_of_nonneg_right h (by omega))
  rcases k with k | ⟨z, y, y2⟩
  · unfold satI mx mn
    (repeat' split) <;> omega
  · have := (util_in b c (by omega) (by omega)).1
    have e : satI (divI a c) = 0 := by
      unfold divI
      rw [if_pos z, if_pos y]
      decide
    omega
theorem work_tells {c : S23} {x : S37} (C : CfgP c) (P : SimP x) (h4 : x.f0.f0 = 4) {v : Int} (v0 : 0 ≤ v) (v1 : v ≤ x.f3.f2) (d n : Int) :
    (stepS c (waitX x v) d n).f3.f2 ≤ (stepS c x d n).f3.f2 ∧ (stepS c (waitX x v) d n).f2 = (stepS c x d n).f2 ∧ (stepS c (waitX x v) d n).f3.f0 = (stepS c x d n).f3.f0 ∧ (stepS c (waitX x v) d n).f3.f3 ≤ (stepS c x d n).f3.f3 := by
  have hz : ¬ x.f0.f0 = 0 := by omega
  have hz' : ¬ (waitX x v).f0.f0 = 0 := hz
  unfold stepS
  rw [if_neg hz, if_neg hz']
  have hp : polS c (waitX x v) n = polS c x n := by
    unfold polS polR
    rw [show (waitX x v).f0 = x.f0 from rfl, if_neg (by omega), if_neg (by omega), if_neg (by omega), if_pos h4, if_neg (by omega), if_neg (by omega), if_neg (by omega), if_pos h4]
    rfl
  rw [hp, show holdS c (waitX x v) (polS c x n).2.2.2 n = holdS c x (polS c x n).2.2.2 n from rfl]
  generalize holdS c x (polS c x n).2.2.2 n = h
  have K := can_in P.pl C.pl h.1
  have T := todo_in v0 d
  have hm : todoI v d ≤ todoI x.f3.f2 d := by unfold todoI mn; (repeat' split) <;> omega
  refine ⟨?_, rfl, rfl, ?_⟩
  · show waitI x.f3.f0 x.f3.f1 c.f5 h.1 c.f4 v d ≤ waitI x.f3.f0 x.f3.f1 c.f5 h.1 c.f4 x.f3.f2 d
    unfold waitI mx
    (repeat' split) <;> omega
  · show utilI x.f3.f0 x.f3.f1 c.f5 h.1 c.f4 v d ≤ utilI x.f3.f0 x.f3.f1 c.f5 h.1 c.f4 x.f3.f2 d
    exact util_mono T.1 hm K.1
/-! ### what is seen of a step -/
theorem pol_kind {p : S27} {k : Nat} (h : governorref09_Policy.f k p.f0 p.f1 p.f2 p.f3 p.f4 p.f5 p.f6 p.f7 = some true) : p.f0 ≠ 0 := by
  intro z
  unfold governorref09_Policy.f at h
  rw [if_neg (by omega), if_neg (by omega), if_neg (by omega), if_neg (by omega)] at h
  cases h
theorem zero_tells {x : S37} (P : SimP x) (hr : rightF 20 x = some true) : ∃ z, governorref09_Zero.f x.f0.f0 x.f0.f1 x.f0.f2 x.f0.f3 x.f0.f4 x.f0.f5 x.f0.f6 x.f0.f7 = some z ∧ (z = true ↔ x.f0.f0 = 0) := by
  obtain ⟨b, z, hb, hz, _⟩ := polOk_tells x.f0 20 (Nat.le_refl _) P.pol.b8 P.pol.s8
  obtain ⟨r, h1, h2⟩ := rightF_eq 20 x P.pol.b8 P.pol.s8 b z hb hz
  rw [hr] at h1
  have hbz := (h2.1 (Option.some.inj h1).symm).1
  refine ⟨z, hz, ?_, fun h => ?_⟩
  · intro hzt
    unfold governorref09_Zero.f at hz
    by_cases c : x.f0.f0 = 0
    · exact c
    · rw [if_neg c] at hz; rw [hzt] at hz; cases hz
  · rcases hbz with hb1 | hz1
    · rw [hb1] at hb; exact absurd h (pol_kind hb)
    · exact hz1
theorem step_seen {c : S23} {x : S37} (C : CfgP c) (P : SimP x) (hz : x.f0.f0 ≠ 0) (d now : Int) (n0 : 0 ≤ now) (n1 : now ≤ 1099511627776) :
    c.f0 ≤ (stepS c x d now).f2.f0 ∧ (stepS c x d now).f2.f0 ≤ c.f1 ∧ allL (stepS c x d now).f3.f0 (stepS c x d now).f3.f1 = (stepS c x d now).f2.f0 ∧ ((stepS c x d now).f4.length : Int) = mn ((x.f4.length : Int) + 1) c.f7 ∧
      (rd_T52 (stepS c x d now).f4 (((stepS c x d now).f4.length : Int) - 1)).f0 = (stepS c x d now).f2.f0 := by
  unfold stepS
  rw [if_neg hz]
  obtain ⟨_, b1, b2, _⟩ := hold_next C P (polS c x now).2.2.2 now n0 n1
  generalize holdS c x (polS c x now).2.2.2 now = h at b1 b2
  obtain ⟨q1, q2, q3, q4, q5, q6, q7⟩ := C.lim
  have en : nW h.1 = h.1 := by unfold nW mx mn; omega
  have S := stS_spec P.pl C.pl h.1
  have hl := trimL_length (stS x.f3.f0 x.f3.f1 c.f5 h.1).2
  have hlen := S.len
  have w1 := C.w1
  have hL := add_len (l := x.f4) w1 ⟨nW h.1, decide (c.f6 < waitI x.f3.f0 x.f3.f1 c.f5 h.1 c.f4 x.f3.f2 d)⟩
  refine ⟨b1, b2, ?_, hL, ?_⟩
  · show allL (stS x.f3.f0 x.f3.f1 c.f5 h.1).1 (trimL (stS x.f3.f0 x.f3.f1 c.f5 h.1).2) = h.1
    rw [allL_eq (trimL_small S.sm) S.r0 (by have := S.r1; omega) (by omega), trimL_sum, S.all, en]
  · show (rd_T52 (addM c.f7 x.f4 _) (((addM c.f7 x.f4 _).length : Int) - 1)).f0 = h.1
    rw [hL]
    unfold rd_T52 addM
    have e : (mn ((x.f4.length : Int) + 1) c.f7 - 1).toNat + (((x.f4.length : Int) + 1) - c.f7).toNat = x.f4.length := by unfold mn; split <;> omega
    rw [List.getD_eq_getElem?_getD, List.getElem?_drop, Nat.add_comm, e, List.getElem?_append_right (Nat.le_refl _), Nat.sub_self]
    exact en
theorem step_zero {c : S23} {x : S37} (hz : x.f0.f0 = 0) (d now : Int) : stepS c x d now = x := by unfold stepS; rw [if_pos hz]
theorem new_sim {x : S37} (P : SimP x) : SimP (newS x.f0 x.f1 x.f2) where
  pol := P.pol
  pl := ⟨P.h0, P.h1, by show ([] : List Int).length ≤ 8; decide, small_nil, by show (0 : Int) ≤ 0; decide, by show (0 : Int) ≤ 1000000000; decide, by show (0 : Int) ≤ 0; decide, by show (0 : Int) ≤ 1000000000; decide, by show x.f2.f0 + ([] : List Int).sum ≤ 1000; have := P.h1; simpa using this⟩
  mks := rfl
  ml := by show ([] : List S52).length ≤ 32; decide
  h0 := P.h0
  h1 := P.h1
  t0 := P.t0
  t1 := P.t1
end Go.Proofs.Ytefgoffaidjiaaa.PAll
namespace Go.Proofs.Ytefgoffaidjiaaa.PAll
open Go.RowKit Go.Proofs.YtefgoffaidjiaaaW.PrintWords Go.Proofs.YtefgoffaidjiaaaW.PrintLast Go.Proofs.YtefgoffaidjiaaaW.PrintMore
attribute [local go_sem] max2_int min2_int max_two min_two max_three min_three max_four min_four   -- for this text's walks alone
set_option linter.unusedVariables false
set_option linter.unusedSimpArgs false

/-! ### governorlaw18_time: function 12 -/
def governorlaw18_time.f (a0 : Int) : Option (Bool) := if a0 ≥ 0 then (some (decide (a0 ≤ 1099511627776))) else (some false)
set_option maxHeartbeats 8000000 in
set_option maxRecDepth 100000 in
theorem governorlaw18_time.calls (a0 : Int) (r : Bool) (w : World) (h : governorlaw18_time.f a0 = some r) :
    Calls Try.prog 12 #[.int .i64 a0] w fun e w' => e = .returned (.bool r) ∧ Drawn0 w w' := by
  have H : (if a0 ≥ 0 then (some (decide (a0 ≤ 1099511627776))) else (some false)) = some r := h
  clear h
  by_cases c2 : a0 ≥ 0
  · rw [if_pos c2] at H
    have c2b0 : decide (0 ≤ a0) = true := decide_eq_true c2
    clear c2
    obtain rfl := Option.some.inj H
    go_enter Try.func12, Try.ntmps12
    go_wp2
    go_ret
    exact ⟨by first | rfl | (simp; done) | (simp [*]; done), by repeat (first | exact Drawn0.refl _ | apply Drawn0.step)⟩
  · rw [if_neg c2] at H
    have c2b0 : decide (0 ≤ a0) = false := decide_eq_false c2
    clear c2
    obtain rfl := Option.some.inj H
    go_enter Try.func12, Try.ntmps12
    go_wp2
    go_ret
    exact ⟨by first | rfl | (simp; done) | (simp [*]; done), by repeat (first | exact Drawn0.refl _ | apply Drawn0.step)⟩

end Go.Proofs.Ytefgoffaidjiaaa.PAll
namespace Go.Proofs.Ytefgoffaidjiaaa.PAll
open Go.RowKit Go.Proofs.YtefgoffaidjiaaaW.PrintWords Go.Proofs.YtefgoffaidjiaaaW.PrintLast Go.Proofs.YtefgoffaidjiaaaW.PrintMore
attribute [local go_sem] max2_int min2_int max_two min_two max_three min_three max_four min_four   -- for this text's walks alone
set_option linter.unusedVariables false
set_option linter.unusedSimpArgs false

/-! ### governorref18_OwnPolicy: function 44 -/
def governorref18_OwnPolicy.f (a0_0 : Int) (a0_1 : Int) (l0_2 : List (S56)) (a0_3 : Int) (a0_4 : Int) (a0_5 : Int) (a0_6 : Int) (l0_7 : List (S58)) : Option (Int × Int × (List (S56)) × Int × Int × Int × Int × (List (S58))) := (some (([] : List (S56)) : List (S56))).bind fun y171 => (if y171.length + l0_2.length < 8796093022208 then ((some (([] : List (S58)) : List (S58))).bind fun y177 => (if y177.length + l0_7.length < 8796093022208 then (some (a0_0, a0_1, (y171 ++ l0_2), a0_3, a0_4, a0_5, a0_6, (y177 ++ l0_7))) else (none))) else (none))
set_option maxHeartbeats 8000000 in
set_option maxRecDepth 100000 in
theorem governorref18_OwnPolicy.calls (a0_0 : Int) (a0_1 : Int) (A0_2 : Option Addr) (c0_2 : Nat) (l0_2 : List (S56)) (a0_3 : Int) (a0_4 : Int) (a0_5 : Int) (a0_6 : Int) (A0_7 : Option Addr) (c0_7 : Nat) (l0_7 : List (S58)) (r1 : Int) (r2 : Int) (r3 : List (S56)) (r4 : Int) (r5 : Int) (r6 : Int) (r7 : Int) (r8 : List (S58)) (w : World) (hr0_2 : Kd.C k56 w A0_2 l0_2.length l0_2) (hc0_2 : l0_2.length ≤ c0_2) (hr0_7 : Kd.C k58 w A0_7 l0_7.length l0_7) (hc0_7 : l0_7.length ≤ c0_7) (h : governorref18_OwnPolicy.f a0_0 a0_1 l0_2 a0_3 a0_4 a0_5 a0_6 l0_7 = some (r1, r2, r3, r4, r5, r6, r7, r8)) :
    Calls Try.prog 44 #[.agg #[.int .i64 a0_0, .int .i64 a0_1, .slice A0_2 l0_2.length c0_2, .int .i64 a0_3, .int .i64 a0_4, .int .i64 a0_5, .int .i64 a0_6, .slice A0_7 l0_7.length c0_7]] w fun e w' => ∃ v2_ v7_ : Value, e = .returned (.agg #[.int .i64 r1, .int .i64 r2, v2_, .int .i64 r4, .int .i64 r5, .int .i64 r6, .int .i64 r7, v7_]) ∧ Kd.R k56 56 w' w.heap.size (fun _ => True) v2_ r3 ∧ Kd.R k58 58 w' w.heap.size (fun _ => True) v7_ r8 ∧ Below w.heap.size w w' := by
  have hu27 := Try.underlying27
  have HR0_2 := Aside0.mk hr0_2
  have HC0_2 := Aside0.mk hc0_2
  clear hr0_2 hc0_2
  have HR0_7 := Aside0.mk hr0_7
  have HC0_7 := Aside0.mk hc0_7
  clear hr0_7 hc0_7
  have HB := Aside0.mk (Below.refl w.heap.size w)
  have H : ((some (([] : List (S56)) : List (S56))).bind fun y171 => (if y171.length + l0_2.length < 8796093022208 then ((some (([] : List (S58)) : List (S58))).bind fun y177 => (if y177.length + l0_7.length < 8796093022208 then (some (a0_0, a0_1, (y171 ++ l0_2), a0_3, a0_4, a0_5, a0_6, (y177 ++ l0_7))) else (none))) else (none))) = some (r1, r2, r3, r4, r5, r6, r7, r8) := h
  clear h
  obtain ⟨y171, hy171⟩ : ∃ y_ : List (S56), y_ = (([] : List (S56))) := ⟨_, rfl⟩
  replace H : (if y171.length + l0_2.length < 8796093022208 then ((some (([] : List (S58)) : List (S58))).bind fun y177 => (if y177.length + l0_7.length < 8796093022208 then (some (a0_0, a0_1, (y171 ++ l0_2), a0_3, a0_4, a0_5, a0_6, (y177 ++ l0_7))) else (none))) else (none)) = some (r1, r2, r3, r4, r5, r6, r7, r8) := by first | (rw [hy171]; with_reducible exact H) | (have H2_ := (Option.bind_some _ _).symm.trans H; rw [hy171]; with_reducible exact H2_) | (have H2_ := (Option.bind_some _ _).symm.trans H; with_reducible exact H2_) | with_reducible exact H | (rw [hy171]; exact H) | exact H
  have Ny171 := Aside0.mk hy171
  clear hy171
  by_cases c2 : y171.length + l0_2.length < 8796093022208
  · rw [if_pos c2] at H
    have LMc2 := Aside0.mk c2
    clear c2
    obtain ⟨y174, hy174⟩ : ∃ y_ : List (S56), y_ = (y171 ++ l0_2) := ⟨_, rfl⟩
    replace H : ((some (([] : List (S58)) : List (S58))).bind fun y177 => (if y177.length + l0_7.length < 8796093022208 then (some (a0_0, a0_1, y174, a0_3, a0_4, a0_5, a0_6, (y177 ++ l0_7))) else (none))) = some (r1, r2, r3, r4, r5, r6, r7, r8) := by first | (rw [hy174]; with_reducible exact H) | (have H2_ := (Option.bind_some _ _).symm.trans H; rw [hy174]; with_reducible exact H2_) | (have H2_ := (Option.bind_some _ _).symm.trans H; with_reducible exact H2_) | with_reducible exact H | (rw [hy174]; exact H) | exact H
    have Ny174 := Aside0.mk hy174
    clear hy174
    obtain ⟨y177, hy177⟩ : ∃ y_ : List (S58), y_ = (([] : List (S58))) := ⟨_, rfl⟩
    replace H : (if y177.length + l0_7.length < 8796093022208 then (some (a0_0, a0_1, y174, a0_3, a0_4, a0_5, a0_6, (y177 ++ l0_7))) else (none)) = some (r1, r2, r3, r4, r5, r6, r7, r8) := by first | (rw [hy177]; with_reducible exact H) | (have H2_ := (Option.bind_some _ _).symm.trans H; rw [hy177]; with_reducible exact H2_) | (have H2_ := (Option.bind_some _ _).symm.trans H; with_reducible exact H2_) | with_reducible exact H | (rw [hy177]; exact H) | exact H
    have Ny177 := Aside0.mk hy177
    clear hy177
    by_cases c3 : y177.length + l0_7.length < 8796093022208
    · rw [if_pos c3] at H
      have LMc3 := Aside0.mk c3
      clear c3
      obtain ⟨y180, hy180⟩ : ∃ y_ : List (S58), y_ = (y177 ++ l0_7) := ⟨_, rfl⟩
      replace H : (some (a0_0, a0_1, y174, a0_3, a0_4, a0_5, a0_6, y180)) = some (r1, r2, r3, r4, r5, r6, r7, r8) := by first | (rw [hy180]; with_reducible exact H) | (have H2_ := (Option.bind_some _ _).symm.trans H; rw [hy180]; with_reducible exact H2_) | (have H2_ := (Option.bind_some _ _).symm.trans H; with_reducible exact H2_) | with_reducible exact H | (rw [hy180]; exact H) | exact H
      have Ny180 := Aside0.mk hy180
      clear hy180
      simp only [Option.some.injEq, Prod.mk.injEq] at H
      obtain ⟨rfl, rfl, rfl, rfl, rfl, rfl, rfl, rfl⟩ := H
      go_enter Try.func44, Try.ntmps44
      go_wp2_with (first | ((with_reducible refine gate_dst (N := 1) rfl ?_); refine box_event ?hg (N := 1) ?hd (cs := #[.int .i64 a0_0, .int .i64 a0_1, .slice A0_2 l0_2.length c0_2, .int .i64 a0_3, .int .i64 a0_4, .int .i64 a0_5, .int .i64 a0_6, .slice A0_7 l0_7.length c0_7]) (t := 27) ?hr ?_; (case hd => rfl); (case hg => rfl); (case hr => first | (go_simp; done) | (go_simp; rfl)); intro gb169 hg w4 hbox hb; have n0_ := Aside0.mk (below_step (by repeat (first | (with_reducible first | exact HB.out | apply below_alloc | apply pw_below_drewN | apply below_drew1) | exact HB.out)) hb); have n1_ := Aside0.mk (hbox); have n2_ := Aside0.mk ((by rw [hg]; exact (below_size (by repeat (first | (with_reducible first | exact HB.out | apply below_alloc | apply pw_below_drewN | apply below_drew1) | exact HB.out))) : w.heap.size ≤ gb169)); have n3_ := Aside0.mk ((by rw [hg]; exact (below_size (by repeat (first | (with_reducible first | exact HB.out | apply below_alloc | apply pw_below_drewN | apply below_drew1) | exact HB.out))) : w.heap.size ≤ gb169)); clear HB; have HB := n0_; have BK169 := n1_; have GW169 := n2_; have GE169 := n3_; clear n0_ n1_ n2_ n3_; clear hb hbox hg) | ((with_reducible refine gate_dst (N := 2) rfl ?_); refine box_event ?hg (N := 2) ?hd (cs := #[.int .i64 0, .int .i64 0, .slice none 0 0, .int .i64 0, .int .i64 0, .int .i64 0, .int .i64 0, .slice none 0 0]) (t := 27) ?hr ?_; (case hd => rfl); (case hg => rfl); (case hr => first | (go_simp; done) | (go_simp; rfl)); intro gb170 hg w5 hbox hb; have n0_ := Aside0.mk (blk_below (g := gb169) (o := .cells #[.int .i64 a0_0, .int .i64 a0_1, .slice A0_2 l0_2.length c0_2, .int .i64 a0_3, .int .i64 a0_4, .int .i64 a0_5, .int .i64 a0_6, .slice A0_7 l0_7.length c0_7] 27 (0, 0)) (by (with_reducible repeat (first | refine blk_drewN ?_ _ | refine blk_drew ?_ | refine blk_alloc ?_ _)); exact BK169.out) hb); have n1_ := Aside0.mk (below_step (by repeat (first | (with_reducible first | exact HB.out | apply below_alloc | apply pw_below_drewN | apply below_drew1 | refine below_set ?_ GE169.out) | exact HB.out)) hb); have n2_ := Aside0.mk (hbox); have n3_ := Aside0.mk ((by rw [hg]; exact (below_size (by repeat (first | (with_reducible first | exact HB.out | apply below_alloc | apply pw_below_drewN | apply below_drew1 | refine below_set ?_ GE169.out) | exact HB.out))) : w.heap.size ≤ gb170)); have n4_ := Aside0.mk ((by rw [hg]; exact (below_size (by repeat (first | (with_reducible first | exact HB.out | apply below_alloc | apply pw_below_drewN | apply below_drew1 | refine below_set ?_ GE169.out) | exact HB.out))) : w.heap.size ≤ gb170)); have n5_ := Aside0.mk ((by rw [hg]; exact Nat.ne_of_lt (blk_lt (g := gb169) (o := .cells #[.int .i64 a0_0, .int .i64 a0_1, .slice A0_2 l0_2.length c0_2, .int .i64 a0_3, .int .i64 a0_4, .int .i64 a0_5, .int .i64 a0_6, .slice A0_7 l0_7.length c0_7] 27 (0, 0)) (by (with_reducible repeat (first | refine blk_drewN ?_ _ | refine blk_drew ?_ | refine blk_alloc ?_ _)); exact BK169.out)) : gb169 ≠ gb170)); have n6_ := Aside0.mk ((by rw [hg]; exact Nat.ne_of_gt (blk_lt (g := gb169) (o := .cells #[.int .i64 a0_0, .int .i64 a0_1, .slice A0_2 l0_2.length c0_2, .int .i64 a0_3, .int .i64 a0_4, .int .i64 a0_5, .int .i64 a0_6, .slice A0_7 l0_7.length c0_7] 27 (0, 0)) (by (with_reducible repeat (first | refine blk_drewN ?_ _ | refine blk_drew ?_ | refine blk_alloc ?_ _)); exact BK169.out)) : gb170 ≠ gb169)); clear BK169; clear HB; have BK169 := n0_; have HB := n1_; have BK170 := n2_; have GW170 := n3_; have GE170 := n4_; have NB169_170 := n5_; have NB170_169 := n6_; clear n0_ n1_ n2_ n3_ n4_ n5_ n6_; clear hb hbox hg) | ((with_reducible refine gate_dst (N := 3) rfl ?_); refine Kd.R_lit k56 _ 56 ?hg (N := 3) ?hd (xs := ([] : List (S56))) (inner := []) (ok := fun _ => True) (okp := fun _ => True) ?hr ?hp (fun _ hk => hk) trivial (Below.refl _ _) (Nat.le_refl _) (by simp) ?_; (case hd => rfl); (case hg => rfl); (case hr => first | (go_simp; done) | (go_simp; rfl)); (case hp => exact (Reps.none _ _)); intro v172 w6 ho7 hb hg_ hnew_; clear hg_ hnew_; (first | rw [← Ny171.out] at ho7 | (simp only [Int.reduceToNat] at ho7; rw [← Ny171.out] at ho7)); have n0_ := Aside0.mk (Kd.R_lower ho7 (below_size (by repeat (first | (with_reducible first | exact HB.out | apply below_alloc | apply pw_below_drewN | apply below_drew1 | refine below_set ?_ GE169.out | refine below_set ?_ GE170.out) | exact HB.out)))); have n1_ := Aside0.mk (blk_below (g := gb169) (o := .cells #[.int .i64 a0_0, .int .i64 a0_1, .slice A0_2 l0_2.length c0_2, .int .i64 a0_3, .int .i64 a0_4, .int .i64 a0_5, .int .i64 a0_6, .slice A0_7 l0_7.length c0_7] 27 (0, 0)) (by (with_reducible repeat (first | refine blk_drewN ?_ _ | refine blk_drew ?_ | refine blk_alloc ?_ _)); exact BK169.out) hb); have n2_ := Aside0.mk (blk_below (g := gb170) (o := .cells #[.int .i64 0, .int .i64 0, .slice none 0 0, .int .i64 0, .int .i64 0, .int .i64 0, .int .i64 0, .slice none 0 0] 27 (0, 0)) (by (with_reducible repeat (first | refine blk_drewN ?_ _ | refine blk_drew ?_ | refine blk_alloc ?_ _)); exact BK170.out) hb); have n3_ := Aside0.mk (below_step (by repeat (first | (with_reducible first | exact HB.out | apply below_alloc | apply pw_below_drewN | apply below_drew1 | refine below_set ?_ GE169.out | refine below_set ?_ GE170.out) | exact HB.out)) hb); clear BK169; clear BK170; clear HB; have HO173 := n0_; have BK169 := n1_; have BK170 := n2_; have HB := n3_; clear n0_ n1_ n2_ n3_; clear hb ho7; have hnb8 := NB169_170.out; have hnc8 := NB170_169.out; have hcz9_0 : w6.cell? ⟨gb169, 0, none⟩ = some (.int .i64 a0_0) := (blk_cell BK169.out 0).trans rfl; have hcz9_1 : w6.cell? ⟨gb169, 1, none⟩ = some (.int .i64 a0_1) := (blk_cell BK169.out 1).trans rfl; have hcz9_2 : w6.cell? ⟨gb169, 2, none⟩ = some (.slice A0_2 l0_2.length c0_2) := (blk_cell BK169.out 2).trans rfl; have hcz9_3 : w6.cell? ⟨gb169, 3, none⟩ = some (.int .i64 a0_3) := (blk_cell BK169.out 3).trans rfl; have hcz9_4 : w6.cell? ⟨gb169, 4, none⟩ = some (.int .i64 a0_4) := (blk_cell BK169.out 4).trans rfl; have hcz9_5 : w6.cell? ⟨gb169, 5, none⟩ = some (.int .i64 a0_5) := (blk_cell BK169.out 5).trans rfl; have hcz9_6 : w6.cell? ⟨gb169, 6, none⟩ = some (.int .i64 a0_6) := (blk_cell BK169.out 6).trans rfl; have hcz9_7 : w6.cell? ⟨gb169, 7, none⟩ = some (.slice A0_7 l0_7.length c0_7) := (blk_cell BK169.out 7).trans rfl; have hfz9_0 := blk_frozen BK169.out 0; have hfz9_1 := blk_frozen BK169.out 1; have hfz9_2 := blk_frozen BK169.out 2; have hfz9_3 := blk_frozen BK169.out 3; have hfz9_4 := blk_frozen BK169.out 4; have hfz9_5 := blk_frozen BK169.out 5; have hfz9_6 := blk_frozen BK169.out 6; have hfz9_7 := blk_frozen BK169.out 7) | ((with_reducible refine gate_builtin (b := .append) (xs := #[.tmp 3, .tmp 5]) rfl ?_); at_builtin; refine Kd.R_append_rows k56 (w0 := w) w.heap.size rfl (.tmp 3) (.tmp 5) 24 56 (.agg #[(.int .i64 0), (.int .i64 0)]) 16 rfl Try.underlying24 info56 rfl (by decide) (by omega) v172 y171 l0_2 _ _ _ (fun _ => True) (fun _ => False) rfl rfl ?aO ?aR (fun _ _ h => h) (fun _ h => h.elim) ?aF ?aB ?aS ?aL ?_; (case aR => repeat (first | exact (Kd.C_below HR0_2.out HB.out) | (with_reducible refine Kd.C_alloc ?_ _) | (with_reducible refine Kd.C_drewN ?_ _) | (with_reducible refine Kd.C_drew ?_))); (case aB => exact (by repeat (first | (with_reducible first | exact HB.out | apply below_alloc | apply pw_below_drewN | apply below_drew1 | refine below_set ?_ GE169.out | refine below_set ?_ GE170.out) | exact HB.out))); (case aF => exact (fun _ _ => trivial)); (case aO => exact (by (with_reducible repeat (first | apply Kd.R_alloc | apply Kd.R_drewN | apply Kd.R_drew)); exact HO173.out)); (case aS => exact (below_size (by repeat (first | (with_reducible first | exact HB.out | apply below_alloc | apply pw_below_drewN | apply below_drew1 | refine below_set ?_ GE169.out | refine below_set ?_ GE170.out) | exact HB.out)))); (case aL => have := LMc2.out; omega); intro v175 w10 ho hb hg hat; rw [← Ny174.out] at ho; have n0_ := Aside0.mk (blk_grown (g := gb169) (o := .cells #[.int .i64 a0_0, .int .i64 a0_1, .slice A0_2 l0_2.length c0_2, .int .i64 a0_3, .int .i64 a0_4, .int .i64 a0_5, .int .i64 a0_6, .slice A0_7 l0_7.length c0_7] 27 (0, 0)) (by (with_reducible repeat (first | refine blk_drewN ?_ _ | refine blk_drew ?_ | refine blk_alloc ?_ _)); exact BK169.out) hg (Kd.R_ne HO173.out BK169.out (by decide))); have n1_ := Aside0.mk (blk_grown (g := gb170) (o := .cells #[.int .i64 0, .int .i64 0, .slice none 0 0, .int .i64 0, .int .i64 0, .int .i64 0, .int .i64 0, .slice none 0 0] 27 (0, 0)) (by (with_reducible repeat (first | refine blk_drewN ?_ _ | refine blk_drew ?_ | refine blk_alloc ?_ _)); exact BK170.out) hg (Kd.R_ne HO173.out BK170.out (by decide))); have n2_ := Aside0.mk (hb); have n3_ := Aside0.mk (ho); clear BK169; clear BK170; clear HB; clear HO173; have BK169 := n0_; have BK170 := n1_; have HB := n2_; have HO176 := n3_; clear n0_ n1_ n2_ n3_; clear ho hb hg hat; obtain ⟨Ao11, co11, eo11⟩ := Kd.R_slice HO176.out; subst eo11; have hcz12_0 : w10.cell? ⟨gb169, 0, none⟩ = some (.int .i64 a0_0) := (blk_cell BK169.out 0).trans rfl; have hcz12_1 : w10.cell? ⟨gb169, 1, none⟩ = some (.int .i64 a0_1) := (blk_cell BK169.out 1).trans rfl; have hcz12_2 : w10.cell? ⟨gb169, 2, none⟩ = some (.slice A0_2 l0_2.length c0_2) := (blk_cell BK169.out 2).trans rfl; have hcz12_3 : w10.cell? ⟨gb169, 3, none⟩ = some (.int .i64 a0_3) := (blk_cell BK169.out 3).trans rfl; have hcz12_4 : w10.cell? ⟨gb169, 4, none⟩ = some (.int .i64 a0_4) := (blk_cell BK169.out 4).trans rfl; have hcz12_5 : w10.cell? ⟨gb169, 5, none⟩ = some (.int .i64 a0_5) := (blk_cell BK169.out 5).trans rfl; have hcz12_6 : w10.cell? ⟨gb169, 6, none⟩ = some (.int .i64 a0_6) := (blk_cell BK169.out 6).trans rfl; have hcz12_7 : w10.cell? ⟨gb169, 7, none⟩ = some (.slice A0_7 l0_7.length c0_7) := (blk_cell BK169.out 7).trans rfl; have hfz12_0 := blk_frozen BK169.out 0; have hfz12_1 := blk_frozen BK169.out 1; have hfz12_2 := blk_frozen BK169.out 2; have hfz12_3 := blk_frozen BK169.out 3; have hfz12_4 := blk_frozen BK169.out 4; have hfz12_5 := blk_frozen BK169.out 5; have hfz12_6 := blk_frozen BK169.out 6; have hfz12_7 := blk_frozen BK169.out 7) | ((with_reducible refine gate_dst (N := 8) rfl ?_); refine Kd.R_lit k58 _ 58 ?hg (N := 8) ?hd (xs := ([] : List (S58))) (inner := []) (ok := fun _ => True) (okp := fun _ => True) ?hr ?hp (fun _ hk => hk) trivial (Below.refl _ _) (Nat.le_refl _) (by simp) ?_; (case hd => rfl); (case hg => rfl); (case hr => first | (go_simp; done) | (go_simp; rfl)); (case hp => exact (Reps.none _ _)); intro v178 w13 ho14 hb hg_ hnew_; clear hg_ hnew_; (first | rw [← Ny177.out] at ho14 | (simp only [Int.reduceToNat] at ho14; rw [← Ny177.out] at ho14)); have n0_ := Aside0.mk (Kd.R_below (by (with_reducible repeat (first | apply Kd.R_alloc | apply Kd.R_drewN | apply Kd.R_drew)); exact (Kd.R_mono (Kd.R_far (p := ⟨gb169, 2, none⟩) (Kd.R_types HO176.out BK169.out (by decide)) (fun _ hk => hk.2) (.slice Ao11 y174.length co11)) (fun _ h_ => h_.1))) hb); have n1_ := Aside0.mk (Kd.R_lower ho14 (below_size (by repeat (first | (with_reducible first | exact HB.out | apply below_alloc | apply pw_below_drewN | apply below_drew1 | refine below_set ?_ GE169.out | refine below_set ?_ GE170.out) | exact HB.out)))); have n2_ := Aside0.mk (blk_below (g := gb169) (o := .cells #[.int .i64 a0_0, .int .i64 a0_1, .slice Ao11 y174.length co11, .int .i64 a0_3, .int .i64 a0_4, .int .i64 a0_5, .int .i64 a0_6, .slice A0_7 l0_7.length c0_7] 27 (0, 0)) (by (with_reducible repeat (first | refine blk_drewN ?_ _ | refine blk_drew ?_ | refine blk_alloc ?_ _)); refine blk_put (cs := #[.int .i64 a0_0, .int .i64 a0_1, .slice A0_2 l0_2.length c0_2, .int .i64 a0_3, .int .i64 a0_4, .int .i64 a0_5, .int .i64 a0_6, .slice A0_7 l0_7.length c0_7]) ?_ 2 _ rfl; (with_reducible repeat (first | refine blk_drewN ?_ _ | refine blk_drew ?_ | refine blk_alloc ?_ _)); exact BK169.out) hb); have n3_ := Aside0.mk (blk_below (g := gb170) (o := .cells #[.int .i64 0, .int .i64 0, .slice none 0 0, .int .i64 0, .int .i64 0, .int .i64 0, .int .i64 0, .slice none 0 0] 27 (0, 0)) (by (with_reducible repeat (first | refine blk_drewN ?_ _ | refine blk_drew ?_ | refine blk_alloc ?_ _)); refine blk_far ?_ NB170_169.out _; (with_reducible repeat (first | refine blk_drewN ?_ _ | refine blk_drew ?_ | refine blk_alloc ?_ _)); exact BK170.out) hb); have n4_ := Aside0.mk (below_step (by repeat (first | (with_reducible first | exact HB.out | apply below_alloc | apply pw_below_drewN | apply below_drew1 | refine below_set ?_ GE169.out | refine below_set ?_ GE170.out) | exact HB.out)) hb); clear HO176; clear BK169; clear BK170; clear HB; have HO176 := n0_; have HO179 := n1_; have BK169 := n2_; have BK170 := n3_; have HB := n4_; clear n0_ n1_ n2_ n3_ n4_; clear hb ho14; have hcz15_0 : w13.cell? ⟨gb169, 0, none⟩ = some (.int .i64 a0_0) := (blk_cell BK169.out 0).trans rfl; have hcz15_1 : w13.cell? ⟨gb169, 1, none⟩ = some (.int .i64 a0_1) := (blk_cell BK169.out 1).trans rfl; have hcz15_2 : w13.cell? ⟨gb169, 2, none⟩ = some (.slice Ao11 y174.length co11) := (blk_cell BK169.out 2).trans rfl; have hcz15_3 : w13.cell? ⟨gb169, 3, none⟩ = some (.int .i64 a0_3) := (blk_cell BK169.out 3).trans rfl; have hcz15_4 : w13.cell? ⟨gb169, 4, none⟩ = some (.int .i64 a0_4) := (blk_cell BK169.out 4).trans rfl; have hcz15_5 : w13.cell? ⟨gb169, 5, none⟩ = some (.int .i64 a0_5) := (blk_cell BK169.out 5).trans rfl; have hcz15_6 : w13.cell? ⟨gb169, 6, none⟩ = some (.int .i64 a0_6) := (blk_cell BK169.out 6).trans rfl; have hcz15_7 : w13.cell? ⟨gb169, 7, none⟩ = some (.slice A0_7 l0_7.length c0_7) := (blk_cell BK169.out 7).trans rfl; have hfz15_0 := blk_frozen BK169.out 0; have hfz15_1 := blk_frozen BK169.out 1; have hfz15_2 := blk_frozen BK169.out 2; have hfz15_3 := blk_frozen BK169.out 3; have hfz15_4 := blk_frozen BK169.out 4; have hfz15_5 := blk_frozen BK169.out 5; have hfz15_6 := blk_frozen BK169.out 6; have hfz15_7 := blk_frozen BK169.out 7) | ((with_reducible refine gate_builtin (b := .append) (xs := #[.tmp 8, .tmp 10]) rfl ?_); at_builtin; refine Kd.R_append_rows k58 (w0 := w) w.heap.size rfl (.tmp 8) (.tmp 10) 25 58 (.agg #[(.int .i64 0), (.int .i64 0)]) 16 rfl Try.underlying25 info58 rfl (by decide) (by omega) v178 y177 l0_7 _ _ _ (fun _ => True) (fun _ => False) rfl rfl ?aO ?aR (fun _ _ h => h) (fun _ h => h.elim) ?aF ?aB ?aS ?aL ?_; (case aR => repeat (first | exact (Kd.C_below HR0_7.out HB.out) | (with_reducible refine Kd.C_alloc ?_ _) | (with_reducible refine Kd.C_drewN ?_ _) | (with_reducible refine Kd.C_drew ?_))); (case aB => exact (by repeat (first | (with_reducible first | exact HB.out | apply below_alloc | apply pw_below_drewN | apply below_drew1 | refine below_set ?_ GE169.out | refine below_set ?_ GE170.out) | exact HB.out))); (case aF => exact (fun _ _ => trivial)); (case aO => exact (by (with_reducible repeat (first | apply Kd.R_alloc | apply Kd.R_drewN | apply Kd.R_drew)); exact HO179.out)); (case aS => exact (below_size (by repeat (first | (with_reducible first | exact HB.out | apply below_alloc | apply pw_below_drewN | apply below_drew1 | refine below_set ?_ GE169.out | refine below_set ?_ GE170.out) | exact HB.out)))); (case aL => have := LMc3.out; omega); intro v181 w16 ho hb hg hat; rw [← Ny180.out] at ho; have n0_ := Aside0.mk (blk_grown (g := gb169) (o := .cells #[.int .i64 a0_0, .int .i64 a0_1, .slice Ao11 y174.length co11, .int .i64 a0_3, .int .i64 a0_4, .int .i64 a0_5, .int .i64 a0_6, .slice A0_7 l0_7.length c0_7] 27 (0, 0)) (by (with_reducible repeat (first | refine blk_drewN ?_ _ | refine blk_drew ?_ | refine blk_alloc ?_ _)); exact BK169.out) hg (Kd.R_ne HO179.out BK169.out (by decide))); have n1_ := Aside0.mk (blk_grown (g := gb170) (o := .cells #[.int .i64 0, .int .i64 0, .slice none 0 0, .int .i64 0, .int .i64 0, .int .i64 0, .int .i64 0, .slice none 0 0] 27 (0, 0)) (by (with_reducible repeat (first | refine blk_drewN ?_ _ | refine blk_drew ?_ | refine blk_alloc ?_ _)); exact BK170.out) hg (Kd.R_ne HO179.out BK170.out (by decide))); have n2_ := Aside0.mk (Kd.R_over' (by (with_reducible repeat (first | apply Kd.R_alloc | apply Kd.R_drewN | apply Kd.R_drew)); exact HO176.out) (Kd.R_typed (by (with_reducible repeat (first | apply Kd.R_alloc | apply Kd.R_drewN | apply Kd.R_drew)); exact HO179.out)) (by decide) hg); have n3_ := Aside0.mk (hb); have n4_ := Aside0.mk (ho); clear BK169; clear BK170; clear HO176; clear HB; clear HO179; have BK169 := n0_; have BK170 := n1_; have HO176 := n2_; have HB := n3_; have HO182 := n4_; clear n0_ n1_ n2_ n3_ n4_; clear ho hb hg hat; obtain ⟨Ao17, co17, eo17⟩ := Kd.R_slice HO182.out; subst eo17; have hcz18_0 : w16.cell? ⟨gb169, 0, none⟩ = some (.int .i64 a0_0) := (blk_cell BK169.out 0).trans rfl; have hcz18_1 : w16.cell? ⟨gb169, 1, none⟩ = some (.int .i64 a0_1) := (blk_cell BK169.out 1).trans rfl; have hcz18_2 : w16.cell? ⟨gb169, 2, none⟩ = some (.slice Ao11 y174.length co11) := (blk_cell BK169.out 2).trans rfl; have hcz18_3 : w16.cell? ⟨gb169, 3, none⟩ = some (.int .i64 a0_3) := (blk_cell BK169.out 3).trans rfl; have hcz18_4 : w16.cell? ⟨gb169, 4, none⟩ = some (.int .i64 a0_4) := (blk_cell BK169.out 4).trans rfl; have hcz18_5 : w16.cell? ⟨gb169, 5, none⟩ = some (.int .i64 a0_5) := (blk_cell BK169.out 5).trans rfl; have hcz18_6 : w16.cell? ⟨gb169, 6, none⟩ = some (.int .i64 a0_6) := (blk_cell BK169.out 6).trans rfl; have hcz18_7 : w16.cell? ⟨gb169, 7, none⟩ = some (.slice A0_7 l0_7.length c0_7) := (blk_cell BK169.out 7).trans rfl; have hfz18_0 := blk_frozen BK169.out 0; have hfz18_1 := blk_frozen BK169.out 1; have hfz18_2 := blk_frozen BK169.out 2; have hfz18_3 := blk_frozen BK169.out 3; have hfz18_4 := blk_frozen BK169.out 4; have hfz18_5 := blk_frozen BK169.out 5; have hfz18_6 := blk_frozen BK169.out 6; have hfz18_7 := blk_frozen BK169.out 7; have hcz19_0 : w16.cell? ⟨gb170, 0, none⟩ = some (.int .i64 0) := (blk_cell BK170.out 0).trans rfl; have hcz19_1 : w16.cell? ⟨gb170, 1, none⟩ = some (.int .i64 0) := (blk_cell BK170.out 1).trans rfl; have hcz19_2 : w16.cell? ⟨gb170, 2, none⟩ = some (.slice none 0 0) := (blk_cell BK170.out 2).trans rfl; have hcz19_3 : w16.cell? ⟨gb170, 3, none⟩ = some (.int .i64 0) := (blk_cell BK170.out 3).trans rfl; have hcz19_4 : w16.cell? ⟨gb170, 4, none⟩ = some (.int .i64 0) := (blk_cell BK170.out 4).trans rfl; have hcz19_5 : w16.cell? ⟨gb170, 5, none⟩ = some (.int .i64 0) := (blk_cell BK170.out 5).trans rfl; have hcz19_6 : w16.cell? ⟨gb170, 6, none⟩ = some (.int .i64 0) := (blk_cell BK170.out 6).trans rfl; have hcz19_7 : w16.cell? ⟨gb170, 7, none⟩ = some (.slice none 0 0) := (blk_cell BK170.out 7).trans rfl; have hfz19_0 := blk_frozen BK170.out 0; have hfz19_1 := blk_frozen BK170.out 1; have hfz19_2 := blk_frozen BK170.out 2; have hfz19_3 := blk_frozen BK170.out 3; have hfz19_4 := blk_frozen BK170.out 4; have hfz19_5 := blk_frozen BK170.out 5; have hfz19_6 := blk_frozen BK170.out 6; have hfz19_7 := blk_frozen BK170.out 7))
      refine bodyPost_ret (results_cell_row rfl _ _ gb170 27 #[.int .i64 a0_0, .int .i64 a0_1, .slice Ao11 y174.length co11, .int .i64 a0_3, .int .i64 a0_4, .int .i64 a0_5, .int .i64 a0_6, .slice Ao17 y180.length co17] (0, 0) _ rfl (by (with_reducible repeat (first | refine blk_drewN ?_ _ | refine blk_drew ?_ | refine blk_alloc ?_ _)); refine blk_put (cs := #[.int .i64 a0_0, .int .i64 a0_1, .slice Ao11 y174.length co11, .int .i64 a0_3, .int .i64 a0_4, .int .i64 a0_5, .int .i64 a0_6, .slice none 0 0]) ?_ 7 _ rfl; (with_reducible repeat (first | refine blk_drewN ?_ _ | refine blk_drew ?_ | refine blk_alloc ?_ _)); refine blk_put (cs := #[.int .i64 a0_0, .int .i64 a0_1, .slice Ao11 y174.length co11, .int .i64 a0_3, .int .i64 a0_4, .int .i64 a0_5, .int .i64 0, .slice none 0 0]) ?_ 6 _ rfl; (with_reducible repeat (first | refine blk_drewN ?_ _ | refine blk_drew ?_ | refine blk_alloc ?_ _)); refine blk_put (cs := #[.int .i64 a0_0, .int .i64 a0_1, .slice Ao11 y174.length co11, .int .i64 a0_3, .int .i64 a0_4, .int .i64 0, .int .i64 0, .slice none 0 0]) ?_ 5 _ rfl; (with_reducible repeat (first | refine blk_drewN ?_ _ | refine blk_drew ?_ | refine blk_alloc ?_ _)); refine blk_put (cs := #[.int .i64 a0_0, .int .i64 a0_1, .slice Ao11 y174.length co11, .int .i64 a0_3, .int .i64 0, .int .i64 0, .int .i64 0, .slice none 0 0]) ?_ 4 _ rfl; (with_reducible repeat (first | refine blk_drewN ?_ _ | refine blk_drew ?_ | refine blk_alloc ?_ _)); refine blk_put (cs := #[.int .i64 a0_0, .int .i64 a0_1, .slice Ao11 y174.length co11, .int .i64 0, .int .i64 0, .int .i64 0, .int .i64 0, .slice none 0 0]) ?_ 3 _ rfl; (with_reducible repeat (first | refine blk_drewN ?_ _ | refine blk_drew ?_ | refine blk_alloc ?_ _)); refine blk_put (cs := #[.int .i64 a0_0, .int .i64 a0_1, .slice none 0 0, .int .i64 0, .int .i64 0, .int .i64 0, .int .i64 0, .slice none 0 0]) ?_ 2 _ rfl; (with_reducible repeat (first | refine blk_drewN ?_ _ | refine blk_drew ?_ | refine blk_alloc ?_ _)); refine blk_put (cs := #[.int .i64 a0_0, .int .i64 0, .slice none 0 0, .int .i64 0, .int .i64 0, .int .i64 0, .int .i64 0, .slice none 0 0]) ?_ 1 _ rfl; (with_reducible repeat (first | refine blk_drewN ?_ _ | refine blk_drew ?_ | refine blk_alloc ?_ _)); refine blk_put (cs := #[.int .i64 0, .int .i64 0, .slice none 0 0, .int .i64 0, .int .i64 0, .int .i64 0, .int .i64 0, .slice none 0 0]) ?_ 0 _ rfl; (with_reducible repeat (first | refine blk_drewN ?_ _ | refine blk_drew ?_ | refine blk_alloc ?_ _)); refine blk_far ?_ NB170_169.out _; (with_reducible repeat (first | refine blk_drewN ?_ _ | refine blk_drew ?_ | refine blk_alloc ?_ _)); exact BK170.out) Try.underlying27 rfl (by kernel_rfl)) rfl ?_
      exact ⟨_, _, by first | rfl | (simp [errW_none, errW_some] <;> rfl) | (simp [*, errW_none, errW_some] <;> rfl), by (with_reducible repeat (first | apply Kd.R_alloc | apply Kd.R_drewN | apply Kd.R_drew)); exact Kd.R_mono (Kd.R_far (p := ⟨gb170, 7, none⟩) (Kd.R_far (p := ⟨gb170, 6, none⟩) (Kd.R_far (p := ⟨gb170, 5, none⟩) (Kd.R_far (p := ⟨gb170, 4, none⟩) (Kd.R_far (p := ⟨gb170, 3, none⟩) (Kd.R_far (p := ⟨gb170, 2, none⟩) (Kd.R_far (p := ⟨gb170, 1, none⟩) (Kd.R_far (p := ⟨gb170, 0, none⟩) (Kd.R_far (p := ⟨gb169, 7, none⟩) (Kd.R_types (Kd.R_types HO176.out BK169.out (by decide)) BK170.out (by decide)) (fun _ hk => hk.1.2) (.slice Ao17 y180.length co17)) (fun _ hk => hk.2) (.int .i64 a0_0)) (fun _ hk => hk.2) (.int .i64 a0_1)) (fun _ hk => hk.2) (.slice Ao11 y174.length co11)) (fun _ hk => hk.2) (.int .i64 a0_3)) (fun _ hk => hk.2) (.int .i64 a0_4)) (fun _ hk => hk.2) (.int .i64 a0_5)) (fun _ hk => hk.2) (.int .i64 a0_6)) (fun _ hk => hk.2) (.slice Ao17 y180.length co17)) (fun _ hk => trivial), by (with_reducible repeat (first | apply Kd.R_alloc | apply Kd.R_drewN | apply Kd.R_drew)); exact Kd.R_mono (Kd.R_far (p := ⟨gb170, 7, none⟩) (Kd.R_far (p := ⟨gb170, 6, none⟩) (Kd.R_far (p := ⟨gb170, 5, none⟩) (Kd.R_far (p := ⟨gb170, 4, none⟩) (Kd.R_far (p := ⟨gb170, 3, none⟩) (Kd.R_far (p := ⟨gb170, 2, none⟩) (Kd.R_far (p := ⟨gb170, 1, none⟩) (Kd.R_far (p := ⟨gb170, 0, none⟩) (Kd.R_far (p := ⟨gb169, 7, none⟩) (Kd.R_types (Kd.R_types HO182.out BK169.out (by decide)) BK170.out (by decide)) (fun _ hk => hk.1.2) (.slice Ao17 y180.length co17)) (fun _ hk => hk.2) (.int .i64 a0_0)) (fun _ hk => hk.2) (.int .i64 a0_1)) (fun _ hk => hk.2) (.slice Ao11 y174.length co11)) (fun _ hk => hk.2) (.int .i64 a0_3)) (fun _ hk => hk.2) (.int .i64 a0_4)) (fun _ hk => hk.2) (.int .i64 a0_5)) (fun _ hk => hk.2) (.int .i64 a0_6)) (fun _ hk => hk.2) (.slice Ao17 y180.length co17)) (fun _ hk => trivial), by repeat (first | (with_reducible first | exact HB.out | apply below_alloc | apply pw_below_drewN | apply below_drew1 | refine below_set ?_ GE169.out | refine below_set ?_ GE170.out) | exact HB.out)⟩
    · rw [if_neg c3] at H
      exact absurd H (by simp)
  · rw [if_neg c2] at H
    exact absurd H (by simp)

end Go.Proofs.Ytefgoffaidjiaaa.PAll
namespace Go.Proofs.Ytefgoffaidjiaaa.PAll
open Go.RowKit Go.Proofs.YtefgoffaidjiaaaW.PrintWords Go.Proofs.YtefgoffaidjiaaaW.PrintLast Go.Proofs.YtefgoffaidjiaaaW.PrintMore
attribute [local go_sem] max2_int min2_int max_two min_two max_three min_three max_four min_four   -- for this text's walks alone
set_option linter.unusedVariables false
set_option linter.unusedSimpArgs false

/-! ### governorref18_Own: function 21 -/
def governorref18_Own.f (a0_0 : Int) (a0_1 : Int) (l0_2 : List (S56)) (a0_3 : Int) (a0_4 : Int) (a0_5 : Int) (a0_6 : Int) (l0_7 : List (S58)) (a0_8 : Int) (a0_9 : Int) (a0_10 : Bool) (a0_11 : Int) (a0_12 : Int) (a0_13 : Bool) (a0_14 : Int) (l0_15 : List Int) (a0_16 : Int) (a0_17 : Int) (l0_18 : List (S52)) : Option (Int × Int × (List (S56)) × Int × Int × Int × Int × (List (S58)) × Int × Int × Bool × Int × Int × Bool × Int × List Int × Int × Int × (List (S52))) := if l0_2.length < 8796093022208 ∧ l0_7.length < 8796093022208 ∧ l0_15.length < 17592186044416 ∧ l0_18.length < 8796093022208 then some (a0_0, a0_1, l0_2, a0_3, a0_4, a0_5, a0_6, l0_7, a0_8, a0_9, a0_10, a0_11, a0_12, a0_13, a0_14, l0_15, a0_16, a0_17, l0_18) else none
theorem OwS.grown {α : Type} {d : Kd α} {e base : Nat} {ok : Nat → Prop} {v : Value} {xs : List α} {w W W1 : World} {cs : Array Value} (h : OwS w W cs) (hg : W.grownBy W1 v.ownBlock) (hr : d.R e W base ok v xs) (hne : e ≠ 37) (hB : Below w.heap.size w W1) : OwS w W1 cs := ⟨blk_grown h.hX hg (Kd.R_ne hr h.hX hne), blk_grown h.hY hg (Kd.R_ne hr h.hY hne), hB⟩
set_option maxHeartbeats 8000000 in
set_option maxRecDepth 100000 in
theorem governorref18_Own.calls (a0_0 : Int) (a0_1 : Int) (A0_2 : Option Addr) (c0_2 : Nat) (l0_2 : List (S56)) (a0_3 : Int) (a0_4 : Int) (a0_5 : Int) (a0_6 : Int) (A0_7 : Option Addr) (c0_7 : Nat) (l0_7 : List (S58)) (a0_8 : Int) (a0_9 : Int) (a0_10 : Bool) (a0_11 : Int) (a0_12 : Int) (a0_13 : Bool) (a0_14 : Int) (A0_15 : Option Addr) (c0_15 : Nat) (l0_15 : List Int) (a0_16 : Int) (a0_17 : Int) (A0_18 : Option Addr) (c0_18 : Nat) (l0_18 : List (S52)) (r1 : Int) (r2 : Int) (r3 : List (S56)) (r4 : Int) (r5 : Int) (r6 : Int) (r7 : Int) (r8 : List (S58)) (r9 : Int) (r10 : Int) (r11 : Bool) (r12 : Int) (r13 : Int) (r14 : Bool) (r15 : Int) (r16 : List Int) (r17 : Int) (r18 : Int) (r19 : List (S52)) (w : World) (hr0_2 : Kd.C k56 w A0_2 l0_2.length l0_2) (hc0_2 : l0_2.length ≤ c0_2) (hr0_7 : Kd.C k58 w A0_7 l0_7.length l0_7) (hc0_7 : l0_7.length ≤ c0_7) (hr0_15 : Kd.C (Kd.int .i64) w A0_15 l0_15.length l0_15) (hc0_15 : l0_15.length ≤ c0_15) (hr0_18 : Kd.C k52 w A0_18 l0_18.length l0_18) (hc0_18 : l0_18.length ≤ c0_18) (h : governorref18_Own.f a0_0 a0_1 l0_2 a0_3 a0_4 a0_5 a0_6 l0_7 a0_8 a0_9 a0_10 a0_11 a0_12 a0_13 a0_14 l0_15 a0_16 a0_17 l0_18 = some (r1, r2, r3, r4, r5, r6, r7, r8, r9, r10, r11, r12, r13, r14, r15, r16, r17, r18, r19)) :
    Calls Try.prog 21 #[.agg #[.int .i64 a0_0, .int .i64 a0_1, .slice A0_2 l0_2.length c0_2, .int .i64 a0_3, .int .i64 a0_4, .int .i64 a0_5, .int .i64 a0_6, .slice A0_7 l0_7.length c0_7, .int .i64 a0_8, .int .i64 a0_9, .bool a0_10, .int .i64 a0_11, .int .i64 a0_12, .bool a0_13, .int .i64 a0_14, .slice A0_15 l0_15.length c0_15, .int .i64 a0_16, .int .i64 a0_17, .slice A0_18 l0_18.length c0_18]] w fun e w' => ∃ v2_ v7_ v15_ v18_ : Value, e = .returned (.agg #[.int .i64 r1, .int .i64 r2, v2_, .int .i64 r4, .int .i64 r5, .int .i64 r6, .int .i64 r7, v7_, .int .i64 r9, .int .i64 r10, .bool r11, .int .i64 r12, .int .i64 r13, .bool r14, .int .i64 r15, v15_, .int .i64 r17, .int .i64 r18, v18_]) ∧ Kd.R k56 56 w' w.heap.size (fun _ => True) v2_ r3 ∧ Kd.R k58 58 w' w.heap.size (fun _ => True) v7_ r8 ∧ Kd.R (Kd.int .i64) 3 w' w.heap.size (fun _ => True) v15_ r16 ∧ Kd.R k52 52 w' w.heap.size (fun _ => True) v18_ r19 ∧ Below w.heap.size w w' := by
  have hu1 := Try.underlying37
  have hu2 := Try.underlying27
  have hu3 := Try.underlying34
  unfold governorref18_Own.f at h
  have hD : l0_2.length < 8796093022208 ∧ l0_7.length < 8796093022208 ∧ l0_15.length < 17592186044416 ∧ l0_18.length < 8796093022208 := by
    by_cases hD : l0_2.length < 8796093022208 ∧ l0_7.length < 8796093022208 ∧ l0_15.length < 17592186044416 ∧ l0_18.length < 8796093022208
    · exact hD
    · rw [if_neg hD] at h; cases h
  rw [if_pos hD] at h
  simp only [Option.some.injEq, Prod.mk.injEq] at h
  obtain ⟨rfl, rfl, rfl, rfl, rfl, rfl, rfl, rfl, rfl, rfl, rfl, rfl, rfl, rfl, rfl, rfl, rfl, rfl, rfl⟩ := h
  have HP := Aside0.mk (show governorref18_OwnPolicy.f a0_0 a0_1 l0_2 a0_3 a0_4 a0_5 a0_6 l0_7 = some (a0_0, a0_1, l0_2, a0_3, a0_4, a0_5, a0_6, l0_7) by unfold governorref18_OwnPolicy.f; simp only [Option.bind_some, List.length_nil, Nat.zero_add, List.nil_append, if_pos hD.1, if_pos hD.2.1])
  have HR2 := Aside0.mk hr0_2
  have HC2 := Aside0.mk hc0_2
  have HR7 := Aside0.mk hr0_7
  have HC7 := Aside0.mk hc0_7
  have HR15 := Aside0.mk hr0_15
  have HC15 := Aside0.mk hc0_15
  have HR18 := Aside0.mk hr0_18
  have HC18 := Aside0.mk hc0_18
  have HD := Aside0.mk hD
  clear hD hr0_2 hc0_2 hr0_7 hc0_7 hr0_15 hc0_15 hr0_18 hc0_18
  go_enter Try.func21, Try.ntmps21
  go_upto_region 1 with (fail)
  have S0 : OwS w ((w.alloc (.cells #[.int .i64 a0_0, .int .i64 a0_1, .slice A0_2 l0_2.length c0_2, .int .i64 a0_3, .int .i64 a0_4, .int .i64 a0_5, .int .i64 a0_6, .slice A0_7 l0_7.length c0_7, .int .i64 a0_8, .int .i64 a0_9, .bool a0_10, .int .i64 a0_11, .int .i64 a0_12, .bool a0_13, .int .i64 a0_14, .slice A0_15 l0_15.length c0_15, .int .i64 a0_16, .int .i64 a0_17, .slice A0_18 l0_18.length c0_18] 37)).alloc (.cells #[.int .i64 0, .int .i64 0, .slice none 0 0, .int .i64 0, .int .i64 0, .int .i64 0, .int .i64 0, .slice none 0 0, .int .i64 0, .int .i64 0, .bool false, .int .i64 0, .int .i64 0, .bool false, .int .i64 0, .slice none 0 0, .int .i64 0, .int .i64 0, .slice none 0 0] 37)) #[.int .i64 a0_0, .int .i64 a0_1, .slice A0_2 l0_2.length c0_2, .int .i64 a0_3, .int .i64 a0_4, .int .i64 a0_5, .int .i64 a0_6, .slice A0_7 l0_7.length c0_7, .int .i64 a0_8, .int .i64 a0_9, .bool a0_10, .int .i64 a0_11, .int .i64 a0_12, .bool a0_13, .int .i64 a0_14, .slice A0_15 l0_15.length c0_15, .int .i64 a0_16, .int .i64 a0_17, .slice A0_18 l0_18.length c0_18] := by
    have z1 := blk_new (w.alloc (.cells #[.int .i64 a0_0, .int .i64 a0_1, .slice A0_2 l0_2.length c0_2, .int .i64 a0_3, .int .i64 a0_4, .int .i64 a0_5, .int .i64 a0_6, .slice A0_7 l0_7.length c0_7, .int .i64 a0_8, .int .i64 a0_9, .bool a0_10, .int .i64 a0_11, .int .i64 a0_12, .bool a0_13, .int .i64 a0_14, .slice A0_15 l0_15.length c0_15, .int .i64 a0_16, .int .i64 a0_17, .slice A0_18 l0_18.length c0_18] 37)) (.cells #[.int .i64 0, .int .i64 0, .slice none 0 0, .int .i64 0, .int .i64 0, .int .i64 0, .int .i64 0, .slice none 0 0, .int .i64 0, .int .i64 0, .bool false, .int .i64 0, .int .i64 0, .bool false, .int .i64 0, .slice none 0 0, .int .i64 0, .int .i64 0, .slice none 0 0] 37)
    rw [World.size_alloc] at z1
    exact ⟨blk_alloc (blk_new w _) _, z1, below_alloc (below_alloc (Below.refl _ _) _) _⟩
  generalize (w.alloc _).alloc _ = W0 at S0 ⊢
  have HS := Aside0.mk S0
  clear S0
  have xc0 := blk_cell HS.out.hX 0
  have xc1 := blk_cell HS.out.hX 1
  have xc2 := blk_cell HS.out.hX 2
  have xc3 := blk_cell HS.out.hX 3
  have xc4 := blk_cell HS.out.hX 4
  have xc5 := blk_cell HS.out.hX 5
  have xc6 := blk_cell HS.out.hX 6
  have xc7 := blk_cell HS.out.hX 7
  simp only [List.getElem?_toArray, List.getElem?_cons_zero, List.getElem?_cons_succ] at xc0 xc1 xc2 xc3 xc4 xc5 xc6 xc7
  go_upto_region 2 with (go_at_call 44; refine (governorref18_OwnPolicy.calls _ _ _ _ _ _ _ _ _ _ _ _ _ _ _ _ _ _ _ _ _ (Kd.C_below HR2.out HS.out.hB) HC2.out (Kd.C_below HR7.out HS.out.hB) HC7.out HP.out).mono ?_; rintro e_ w1 ⟨v2, v7, rfl, r2, r7, hb⟩; obtain ⟨A2, c2, rfl⟩ := Kd.R_slice r2; obtain ⟨A7, c7, rfl⟩ := Kd.R_slice r7; have HU2 := Aside0.mk (Kd.R_lower r2 HS.out.hB.size); have HU7 := Aside0.mk (Kd.R_lower r7 HS.out.hB.size); replace HS := Aside0.mk (HS.out.below hb); clear r2 r7 hb xc0 xc1 xc2 xc3 xc4 xc5 xc6 xc7; have xc0 := blk_cell HS.out.hX 0; have xc1 := blk_cell HS.out.hX 1; have xc2 := blk_cell HS.out.hX 2; have xc3 := blk_cell HS.out.hX 3; have xc4 := blk_cell HS.out.hX 4; have xc5 := blk_cell HS.out.hX 5; have xc6 := blk_cell HS.out.hX 6; have xc7 := blk_cell HS.out.hX 7; simp only [List.getElem?_toArray, List.getElem?_cons_zero, List.getElem?_cons_succ] at xc0 xc1 xc2 xc3 xc4 xc5 xc6 xc7; have xf0 := blk_frozen HS.out.hX 0; have xf1 := blk_frozen HS.out.hX 1; have xf2 := blk_frozen HS.out.hX 2; have xf3 := blk_frozen HS.out.hX 3; have xf4 := blk_frozen HS.out.hX 4; have xf5 := blk_frozen HS.out.hX 5; have xf6 := blk_frozen HS.out.hX 6; have xf7 := blk_frozen HS.out.hX 7)
  replace HU2 := Aside0.mk (Kd.R_mono (Kd.R_set HU2.out HS.out.hX (by decide) 0 (.int .i64 a0_0)) (ok' := fun _ => True) (fun _ _ => trivial))
  replace HU7 := Aside0.mk (Kd.R_mono (Kd.R_set HU7.out HS.out.hX (by decide) 0 (.int .i64 a0_0)) (ok' := fun _ => True) (fun _ _ => trivial))
  replace HS : Aside0 (OwS w _ #[.int .i64 a0_0, .int .i64 a0_1, .slice A0_2 l0_2.length c0_2, .int .i64 a0_3, .int .i64 a0_4, .int .i64 a0_5, .int .i64 a0_6, .slice A0_7 l0_7.length c0_7, .int .i64 a0_8, .int .i64 a0_9, .bool a0_10, .int .i64 a0_11, .int .i64 a0_12, .bool a0_13, .int .i64 a0_14, .slice A0_15 l0_15.length c0_15, .int .i64 a0_16, .int .i64 a0_17, .slice A0_18 l0_18.length c0_18]) := Aside0.mk (HS.out.put 0 (.int .i64 a0_0) rfl)
  replace HU2 := Aside0.mk (Kd.R_mono (Kd.R_set HU2.out HS.out.hX (by decide) 1 (.int .i64 a0_1)) (ok' := fun _ => True) (fun _ _ => trivial))
  replace HU7 := Aside0.mk (Kd.R_mono (Kd.R_set HU7.out HS.out.hX (by decide) 1 (.int .i64 a0_1)) (ok' := fun _ => True) (fun _ _ => trivial))
  replace HS : Aside0 (OwS w _ #[.int .i64 a0_0, .int .i64 a0_1, .slice A0_2 l0_2.length c0_2, .int .i64 a0_3, .int .i64 a0_4, .int .i64 a0_5, .int .i64 a0_6, .slice A0_7 l0_7.length c0_7, .int .i64 a0_8, .int .i64 a0_9, .bool a0_10, .int .i64 a0_11, .int .i64 a0_12, .bool a0_13, .int .i64 a0_14, .slice A0_15 l0_15.length c0_15, .int .i64 a0_16, .int .i64 a0_17, .slice A0_18 l0_18.length c0_18]) := Aside0.mk (HS.out.put 1 (.int .i64 a0_1) rfl)
  replace HU2 := Aside0.mk (Kd.R_mono (Kd.R_set HU2.out HS.out.hX (by decide) 2 (.slice A2 l0_2.length c2)) (ok' := fun _ => True) (fun _ _ => trivial))
  replace HU7 := Aside0.mk (Kd.R_mono (Kd.R_set HU7.out HS.out.hX (by decide) 2 (.slice A2 l0_2.length c2)) (ok' := fun _ => True) (fun _ _ => trivial))
  replace HS : Aside0 (OwS w _ #[.int .i64 a0_0, .int .i64 a0_1, .slice A2 l0_2.length c2, .int .i64 a0_3, .int .i64 a0_4, .int .i64 a0_5, .int .i64 a0_6, .slice A0_7 l0_7.length c0_7, .int .i64 a0_8, .int .i64 a0_9, .bool a0_10, .int .i64 a0_11, .int .i64 a0_12, .bool a0_13, .int .i64 a0_14, .slice A0_15 l0_15.length c0_15, .int .i64 a0_16, .int .i64 a0_17, .slice A0_18 l0_18.length c0_18]) := Aside0.mk (HS.out.put 2 (.slice A2 l0_2.length c2) rfl)
  replace HU2 := Aside0.mk (Kd.R_mono (Kd.R_set HU2.out HS.out.hX (by decide) 3 (.int .i64 a0_3)) (ok' := fun _ => True) (fun _ _ => trivial))
  replace HU7 := Aside0.mk (Kd.R_mono (Kd.R_set HU7.out HS.out.hX (by decide) 3 (.int .i64 a0_3)) (ok' := fun _ => True) (fun _ _ => trivial))
  replace HS : Aside0 (OwS w _ #[.int .i64 a0_0, .int .i64 a0_1, .slice A2 l0_2.length c2, .int .i64 a0_3, .int .i64 a0_4, .int .i64 a0_5, .int .i64 a0_6, .slice A0_7 l0_7.length c0_7, .int .i64 a0_8, .int .i64 a0_9, .bool a0_10, .int .i64 a0_11, .int .i64 a0_12, .bool a0_13, .int .i64 a0_14, .slice A0_15 l0_15.length c0_15, .int .i64 a0_16, .int .i64 a0_17, .slice A0_18 l0_18.length c0_18]) := Aside0.mk (HS.out.put 3 (.int .i64 a0_3) rfl)
  replace HU2 := Aside0.mk (Kd.R_mono (Kd.R_set HU2.out HS.out.hX (by decide) 4 (.int .i64 a0_4)) (ok' := fun _ => True) (fun _ _ => trivial))
  replace HU7 := Aside0.mk (Kd.R_mono (Kd.R_set HU7.out HS.out.hX (by decide) 4 (.int .i64 a0_4)) (ok' := fun _ => True) (fun _ _ => trivial))
  replace HS : Aside0 (OwS w _ #[.int .i64 a0_0, .int .i64 a0_1, .slice A2 l0_2.length c2, .int .i64 a0_3, .int .i64 a0_4, .int .i64 a0_5, .int .i64 a0_6, .slice A0_7 l0_7.length c0_7, .int .i64 a0_8, .int .i64 a0_9, .bool a0_10, .int .i64 a0_11, .int .i64 a0_12, .bool a0_13, .int .i64 a0_14, .slice A0_15 l0_15.length c0_15, .int .i64 a0_16, .int .i64 a0_17, .slice A0_18 l0_18.length c0_18]) := Aside0.mk (HS.out.put 4 (.int .i64 a0_4) rfl)
  replace HU2 := Aside0.mk (Kd.R_mono (Kd.R_set HU2.out HS.out.hX (by decide) 5 (.int .i64 a0_5)) (ok' := fun _ => True) (fun _ _ => trivial))
  replace HU7 := Aside0.mk (Kd.R_mono (Kd.R_set HU7.out HS.out.hX (by decide) 5 (.int .i64 a0_5)) (ok' := fun _ => True) (fun _ _ => trivial))
  replace HS : Aside0 (OwS w _ #[.int .i64 a0_0, .int .i64 a0_1, .slice A2 l0_2.length c2, .int .i64 a0_3, .int .i64 a0_4, .int .i64 a0_5, .int .i64 a0_6, .slice A0_7 l0_7.length c0_7, .int .i64 a0_8, .int .i64 a0_9, .bool a0_10, .int .i64 a0_11, .int .i64 a0_12, .bool a0_13, .int .i64 a0_14, .slice A0_15 l0_15.length c0_15, .int .i64 a0_16, .int .i64 a0_17, .slice A0_18 l0_18.length c0_18]) := Aside0.mk (HS.out.put 5 (.int .i64 a0_5) rfl)
  replace HU2 := Aside0.mk (Kd.R_mono (Kd.R_set HU2.out HS.out.hX (by decide) 6 (.int .i64 a0_6)) (ok' := fun _ => True) (fun _ _ => trivial))
  replace HU7 := Aside0.mk (Kd.R_mono (Kd.R_set HU7.out HS.out.hX (by decide) 6 (.int .i64 a0_6)) (ok' := fun _ => True) (fun _ _ => trivial))
  replace HS : Aside0 (OwS w _ #[.int .i64 a0_0, .int .i64 a0_1, .slice A2 l0_2.length c2, .int .i64 a0_3, .int .i64 a0_4, .int .i64 a0_5, .int .i64 a0_6, .slice A0_7 l0_7.length c0_7, .int .i64 a0_8, .int .i64 a0_9, .bool a0_10, .int .i64 a0_11, .int .i64 a0_12, .bool a0_13, .int .i64 a0_14, .slice A0_15 l0_15.length c0_15, .int .i64 a0_16, .int .i64 a0_17, .slice A0_18 l0_18.length c0_18]) := Aside0.mk (HS.out.put 6 (.int .i64 a0_6) rfl)
  replace HU2 := Aside0.mk (Kd.R_mono (Kd.R_set HU2.out HS.out.hX (by decide) 7 (.slice A7 l0_7.length c7)) (ok' := fun _ => True) (fun _ _ => trivial))
  replace HU7 := Aside0.mk (Kd.R_mono (Kd.R_set HU7.out HS.out.hX (by decide) 7 (.slice A7 l0_7.length c7)) (ok' := fun _ => True) (fun _ _ => trivial))
  replace HS : Aside0 (OwS w _ #[.int .i64 a0_0, .int .i64 a0_1, .slice A2 l0_2.length c2, .int .i64 a0_3, .int .i64 a0_4, .int .i64 a0_5, .int .i64 a0_6, .slice A7 l0_7.length c7, .int .i64 a0_8, .int .i64 a0_9, .bool a0_10, .int .i64 a0_11, .int .i64 a0_12, .bool a0_13, .int .i64 a0_14, .slice A0_15 l0_15.length c0_15, .int .i64 a0_16, .int .i64 a0_17, .slice A0_18 l0_18.length c0_18]) := Aside0.mk (HS.out.put 7 (.slice A7 l0_7.length c7) rfl)
  generalize (((((((w1.setCell _ _).setCell _ _).setCell _ _).setCell _ _).setCell _ _).setCell _ _).setCell _ _).setCell _ _ = W1 at HS HU2 HU7 ⊢
  clear HP HR2 HC2 HR7 HC7 xc0 xc1 xc2 xc3 xc4 xc5 xc6 xc7 xf0 xf1 xf2 xf3 xf4 xf5 xf6 xf7
  have xc15 := blk_cell HS.out.hX 15
  simp only [List.getElem?_toArray, List.getElem?_cons_zero, List.getElem?_cons_succ] at xc15
  go_upto_region 3 with (first
    | ((with_reducible refine gate_dst (N := 7) rfl ?_); refine Kd.R_lit (Kd.int .i64) _ 3 ?hg (N := 7) ?hd (xs := ([] : List (Int))) (inner := []) (ok := fun _ => True) (okp := fun _ => True) ?hr ?hp (fun _ hk => hk) trivial (Below.refl _ _) (Nat.le_refl _) (by simp) ?_; (case hd => rfl); (case hg => rfl); (case hr => first | (go_simp; done) | (go_simp; rfl)); (case hp => exact (Reps.none _ _)); intro vv w3 ho3 hb hg_ hnew_; clear hg_ hnew_ xc15; have HV := Aside0.mk (Kd.R_lower ho3 HS.out.hB.size); replace HU2 := Aside0.mk (Kd.R_below HU2.out hb); replace HU7 := Aside0.mk (Kd.R_below HU7.out hb); replace HS := Aside0.mk (HS.out.below hb); have xc15 := blk_cell HS.out.hX 15; simp only [List.getElem?_toArray, List.getElem?_cons_zero, List.getElem?_cons_succ] at xc15; clear ho3 hb)
    | ((with_reducible refine gate_builtin (b := .append) (xs := #[.tmp 7, .tmp 10]) rfl ?_); at_builtin; refine Kd.R_append_rows (Kd.int .i64) (w0 := w) w.heap.size rfl (.tmp 7) (.tmp 10) 32 3 (.int .i64 0) 8 rfl Try.underlying32 info3 rfl (by decide) (by omega) vv ([] : List (Int)) l0_15 _ _ _ (fun _ => True) (fun _ => False) rfl rfl ?aO ?aR (fun _ _ h => h) (fun _ h => h.elim) ?aF ?aB ?aS ?aL ?_; (case aR => exact (Kd.C_below HR15.out HS.out.hB)); (case aB => exact HS.out.hB); (case aF => exact (fun _ _ => trivial)); (case aO => exact HV.out); (case aS => exact HS.out.hB.size); (case aL => have hD := HD.out; have := hD.2.2.1; simp only [List.length_nil]; omega); intro v478 w5 ho hb hg hat; rw [List.nil_append] at ho; replace HU2 := Aside0.mk (Kd.R_over' HU2.out (Kd.R_typed HV.out) (by decide) hg); replace HU7 := Aside0.mk (Kd.R_over' HU7.out (Kd.R_typed HV.out) (by decide) hg); replace HS := Aside0.mk (HS.out.grown hg HV.out (by decide) hb); obtain ⟨A15, c15, rfl⟩ := Kd.R_slice ho; have HU15 := Aside0.mk ho; clear HV ho hb hg hat xc15; have xc15 := blk_cell HS.out.hX 15; simp only [List.getElem?_toArray, List.getElem?_cons_zero, List.getElem?_cons_succ] at xc15; have xf15 := blk_frozen HS.out.hX 15))
  replace HU2 := Aside0.mk (Kd.R_mono (Kd.R_set HU2.out HS.out.hX (by decide) 15 (.slice A15 l0_15.length c15)) (ok' := fun _ => True) (fun _ _ => trivial))
  replace HU7 := Aside0.mk (Kd.R_mono (Kd.R_set HU7.out HS.out.hX (by decide) 15 (.slice A15 l0_15.length c15)) (ok' := fun _ => True) (fun _ _ => trivial))
  replace HU15 := Aside0.mk (Kd.R_mono (Kd.R_set HU15.out HS.out.hX (by decide) 15 (.slice A15 l0_15.length c15)) (ok' := fun _ => True) (fun _ _ => trivial))
  replace HS : Aside0 (OwS w _ #[.int .i64 a0_0, .int .i64 a0_1, .slice A2 l0_2.length c2, .int .i64 a0_3, .int .i64 a0_4, .int .i64 a0_5, .int .i64 a0_6, .slice A7 l0_7.length c7, .int .i64 a0_8, .int .i64 a0_9, .bool a0_10, .int .i64 a0_11, .int .i64 a0_12, .bool a0_13, .int .i64 a0_14, .slice A15 l0_15.length c15, .int .i64 a0_16, .int .i64 a0_17, .slice A0_18 l0_18.length c0_18]) := Aside0.mk (HS.out.put 15 (.slice A15 l0_15.length c15) rfl)
  generalize w5.setCell _ _ = W2 at HS HU2 HU7 HU15 ⊢
  clear HR15 HC15 xc15 xf15
  have xc18 := blk_cell HS.out.hX 18
  simp only [List.getElem?_toArray, List.getElem?_cons_zero, List.getElem?_cons_succ] at xc18
  go_upto_region 4 with (first
    | ((with_reducible refine gate_dst (N := 14) rfl ?_); refine Kd.R_lit k52 _ 52 ?hg (N := 14) ?hd (xs := ([] : List (S52))) (inner := []) (ok := fun _ => True) (okp := fun _ => True) ?hr ?hp (fun _ hk => hk) trivial (Below.refl _ _) (Nat.le_refl _) (by simp) ?_; (case hd => rfl); (case hg => rfl); (case hr => first | (go_simp; done) | (go_simp; rfl)); (case hp => exact (Reps.none _ _)); intro vv w3 ho3 hb hg_ hnew_; clear hg_ hnew_ xc18; have HV := Aside0.mk (Kd.R_lower ho3 HS.out.hB.size); replace HU2 := Aside0.mk (Kd.R_below HU2.out hb); replace HU7 := Aside0.mk (Kd.R_below HU7.out hb); replace HU15 := Aside0.mk (Kd.R_below HU15.out hb); replace HS := Aside0.mk (HS.out.below hb); have xc18 := blk_cell HS.out.hX 18; simp only [List.getElem?_toArray, List.getElem?_cons_zero, List.getElem?_cons_succ] at xc18; clear ho3 hb)
    | ((with_reducible refine gate_builtin (b := .append) (xs := #[.tmp 14, .tmp 16]) rfl ?_); at_builtin; refine Kd.R_append_rows k52 (w0 := w) w.heap.size rfl (.tmp 14) (.tmp 16) 35 52 (.agg #[(.int .i64 0), (.bool false)]) 16 rfl Try.underlying35 info52 rfl (by decide) (by omega) vv ([] : List (S52)) l0_18 _ _ _ (fun _ => True) (fun _ => False) rfl rfl ?aO ?aR (fun _ _ h => h) (fun _ h => h.elim) ?aF ?aB ?aS ?aL ?_; (case aR => exact (Kd.C_below HR18.out HS.out.hB)); (case aB => exact HS.out.hB); (case aF => exact (fun _ _ => trivial)); (case aO => exact HV.out); (case aS => exact HS.out.hB.size); (case aL => have hD := HD.out; have := hD.2.2.2; simp only [List.length_nil]; omega); intro v478 w5 ho hb hg hat; rw [List.nil_append] at ho; replace HU2 := Aside0.mk (Kd.R_over' HU2.out (Kd.R_typed HV.out) (by decide) hg); replace HU7 := Aside0.mk (Kd.R_over' HU7.out (Kd.R_typed HV.out) (by decide) hg); replace HU15 := Aside0.mk (Kd.R_over' HU15.out (Kd.R_typed HV.out) (by decide) hg); replace HS := Aside0.mk (HS.out.grown hg HV.out (by decide) hb); obtain ⟨A18, c18, rfl⟩ := Kd.R_slice ho; have HU18 := Aside0.mk ho; clear HV ho hb hg hat xc18; have xc18 := blk_cell HS.out.hX 18; simp only [List.getElem?_toArray, List.getElem?_cons_zero, List.getElem?_cons_succ] at xc18; have xf18 := blk_frozen HS.out.hX 18))
  replace HU2 := Aside0.mk (Kd.R_mono (Kd.R_set HU2.out HS.out.hX (by decide) 18 (.slice A18 l0_18.length c18)) (ok' := fun _ => True) (fun _ _ => trivial))
  replace HU7 := Aside0.mk (Kd.R_mono (Kd.R_set HU7.out HS.out.hX (by decide) 18 (.slice A18 l0_18.length c18)) (ok' := fun _ => True) (fun _ _ => trivial))
  replace HU15 := Aside0.mk (Kd.R_mono (Kd.R_set HU15.out HS.out.hX (by decide) 18 (.slice A18 l0_18.length c18)) (ok' := fun _ => True) (fun _ _ => trivial))
  replace HU18 := Aside0.mk (Kd.R_mono (Kd.R_set HU18.out HS.out.hX (by decide) 18 (.slice A18 l0_18.length c18)) (ok' := fun _ => True) (fun _ _ => trivial))
  replace HS : Aside0 (OwS w _ #[.int .i64 a0_0, .int .i64 a0_1, .slice A2 l0_2.length c2, .int .i64 a0_3, .int .i64 a0_4, .int .i64 a0_5, .int .i64 a0_6, .slice A7 l0_7.length c7, .int .i64 a0_8, .int .i64 a0_9, .bool a0_10, .int .i64 a0_11, .int .i64 a0_12, .bool a0_13, .int .i64 a0_14, .slice A15 l0_15.length c15, .int .i64 a0_16, .int .i64 a0_17, .slice A18 l0_18.length c18]) := Aside0.mk (HS.out.put 18 (.slice A18 l0_18.length c18) rfl)
  generalize w5.setCell _ _ = W3 at HS HU2 HU7 HU15 HU18 ⊢
  clear HR18 HC18 xc18 xf18
  obtain ⟨cs, hcs⟩ : ∃ cs : Array Value, cs = #[.int .i64 a0_0, .int .i64 a0_1, .slice A2 l0_2.length c2, .int .i64 a0_3, .int .i64 a0_4, .int .i64 a0_5, .int .i64 a0_6, .slice A7 l0_7.length c7, .int .i64 a0_8, .int .i64 a0_9, .bool a0_10, .int .i64 a0_11, .int .i64 a0_12, .bool a0_13, .int .i64 a0_14, .slice A15 l0_15.length c15, .int .i64 a0_16, .int .i64 a0_17, .slice A18 l0_18.length c18] := ⟨_, rfl⟩
  rw [← hcs] at HS
  have hsz : cs.size = 19 := by rw [hcs]; rfl
  have hinfo : (Try.prog.info? 37).map (·.size) = some cs.size := by rw [hsz]; kernel_rfl
  have h1c : ∀ v ∈ cs.toList, v.oneCell' = true := by rw [hcs]; intro v hv; simp only [List.mem_cons, List.not_mem_nil, or_false] at hv; rcases hv with rfl | rfl | rfl | rfl | rfl | rfl | rfl | rfl | rfl | rfl | rfl | rfl | rfl | rfl | rfl | rfl | rfl | rfl | rfl <;> rfl
  have cp := cp_row (P := Try.prog) HS.out.hY (by rw [hsz]; rfl) h1c
  have hst := cp.1
  have HCP := Aside0.mk cp.2.1
  have HI := Aside0.mk hinfo
  have HCS := Aside0.mk hcs
  clear cp hinfo hcs h1c
  go_wp2_with ((with_reducible refine gate_dst (N := 19) rfl ?_); refine wpList_load_row rfl 37 (.tmp 1) rfl w.heap.size rfl 37 cs (0, 0) _ HS.out.hX hu1 rfl HI.out ?_)
  have hB := Aside0.mk (below_cells (g := w.heap.size + 1) (vs := cs.toList) HS.out.hB (by omega))
  have V2 := Aside0.mk (Kd.R_cells (vs := cs.toList) HU2.out HS.out.hY (by decide))
  have V7 := Aside0.mk (Kd.R_cells (vs := cs.toList) HU7.out HS.out.hY (by decide))
  have V15 := Aside0.mk (Kd.R_cells (vs := cs.toList) HU15.out HS.out.hY (by decide))
  have V18 := Aside0.mk (Kd.R_cells (vs := cs.toList) HU18.out HS.out.hY (by decide))
  generalize W3.setCells _ _ _ = W5 at HCP hB V2 V7 V15 V18 ⊢
  refine bodyPost_ret (results_cell_row rfl _ _ (w.heap.size + 1) 37 cs (0, 0) _ rfl HCP.out hu1 rfl HI.out) rfl ?_
  exact ⟨_, _, _, _, by rw [HCS.out], V2.out, V7.out, V15.out, V18.out, hB.out⟩

end Go.Proofs.Ytefgoffaidjiaaa.PAll
namespace Go.Proofs.Ytefgoffaidjiaaa.PAll
open Go.RowKit Go.Proofs.YtefgoffaidjiaaaW.PrintWords Go.Proofs.YtefgoffaidjiaaaW.PrintLast Go.Proofs.YtefgoffaidjiaaaW.PrintMore
set_option linter.unusedVariables false
set_option linter.unusedSimpArgs false
/-- Three blocks that a function reads. -/
structure Three (w W : World) (a b c : Array Value) (t u v : Nat) : Prop where
  hA : W.heap[w.heap.size]? = some (.cells a t (0, 0))
  hB : W.heap[w.heap.size + 1]? = some (.cells b u (0, 0))
  hC : W.heap[w.heap.size + 1 + 1]? = some (.cells c v (0, 0))
  hW : Below w.heap.size w W
theorem Three.below {w W W' : World} {a b c : Array Value} {t u v : Nat} (h : Three w W a b c t u v) (hb : Below W.heap.size W W') : Three w W' a b c t u v := ⟨blk_below h.hA hb, blk_below h.hB hb, blk_below h.hC hb, below_step h.hW hb⟩
theorem three_mk (w : World) (a b c : Array Value) (t u v : Nat) : Three w (((w.alloc (.cells a t)).alloc (.cells b u)).alloc (.cells c v)) a b c t u v := by
  have y := blk_new (w.alloc (.cells a t)) (.cells b u)
  rw [World.size_alloc] at y
  have z := blk_new ((w.alloc (.cells a t)).alloc (.cells b u)) (.cells c v)
  rw [World.size_alloc, World.size_alloc] at z
  exact ⟨blk_alloc (blk_alloc (blk_new w _) _) _, blk_alloc y _, z, below_alloc (below_alloc (below_alloc (Below.refl _ _) _) _) _⟩
theorem eqAt_refl {α : Type} (e : α → α → Bool) (h : ∀ a, e a a = true) (l : List α) : eqAt e l l 0 = true := by
  unfold eqAt
  induction l with
  | nil => rfl
  | cons a l ih => rw [show (a :: l).drop (0 : Int).toNat = a :: l from rfl]; unfold eqL; rw [h a, Bool.true_and]; exact ih
theorem eqS56_refl (a : S56) : eqS56 a a = true := by simp [eqS56]
theorem eqS58_refl (a : S58) : eqS58 a a = true := by simp [eqS58]
theorem eqS52_refl (a : S52) : eqS52 a a = true := by simp [eqS52]
theorem samePol_refl {p : S27} (h8 : p.f2.length ≤ 8) (h9 : p.f7.length ≤ 8) : governorref09_SamePolicy.f p.f0 p.f1 p.f2 p.f3 p.f4 p.f5 p.f6 p.f7 p.f0 p.f1 p.f2 p.f3 p.f4 p.f5 p.f6 p.f7 = some true := by
  unfold governorref09_SamePolicy.f governorref09_SamePolicy.b
  rw [if_pos ⟨by omega, by omega⟩, eqAt_refl _ eqS56_refl, eqAt_refl _ eqS58_refl]
  simp
theorem same_refl {x : S37} (P : SimP x) : governorref18_Same.f x.f0.f0 x.f0.f1 x.f0.f2 x.f0.f3 x.f0.f4 x.f0.f5 x.f0.f6 x.f0.f7 x.f1.f0 x.f1.f1 x.f1.f2 x.f2.f0 x.f2.f1 x.f2.f2 x.f3.f0 x.f3.f1 x.f3.f2 x.f3.f3 x.f4 x.f0.f0 x.f0.f1 x.f0.f2 x.f0.f3 x.f0.f4 x.f0.f5 x.f0.f6 x.f0.f7 x.f1.f0 x.f1.f1 x.f1.f2 x.f2.f0 x.f2.f1 x.f2.f2 x.f3.f0 x.f3.f1 x.f3.f2 x.f3.f3 x.f4 = some true := by
  have h1 := P.pol.b8; have h2 := P.pol.s8; have h3 := P.pl.len; have h4 := P.ml
  unfold governorref18_Same.f governorref18_Same.b governorref09_SamePolicy.b governorref16_Same.b governorref17_Same.b
  rw [if_pos ⟨by omega, by omega, by omega, by omega⟩, eqAt_refl _ eqS56_refl, eqAt_refl _ eqS58_refl, eqAt_refl _ eqS52_refl, eqAt_refl eqInt (fun a => by simp [eqInt])]
  simp
/-- The configuration's block, and the sims'. -/
structure Ctx (w W : World) (cc : Array Value) (L : List (Nat × S37 × Array Value)) : Prop where
  hC : W.heap[w.heap.size]? = some (.cells cc 23 (0, 0))
  hS : Hs w W L
theorem Ctx.below {w W W' : World} {cc : Array Value} {L : List (Nat × S37 × Array Value)} (h : Ctx w W cc L) (hb : Below W.heap.size W W') : Ctx w W' cc L := ⟨blk_below h.hC hb, h.hS.below hb⟩
theorem ctx_mk (w : World) (cc cs : Array Value) (x : S37) (hx : k37.K w x cs.toList) : Ctx w ((w.alloc (.cells cc 23)).alloc (.cells cs 37)) cc [(w.heap.size + 1, x, cs)] := by
  have y := blk_new (w.alloc (.cells cc 23)) (.cells cs 37)
  rw [World.size_alloc] at y
  have hb : Below w.heap.size w ((w.alloc (.cells cc 23)).alloc (.cells cs 37)) := below_alloc (below_alloc (Below.refl _ _) _) _
  refine ⟨blk_alloc (blk_new w _) _, hb, fun t ht => ?_⟩
  rw [List.mem_singleton.1 ht]
  exact ⟨y, k37.K_below hb hx⟩
theorem Ctx.heap {w W : World} {cc : Array Value} {L : List (Nat × S37 × Array Value)} (h : Ctx w W cc L) {g : Nat} {x : S37} {cs : Array Value} (ht : (g, x, cs) ∈ L) : W.heap[g]? = some (.cells cs 37 (0, 0)) := (h.hS.2 _ ht).1
theorem Ctx.K {w W : World} {cc : Array Value} {L : List (Nat × S37 × Array Value)} (h : Ctx w W cc L) {g : Nat} {x : S37} {cs : Array Value} (ht : (g, x, cs) ∈ L) : k37.K W x cs.toList := (h.hS.2 _ ht).2
theorem ctx_store {w W0 W : World} {cc : Array Value} {L : List (Nat × S37 × Array Value)} {g b : Nat} {y : S37} {cs z : Array Value} (h : Ctx w W0 cc L) (hb : Below W0.heap.size W0 W) (hg : W0.heap.size ≤ g) (hz : W.heap[g]? = some (.cells z 37 (0, 0))) (hs : z.size = 19) (hy : OwnX b W y cs) :
    (storeCells ⟨g, 0, none⟩ cs.toList).run Try.prog W = .ok () (W.setCells g 0 cs.toList) ∧ Below W0.heap.size W0 (W.setCells g 0 cs.toList) ∧ Ctx w (W.setCells g 0 cs.toList) cc ((g, y, cs) :: L) := by
  obtain ⟨h1, h2, h3⟩ := hs_store h.hS hb hg hz hs hy
  exact ⟨h1, h2, blk_below h.hC h2, h3⟩
theorem conf_w (c : S23) (w : World) : Calls Try.prog 10 #[.agg #[.int .i64 c.f0, .int .i64 c.f1, .int .i64 c.f2, .int .i64 c.f3, .int .i64 c.f4, .int .i64 c.f5, .int .i64 c.f6, .int .i64 c.f7, .int .i64 c.f8, .int .i64 c.f9, .int .i64 c.f10, .int .i64 c.f11]] w fun e w' => e = .returned (.bool (confB c)) ∧ Below w.heap.size w w' := governorref09_Conf.calls _ _ _ _ _ _ _ _ _ _ _ _ _ w rfl
def timeB (t : Int) : Bool := decide (0 ≤ t) && decide (t ≤ 1099511627776)
theorem time_w (t : Int) (w : World) : Calls Try.prog 12 #[.int .i64 t] w fun e w' => e = .returned (.bool (timeB t)) ∧ Below w.heap.size w w' := (governorlaw18_time.calls t (timeB t) w (by unfold governorlaw18_time.f timeB; by_cases h : 0 ≤ t <;> simp [h])).mono fun _ _ ⟨he, hd⟩ => ⟨he, hd.below⟩
set_option maxHeartbeats 8000000 in
set_option maxRecDepth 100000 in
theorem rown_w {x : S37} {cs : Array Value} {w : World} (hx : k37.K w x cs.toList) (P : SimP x) :
    Calls Try.prog 21 #[.agg cs] w fun e w' => ∃ cs' : Array Value, e = .returned (.agg cs') ∧ OwnX w.heap.size w' x cs' ∧ Below w.heap.size w w' := by
  have h1 := P.pol.b8; have h2 := P.pol.s8; have h3 := P.pl.len; have h4 := P.ml
  obtain ⟨A2, c2, A7, c7, A15, c15, A18, c18, e, l2, r2, l7, r7, l15, r15, l18, r18⟩ := k37_open hx
  obtain rfl : cs = #[.int .i64 x.f0.f0, .int .i64 x.f0.f1, .slice A2 x.f0.f2.length c2, .int .i64 x.f0.f3, .int .i64 x.f0.f4, .int .i64 x.f0.f5, .int .i64 x.f0.f6, .slice A7 x.f0.f7.length c7, .int .i64 x.f1.f0, .int .i64 x.f1.f1, .bool x.f1.f2, .int .i64 x.f2.f0, .int .i64 x.f2.f1, .bool x.f2.f2, .int .i64 x.f3.f0, .slice A15 x.f3.f1.length c15, .int .i64 x.f3.f2, .int .i64 x.f3.f3, .slice A18 x.f4.length c18] := by cases cs; simpa using e
  refine (governorref18_Own.calls _ _ _ _ _ _ _ _ _ _ _ _ _ _ _ _ _ _ _ _ _ _ _ _ _ _ _ _ _ _ _ _ _ _ _ _ _ _ _ _ _ _ _ _ _ _ w r2 l2 r7 l7 r15 l15 r18 l18 (if_pos ⟨by omega, by omega, by omega, by omega⟩)).mono ?_
  rintro e w' ⟨v2, v7, v15, v18, rfl, q2, q7, q15, q18, hb⟩
  exact ⟨_, rfl, ⟨v2, v7, v15, v18, rfl, Kd.Q_of_R q2, Kd.Q_of_R q7, Kd.Q_of_R q15, Kd.Q_of_R q18⟩, hb⟩
theorem OwnX.wait {b g : Nat} {W : World} {y : S37} {cs : Array Value} (h : OwnX b W y cs) (hg : W.heap[g]? = some (.cells cs 37 (0, 0))) (v : Int) : OwnX b (W.setCell ⟨g, 16, none⟩ (.int .i64 v)) (waitX y v) (cs.setIfInBounds 16 (.int .i64 v)) := by
  obtain ⟨v2, v7, v15, v18, rfl, q2, q7, q15, q18⟩ := h
  exact ⟨v2, v7, v15, v18, rfl, Kd.Q_set q2 hg (by decide) _ _, Kd.Q_set q7 hg (by decide) _ _, Kd.Q_set q15 hg (by decide) _ _, Kd.Q_set q18 hg (by decide) _ _⟩
theorem Ctx.wait {w W : World} {cc cs cx : Array Value} {a b g : Nat} {x y : S37} (h : Ctx w W cc [(g, y, cs), (a, x, cx)]) (hx : k37.K w x cx.toList) (ho : OwnX b W y cs) (hg : w.heap.size ≤ g) (hc : w.heap.size ≠ g) (ha : a ≠ g) (v : Int) : Ctx w (W.setCell ⟨g, 16, none⟩ (.int .i64 v)) cc [(g, waitX y v, cs.setIfInBounds 16 (.int .i64 v)), (a, x, cx)] := by
  have hb : Below w.heap.size w (W.setCell ⟨g, 16, none⟩ (.int .i64 v)) := below_set h.hS.1 hg
  refine ⟨blk_far h.hC hc _, hb, fun t ht => ?_⟩
  simp only [List.mem_cons, List.not_mem_nil, or_false] at ht
  rcases ht with rfl | rfl
  · exact ⟨blk_put (h.heap (x := y) (by simp)) 16 _ rfl, (ho.wait (h.heap (x := y) (by simp)) v).K⟩
  · exact ⟨blk_far (h.heap (x := x) (by simp)) ha _, k37.K_below hb hx⟩
theorem wrN {n : Int} (h0 : -9223372036854775808 ≤ n) (h1 : n ≤ 9223372036854775807) : wrap64 n = n := wr h0 h1
theorem Ctx.tail {w W : World} {cc : Array Value} {L : List (Nat × S37 × Array Value)} {t : Nat × S37 × Array Value} (h : Ctx w W cc (t :: L)) : Ctx w W cc L := ⟨h.hC, h.hS.1, fun u hu => h.hS.2 u (List.mem_cons_of_mem _ hu)⟩
/-- A sim's block takes another sim's row. -/
theorem Ctx.back {w W : World} {cc cx cy : Array Value} {a b g : Nat} {x y : S37} {L : List (Nat × S37 × Array Value)} (h : Ctx w W cc ((g, y, cy) :: (a, x, cx) :: L)) (ho : OwnX b W y cy) (ha : w.heap.size < a) (hL : ∀ t ∈ L, t.1 ≠ a ∧ k37.K (W.setCells a 0 cy.toList) t.2.1 t.2.2.toList) :
    (storeCells ⟨a, 0, none⟩ cy.toList).run Try.prog W = .ok () (W.setCells a 0 cy.toList) ∧ Ctx w (W.setCells a 0 cy.toList) cc ((a, y, cy) :: L) := by
  have hx := h.heap (g := a) (x := x) (cs := cx) (by simp)
  have cp := cp_row (P := Try.prog) hx ((k_size ho.K).trans (k_size (h.K (g := a) (x := x) (cs := cx) (by simp))).symm) (k37.K_one ho.K)
  refine ⟨cp.1, (cp.2.2.1 _ (by omega)).trans h.hC, below_cells (vs := cy.toList) h.hS.1 (by omega), fun t ht => ?_⟩
  rcases List.mem_cons.1 ht with rfl | ht
  · exact ⟨cp.2.1, (ho.cells hx).K⟩
  · exact ⟨(cp.2.2.1 _ (hL t ht).1).trans (h.hS.2 t (by simp [ht])).1, (hL t ht).2⟩
end Go.Proofs.Ytefgoffaidjiaaa.PAll
namespace Go.Proofs.Ytefgoffaidjiaaa.PAll
open Go.RowKit Go.Proofs.YtefgoffaidjiaaaW.PrintWords Go.Proofs.YtefgoffaidjiaaaW.PrintLast Go.Proofs.YtefgoffaidjiaaaW.PrintMore
set_option linter.unusedVariables false
set_option linter.unusedSimpArgs false
/-- A row that is written: its block, of the call's own, below hi. -/
def Wr (lo hi : Nat) (W : World) (v : Value) (e n sz : Nat) : Prop := n = 0 ∨ ∃ ad g cap cur, v = .slice (some ad) n cap ∧ ad = ⟨g, 0, none⟩ ∧ W.heap[g]? = some (.cells cur e (0, 0)) ∧ n * sz ≤ cur.size ∧ lo ≤ g ∧ g < hi
theorem wr_of_own {lo hi : Nat} {W : World} {v : Value} {e n sz : Nat} {xs : List Value} {b : Nat} (h : W.ownsRow b e sz v n xs) (hl : lo ≤ b) (hs : W.heap.size ≤ hi) : Wr lo hi W v e n sz := by
  rcases h.2 with ⟨_, h0⟩ | ⟨g, cap, cur, rfl, hg, hh, hn, _, hc, _⟩
  · exact .inl h0
  · exact .inr ⟨_, g, cap, cur, rfl, rfl, hh, by rw [hc]; exact Nat.mul_le_mul_right _ hn, Nat.le_trans hl hg, Nat.lt_of_lt_of_le (blk_lt hh) hs⟩
theorem Wr.below {lo hi : Nat} {W W' : World} {v : Value} {e n sz : Nat} (h : Wr lo hi W v e n sz) (hb : Below W.heap.size W W') : Wr lo hi W' v e n sz := by
  rcases h with h | ⟨ad, g, cap, cur, rfl, rfl, hh, h1⟩
  · exact .inl h
  · exact .inr ⟨_, g, cap, cur, rfl, rfl, blk_below hh hb, h1⟩
theorem Wr.put {lo hi : Nat} {W : World} {v : Value} {e n sz : Nat} (h : Wr lo hi W v e n sz) {g t : Nat} {cur : Array Value} (hg : W.heap[g]? = some (.cells cur t (0, 0))) (j : Nat) (u : Value) : Wr lo hi (W.setCell ⟨g, j, none⟩ u) v e n sz := by
  rcases h with h | ⟨ad, g', cap, cur', rfl, rfl, hh, hn, h1⟩
  · exact .inl h
  · by_cases hq : g' = g
    · subst hq
      rw [hg] at hh
      injection hh with hh
      injection hh with a b
      subst a
      subst b
      exact .inr ⟨_, g', cap, _, rfl, rfl, blk_put hg j u rfl, by simpa using hn, h1⟩
    · exact .inr ⟨_, g', cap, cur', rfl, rfl, blk_far hh hq u, hn, h1⟩
theorem addr_add (g k : Nat) : (⟨g, 0, none⟩ : Addr).add k = ⟨g, k, none⟩ := by
  unfold Addr.add
  split
  · subst_vars; rfl
  · simp
theorem pol_of_sim {W : World} {x : S37} {cs : List Value} (h : k37.K W x cs) : k27.K W x.f0 (cs.take 8) := by
  obtain ⟨l1, l2, rfl, h1, _⟩ := h
  have h8 : l1.length = 8 := k27.K_len h1
  rw [List.take_left' h8]
  exact h1
theorem Wr.hi {lo hi hi' : Nat} {W : World} {v : Value} {e n sz : Nat} (h : Wr lo hi W v e n sz) (hh : hi ≤ hi') : Wr lo hi' W v e n sz := by
  rcases h with h | ⟨ad, g, cap, cur, rfl, rfl, hg, hn, h1, h2⟩
  · exact .inl h
  · exact .inr ⟨_, g, cap, cur, rfl, rfl, hg, hn, h1, Nat.lt_of_lt_of_le h2 hh⟩
theorem Wr.cells {lo hi g : Nat} {W : World} {v : Value} {e n sz : Nat} {old : Array Value} {vs : List Value} (h : Wr lo hi W v e n sz) (z : W.heap[g]? = some (.cells old 37 (0, 0))) (he : e ≠ 37) : Wr lo hi (W.setCells g 0 vs) v e n sz := by
  rcases h with h | ⟨ad, g', cap, cur, rfl, rfl, hg, h1⟩
  · exact .inl h
  · exact .inr ⟨_, g', cap, cur, rfl, rfl, (setCells_far _ _ _ (blk_ne hg z he)).trans hg, h1⟩
/-- The rows of a sim that are written. -/
structure Wr4 (lo hi : Nat) (W : World) (x : S37) (v2 v7 v15 v18 : Value) : Prop where
  w2 : Wr lo hi W v2 56 x.f0.f2.length 2
  w7 : Wr lo hi W v7 58 x.f0.f7.length 2
  w15 : Wr lo hi W v15 3 x.f3.f1.length 1
  w18 : Wr lo hi W v18 52 x.f4.length 2
theorem Wr4.below {lo hi : Nat} {W : World} {x : S37} {v2 v7 v15 v18 : Value} {W' : World} (h : Wr4 lo hi W x v2 v7 v15 v18) (hb : Below W.heap.size W W') : Wr4 lo hi W' x v2 v7 v15 v18 := ⟨h.w2.below hb, h.w7.below hb, h.w15.below hb, h.w18.below hb⟩
theorem Wr4.hi {lo hi : Nat} {W : World} {x : S37} {v2 v7 v15 v18 : Value} {hi' : Nat} (h : Wr4 lo hi W x v2 v7 v15 v18) (hh : hi ≤ hi') : Wr4 lo hi' W x v2 v7 v15 v18 := ⟨h.w2.hi hh, h.w7.hi hh, h.w15.hi hh, h.w18.hi hh⟩
theorem Wr4.cells {lo hi : Nat} {W : World} {x : S37} {v2 v7 v15 v18 : Value} {g : Nat} {old : Array Value} {vs : List Value} (h : Wr4 lo hi W x v2 v7 v15 v18) (z : W.heap[g]? = some (.cells old 37 (0, 0))) : Wr4 lo hi (W.setCells g 0 vs) x v2 v7 v15 v18 := ⟨h.w2.cells z (by decide), h.w7.cells z (by decide), h.w15.cells z (by decide), h.w18.cells z (by decide)⟩
theorem Wr4.put {lo hi : Nat} {W : World} {x : S37} {v2 v7 v15 v18 : Value} {g t : Nat} {cur : Array Value} (h : Wr4 lo hi W x v2 v7 v15 v18) (hg : W.heap[g]? = some (.cells cur t (0, 0))) (j : Nat) (u : Value) : Wr4 lo hi (W.setCell ⟨g, j, none⟩ u) x v2 v7 v15 v18 := ⟨h.w2.put hg j u, h.w7.put hg j u, h.w15.put hg j u, h.w18.put hg j u⟩
theorem OwnX.lower {b b' : Nat} {W : World} {x : S37} {cs : Array Value} (h : OwnX b W x cs) (hb : b' ≤ b) : OwnX b' W x cs := by
  obtain ⟨v2, v7, v15, v18, rfl, q2, q7, q15, q18⟩ := h
  exact ⟨v2, v7, v15, v18, rfl, Kd.Q_lower q2 hb, Kd.Q_lower q7 hb, Kd.Q_lower q15 hb, Kd.Q_lower q18 hb⟩
theorem OwnX.far {b s : Nat} {W : World} {x : S37} {cs : Array Value} (h : OwnX b W x cs) (hs : s < b) (j : Nat) (u : Value) : OwnX b (W.setCell ⟨s, j, none⟩ u) x cs := by
  obtain ⟨v2, v7, v15, v18, rfl, q2, q7, q15, q18⟩ := h
  exact ⟨v2, v7, v15, v18, rfl, Kd.Q_mono (Kd.Q_far (p := ⟨s, j, none⟩) (Kd.Q_bound q2) (fun k hk => by have := hk.2.1; show k ≠ s; omega) u) (fun _ _ => trivial), Kd.Q_mono (Kd.Q_far (p := ⟨s, j, none⟩) (Kd.Q_bound q7) (fun k hk => by have := hk.2.1; show k ≠ s; omega) u) (fun _ _ => trivial), Kd.Q_mono (Kd.Q_far (p := ⟨s, j, none⟩) (Kd.Q_bound q15) (fun k hk => by have := hk.2.1; show k ≠ s; omega) u) (fun _ _ => trivial), Kd.Q_mono (Kd.Q_far (p := ⟨s, j, none⟩) (Kd.Q_bound q18) (fun k hk => by have := hk.2.1; show k ≠ s; omega) u) (fun _ _ => trivial)⟩
set_option maxHeartbeats 8000000 in
set_option maxRecDepth 100000 in
theorem rown_r {x : S37} {cs : Array Value} {w : World} {lo : Nat} (hx : k37.K w x cs.toList) (P : SimP x) (hlo : lo ≤ w.heap.size) :
    Calls Try.prog 21 #[.agg cs] w fun e w' => ∃ (ca : Array Value) (A2a : Option Addr) (c2a : Nat) (A7a : Option Addr) (c7a : Nat) (A15a : Option Addr) (c15a : Nat) (A18a : Option Addr) (c18a : Nat), e = .returned (.agg ca) ∧ ca = #[.int .i64 x.f0.f0, .int .i64 x.f0.f1, .slice A2a x.f0.f2.length c2a, .int .i64 x.f0.f3, .int .i64 x.f0.f4, .int .i64 x.f0.f5, .int .i64 x.f0.f6, .slice A7a x.f0.f7.length c7a, .int .i64 x.f1.f0, .int .i64 x.f1.f1, .bool x.f1.f2, .int .i64 x.f2.f0, .int .i64 x.f2.f1, .bool x.f2.f2, .int .i64 x.f3.f0, .slice A15a x.f3.f1.length c15a, .int .i64 x.f3.f2, .int .i64 x.f3.f3, .slice A18a x.f4.length c18a] ∧ OwnX w.heap.size w' x ca ∧ Wr4 lo w'.heap.size w' x (.slice A2a x.f0.f2.length c2a) (.slice A7a x.f0.f7.length c7a) (.slice A15a x.f3.f1.length c15a) (.slice A18a x.f4.length c18a) ∧ Below w.heap.size w w' := by
  have h1 := P.pol.b8; have h2 := P.pol.s8; have h3 := P.pl.len; have h4 := P.ml
  obtain ⟨A2, c2, A7, c7, A15, c15, A18, c18, e, l2, r2, l7, r7, l15, r15, l18, r18⟩ := k37_open hx
  obtain rfl : cs = #[.int .i64 x.f0.f0, .int .i64 x.f0.f1, .slice A2 x.f0.f2.length c2, .int .i64 x.f0.f3, .int .i64 x.f0.f4, .int .i64 x.f0.f5, .int .i64 x.f0.f6, .slice A7 x.f0.f7.length c7, .int .i64 x.f1.f0, .int .i64 x.f1.f1, .bool x.f1.f2, .int .i64 x.f2.f0, .int .i64 x.f2.f1, .bool x.f2.f2, .int .i64 x.f3.f0, .slice A15 x.f3.f1.length c15, .int .i64 x.f3.f2, .int .i64 x.f3.f3, .slice A18 x.f4.length c18] := by cases cs; simpa using e
  refine (governorref18_Own.calls _ _ _ _ _ _ _ _ _ _ _ _ _ _ _ _ _ _ _ _ _ _ _ _ _ _ _ _ _ _ _ _ _ _ _ _ _ _ _ _ _ _ _ _ _ _ w r2 l2 r7 l7 r15 l15 r18 l18 (if_pos ⟨by omega, by omega, by omega, by omega⟩)).mono ?_
  rintro e w' ⟨v2, v7, v15, v18, rfl, q2, q7, q15, q18, hb⟩
  obtain ⟨i2, o2⟩ := Kd.R_own q2
  obtain ⟨A2a, c2a, rfl⟩ := Kd.R_slice q2
  obtain ⟨i7, o7⟩ := Kd.R_own q7
  obtain ⟨A7a, c7a, rfl⟩ := Kd.R_slice q7
  obtain ⟨i15, o15⟩ := Kd.R_own q15
  obtain ⟨A15a, c15a, rfl⟩ := Kd.R_slice q15
  obtain ⟨i18, o18⟩ := Kd.R_own q18
  obtain ⟨A18a, c18a, rfl⟩ := Kd.R_slice q18
  exact ⟨_, _, _, _, _, _, _, _, _, rfl, rfl, ⟨_, _, _, _, rfl, Kd.Q_of_R q2, Kd.Q_of_R q7, Kd.Q_of_R q15, Kd.Q_of_R q18⟩, ⟨wr_of_own o2 hlo (Nat.le_refl _), wr_of_own o7 hlo (Nat.le_refl _), wr_of_own o15 hlo (Nat.le_refl _), wr_of_own o18 hlo (Nat.le_refl _)⟩, hb⟩
/-- Rows that are written (of the sim x), and sims that stay. -/
structure OwS2 (w W : World) (B : Nat) (x : S37) (L M : List (Nat × S37 × Array Value)) (v2 v7 v15 v18 : Value) : Prop where
  hB : Below w.heap.size w W
  hL : ∀ t ∈ L, W.heap[t.1]? = some (.cells t.2.2 37 (0, 0))
  hM : ∀ t ∈ M, OwnX B W t.2.1 t.2.2
  hW : Wr4 w.heap.size B W x v2 v7 v15 v18
theorem OwS2.below {w W : World} {B : Nat} {x : S37} {L M : List (Nat × S37 × Array Value)} {v2 v7 v15 v18 : Value} {W' : World} (h : OwS2 w W B x L M v2 v7 v15 v18) (hb : Below W.heap.size W W') : OwS2 w W' B x L M v2 v7 v15 v18 := ⟨below_step h.hB hb, fun t ht => blk_below (h.hL t ht) hb, fun t ht => (h.hM t ht).below hb, h.hW.below hb⟩
theorem OwS2.put {w W : World} {B : Nat} {x : S37} {L M : List (Nat × S37 × Array Value)} {v2 v7 v15 v18 : Value} (h : OwS2 w W B x L M v2 v7 v15 v18) {g e : Nat} {cur : Array Value} (hg : W.heap[g]? = some (.cells cur e (0, 0))) (he : 37 ≠ e) (h0 : w.heap.size ≤ g) (h1 : g < B) (j : Nat) (u : Value) : OwS2 w (W.setCell ⟨g, j, none⟩ u) B x L M v2 v7 v15 v18 :=
  ⟨below_set h.hB h0, fun t ht => blk_far (h.hL t ht) (blk_ne (h.hL t ht) hg he) u, fun t ht => (h.hM t ht).far h1 j u, h.hW.put hg j u⟩
set_option maxHeartbeats 8000000 in
set_option maxRecDepth 100000 in
theorem governorlaw18_FleetOwn.walk2 (w : World) (cs0 : Array Value) (x0 : S23) (g0 : k23.K w x0 cs0.toList) (o0 : ok23 x0) (cs1 : Array Value) (x1 : S37) (g1 : k37.K w x1 cs1.toList) (o1 : ok37 x1) (x2 : Int) (o2 : (Lit.int .i64 x2).wf = true) (x3 : Int) (o3 : (Lit.int .i64 x3).wf = true) :
    Calls Try.prog 6 #[.agg cs0, .agg cs1, .int .i64 x2, .int .i64 x3] w fun e w' => e = .returned (.bool true) ∧ Below w.heap.size w w' := by
  have hu0 := Try.underlying69
  have hu1 := Try.underlying37
  have hu2 := Try.underlying27
  have hu3 := Try.underlying29
  have hu4 := Try.underlying23
  have hu5 := Try.underlying31
  have hu6 := Try.underlying34
  have hu7 := Try.underlying52
  have ec := k23_open g0
  obtain rfl : cs0 = #[.int .i64 x0.f0, .int .i64 x0.f1, .int .i64 x0.f2, .int .i64 x0.f3, .int .i64 x0.f4, .int .i64 x0.f5, .int .i64 x0.f6, .int .i64 x0.f7, .int .i64 x0.f8, .int .i64 x0.f9, .int .i64 x0.f10, .int .i64 x0.f11] := by cases cs0; simpa using ec
  clear ec
  have HK1 := Aside0.mk g1
  obtain ⟨A2, c2, A7, c7, A15, c15, A18, c18, e1, l2, r2, l7, r7, l15, r15, l18, r18⟩ := k37_open g1
  have ecs : cs1 = #[.int .i64 x1.f0.f0, .int .i64 x1.f0.f1, .slice A2 x1.f0.f2.length c2, .int .i64 x1.f0.f3, .int .i64 x1.f0.f4, .int .i64 x1.f0.f5, .int .i64 x1.f0.f6, .slice A7 x1.f0.f7.length c7, .int .i64 x1.f1.f0, .int .i64 x1.f1.f1, .bool x1.f1.f2, .int .i64 x1.f2.f0, .int .i64 x1.f2.f1, .bool x1.f2.f2, .int .i64 x1.f3.f0, .slice A15 x1.f3.f1.length c15, .int .i64 x1.f3.f2, .int .i64 x1.f3.f3, .slice A18 x1.f4.length c18] := by cases cs1; simpa using e1
  clear e1 l2 r2 l7 r7 l15 r15 l18 r18
  have hx0 := HK1.out
  rw [ecs] at hx0 ⊢
  go_enter Try.func6, Try.ntmps6
  go_upto_region 1 with (fail)
  have ht := ctx_mk w #[.int .i64 x0.f0, .int .i64 x0.f1, .int .i64 x0.f2, .int .i64 x0.f3, .int .i64 x0.f4, .int .i64 x0.f5, .int .i64 x0.f6, .int .i64 x0.f7, .int .i64 x0.f8, .int .i64 x0.f9, .int .i64 x0.f10, .int .i64 x0.f11] _ x1 hx0
  generalize (w.alloc _).alloc _ = W at ht ⊢
  rw [← ecs] at ht
  have HX := Aside0.mk ht
  have HE := Aside0.mk ecs
  clear ht hx0 ecs g1
  have xc := blk_cell HX.out.hC
  go_upto_region 2 with (go_at_call 9; refine (governorlaw18_head.calls true _ rfl).mono ?_; rintro e_ w1 ⟨rfl, hb⟩; replace HX := Aside0.mk (HX.out.below hb); clear hb xc; have xc := blk_cell HX.out.hC)
  obtain ⟨r, hr, hP⟩ := right_tells x1 20 (Nat.le_refl _)
  have HR := Aside0.mk hr
  have HP := Aside0.mk (fun h : r = true => hP h)
  clear hr hP o0 o1 o2 o3
  rcases (chN (confB x0) (chN r (Bool.eq_false_or_eq_true (timeB x3)).symm)) with h1 | ⟨h1, rfl | ⟨rfl, h3 | h3⟩⟩
  iterate 3
    · as_aux_lemma =>
      go_wp2_with (first
        | (go_at_call 10; refine (conf_w x0 _).mono ?_; rintro e_ w1 ⟨rfl, hb⟩; replace HX := Aside0.mk (HX.out.below hb); clear hb xc; have xc := blk_cell HX.out.hC)
        | (go_at_call 11; refine (right_w (HX.out.K (g := w.heap.size + 1) (x := x1) (cs := cs1) (by simp)) HR.out).mono ?_; rintro e_ w1 ⟨rfl, hb⟩; replace HX := Aside0.mk (HX.out.below hb); clear hb xc; have xc := blk_cell HX.out.hC)
        | (go_at_call 12; refine (time_w x3 _).mono ?_; rintro e_ w1 ⟨rfl, hb⟩; replace HX := Aside0.mk (HX.out.below hb); clear hb xc; have xc := blk_cell HX.out.hC)
        | ((with_reducible refine gate_dst (N := 25) rfl ?_); (try (refine gate_guard (by rfl) ?_; dsimp only)); refine load_pre rfl 37 (.tmp 5) rfl (w.heap.size + 1) rfl cs1 _ (range_row (HX.out.heap (x := x1) (by simp))) hu1 rfl (k_info (HX.out.K (x := x1) (g := (w.heap.size + 1)) (by simp))) ?_))
      go_ret
      exact ⟨rfl, HX.out.hS.1⟩
  have P := HP.out rfl
  have C := conf_cfg h1
  have T : 0 ≤ x3 ∧ x3 ≤ 1099511627776 := by simpa [timeB] using h3
  have FS := Aside0.mk (step_tells C P x2 x3 T.1 T.2 20 (Nat.le_refl _))
  have FY := Aside0.mk (step_sim C P x2 x3 T.1 T.2).1
  have FO := Aside0.mk (own_tells P)
  have FN := Aside0.mk (new_tells (p := x1.f0) (s := x1.f1) (h := x1.f2) P.pol.b8 P.pol.s8 P.h0 P.h1)
  have HSP := Aside0.mk P
  have FE : Aside0 (SimP (newS x1.f0 x1.f1 x1.f2)) := ⟨new_sim P⟩
  clear P C T HP
  go_upto_region 4 with (first
    | (go_at_call 10; refine (conf_w x0 _).mono ?_; rintro e_ w1 ⟨rfl, hb⟩; replace HX := Aside0.mk (HX.out.below hb); clear hb xc; have xc := blk_cell HX.out.hC)
    | (go_at_call 11; refine (right_w (HX.out.K (g := w.heap.size + 1) (x := x1) (cs := cs1) (by simp)) HR.out).mono ?_; rintro e_ w1 ⟨rfl, hb⟩; replace HX := Aside0.mk (HX.out.below hb); clear hb xc; have xc := blk_cell HX.out.hC)
    | (go_at_call 12; refine (time_w x3 _).mono ?_; rintro e_ w1 ⟨rfl, hb⟩; replace HX := Aside0.mk (HX.out.below hb); clear hb xc; have xc := blk_cell HX.out.hC)
    | ((with_reducible refine gate_dst (N := 25) rfl ?_); (try (refine gate_guard (by rfl) ?_; dsimp only)); refine load_pre rfl 37 (.tmp 5) rfl (w.heap.size + 1) rfl cs1 _ (range_row (HX.out.heap (x := x1) (by simp))) hu1 rfl (k_info (HX.out.K (x := x1) (g := (w.heap.size + 1)) (by simp))) ?_))
  clear HR h1 h3
  go_cut [10] (fun v wc => ∃ (g : Nat) (ca : Array Value) (A2a : Option Addr) (c2a : Nat) (A7a : Option Addr) (c7a : Nat) (A15a : Option Addr) (c15a : Nat) (A18a : Option Addr) (c18a : Nat), v = .pointer (some ⟨g, 0, none⟩) ∧ ca = #[.int .i64 x1.f0.f0, .int .i64 x1.f0.f1, .slice A2a x1.f0.f2.length c2a, .int .i64 x1.f0.f3, .int .i64 x1.f0.f4, .int .i64 x1.f0.f5, .int .i64 x1.f0.f6, .slice A7a x1.f0.f7.length c7a, .int .i64 x1.f1.f0, .int .i64 x1.f1.f1, .bool x1.f1.f2, .int .i64 x1.f2.f0, .int .i64 x1.f2.f1, .bool x1.f2.f2, .int .i64 x1.f3.f0, .slice A15a x1.f3.f1.length c15a, .int .i64 x1.f3.f2, .int .i64 x1.f3.f3, .slice A18a x1.f4.length c18a] ∧ Ctx w wc #[.int .i64 x0.f0, .int .i64 x0.f1, .int .i64 x0.f2, .int .i64 x0.f3, .int .i64 x0.f4, .int .i64 x0.f5, .int .i64 x0.f6, .int .i64 x0.f7, .int .i64 x0.f8, .int .i64 x0.f9, .int .i64 x0.f10, .int .i64 x0.f11] [(g, x1, ca), ((w.heap.size + 1), x1, cs1)] ∧ Wr4 w.heap.size wc.heap.size wc x1 (.slice A2a x1.f0.f2.length c2a) (.slice A7a x1.f0.f7.length c7a) (.slice A15a x1.f3.f1.length c15a) (.slice A18a x1.f4.length c18a))
  case first => as_aux_lemma =>
    go_wp2_with (first
      | ((with_reducible refine gate_dst (N := 35) rfl ?_); (try (refine gate_guard (by rfl) ?_; dsimp only)); refine load_pre rfl 37 (.tmp 5) rfl (w.heap.size + 1) rfl cs1 _ (range_row (HX.out.heap (x := x1) (by simp))) hu1 rfl (k_info (HX.out.K (x := x1) (g := (w.heap.size + 1)) (by simp))) ?_)
      | (go_at_call 21; refine (rown_r (lo := w.heap.size) (HX.out.K (g := (w.heap.size + 1)) (x := x1) (cs := cs1) (by simp)) HSP.out HX.out.hS.1.size).mono ?_; rintro e_ w2 ⟨ca, A2a, c2a, A7a, c7a, A15a, c15a, A18a, c18a, rfl, hca, own, hw4, hb⟩; have hsz := k_size own.K; have HO := Aside0.mk own; have HB := Aside0.mk hb; have HV := Aside0.mk hw4; have HCA := Aside0.mk hca; clear own hb hw4 hca xc)
      | ((with_reducible refine gate_dst (N := 10) rfl ?_); refine box_event ?hg (N := 10) ?hd (cs := #[.int .i64 0, .int .i64 0, .slice none 0 0, .int .i64 0, .int .i64 0, .int .i64 0, .int .i64 0, .slice none 0 0, .int .i64 0, .int .i64 0, .bool false, .int .i64 0, .int .i64 0, .bool false, .int .i64 0, .slice none 0 0, .int .i64 0, .int .i64 0, .slice none 0 0]) (t := 37) ?hr ?_; (case hd => rfl); (case hg => rfl); (case hr => first | (go_simp; done) | (go_simp; rfl)); intro ga hg w_ FZ hb; obtain ⟨hst, hbb, hn⟩ := ctx_store HX.out (below_step HB.out hb) (by rw [hg]; exact (HB.out).size) FZ rfl (HO.out.below hb); have HN := Aside0.mk hn; have HBB := Aside0.mk hbb; replace HV := Aside0.mk (((HV.out.below hb).cells (vs := ca.toList) FZ).hi (Nat.le_trans hb.size (Nat.le_of_eq (setCells_same ga ca.toList 0 w_).2.2.2.symm))); clear hn hbb FZ hb hg))
    go_meet
    exact ⟨ga, ca, _, _, _, _, _, _, _, _, rfl, HCA.out, HN.out, HV.out⟩
  case rest =>
    obtain ⟨ga, ca, A2a, c2a, A7a, c7a, A15a, c15a, A18a, c18a, rfl, hca, hn, hw4⟩ := hcut
    clear HX xc
    have HX := Aside0.mk hn
    have HCA := Aside0.mk hca
    have xc := blk_cell HX.out.hC
    have HM : Aside0 (∀ t ∈ ([] : List (Nat × S37 × Array Value)), OwnX wc.heap.size wc t.2.1 t.2.2) := ⟨fun t ht => by cases ht⟩
    have HV := Aside0.mk hw4
    have HSZ : Aside0 (wc.heap.size ≤ wc.heap.size) := ⟨Nat.le_refl _⟩
    obtain ⟨B, hB⟩ : ∃ B, B = wc.heap.size := ⟨_, rfl⟩
    rw [← hB] at HV HM
    replace HSZ : Aside0 (B ≤ wc.heap.size) := ⟨by omega⟩
    clear hn hca hw4 hB
    go_upto_region 5 with (fail)
    go_cut [11] (fun v wr => ∃ (g : Nat) (cs : Array Value), v = .pointer (some ⟨g, 0, none⟩) ∧ Ctx w wr #[.int .i64 x0.f0, .int .i64 x0.f1, .int .i64 x0.f2, .int .i64 x0.f3, .int .i64 x0.f4, .int .i64 x0.f5, .int .i64 x0.f6, .int .i64 x0.f7, .int .i64 x0.f8, .int .i64 x0.f9, .int .i64 x0.f10, .int .i64 x0.f11] ((g, (stepS x0 x1 x2 x3), cs) :: [(ga, x1, ca), ((w.heap.size + 1), x1, cs1)]) ∧ (∀ t ∈ (g, (stepS x0 x1 x2 x3), cs) :: [], OwnX B wr t.2.1 t.2.2) ∧ Wr4 w.heap.size B wr x1 (.slice A2a x1.f0.f2.length c2a) (.slice A7a x1.f0.f7.length c7a) (.slice A15a x1.f3.f1.length c15a) (.slice A18a x1.f4.length c18a) ∧ B ≤ wr.heap.size)
    case first => as_aux_lemma =>
      go_wp2_with (first
        | ((with_reducible refine gate_dst (N := 38) rfl ?_); (try (refine gate_guard (by rfl) ?_; dsimp only)); refine load_pre rfl 37 (.tmp 10) rfl ga rfl ca _ (range_row (HX.out.heap (x := x1) (by simp))) hu1 rfl (k_info (HX.out.K (x := x1) (g := ga) (by simp))) ?_)
        | (go_at_call 14; refine (step_w (k := 20) (c := x0) (x := x1) (y := (stepS x0 x1 x2 x3)) (HX.out.K (g := ga) (x := x1) (cs := ca) (by simp)) FS.out).mono ?_; rintro e_ w2 ⟨cb, rfl, own, hb⟩; have hsz := k_size own.K; have HO := Aside0.mk own; have HB := Aside0.mk hb; clear own hb xc)
        | ((with_reducible refine gate_dst (N := 11) rfl ?_); refine box_event ?hg (N := 11) ?hd (cs := #[.int .i64 0, .int .i64 0, .slice none 0 0, .int .i64 0, .int .i64 0, .int .i64 0, .int .i64 0, .slice none 0 0, .int .i64 0, .int .i64 0, .bool false, .int .i64 0, .int .i64 0, .bool false, .int .i64 0, .slice none 0 0, .int .i64 0, .int .i64 0, .slice none 0 0]) (t := 37) ?hr ?_; (case hd => rfl); (case hg => rfl); (case hr => first | (go_simp; done) | (go_simp; rfl)); intro gb hg w_ FZ hb; obtain ⟨hst, hbb, hn⟩ := ctx_store HX.out (below_step HB.out hb) (by rw [hg]; exact (HB.out).size) FZ rfl (HO.out.below hb); have HN := Aside0.mk hn; have HBB := Aside0.mk hbb; replace HO := Aside0.mk (((HO.out.below hb).cells (vs := cb.toList) FZ).lower HSZ.out); clear hn hbb FZ hb hg))
      go_meet
      refine ⟨gb, cb, rfl, HN.out, fun t ht => ?_, HV.out.below HBB.out, Nat.le_trans HSZ.out HBB.out.size⟩
      rcases List.mem_cons.1 ht with rfl | ht
      · exact HO.out
      · exact (HM.out t ht).below HBB.out
    case rest =>
      obtain ⟨gb, cb, rfl, hn, hm, hv, hs⟩ := hcut
      clear HX xc HM HV HSZ
      have HX := Aside0.mk hn
      have HM := Aside0.mk hm
      have HV := Aside0.mk hv
      have HSZ := Aside0.mk hs
      clear hn hm hv hs
      have xc := blk_cell HX.out.hC
      go_upto_region 6 with (fail)
      go_cut [12] (fun v wr => ∃ (g : Nat) (cs : Array Value), v = .pointer (some ⟨g, 0, none⟩) ∧ Ctx w wr #[.int .i64 x0.f0, .int .i64 x0.f1, .int .i64 x0.f2, .int .i64 x0.f3, .int .i64 x0.f4, .int .i64 x0.f5, .int .i64 x0.f6, .int .i64 x0.f7, .int .i64 x0.f8, .int .i64 x0.f9, .int .i64 x0.f10, .int .i64 x0.f11] ((g, x1, cs) :: ((gb, (stepS x0 x1 x2 x3), cb) :: [(ga, x1, ca), ((w.heap.size + 1), x1, cs1)])) ∧ (∀ t ∈ (g, x1, cs) :: ((gb, (stepS x0 x1 x2 x3), cb) :: []), OwnX B wr t.2.1 t.2.2) ∧ Wr4 w.heap.size B wr x1 (.slice A2a x1.f0.f2.length c2a) (.slice A7a x1.f0.f7.length c7a) (.slice A15a x1.f3.f1.length c15a) (.slice A18a x1.f4.length c18a) ∧ B ≤ wr.heap.size)
      case first => as_aux_lemma =>
        go_wp2_with (first
          | ((with_reducible refine gate_dst (N := 42) rfl ?_); (try (refine gate_guard (by rfl) ?_; dsimp only)); refine load_pre rfl 37 (.tmp 10) rfl ga rfl ca _ (range_row (HX.out.heap (x := x1) (by simp))) hu1 rfl (k_info (HX.out.K (x := x1) (g := ga) (by simp))) ?_)
          | (go_at_call 18; refine (own_w (HX.out.K (g := ga) (x := x1) (cs := ca) (by simp)) FO.out).mono ?_; rintro e_ w2 ⟨cd, rfl, own, hb⟩; have hsz := k_size own.K; have HO := Aside0.mk own; have HB := Aside0.mk hb; clear own hb xc)
          | ((with_reducible refine gate_dst (N := 12) rfl ?_); refine box_event ?hg (N := 12) ?hd (cs := #[.int .i64 0, .int .i64 0, .slice none 0 0, .int .i64 0, .int .i64 0, .int .i64 0, .int .i64 0, .slice none 0 0, .int .i64 0, .int .i64 0, .bool false, .int .i64 0, .int .i64 0, .bool false, .int .i64 0, .slice none 0 0, .int .i64 0, .int .i64 0, .slice none 0 0]) (t := 37) ?hr ?_; (case hd => rfl); (case hg => rfl); (case hr => first | (go_simp; done) | (go_simp; rfl)); intro gd hg w_ FZ hb; obtain ⟨hst, hbb, hn⟩ := ctx_store HX.out (below_step HB.out hb) (by rw [hg]; exact (HB.out).size) FZ rfl (HO.out.below hb); have HN := Aside0.mk hn; have HBB := Aside0.mk hbb; replace HO := Aside0.mk (((HO.out.below hb).cells (vs := cd.toList) FZ).lower HSZ.out); clear hn hbb FZ hb hg))
        go_meet
        refine ⟨gd, cd, rfl, HN.out, fun t ht => ?_, HV.out.below HBB.out, Nat.le_trans HSZ.out HBB.out.size⟩
        rcases List.mem_cons.1 ht with rfl | ht
        · exact HO.out
        · exact (HM.out t ht).below HBB.out
      case rest =>
        obtain ⟨gd, cd, rfl, hn, hm, hv, hs⟩ := hcut
        clear HX xc HM HV HSZ
        have HX := Aside0.mk hn
        have HM := Aside0.mk hm
        have HV := Aside0.mk hv
        have HSZ := Aside0.mk hs
        clear hn hm hv hs
        have xc := blk_cell HX.out.hC
        go_upto_region 7 with (fail)
        have xa := blk_cell (HX.out.heap (g := ga) (x := x1) (cs := ca) (by simp))
        rw [HCA.out] at xa
        have HKP : Aside0 (k27.K _ x1.f0 (#[.int .i64 x1.f0.f0, .int .i64 x1.f0.f1, .slice A2a x1.f0.f2.length c2a, .int .i64 x1.f0.f3, .int .i64 x1.f0.f4, .int .i64 x1.f0.f5, .int .i64 x1.f0.f6, .slice A7a x1.f0.f7.length c7a] : Array Value).toList) := ⟨by have h := pol_of_sim (HX.out.K (g := ga) (x := x1) (cs := ca) (by simp)); rw [HCA.out] at h; exact h⟩
        go_cut [13] (fun v wr => ∃ (g : Nat) (cs : Array Value), v = .pointer (some ⟨g, 0, none⟩) ∧ Ctx w wr #[.int .i64 x0.f0, .int .i64 x0.f1, .int .i64 x0.f2, .int .i64 x0.f3, .int .i64 x0.f4, .int .i64 x0.f5, .int .i64 x0.f6, .int .i64 x0.f7, .int .i64 x0.f8, .int .i64 x0.f9, .int .i64 x0.f10, .int .i64 x0.f11] ((g, (newS x1.f0 x1.f1 x1.f2), cs) :: ((gd, x1, cd) :: ((gb, (stepS x0 x1 x2 x3), cb) :: [(ga, x1, ca), ((w.heap.size + 1), x1, cs1)]))) ∧ (∀ t ∈ (g, (newS x1.f0 x1.f1 x1.f2), cs) :: ((gd, x1, cd) :: ((gb, (stepS x0 x1 x2 x3), cb) :: [])), OwnX B wr t.2.1 t.2.2) ∧ Wr4 w.heap.size B wr x1 (.slice A2a x1.f0.f2.length c2a) (.slice A7a x1.f0.f7.length c7a) (.slice A15a x1.f3.f1.length c15a) (.slice A18a x1.f4.length c18a) ∧ B ≤ wr.heap.size)
        case first => as_aux_lemma =>
          go_wp2_with (first
            | (go_at_call 16; refine (new_w (p := x1.f0) (s := x1.f1) (h := x1.f2) (cp := #[.int .i64 x1.f0.f0, .int .i64 x1.f0.f1, .slice A2a x1.f0.f2.length c2a, .int .i64 x1.f0.f3, .int .i64 x1.f0.f4, .int .i64 x1.f0.f5, .int .i64 x1.f0.f6, .slice A7a x1.f0.f7.length c7a]) HKP.out FN.out).mono ?_; rintro e_ w2 ⟨ce, rfl, own, hb⟩; have hsz := k_size own.K; have HO := Aside0.mk own; have HB := Aside0.mk hb; clear own hb xc xa)
            | ((with_reducible refine gate_dst (N := 13) rfl ?_); refine box_event ?hg (N := 13) ?hd (cs := #[.int .i64 0, .int .i64 0, .slice none 0 0, .int .i64 0, .int .i64 0, .int .i64 0, .int .i64 0, .slice none 0 0, .int .i64 0, .int .i64 0, .bool false, .int .i64 0, .int .i64 0, .bool false, .int .i64 0, .slice none 0 0, .int .i64 0, .int .i64 0, .slice none 0 0]) (t := 37) ?hr ?_; (case hd => rfl); (case hg => rfl); (case hr => first | (go_simp; done) | (go_simp; rfl)); intro ge hg w_ FZ hb; obtain ⟨hst, hbb, hn⟩ := ctx_store HX.out (below_step HB.out hb) (by rw [hg]; exact (HB.out).size) FZ rfl (HO.out.below hb); have HN := Aside0.mk hn; have HBB := Aside0.mk hbb; replace HO := Aside0.mk (((HO.out.below hb).cells (vs := ce.toList) FZ).lower HSZ.out); clear hn hbb FZ hb hg))
          go_meet
          refine ⟨ge, ce, rfl, HN.out, fun t ht => ?_, HV.out.below HBB.out, Nat.le_trans HSZ.out HBB.out.size⟩
          rcases List.mem_cons.1 ht with rfl | ht
          · exact HO.out
          · exact (HM.out t ht).below HBB.out
        case rest =>
          obtain ⟨ge, ce, rfl, hn, hm, hv, hs⟩ := hcut
          clear HX xc HM HV HSZ
          have HX := Aside0.mk hn
          have HM := Aside0.mk hm
          have HV := Aside0.mk hv
          have HSZ := Aside0.mk hs
          clear hn hm hv hs
          have xc := blk_cell HX.out.hC
          go_upto_region 8 with (fail)
          have FSM := Aside0.mk (same_refl HSP.out)
          clear HKP xa
          go_upto_region 10 with (first
            | ((with_reducible refine gate_dst (N := 51) rfl ?_); (try (refine gate_guard (by rfl) ?_; dsimp only)); refine load_pre rfl 37 (.tmp 10) rfl ga rfl ca _ (range_row (HX.out.heap (x := x1) (by simp))) hu1 rfl (k_info (HX.out.K (x := x1) (g := ga) (by simp))) ?_)
            | ((with_reducible refine gate_dst (N := 52) rfl ?_); (try (refine gate_guard (by rfl) ?_; dsimp only)); refine load_pre rfl 37 (.tmp 5) rfl (w.heap.size + 1) rfl cs1 _ (range_row (HX.out.heap (x := x1) (by simp))) hu1 rfl (k_info (HX.out.K (x := x1) (g := (w.heap.size + 1)) (by simp))) ?_)
            | (go_at_call 13; refine (same_w (HX.out.K (g := ga) (x := x1) (cs := ca) (by simp)) (HX.out.K (g := (w.heap.size + 1)) (x := x1) (cs := cs1) (by simp)) FSM.out).mono ?_; rintro e_ w1 ⟨rfl, hb⟩; have n1_ := Aside0.mk (HX.out.below hb); have n2_ := Aside0.mk (fun t ht => (HM.out t ht).below hb); have n3_ := Aside0.mk (HV.out.below hb); have n4_ := Aside0.mk (Nat.le_trans HSZ.out hb.size); clear HX HM HV HSZ hb xc; have HX := n1_; have HM := n2_; have HV := n3_; have HSZ := n4_; clear n1_ n2_ n3_ n4_; have xc := blk_cell HX.out.hC))
          go_cut [14] (fun v wr => ∃ (g : Nat) (cs : Array Value), v = .pointer (some ⟨g, 0, none⟩) ∧ Ctx w wr #[.int .i64 x0.f0, .int .i64 x0.f1, .int .i64 x0.f2, .int .i64 x0.f3, .int .i64 x0.f4, .int .i64 x0.f5, .int .i64 x0.f6, .int .i64 x0.f7, .int .i64 x0.f8, .int .i64 x0.f9, .int .i64 x0.f10, .int .i64 x0.f11] ((g, (stepS x0 x1 x2 x3), cs) :: ((ge, (newS x1.f0 x1.f1 x1.f2), ce) :: ((gd, x1, cd) :: ((gb, (stepS x0 x1 x2 x3), cb) :: [(ga, x1, ca), ((w.heap.size + 1), x1, cs1)])))) ∧ (∀ t ∈ (g, (stepS x0 x1 x2 x3), cs) :: ((ge, (newS x1.f0 x1.f1 x1.f2), ce) :: ((gd, x1, cd) :: ((gb, (stepS x0 x1 x2 x3), cb) :: []))), OwnX B wr t.2.1 t.2.2) ∧ Wr4 w.heap.size B wr x1 (.slice A2a x1.f0.f2.length c2a) (.slice A7a x1.f0.f7.length c7a) (.slice A15a x1.f3.f1.length c15a) (.slice A18a x1.f4.length c18a) ∧ B ≤ wr.heap.size)
          case first => as_aux_lemma =>
            go_wp2_with (first
              | ((with_reducible refine gate_dst (N := 55) rfl ?_); (try (refine gate_guard (by rfl) ?_; dsimp only)); refine load_pre rfl 37 (.tmp 11) rfl gb rfl cb _ (range_row (HX.out.heap (x := (stepS x0 x1 x2 x3)) (by simp))) hu1 rfl (k_info (HX.out.K (x := (stepS x0 x1 x2 x3)) (g := gb) (by simp))) ?_)
              | (go_at_call 21; refine (rown_w (HX.out.K (g := gb) (x := (stepS x0 x1 x2 x3)) (cs := cb) (by simp)) FY.out).mono ?_; rintro e_ w2 ⟨cbb, rfl, own, hb⟩; have hsz := k_size own.K; have HO := Aside0.mk own; have HB := Aside0.mk hb; clear own hb xc)
              | ((with_reducible refine gate_dst (N := 14) rfl ?_); refine box_event ?hg (N := 14) ?hd (cs := #[.int .i64 0, .int .i64 0, .slice none 0 0, .int .i64 0, .int .i64 0, .int .i64 0, .int .i64 0, .slice none 0 0, .int .i64 0, .int .i64 0, .bool false, .int .i64 0, .int .i64 0, .bool false, .int .i64 0, .slice none 0 0, .int .i64 0, .int .i64 0, .slice none 0 0]) (t := 37) ?hr ?_; (case hd => rfl); (case hg => rfl); (case hr => first | (go_simp; done) | (go_simp; rfl)); intro gbb hg w_ FZ hb; obtain ⟨hst, hbb, hn⟩ := ctx_store HX.out (below_step HB.out hb) (by rw [hg]; exact (HB.out).size) FZ rfl (HO.out.below hb); have HN := Aside0.mk hn; have HBB := Aside0.mk hbb; replace HO := Aside0.mk (((HO.out.below hb).cells (vs := cbb.toList) FZ).lower HSZ.out); clear hn hbb FZ hb hg))
            go_meet
            refine ⟨gbb, cbb, rfl, HN.out, fun t ht => ?_, HV.out.below HBB.out, Nat.le_trans HSZ.out HBB.out.size⟩
            rcases List.mem_cons.1 ht with rfl | ht
            · exact HO.out
            · exact (HM.out t ht).below HBB.out
          case rest =>
            obtain ⟨gbb, cbb, rfl, hn, hm, hv, hs⟩ := hcut
            clear HX xc HM HV HSZ
            have HX := Aside0.mk hn
            have HM := Aside0.mk hm
            have HV := Aside0.mk hv
            have HSZ := Aside0.mk hs
            clear hn hm hv hs
            have xc := blk_cell HX.out.hC
            go_upto_region 11 with (fail)
            go_cut [15] (fun v wr => ∃ (g : Nat) (cs : Array Value), v = .pointer (some ⟨g, 0, none⟩) ∧ Ctx w wr #[.int .i64 x0.f0, .int .i64 x0.f1, .int .i64 x0.f2, .int .i64 x0.f3, .int .i64 x0.f4, .int .i64 x0.f5, .int .i64 x0.f6, .int .i64 x0.f7, .int .i64 x0.f8, .int .i64 x0.f9, .int .i64 x0.f10, .int .i64 x0.f11] ((g, (newS x1.f0 x1.f1 x1.f2), cs) :: ((gbb, (stepS x0 x1 x2 x3), cbb) :: ((ge, (newS x1.f0 x1.f1 x1.f2), ce) :: ((gd, x1, cd) :: ((gb, (stepS x0 x1 x2 x3), cb) :: [(ga, x1, ca), ((w.heap.size + 1), x1, cs1)]))))) ∧ (∀ t ∈ (g, (newS x1.f0 x1.f1 x1.f2), cs) :: ((gbb, (stepS x0 x1 x2 x3), cbb) :: ((ge, (newS x1.f0 x1.f1 x1.f2), ce) :: ((gd, x1, cd) :: ((gb, (stepS x0 x1 x2 x3), cb) :: [])))), OwnX B wr t.2.1 t.2.2) ∧ Wr4 w.heap.size B wr x1 (.slice A2a x1.f0.f2.length c2a) (.slice A7a x1.f0.f7.length c7a) (.slice A15a x1.f3.f1.length c15a) (.slice A18a x1.f4.length c18a) ∧ B ≤ wr.heap.size)
            case first => as_aux_lemma =>
              go_wp2_with (first
                | ((with_reducible refine gate_dst (N := 57) rfl ?_); (try (refine gate_guard (by rfl) ?_; dsimp only)); refine load_pre rfl 37 (.tmp 13) rfl ge rfl ce _ (range_row (HX.out.heap (x := (newS x1.f0 x1.f1 x1.f2)) (by simp))) hu1 rfl (k_info (HX.out.K (x := (newS x1.f0 x1.f1 x1.f2)) (g := ge) (by simp))) ?_)
                | (go_at_call 21; refine (rown_w (HX.out.K (g := ge) (x := (newS x1.f0 x1.f1 x1.f2)) (cs := ce) (by simp)) FE.out).mono ?_; rintro e_ w2 ⟨cee, rfl, own, hb⟩; have hsz := k_size own.K; have HO := Aside0.mk own; have HB := Aside0.mk hb; clear own hb xc)
                | ((with_reducible refine gate_dst (N := 15) rfl ?_); refine box_event ?hg (N := 15) ?hd (cs := #[.int .i64 0, .int .i64 0, .slice none 0 0, .int .i64 0, .int .i64 0, .int .i64 0, .int .i64 0, .slice none 0 0, .int .i64 0, .int .i64 0, .bool false, .int .i64 0, .int .i64 0, .bool false, .int .i64 0, .slice none 0 0, .int .i64 0, .int .i64 0, .slice none 0 0]) (t := 37) ?hr ?_; (case hd => rfl); (case hg => rfl); (case hr => first | (go_simp; done) | (go_simp; rfl)); intro gee hg w_ FZ hb; obtain ⟨hst, hbb, hn⟩ := ctx_store HX.out (below_step HB.out hb) (by rw [hg]; exact (HB.out).size) FZ rfl (HO.out.below hb); have HN := Aside0.mk hn; have HBB := Aside0.mk hbb; replace HO := Aside0.mk (((HO.out.below hb).cells (vs := cee.toList) FZ).lower HSZ.out); clear hn hbb FZ hb hg))
              go_meet
              refine ⟨gee, cee, rfl, HN.out, fun t ht => ?_, HV.out.below HBB.out, Nat.le_trans HSZ.out HBB.out.size⟩
              rcases List.mem_cons.1 ht with rfl | ht
              · exact HO.out
              · exact (HM.out t ht).below HBB.out
            case rest =>
              obtain ⟨gee, cee, rfl, hn, hm, hv, hs⟩ := hcut
              clear HX xc HM HV HSZ
              have HX := Aside0.mk hn
              have HM := Aside0.mk hm
              have HV := Aside0.mk hv
              have HSZ := Aside0.mk hs
              clear hn hm hv hs
              have xc := blk_cell HX.out.hC
              go_upto_region 12 with (fail)
              have hs0 := OwS2.mk (w := w) (B := B) (x := x1) HX.out.hS.1 (fun t ht => (HX.out.hS.2 t ht).1) HM.out HV.out
              have HS := Aside0.mk hs0
              clear hs0 HX HM HV HSZ xc
              go_wp2
              go_loopw [16] (fun v wr => ∃ i : Int, 0 ≤ i ∧ i ≤ (x1.f4.length : Int) ∧ v = .int .i64 i ∧ Aside0 (OwS2 w wr B x1 ((gee, (newS x1.f0 x1.f1 x1.f2), cee) :: ((gbb, (stepS x0 x1 x2 x3), cbb) :: ((ge, (newS x1.f0 x1.f1 x1.f2), ce) :: ((gd, x1, cd) :: ((gb, (stepS x0 x1 x2 x3), cb) :: [(ga, x1, ca), ((w.heap.size + 1), x1, cs1)]))))) ((gee, (newS x1.f0 x1.f1 x1.f2), cee) :: ((gbb, (stepS x0 x1 x2 x3), cbb) :: ((ge, (newS x1.f0 x1.f1 x1.f2), ce) :: ((gd, x1, cd) :: ((gb, (stepS x0 x1 x2 x3), cb) :: []))))) (.slice A2a x1.f0.f2.length c2a) (.slice A7a x1.f0.f7.length c7a) (.slice A15a x1.f3.f1.length c15a) (.slice A18a x1.f4.length c18a))) (fun v _ => ((x1.f4.length : Int) - intOf v).toNat)
              case atStart => exact ⟨0, Int.le_refl _, by omega, rfl, HS⟩
              case round =>
                clear HS
                obtain ⟨i, h0, hi, rfl, HS⟩ := hrel
                have ya := blk_cell (HS.out.hL (ga, x1, ca) (List.Mem.tail _ (List.Mem.tail _ (List.Mem.tail _ (List.Mem.tail _ (List.Mem.tail _ (List.Mem.head _))))))) 18
                rw [HCA.out] at ya
                replace ya : wr.cell? ⟨ga, 18, none⟩ = some (.slice A18a x1.f4.length c18a) := ya
                by_cases hlt : i < (x1.f4.length : Int)
                · as_aux_lemma =>
                  have hln : x1.f4.length ≤ 32 := by have := HSP.out.ml; omega
                  have mk : ((x1.f4.length : Int) - (i + 1)).toNat < ((x1.f4.length : Int) - i).toNat := by omega
                  have m0 : 0 ≤ i + 1 := by omega
                  have m1 : i + 1 ≤ (x1.f4.length : Int) := by omega
                  rcases HS.out.hW.w18 with hz | ⟨ad, g, cap, cur, e0, had, hg, hn, hlo, hhi⟩
                  · omega
                  have hj : i.toNat * 2 + 0 < cur.size := by omega
                  obtain ⟨z, hz⟩ : ∃ z, cur[i.toNat * 2 + 0]? = some z := ⟨_, Array.getElem?_eq_getElem hj⟩
                  have u0 : wr.cell? (ad.add (i.toNat * 2)) = some z := by rw [had, addr_add]; exact (blk_cell hg _).trans (by simpa using hz)
                  have f0 : wr.frozen? (ad.add (i.toNat * 2)) = false := by rw [had, addr_add]; exact blk_frozen hg _
                  have hp := HS.out.put hg (by decide) hlo hhi (i.toNat * 2) (.int .i64 77)
                  have ep : wr.setCell (ad.add (i.toNat * 2)) (.int .i64 77) = wr.setCell ⟨g, i.toNat * 2, none⟩ (.int .i64 77) := by rw [had, addr_add]
                  rw [← ep] at hp
                  have HPP := Aside0.mk hp
                  have hw := wr_len (n := x1.f4.length) (by clear ep; omega) h0 hlt
                  injection e0 with e1 e2 e3
                  rw [e1] at ya
                  clear hp ep hz hj had hg hn hlo hhi e1 e2 e3 HS
                  go_wp2
                  repeat (go_quiet (fail); try go_wp2)
                  go_roundw
                  case measure => simp only [intOf, hw]; exact mk
                  case rel => exact ⟨i + 1, m0, m1, by simp only [hw], HPP⟩
                · skip
                  go_wp2
                  go_loopw [17] (fun v wr => ∃ i : Int, 0 ≤ i ∧ i ≤ (x1.f0.f2.length : Int) ∧ v = .int .i64 i ∧ Aside0 (OwS2 w wr B x1 ((gee, (newS x1.f0 x1.f1 x1.f2), cee) :: ((gbb, (stepS x0 x1 x2 x3), cbb) :: ((ge, (newS x1.f0 x1.f1 x1.f2), ce) :: ((gd, x1, cd) :: ((gb, (stepS x0 x1 x2 x3), cb) :: [(ga, x1, ca), ((w.heap.size + 1), x1, cs1)]))))) ((gee, (newS x1.f0 x1.f1 x1.f2), cee) :: ((gbb, (stepS x0 x1 x2 x3), cbb) :: ((ge, (newS x1.f0 x1.f1 x1.f2), ce) :: ((gd, x1, cd) :: ((gb, (stepS x0 x1 x2 x3), cb) :: []))))) (.slice A2a x1.f0.f2.length c2a) (.slice A7a x1.f0.f7.length c7a) (.slice A15a x1.f3.f1.length c15a) (.slice A18a x1.f4.length c18a))) (fun v _ => ((x1.f0.f2.length : Int) - intOf v).toNat)
                  case atStart => exact ⟨0, Int.le_refl _, by omega, rfl, HS⟩
                  case round =>
                    clear HS
                    obtain ⟨i, h0, hi, rfl, HS⟩ := hrel
                    have ya := blk_cell (HS.out.hL (ga, x1, ca) (List.Mem.tail _ (List.Mem.tail _ (List.Mem.tail _ (List.Mem.tail _ (List.Mem.tail _ (List.Mem.head _))))))) 2
                    rw [HCA.out] at ya
                    replace ya : wr.cell? ⟨ga, 2, none⟩ = some (.slice A2a x1.f0.f2.length c2a) := ya
                    by_cases hlt : i < (x1.f0.f2.length : Int)
                    · as_aux_lemma =>
                      have hln : x1.f0.f2.length ≤ 32 := by have := HSP.out.pol.b8; omega
                      have mk : ((x1.f0.f2.length : Int) - (i + 1)).toNat < ((x1.f0.f2.length : Int) - i).toNat := by omega
                      have m0 : 0 ≤ i + 1 := by omega
                      have m1 : i + 1 ≤ (x1.f0.f2.length : Int) := by omega
                      rcases HS.out.hW.w2 with hz | ⟨ad, g, cap, cur, e0, had, hg, hn, hlo, hhi⟩
                      · omega
                      have hj : i.toNat * 2 + 1 < cur.size := by omega
                      obtain ⟨z, hz⟩ : ∃ z, cur[i.toNat * 2 + 1]? = some z := ⟨_, Array.getElem?_eq_getElem hj⟩
                      have u0 : wr.cell? ⟨(ad.add (i.toNat * 2)).block, (ad.add (i.toNat * 2)).off + 1, none⟩ = some z := by rw [had, addr_add]; exact (blk_cell hg _).trans hz
                      have f0 : wr.frozen? ⟨(ad.add (i.toNat * 2)).block, (ad.add (i.toNat * 2)).off + 1, none⟩ = false := by rw [had, addr_add]; exact blk_frozen hg _
                      have hp := HS.out.put hg (by decide) hlo hhi (i.toNat * 2 + 1) (.int .i64 77)
                      have ep : wr.setCell ⟨(ad.add (i.toNat * 2)).block, (ad.add (i.toNat * 2)).off + 1, none⟩ (.int .i64 77) = wr.setCell ⟨g, i.toNat * 2 + 1, none⟩ (.int .i64 77) := by rw [had, addr_add]
                      rw [← ep] at hp
                      have HPP := Aside0.mk hp
                      have hw := wr_len (n := x1.f0.f2.length) (by clear ep; omega) h0 hlt
                      injection e0 with e1 e2 e3
                      rw [e1] at ya
                      clear hp ep hz hj had hg hn hlo hhi e1 e2 e3 HS
                      go_wp2
                      repeat (go_quiet (fail); try go_wp2)
                      go_roundw
                      case measure => simp only [intOf, hw]; exact mk
                      case rel => exact ⟨i + 1, m0, m1, by simp only [hw], HPP⟩
                    · skip
                      go_wp2
                      go_loopw [18] (fun v wr => ∃ i : Int, 0 ≤ i ∧ i ≤ (x1.f0.f7.length : Int) ∧ v = .int .i64 i ∧ Aside0 (OwS2 w wr B x1 ((gee, (newS x1.f0 x1.f1 x1.f2), cee) :: ((gbb, (stepS x0 x1 x2 x3), cbb) :: ((ge, (newS x1.f0 x1.f1 x1.f2), ce) :: ((gd, x1, cd) :: ((gb, (stepS x0 x1 x2 x3), cb) :: [(ga, x1, ca), ((w.heap.size + 1), x1, cs1)]))))) ((gee, (newS x1.f0 x1.f1 x1.f2), cee) :: ((gbb, (stepS x0 x1 x2 x3), cbb) :: ((ge, (newS x1.f0 x1.f1 x1.f2), ce) :: ((gd, x1, cd) :: ((gb, (stepS x0 x1 x2 x3), cb) :: []))))) (.slice A2a x1.f0.f2.length c2a) (.slice A7a x1.f0.f7.length c7a) (.slice A15a x1.f3.f1.length c15a) (.slice A18a x1.f4.length c18a))) (fun v _ => ((x1.f0.f7.length : Int) - intOf v).toNat)
                      case atStart => exact ⟨0, Int.le_refl _, by omega, rfl, HS⟩
                      case round =>
                        clear HS
                        obtain ⟨i, h0, hi, rfl, HS⟩ := hrel
                        have ya := blk_cell (HS.out.hL (ga, x1, ca) (List.Mem.tail _ (List.Mem.tail _ (List.Mem.tail _ (List.Mem.tail _ (List.Mem.tail _ (List.Mem.head _))))))) 7
                        rw [HCA.out] at ya
                        replace ya : wr.cell? ⟨ga, 7, none⟩ = some (.slice A7a x1.f0.f7.length c7a) := ya
                        by_cases hlt : i < (x1.f0.f7.length : Int)
                        · as_aux_lemma =>
                          have hln : x1.f0.f7.length ≤ 32 := by have := HSP.out.pol.s8; omega
                          have mk : ((x1.f0.f7.length : Int) - (i + 1)).toNat < ((x1.f0.f7.length : Int) - i).toNat := by omega
                          have m0 : 0 ≤ i + 1 := by omega
                          have m1 : i + 1 ≤ (x1.f0.f7.length : Int) := by omega
                          rcases HS.out.hW.w7 with hz | ⟨ad, g, cap, cur, e0, had, hg, hn, hlo, hhi⟩
                          · omega
                          have hj : i.toNat * 2 + 1 < cur.size := by omega
                          obtain ⟨z, hz⟩ : ∃ z, cur[i.toNat * 2 + 1]? = some z := ⟨_, Array.getElem?_eq_getElem hj⟩
                          have u0 : wr.cell? ⟨(ad.add (i.toNat * 2)).block, (ad.add (i.toNat * 2)).off + 1, none⟩ = some z := by rw [had, addr_add]; exact (blk_cell hg _).trans hz
                          have f0 : wr.frozen? ⟨(ad.add (i.toNat * 2)).block, (ad.add (i.toNat * 2)).off + 1, none⟩ = false := by rw [had, addr_add]; exact blk_frozen hg _
                          have hp := HS.out.put hg (by decide) hlo hhi (i.toNat * 2 + 1) (.int .i64 77)
                          have ep : wr.setCell ⟨(ad.add (i.toNat * 2)).block, (ad.add (i.toNat * 2)).off + 1, none⟩ (.int .i64 77) = wr.setCell ⟨g, i.toNat * 2 + 1, none⟩ (.int .i64 77) := by rw [had, addr_add]
                          rw [← ep] at hp
                          have HPP := Aside0.mk hp
                          have hw := wr_len (n := x1.f0.f7.length) (by clear ep; omega) h0 hlt
                          injection e0 with e1 e2 e3
                          rw [e1] at ya
                          clear hp ep hz hj had hg hn hlo hhi e1 e2 e3 HS
                          go_wp2
                          repeat (go_quiet (fail); try go_wp2)
                          go_roundw
                          case measure => simp only [intOf, hw]; exact mk
                          case rel => exact ⟨i + 1, m0, m1, by simp only [hw], HPP⟩
                        · skip
                          go_wp2
                          go_loopw [19] (fun v wr => ∃ i : Int, 0 ≤ i ∧ i ≤ (x1.f3.f1.length : Int) ∧ v = .int .i64 i ∧ Aside0 (OwS2 w wr B x1 ((gee, (newS x1.f0 x1.f1 x1.f2), cee) :: ((gbb, (stepS x0 x1 x2 x3), cbb) :: ((ge, (newS x1.f0 x1.f1 x1.f2), ce) :: ((gd, x1, cd) :: ((gb, (stepS x0 x1 x2 x3), cb) :: [(ga, x1, ca), ((w.heap.size + 1), x1, cs1)]))))) ((gee, (newS x1.f0 x1.f1 x1.f2), cee) :: ((gbb, (stepS x0 x1 x2 x3), cbb) :: ((ge, (newS x1.f0 x1.f1 x1.f2), ce) :: ((gd, x1, cd) :: ((gb, (stepS x0 x1 x2 x3), cb) :: []))))) (.slice A2a x1.f0.f2.length c2a) (.slice A7a x1.f0.f7.length c7a) (.slice A15a x1.f3.f1.length c15a) (.slice A18a x1.f4.length c18a))) (fun v _ => ((x1.f3.f1.length : Int) - intOf v).toNat)
                          case atStart => exact ⟨0, Int.le_refl _, by omega, rfl, HS⟩
                          case round =>
                            clear HS
                            obtain ⟨i, h0, hi, rfl, HS⟩ := hrel
                            have ya := blk_cell (HS.out.hL (ga, x1, ca) (List.Mem.tail _ (List.Mem.tail _ (List.Mem.tail _ (List.Mem.tail _ (List.Mem.tail _ (List.Mem.head _))))))) 15
                            rw [HCA.out] at ya
                            replace ya : wr.cell? ⟨ga, 15, none⟩ = some (.slice A15a x1.f3.f1.length c15a) := ya
                            by_cases hlt : i < (x1.f3.f1.length : Int)
                            · as_aux_lemma =>
                              have hln : x1.f3.f1.length ≤ 32 := by have := HSP.out.pl.len; omega
                              have mk : ((x1.f3.f1.length : Int) - (i + 1)).toNat < ((x1.f3.f1.length : Int) - i).toNat := by omega
                              have m0 : 0 ≤ i + 1 := by omega
                              have m1 : i + 1 ≤ (x1.f3.f1.length : Int) := by omega
                              rcases HS.out.hW.w15 with hz | ⟨ad, g, cap, cur, e0, had, hg, hn, hlo, hhi⟩
                              · omega
                              have hj : i.toNat * 1 + 0 < cur.size := by omega
                              obtain ⟨z, hz⟩ : ∃ z, cur[i.toNat * 1 + 0]? = some z := ⟨_, Array.getElem?_eq_getElem hj⟩
                              have u0 : wr.cell? (ad.add i.toNat) = some z := by rw [had, addr_add]; exact (blk_cell hg _).trans (by simpa using hz)
                              have f0 : wr.frozen? (ad.add i.toNat) = false := by rw [had, addr_add]; exact blk_frozen hg _
                              have hp := HS.out.put hg (by decide) hlo hhi (i.toNat) (.int .i64 77)
                              have ep : wr.setCell (ad.add i.toNat) (.int .i64 77) = wr.setCell ⟨g, i.toNat, none⟩ (.int .i64 77) := by rw [had, addr_add]
                              rw [← ep] at hp
                              have HPP := Aside0.mk hp
                              have hw := wr_len (n := x1.f3.f1.length) (by clear ep; omega) h0 hlt
                              injection e0 with e1 e2 e3
                              rw [e1] at ya
                              clear hp ep hz hj had hg hn hlo hhi e1 e2 e3 HS
                              go_wp2
                              repeat (go_quiet (fail); try go_wp2)
                              go_roundw
                              case measure => simp only [intOf, hw]; exact mk
                              case rel => exact ⟨i + 1, m0, m1, by simp only [hw], HPP⟩
                            · skip
                              go_upto_region 28 with (fail)
                              have F1 := Aside0.mk (same_refl FY.out)
                              have F2 := Aside0.mk (same_refl HSP.out)
                              have F3 := Aside0.mk (same_refl FE.out)
                              (try clear ya)
                              go_wp2_with (first
                                | ((with_reducible refine gate_dst (N := 114) rfl ?_); (try (refine gate_guard (by rfl) ?_; dsimp only)); refine load_pre rfl 37 (.tmp 11) rfl gb rfl cb _ (range_row (HS.out.hL (gb, (stepS x0 x1 x2 x3), cb) (List.Mem.tail _ (List.Mem.tail _ (List.Mem.tail _ (List.Mem.tail _ (List.Mem.head _))))))) hu1 rfl (k_info (HS.out.hM (gb, (stepS x0 x1 x2 x3), cb) (List.Mem.tail _ (List.Mem.tail _ (List.Mem.tail _ (List.Mem.tail _ (List.Mem.head _)))))).K) ?_)
                                | ((with_reducible refine gate_dst (N := 115) rfl ?_); (try (refine gate_guard (by rfl) ?_; dsimp only)); refine load_pre rfl 37 (.tmp 14) rfl gbb rfl cbb _ (range_row (HS.out.hL (gbb, (stepS x0 x1 x2 x3), cbb) (List.Mem.tail _ (List.Mem.head _)))) hu1 rfl (k_info (HS.out.hM (gbb, (stepS x0 x1 x2 x3), cbb) (List.Mem.tail _ (List.Mem.head _))).K) ?_)
                                | ((with_reducible refine gate_dst (N := 119) rfl ?_); (try (refine gate_guard (by rfl) ?_; dsimp only)); refine load_pre rfl 37 (.tmp 12) rfl gd rfl cd _ (range_row (HS.out.hL (gd, x1, cd) (List.Mem.tail _ (List.Mem.tail _ (List.Mem.tail _ (List.Mem.head _)))))) hu1 rfl (k_info (HS.out.hM (gd, x1, cd) (List.Mem.tail _ (List.Mem.tail _ (List.Mem.tail _ (List.Mem.head _))))).K) ?_)
                                | ((with_reducible refine gate_dst (N := 120) rfl ?_); (try (refine gate_guard (by rfl) ?_; dsimp only)); refine load_pre rfl 37 (.tmp 5) rfl (w.heap.size + 1) rfl cs1 _ (range_row (HS.out.hL ((w.heap.size + 1), x1, cs1) (List.Mem.tail _ (List.Mem.tail _ (List.Mem.tail _ (List.Mem.tail _ (List.Mem.tail _ (List.Mem.tail _ (List.Mem.head _))))))))) hu1 rfl (k_info (k37.K_below HS.out.hB HK1.out)) ?_)
                                | ((with_reducible refine gate_dst (N := 124) rfl ?_); (try (refine gate_guard (by rfl) ?_; dsimp only)); refine load_pre rfl 37 (.tmp 13) rfl ge rfl ce _ (range_row (HS.out.hL (ge, (newS x1.f0 x1.f1 x1.f2), ce) (List.Mem.tail _ (List.Mem.tail _ (List.Mem.head _))))) hu1 rfl (k_info (HS.out.hM (ge, (newS x1.f0 x1.f1 x1.f2), ce) (List.Mem.tail _ (List.Mem.tail _ (List.Mem.head _)))).K) ?_)
                                | ((with_reducible refine gate_dst (N := 125) rfl ?_); (try (refine gate_guard (by rfl) ?_; dsimp only)); refine load_pre rfl 37 (.tmp 15) rfl gee rfl cee _ (range_row (HS.out.hL (gee, (newS x1.f0 x1.f1 x1.f2), cee) (List.Mem.head _))) hu1 rfl (k_info (HS.out.hM (gee, (newS x1.f0 x1.f1 x1.f2), cee) (List.Mem.head _)).K) ?_)
                                | (go_at_call 13; first | ((with_reducible refine (same_w (HS.out.hM (gb, (stepS x0 x1 x2 x3), cb) (List.Mem.tail _ (List.Mem.tail _ (List.Mem.tail _ (List.Mem.tail _ (List.Mem.head _)))))).K (HS.out.hM (gbb, (stepS x0 x1 x2 x3), cbb) (List.Mem.tail _ (List.Mem.head _))).K F1.out).mono ?_); rintro e_ w1 ⟨rfl, hb⟩; replace HS := Aside0.mk (HS.out.below hb); clear hb) | ((with_reducible refine (same_w (HS.out.hM (gd, x1, cd) (List.Mem.tail _ (List.Mem.tail _ (List.Mem.tail _ (List.Mem.head _))))).K (k37.K_below HS.out.hB HK1.out) F2.out).mono ?_); rintro e_ w1 ⟨rfl, hb⟩; replace HS := Aside0.mk (HS.out.below hb); clear hb) | ((with_reducible refine (same_w (HS.out.hM (ge, (newS x1.f0 x1.f1 x1.f2), ce) (List.Mem.tail _ (List.Mem.tail _ (List.Mem.head _)))).K (HS.out.hM (gee, (newS x1.f0 x1.f1 x1.f2), cee) (List.Mem.head _)).K F3.out).mono ?_); rintro e_ w1 ⟨rfl, hb⟩; replace HS := Aside0.mk (HS.out.below hb); clear hb)))
                              go_ret
                              exact ⟨rfl, HS.out.hB⟩
end Go.Proofs.Ytefgoffaidjiaaa.PAll
namespace Go.Proofs.Ytefgoffaidjiaaa.fleetOwn
open Go.ChangeShapes Go.WideShapes Go.ChangeAt Go.RowKit
open Go.ChangeMaps (open_string shut_string)
set_option linter.unusedVariables false
theorem own : ownKnob Try.prog.godebug = none := by kernel_rfl
theorem laidOut : laidOutB Try.prog = true := by kernel_rfl
set_option maxRecDepth 100000 in
theorem lifted (os : Os) (started : os.Started) (H : Type) (enc : TypeId × Value → H) :
    ReturnsInHanded {} Try.checked os 6 .any (Rows.fleetOwnSpec.pre6 enc Try.prog Try.f6 Rows.fleetOwnRow.domain false) (Rows.fleetOwnSpec.post enc Try.prog Try.f6 false true false false) := by
  refine returnsInHanded_of_change_sized (C := Try.checked) own started (by kernel_rfl) Try.func6
    (ChangeSpec.witness6 (enc := enc) (C := Try.checked) false ⟨#[], #[.agg #[.int .i64 0, .int .i64 0, .int .i64 0, .int .i64 0, .int .i64 0, .int .i64 0, .int .i64 0, .int .i64 0, .int .i64 0, .int .i64 0, .int .i64 0, .int .i64 0], .agg #[.int .i64 0, .int .i64 0, .slice none 0 0, .int .i64 0, .int .i64 0, .int .i64 0, .int .i64 0, .slice none 0 0, .int .i64 0, .int .i64 0, .bool false, .int .i64 0, .int .i64 0, .bool false, .int .i64 0, .slice none 0 0, .int .i64 0, .int .i64 0, .slice none 0 0], .int .i64 0, .int .i64 0], []⟩ 8 (by kernel_rfl) (by kernel_rfl) (by kernel_rfl) (by kernel_rfl)) ?_
  intro W base args ds gs before hval0 hW hcnd hsz0 _
  have hval : ∀ (j : Nat) t v, Try.f6.params[j]? = some t → args[j]? = some v → Value.okWide Try.prog W .any base t v := hval0
  have hW' := hW
  obtain ⟨p, q, hA0, hV, rfl, hfz, hnd⟩ := hW
  have hA : DataW.TrodAll enc Try.prog W 0 (fun _ => true) true Try.f6.params.toList args.toList ds p := hA0
  rw [Try.params6] at hA hval
  obtain ⟨v0, vs0, d0, ds0, p0, q0, hargs, rfl, rfl, h0, r0⟩ := trodAll_cons hA
  obtain ⟨v1, vs1, d1, ds1, p1, q1, rfl, rfl, rfl, h1, r1⟩ := trodAll_cons r0
  obtain ⟨v2, vs2, d2, ds2, p2, q2, rfl, rfl, rfl, h2, r2⟩ := trodAll_cons r1
  obtain ⟨v3, vs3, d3, ds3, p3, q3, rfl, rfl, rfl, h3, r3⟩ := trodAll_cons r2
  obtain ⟨rfl, rfl, rfl⟩ := trodAll_nil r3
  obtain rfl : args = #[v0, v1, v2, v3] := by cases args; simp_all
  obtain ⟨rfl, rfl⟩ := trodVars_none hV
  have k0 := h0
  have lt0 : ∀ x ∈ p0, x.block < W.heap.size := by obtain ⟨m, hm⟩ := k0; exact DataW.trod_lt m _ _ _ hm
  obtain ⟨cs0, rfl, _⟩ := okWide_struct Try.underlying23 (hval 0 23 v0 rfl rfl)
  obtain ⟨fuel0, hf0⟩ := h0
  obtain ⟨x0, g0, o0⟩ := PAll.rdy23 enc W _ _ _ _ _ _ hf0
  have k1 := h1
  have lt1 : ∀ x ∈ p1, x.block < W.heap.size := by obtain ⟨m, hm⟩ := k1; exact DataW.trod_lt m _ _ _ hm
  obtain ⟨cs1, rfl, _⟩ := okWide_struct Try.underlying37 (hval 1 37 v1 rfl rfl)
  obtain ⟨fuel1, hf1⟩ := h1
  obtain ⟨x1, g1, o1⟩ := PAll.rdy37 enc W _ _ _ _ _ _ hf1
  obtain ⟨a2, rfl, rfl, rfl, w2⟩ := open_int Try.underlying2 (hval 2 2 v2 rfl rfl) h2
  obtain ⟨a3, rfl, rfl, rfl, w3⟩ := open_int Try.underlying2 (hval 3 2 v3 rfl rfl) h3
  clear hA0 hval0 hsz0
  refine (PAll.governorlaw18_FleetOwn.walk2 W cs0 x0 g0 o0 cs1 x1 g1 o1 a2 w2 a3 w3).mono fun e W' ⟨he, bel⟩ => ?_
  subst he
  exact ⟨_, rfl, _, _, _, [], _, [], hW', trodAll_mk1 (shut_bool Try.underlying4 _), (trodAll_cons_mk (Below.trod laidOut (by kernel_rfl) (of_decide_eq_true (by kernel_rfl)) k0 bel lt0) (trodAll_cons_mk (Below.trod laidOut (by kernel_rfl) (of_decide_eq_true (by kernel_rfl)) k1 bel lt1) (trodAll_cons_mk (shut_int Try.underlying2 w2) (trodAll_cons_mk (shut_int Try.underlying2 w3) trodAll_mk0)))), rfl, bel.frame _, fun h => by cases h⟩
theorem over : Rows.fleetOwnRow.holds Try.pinned (OpenSpec.ofChange Rows.fleetOwnSpec) :=
  OpenClaim.holds_of_wide 6 Try.f6 rfl rfl rfl rfl rfl rfl rfl ⟨rfl, rfl, rfl, rfl, rfl⟩ rfl rfl rfl rfl rfl (by kernel_rfl) Try.func6 (by kernel_rfl)
    (of_decide_eq_true (by kernel_rfl)) (by unfold Func.isWrapper; first | (rw [if_pos (by decide +kernel)]; kernel_rfl) | (rw [if_neg (by decide +kernel)]; exact ⟨rfl, rfl⟩))
    (fun os started H enc _ => lifted os started H enc)
theorem proved : Rows.FleetOwnSaid := over
#print axioms proved
end Go.Proofs.Ytefgoffaidjiaaa.fleetOwn
namespace Go.Proofs.Ytefgoffaidjiaaa
/-- The row, under a short name, for the claim. -/
theorem fleetOwn_holds : Rows.FleetOwnSaid := fleetOwn.proved
end Go.Proofs.Ytefgoffaidjiaaa
